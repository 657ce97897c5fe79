/- Printed for this claim by a program of this session over the kit's print program: the Go functions as Lean functions, and proofs that the calls come to these answers. No conditions. -/
import Derived.Test.YtbpnkgidlmjkkaaZV
import Derived.Test.YtbpnkgidlmjkkaaZV2
import Derived.LoopTactic
import Derived.StillTailTactics
import Derived.Laws.Rows
import Derived.Test.YtbpnkgidlmjkkaaZPL08x0
import Derived.Test.YtbpnkgidlmjkkaaZPL08x5
import Derived.Test.YtbpnkgidlmjkkaaZPL08x14
import Derived.Test.YtbpnkgidlmjkkaaZPL08x21
namespace Go.Proofs.Ytbpnkgidlmjkkaa.PL08
open Go.RowKit Go.Proofs.YtbpnkgidlmjkkaaW.PrintWords Go.Proofs.YtbpnkgidlmjkkaaW.PrintLast Go.Proofs.YtbpnkgidlmjkkaaW.PrintMore
attribute [local go_sem] max2_int min2_int max_two min_two max_three min_three max_four min_four   -- for this text's walks alone
set_option linter.unusedVariables false
set_option linter.unusedSimpArgs false

/-! ### vitrineref08_Read: function 18 -/
open Go.Proofs.YtbpnkgidlmjkkaaV
/-- A shape's cells. -/
def shp (s : HSt) : Array Value := #[.int .i64 s.W, .int .i64 s.H, .int .i64 s.D, .int .i64 s.C, .int .i64 s.L, .string s.pal, .string s.tr, .bool s.ht]
/-- What the document's reading does at a chunk that is no IEND. -/
def refStep (s : HSt) (ty d : ByteArray) : Int × HSt :=
  if ty.toList = [73, 72, 68, 82] then (23, s)
  else if ty.toList = [80, 76, 84, 69] then (if s.plt = true then (23, s) else if s.ht = true then (23, s) else if s.idat = true then (23, s)
    else if s.C = 0 then (25, s) else if s.C = 4 then (25, s) else if ¬ (d.size : Int) % 3 = 0 then (25, s) else if (d.size : Int) < 3 then (25, s) else if 768 < (d.size : Int) then (25, s)
    else if s.C = 3 then (if shl .i64 3 s.D < (d.size : Int) then (25, s) else (0, { s with plt := true, pal := d, gap := s.idat })) else (0, { s with plt := true, pal := d, gap := s.idat }))
  else if ty.toList = [116, 82, 78, 83] then (if s.ht = true then (23, s) else if s.idat = true then (23, s) else if s.C = 3 then (if s.plt = true then (if (s.pal.size : Int) / 3 < (d.size : Int) then (26, s) else (0, { s with ht := true, tr := d, gap := s.idat })) else (23, s))
    else if s.C = 4 then (26, s) else if s.C = 6 then (26, s) else if s.C = 0 then (if (d.size : Int) = 2 then (0, { s with ht := true, tr := d, gap := s.idat }) else (26, s)) else if s.C = 2 then (if (d.size : Int) = 6 then (0, { s with ht := true, tr := d, gap := s.idat }) else (26, s)) else (0, { s with ht := true, tr := d, gap := s.idat }))
  else if ty.toList = [73, 68, 65, 84] then (if s.C = 3 then (if s.plt = true then (if s.gap = true then (23, s) else (0, { s with idat := true, data := s.data ++ d })) else (23, s)) else (if s.gap = true then (23, s) else (0, { s with idat := true, data := s.data ++ d })))
  else if 0 < (ty.size : Int) then (if 65 ≤ bt ty 0 then (if bt ty 0 ≤ 90 then (27, s) else (0, s.late)) else (0, s.late)) else (0, s.late)
def refLoop : List S30 → HSt → Option HOut
  | [], _ => some (outE 3)
  | c :: r, s => if c.f0.toList = [73, 69, 78, 68] then (if (c.f1.size : Int) = 0 then (if s.idat = true then (if 0 < r.length then some (outE 4) else some (outS s)) else some (outE 23)) else some (outE 21))
    else (if (refStep s c.f0 c.f1).1 = 0 then refLoop r (refStep s c.f0 c.f1).2 else some (outE (refStep s c.f0 c.f1).1))
def FInv (w : World) (g2 g5 g7 : Nat) (l : List S30) (r : HOut) (j : Nat) (s : HSt) (v9 : Value) (w' : World) : Prop :=
  Go.Proofs.YtbpnkgidlmjkkaaV.Sv w [(g7, shp s, 36), (g5, #[.int .i64 0, .int .i64 0, .int .i64 0, .int .i64 0, .int .i64 0, .string (⟨#[]⟩ : ByteArray), .string (⟨#[]⟩ : ByteArray), .bool false], 36), (g2, #[.int .i64 0, .int .i64 0, .int .i64 0, .int .i64 0, .int .i64 0, .string (⟨#[]⟩ : ByteArray), .string (⟨#[]⟩ : ByteArray), .bool false], 36)] w' ∧ Kd.R (Kd.int .u8) 5 w' w.heap.size (fun _ => True) v9 (bytesOf s.data) ∧ 0 ≤ s.D ∧ s.D ≤ 16 ∧ refLoop (l.drop j) s = some r ∧ s.data.size + szs (l.drop j) ≤ 140737488355328 ∧ s.pal.size ≤ 768
theorem zfacts {w0 w : World} {gc g7 g5 g2 : Nat} {s : HSt} (h : Go.Proofs.YtbpnkgidlmjkkaaV.Sv w0 [(gc, #[.string (⟨#[]⟩ : ByteArray), .string (⟨#[]⟩ : ByteArray)], 30), (g7, shp s, 36), (g5, #[.int .i64 0, .int .i64 0, .int .i64 0, .int .i64 0, .int .i64 0, .string (⟨#[]⟩ : ByteArray), .string (⟨#[]⟩ : ByteArray), .bool false], 36), (g2, #[.int .i64 0, .int .i64 0, .int .i64 0, .int .i64 0, .int .i64 0, .string (⟨#[]⟩ : ByteArray), .string (⟨#[]⟩ : ByteArray), .bool false], 36)] w) : w.cell? ⟨g7, 0, none⟩ = some (.int .i64 s.W) ∧ w.cell? ⟨g7, 1, none⟩ = some (.int .i64 s.H) ∧ w.cell? ⟨g7, 2, none⟩ = some (.int .i64 s.D) ∧ w.cell? ⟨g7, 3, none⟩ = some (.int .i64 s.C) ∧ w.cell? ⟨g7, 4, none⟩ = some (.int .i64 s.L) ∧ w.cell? ⟨g7, 5, none⟩ = some (.string s.pal) ∧ w.cell? ⟨g7, 6, none⟩ = some (.string s.tr) ∧ w.cell? ⟨g7, 7, none⟩ = some (.bool s.ht) ∧ w.cell? ⟨g5, 0, none⟩ = some (.int .i64 0) ∧ w.cell? ⟨g5, 1, none⟩ = some (.int .i64 0) ∧ w.cell? ⟨g5, 2, none⟩ = some (.int .i64 0) ∧ w.cell? ⟨g5, 3, none⟩ = some (.int .i64 0) ∧ w.cell? ⟨g5, 4, none⟩ = some (.int .i64 0) ∧ w.cell? ⟨g5, 5, none⟩ = some (.string (⟨#[]⟩ : ByteArray)) ∧ w.cell? ⟨g5, 6, none⟩ = some (.string (⟨#[]⟩ : ByteArray)) ∧ w.cell? ⟨g5, 7, none⟩ = some (.bool false) ∧ w.cell? ⟨g2, 0, none⟩ = some (.int .i64 0) ∧ w.frozen? ⟨g2, 0, none⟩ = false ∧ w.cell? ⟨g2, 1, none⟩ = some (.int .i64 0) ∧ w.frozen? ⟨g2, 1, none⟩ = false ∧ w.cell? ⟨g2, 2, none⟩ = some (.int .i64 0) ∧ w.frozen? ⟨g2, 2, none⟩ = false ∧ w.cell? ⟨g2, 3, none⟩ = some (.int .i64 0) ∧ w.frozen? ⟨g2, 3, none⟩ = false ∧ w.cell? ⟨g2, 4, none⟩ = some (.int .i64 0) ∧ w.frozen? ⟨g2, 4, none⟩ = false ∧ w.cell? ⟨g2, 5, none⟩ = some (.string (⟨#[]⟩ : ByteArray)) ∧ w.frozen? ⟨g2, 5, none⟩ = false ∧ w.cell? ⟨g2, 6, none⟩ = some (.string (⟨#[]⟩ : ByteArray)) ∧ w.frozen? ⟨g2, 6, none⟩ = false ∧ w.cell? ⟨g2, 7, none⟩ = some (.bool false) ∧ w.frozen? ⟨g2, 7, none⟩ = false ∧ w.frozen? ⟨g7, 5, none⟩ = false ∧ w.frozen? ⟨g7, 6, none⟩ = false ∧ w.frozen? ⟨g7, 7, none⟩ = false ∧ w.cell? ⟨gc, 0, none⟩ = some (.string (⟨#[]⟩ : ByteArray)) ∧ w.frozen? ⟨gc, 0, none⟩ = false ∧ w.cell? ⟨gc, 1, none⟩ = some (.string (⟨#[]⟩ : ByteArray)) ∧ w.frozen? ⟨gc, 1, none⟩ = false ∧ (gc = g7) = False ∧ (g7 = gc) = False ∧ (gc = g5) = False ∧ (g5 = gc) = False ∧ (gc = g2) = False ∧ (g2 = gc) = False ∧ (g7 = g5) = False ∧ (g5 = g7) = False ∧ (g7 = g2) = False ∧ (g2 = g7) = False ∧ (g5 = g2) = False ∧ (g2 = g5) = False := ⟨(h.cell 1 rfl 0).trans rfl, (h.cell 1 rfl 1).trans rfl, (h.cell 1 rfl 2).trans rfl, (h.cell 1 rfl 3).trans rfl, (h.cell 1 rfl 4).trans rfl, (h.cell 1 rfl 5).trans rfl, (h.cell 1 rfl 6).trans rfl, (h.cell 1 rfl 7).trans rfl, (h.cell 2 rfl 0).trans rfl, (h.cell 2 rfl 1).trans rfl, (h.cell 2 rfl 2).trans rfl, (h.cell 2 rfl 3).trans rfl, (h.cell 2 rfl 4).trans rfl, (h.cell 2 rfl 5).trans rfl, (h.cell 2 rfl 6).trans rfl, (h.cell 2 rfl 7).trans rfl, (h.cell 3 rfl 0).trans rfl, h.fz 3 rfl 0, (h.cell 3 rfl 1).trans rfl, h.fz 3 rfl 1, (h.cell 3 rfl 2).trans rfl, h.fz 3 rfl 2, (h.cell 3 rfl 3).trans rfl, h.fz 3 rfl 3, (h.cell 3 rfl 4).trans rfl, h.fz 3 rfl 4, (h.cell 3 rfl 5).trans rfl, h.fz 3 rfl 5, (h.cell 3 rfl 6).trans rfl, h.fz 3 rfl 6, (h.cell 3 rfl 7).trans rfl, h.fz 3 rfl 7, h.fz 1 rfl 5, h.fz 1 rfl 6, h.fz 1 rfl 7, (h.cell 0 rfl 0).trans rfl, h.fz 0 rfl 0, (h.cell 0 rfl 1).trans rfl, h.fz 0 rfl 1, eq_false (h.ne 0 1 rfl rfl (by decide)), eq_false (fun e => h.ne 0 1 rfl rfl (by decide) e.symm), eq_false (h.ne 0 2 rfl rfl (by decide)), eq_false (fun e => h.ne 0 2 rfl rfl (by decide) e.symm), eq_false (h.ne 0 3 rfl rfl (by decide)), eq_false (fun e => h.ne 0 3 rfl rfl (by decide) e.symm), eq_false (h.ne 1 2 rfl rfl (by decide)), eq_false (fun e => h.ne 1 2 rfl rfl (by decide) e.symm), eq_false (h.ne 1 3 rfl rfl (by decide)), eq_false (fun e => h.ne 1 3 rfl rfl (by decide) e.symm), eq_false (h.ne 2 3 rfl rfl (by decide)), eq_false (fun e => h.ne 2 3 rfl rfl (by decide) e.symm)⟩
theorem mea_read2 {i n : Nat} {x : Int} (h : i < n) (hx : x = ((i + 1 : Nat) : Int)) : n - (intOf (.int .i64 x)).toNat < n - (intOf (.int .i64 (i : Int))).toNat := by
  subst hx
  show n - (((i + 1 : Nat) : Int)).toNat < n - ((i : Int)).toNat
  omega
theorem bytes_app (a b : ByteArray) : bytesOf (a ++ b) = bytesOf a ++ bytesOf b := by
  unfold bytesOf
  rw [ByteArray.data_append, Array.toList_append, List.map_append]
theorem ref_cells {w w' : World} {ad : Addr} {l : List S30} (hr : Kd.C k30 w (some ad) l.length l) (i : Nat) (h : i < l.length) (h1i : 1 ≤ i) (x : S30) (hx : rd_T30 l (i : Int) = x) (hb : Below w.heap.size w w') : w'.cell? (ad.add (i * 2)) = some (.string x.f0) ∧ w'.cell? ⟨(ad.add (i * 2)).block, (ad.add (i * 2)).off + 1, none⟩ = some (.string x.f1) := by
  obtain ⟨ad', e, h0, h1⟩ := at_T30 hr (i : Int) (by omega) (by omega)
  cases e
  rw [hx, Int.toNat_natCast] at h0 h1
  exact ⟨pw_cell_below hb h0, pw_cell_below hb h1⟩
theorem ref_elem (l : List S30) (i : Nat) (x : S30) (h : i < l.length) (hx : rd_T30 l (i : Int) = x) : l.drop i = x :: l.drop (i + 1) := by
  subst hx
  unfold rd_T30
  rw [Int.toNat_natCast, List.drop_eq_getElem_cons h, List.getD_eq_getElem?_getD, List.getElem?_eq_getElem h]
  rfl
theorem ref_str (s : ByteArray) : strOfNums (bytesOf s) = s := by
  cases s with
  | mk d =>
    unfold strOfNums bytesOf
    congr 1
    rw [List.map_map, show ((fun n : Int => UInt8.ofNat n.toNat) ∘ fun b : UInt8 => (b.toNat : Int)) = id from by funext b; simp]
    simp
theorem szs_split (l : List S30) (i : Nat) : szs l = szs (l.take i) + szs (l.drop i) := by
  have h : ∀ a b : List S30, szs (a ++ b) = szs a + szs b := by
    intro a b
    induction a with
    | nil => exact (Nat.zero_add _).symm
    | cons x y ih => show x.f1.size + szs (y ++ b) = x.f1.size + szs y + szs b; rw [ih]; omega
  rw [← h, List.take_append_drop]
def vitrineref08_Read.T7 : Bool × List (List Nat × List Nat) := (true, [([], []), ([0], [0]), ([1], [1]), ([], []), ([3], [3]), ([4, 2], [4]), ([], []), ([6], [6]), ([7], [7]), ([], []), ([9], [9]), ([10], [10]), ([], []), ([12], [12]), ([13], [13]), ([2, 5, 8, 11, 14], [2, 5, 8, 11, 14]), ([15], [15]), ([], []), ([17, 16, 5, 0, 1, 2, 3, 4, 5, 6, 7, 8, 9, 10, 11, 12, 13, 14, 15, 16, 17], [16, 17])])
def vitrineref08_Read.B7 : List Nat := [0, 1, 3, 0, 8, 31, 0, 64, 192, 0, 512, 1536, 0, 4096, 12288, 32767, 65535, 0, 262143]
theorem vitrineref08_Read.tab7 : rtab .any (opsOf Try.f18 7) = vitrineref08_Read.T7 := by kernel_rfl
theorem vitrineref08_Read.bits7 : waitsOk vitrineref08_Read.T7.2 vitrineref08_Read.B7 = true := by kernel_rfl
set_option maxHeartbeats 40000000 in
set_option maxRecDepth 100000 in
theorem ref_none (ad : Option Addr) (c : Nat) (w : World) :
    Calls Try.prog 18 #[.slice ad 0 c] w fun e' w' => e' = .returned (outV (outE 23)) ∧ Below w.heap.size w w' := by
  have HS := Aside0.mk (Sv.new w)
  go_enter Try.func18, Try.ntmps18
  go_upto_region 2 with (first | ((with_reducible refine gate_dst (N := 2) rfl ?_); refine box_event ?hg (N := 2) ?hd (cs := #[.int .i64 0, .int .i64 0, .int .i64 0, .int .i64 0, .int .i64 0, .string (⟨#[]⟩ : ByteArray), .string (⟨#[]⟩ : ByteArray), .bool false]) (t := 36) ?hr ?_; (case hd => rfl); (case hg => rfl); (case hr => first | (go_simp; done) | (go_simp; rfl)); intro g2 hg w1 hbox hb; have n0_ := Aside0.mk (HS.out.box hb hg hbox); clear HS hb hg hbox; have HS := n0_; clear n0_) | ((with_reducible refine gate_dst (N := 5) rfl ?_); refine box_event ?hg (N := 5) ?hd (cs := #[.int .i64 0, .int .i64 0, .int .i64 0, .int .i64 0, .int .i64 0, .string (⟨#[]⟩ : ByteArray), .string (⟨#[]⟩ : ByteArray), .bool false]) (t := 36) ?hr ?_; (case hd => rfl); (case hg => rfl); (case hr => first | (go_simp; done) | (go_simp; rfl)); intro g5 hg w2 hbox hb; have n0_ := Aside0.mk (HS.out.box hb hg hbox); clear HS hb hg hbox; have HS := n0_; clear n0_; have y0 := (HS.out.cell 0 rfl 0).trans rfl; have k0 := HS.out.fz 0 rfl 0; have y1 := (HS.out.cell 0 rfl 1).trans rfl; have k1 := HS.out.fz 0 rfl 1; have y2 := (HS.out.cell 0 rfl 2).trans rfl; have k2 := HS.out.fz 0 rfl 2; have y3 := (HS.out.cell 0 rfl 3).trans rfl; have k3 := HS.out.fz 0 rfl 3; have y4 := (HS.out.cell 0 rfl 4).trans rfl; have k4 := HS.out.fz 0 rfl 4; have y5 := (HS.out.cell 0 rfl 5).trans rfl; have k5 := HS.out.fz 0 rfl 5; have y6 := (HS.out.cell 0 rfl 6).trans rfl; have k6 := HS.out.fz 0 rfl 6; have y7 := (HS.out.cell 0 rfl 7).trans rfl; have k7 := HS.out.fz 0 rfl 7))
  have n0_ : Aside0 (Sv w [(g5, #[.int .i64 0, .int .i64 0, .int .i64 0, .int .i64 0, .int .i64 0, .string (⟨#[]⟩ : ByteArray), .string (⟨#[]⟩ : ByteArray), .bool false], 36), (g2, #[.int .i64 0, .int .i64 0, .int .i64 0, .int .i64 0, .int .i64 0, .string (⟨#[]⟩ : ByteArray), .string (⟨#[]⟩ : ByteArray), .bool false], 36)] (World.setCell (World.setCell (World.setCell (World.setCell (World.setCell (World.setCell (World.setCell (World.setCell w2 ⟨g5, 0, none⟩ (.int .i64 0)) ⟨g5, 1, none⟩ (.int .i64 0)) ⟨g5, 2, none⟩ (.int .i64 0)) ⟨g5, 3, none⟩ (.int .i64 0)) ⟨g5, 4, none⟩ (.int .i64 0)) ⟨g5, 5, none⟩ (.string (⟨#[]⟩ : ByteArray))) ⟨g5, 6, none⟩ (.string (⟨#[]⟩ : ByteArray))) ⟨g5, 7, none⟩ (.bool false))) := ⟨(Sv.set (Sv.set (Sv.set (Sv.set (Sv.set (Sv.set (Sv.set (Sv.set HS.out 0 rfl 0 (.int .i64 0)) 0 rfl 1 (.int .i64 0)) 0 rfl 2 (.int .i64 0)) 0 rfl 3 (.int .i64 0)) 0 rfl 4 (.int .i64 0)) 0 rfl 5 (.string (⟨#[]⟩ : ByteArray))) 0 rfl 6 (.string (⟨#[]⟩ : ByteArray))) 0 rfl 7 (.bool false))⟩
  clear HS y0 k0 y1 k1 y2 k2 y3 k3 y4 k4 y5 k5 y6 k6 y7 k7
  have HS := n0_
  clear n0_
  (try simp only [Act.put, List.setIfInBounds_toArray, List.set_cons_zero, List.set_cons_succ])
  generalize (World.setCell (World.setCell (World.setCell (World.setCell (World.setCell (World.setCell (World.setCell (World.setCell w2 ⟨g5, 0, none⟩ (.int .i64 0)) ⟨g5, 1, none⟩ (.int .i64 0)) ⟨g5, 2, none⟩ (.int .i64 0)) ⟨g5, 3, none⟩ (.int .i64 0)) ⟨g5, 4, none⟩ (.int .i64 0)) ⟨g5, 5, none⟩ (.string (⟨#[]⟩ : ByteArray))) ⟨g5, 6, none⟩ (.string (⟨#[]⟩ : ByteArray))) ⟨g5, 7, none⟩ (.bool false)) = w3 at HS ⊢
  have c0 := (HS.out.cell 1 rfl 0).trans (show (#[.int .i64 0, .int .i64 0, .int .i64 0, .int .i64 0, .int .i64 0, .string (⟨#[]⟩ : ByteArray), .string (⟨#[]⟩ : ByteArray), .bool false] : Array Value)[0]? = some (.int .i64 0) from rfl); have f0 := HS.out.fz 1 rfl 0; have b0 := (HS.out.cell 0 rfl 0).trans (show (#[.int .i64 0, .int .i64 0, .int .i64 0, .int .i64 0, .int .i64 0, .string (⟨#[]⟩ : ByteArray), .string (⟨#[]⟩ : ByteArray), .bool false] : Array Value)[0]? = some (.int .i64 0) from rfl); have c1 := (HS.out.cell 1 rfl 1).trans (show (#[.int .i64 0, .int .i64 0, .int .i64 0, .int .i64 0, .int .i64 0, .string (⟨#[]⟩ : ByteArray), .string (⟨#[]⟩ : ByteArray), .bool false] : Array Value)[1]? = some (.int .i64 0) from rfl); have f1 := HS.out.fz 1 rfl 1; have b1 := (HS.out.cell 0 rfl 1).trans (show (#[.int .i64 0, .int .i64 0, .int .i64 0, .int .i64 0, .int .i64 0, .string (⟨#[]⟩ : ByteArray), .string (⟨#[]⟩ : ByteArray), .bool false] : Array Value)[1]? = some (.int .i64 0) from rfl); have c2 := (HS.out.cell 1 rfl 2).trans (show (#[.int .i64 0, .int .i64 0, .int .i64 0, .int .i64 0, .int .i64 0, .string (⟨#[]⟩ : ByteArray), .string (⟨#[]⟩ : ByteArray), .bool false] : Array Value)[2]? = some (.int .i64 0) from rfl); have f2 := HS.out.fz 1 rfl 2; have b2 := (HS.out.cell 0 rfl 2).trans (show (#[.int .i64 0, .int .i64 0, .int .i64 0, .int .i64 0, .int .i64 0, .string (⟨#[]⟩ : ByteArray), .string (⟨#[]⟩ : ByteArray), .bool false] : Array Value)[2]? = some (.int .i64 0) from rfl); have c3 := (HS.out.cell 1 rfl 3).trans (show (#[.int .i64 0, .int .i64 0, .int .i64 0, .int .i64 0, .int .i64 0, .string (⟨#[]⟩ : ByteArray), .string (⟨#[]⟩ : ByteArray), .bool false] : Array Value)[3]? = some (.int .i64 0) from rfl); have f3 := HS.out.fz 1 rfl 3; have b3 := (HS.out.cell 0 rfl 3).trans (show (#[.int .i64 0, .int .i64 0, .int .i64 0, .int .i64 0, .int .i64 0, .string (⟨#[]⟩ : ByteArray), .string (⟨#[]⟩ : ByteArray), .bool false] : Array Value)[3]? = some (.int .i64 0) from rfl); have c4 := (HS.out.cell 1 rfl 4).trans (show (#[.int .i64 0, .int .i64 0, .int .i64 0, .int .i64 0, .int .i64 0, .string (⟨#[]⟩ : ByteArray), .string (⟨#[]⟩ : ByteArray), .bool false] : Array Value)[4]? = some (.int .i64 0) from rfl); have f4 := HS.out.fz 1 rfl 4; have b4 := (HS.out.cell 0 rfl 4).trans (show (#[.int .i64 0, .int .i64 0, .int .i64 0, .int .i64 0, .int .i64 0, .string (⟨#[]⟩ : ByteArray), .string (⟨#[]⟩ : ByteArray), .bool false] : Array Value)[4]? = some (.int .i64 0) from rfl); have c5 := (HS.out.cell 1 rfl 5).trans (show (#[.int .i64 0, .int .i64 0, .int .i64 0, .int .i64 0, .int .i64 0, .string (⟨#[]⟩ : ByteArray), .string (⟨#[]⟩ : ByteArray), .bool false] : Array Value)[5]? = some (.string (⟨#[]⟩ : ByteArray)) from rfl); have f5 := HS.out.fz 1 rfl 5; have b5 := (HS.out.cell 0 rfl 5).trans (show (#[.int .i64 0, .int .i64 0, .int .i64 0, .int .i64 0, .int .i64 0, .string (⟨#[]⟩ : ByteArray), .string (⟨#[]⟩ : ByteArray), .bool false] : Array Value)[5]? = some (.string (⟨#[]⟩ : ByteArray)) from rfl); have c6 := (HS.out.cell 1 rfl 6).trans (show (#[.int .i64 0, .int .i64 0, .int .i64 0, .int .i64 0, .int .i64 0, .string (⟨#[]⟩ : ByteArray), .string (⟨#[]⟩ : ByteArray), .bool false] : Array Value)[6]? = some (.string (⟨#[]⟩ : ByteArray)) from rfl); have f6 := HS.out.fz 1 rfl 6; have b6 := (HS.out.cell 0 rfl 6).trans (show (#[.int .i64 0, .int .i64 0, .int .i64 0, .int .i64 0, .int .i64 0, .string (⟨#[]⟩ : ByteArray), .string (⟨#[]⟩ : ByteArray), .bool false] : Array Value)[6]? = some (.string (⟨#[]⟩ : ByteArray)) from rfl); have c7 := (HS.out.cell 1 rfl 7).trans (show (#[.int .i64 0, .int .i64 0, .int .i64 0, .int .i64 0, .int .i64 0, .string (⟨#[]⟩ : ByteArray), .string (⟨#[]⟩ : ByteArray), .bool false] : Array Value)[7]? = some (.bool false) from rfl); have f7 := HS.out.fz 1 rfl 7; have b7 := (HS.out.cell 0 rfl 7).trans (show (#[.int .i64 0, .int .i64 0, .int .i64 0, .int .i64 0, .int .i64 0, .string (⟨#[]⟩ : ByteArray), .string (⟨#[]⟩ : ByteArray), .bool false] : Array Value)[7]? = some (.bool false) from rfl); have n5a : (g5 = g2) = False := eq_false (HS.out.ne 0 1 rfl rfl (by decide)); have n5b : (g2 = g5) = False := eq_false (fun e => HS.out.ne 0 1 rfl rfl (by decide) e.symm)
  go_wp2
  refine bodyPost_ret (results_ctt rfl _ _ g2 36 #[.int .i64 0, .int .i64 0, .int .i64 0, .int .i64 0, .int .i64 0, .string (⟨#[]⟩ : ByteArray), .string (⟨#[]⟩ : ByteArray), .bool false] (0, 0) _ rfl (Sv.at (Sv.set (Sv.set (Sv.set (Sv.set (Sv.set (Sv.set (Sv.set (Sv.set HS.out 1 rfl 0 (.int .i64 0)) 1 rfl 1 (.int .i64 0)) 1 rfl 2 (.int .i64 0)) 1 rfl 3 (.int .i64 0)) 1 rfl 4 (.int .i64 0)) 1 rfl 5 (.string (⟨#[]⟩ : ByteArray))) 1 rfl 6 (.string (⟨#[]⟩ : ByteArray))) 1 rfl 7 (.bool false)) 1 rfl) Try.underlying36 rfl (by kernel_rfl)) rfl ?_
  exact ⟨rfl, Sv.below (Sv.set (Sv.set (Sv.set (Sv.set (Sv.set (Sv.set (Sv.set (Sv.set HS.out 1 rfl 0 (.int .i64 0)) 1 rfl 1 (.int .i64 0)) 1 rfl 2 (.int .i64 0)) 1 rfl 3 (.int .i64 0)) 1 rfl 4 (.int .i64 0)) 1 rfl 5 (.string (⟨#[]⟩ : ByteArray))) 1 rfl 6 (.string (⟨#[]⟩ : ByteArray))) 1 rfl 7 (.bool false))⟩
set_option maxHeartbeats 40000000 in
set_option maxRecDepth 100000 in
theorem ref_not (ad : Addr) (n c : Nat) (x : S30) (w : World) (hn0 : 0 < n) (hx0 : w.cell? ad = some (.string x.f0)) (hx1 : w.cell? ⟨ad.block, ad.off + 1, none⟩ = some (.string x.f1)) (y : ¬ x.f0.toList = [73, 72, 68, 82]) :
    Calls Try.prog 18 #[.slice (some ad) n c] w fun e' w' => e' = .returned (outV (outE 23)) ∧ Below w.heap.size w w' := by
  have HX0 := Aside0.mk hx0
  have HX1 := Aside0.mk hx1
  have t0 : ((n : Int) == 0) = false := beq_eq_false_iff_ne.mpr (by omega)
  have t1 : ¬ n = 0 := by omega
  have t2 : decide (0 < (n : Int)) = true := decide_eq_true (by omega)
  have t3 : (0 < n) = True := eq_true hn0
  have t4 : (0 < (n : Int)) = True := eq_true (by omega)
  have HS := Aside0.mk (Sv.new w)
  clear hx0 hx1
  have y0 : (x.f0.toList == [73, 72, 68, 82]) = false := beq_eq_false_iff_ne.mpr y
  have y1 : (x.f0.toList != [73, 72, 68, 82]) = true := bne_iff_ne.mpr y
  clear y
  go_enter Try.func18, Try.ntmps18
  go_upto_region 2 with (first | ((with_reducible refine gate_dst (N := 2) rfl ?_); refine box_event ?hg (N := 2) ?hd (cs := #[.int .i64 0, .int .i64 0, .int .i64 0, .int .i64 0, .int .i64 0, .string (⟨#[]⟩ : ByteArray), .string (⟨#[]⟩ : ByteArray), .bool false]) (t := 36) ?hr ?_; (case hd => rfl); (case hg => rfl); (case hr => first | (go_simp; done) | (go_simp; rfl)); intro g2 hg w1 hbox hb; have n0_ := Aside0.mk (HS.out.box hb hg hbox); clear HS hb hg hbox; have HS := n0_; clear n0_) | ((with_reducible refine gate_dst (N := 5) rfl ?_); refine box_event ?hg (N := 5) ?hd (cs := #[.int .i64 0, .int .i64 0, .int .i64 0, .int .i64 0, .int .i64 0, .string (⟨#[]⟩ : ByteArray), .string (⟨#[]⟩ : ByteArray), .bool false]) (t := 36) ?hr ?_; (case hd => rfl); (case hg => rfl); (case hr => first | (go_simp; done) | (go_simp; rfl)); intro g5 hg w2 hbox hb; have n0_ := Aside0.mk (HS.out.box hb hg hbox); clear HS hb hg hbox; have HS := n0_; clear n0_; have y0 := (HS.out.cell 0 rfl 0).trans rfl; have k0 := HS.out.fz 0 rfl 0; have y1 := (HS.out.cell 0 rfl 1).trans rfl; have k1 := HS.out.fz 0 rfl 1; have y2 := (HS.out.cell 0 rfl 2).trans rfl; have k2 := HS.out.fz 0 rfl 2; have y3 := (HS.out.cell 0 rfl 3).trans rfl; have k3 := HS.out.fz 0 rfl 3; have y4 := (HS.out.cell 0 rfl 4).trans rfl; have k4 := HS.out.fz 0 rfl 4; have y5 := (HS.out.cell 0 rfl 5).trans rfl; have k5 := HS.out.fz 0 rfl 5; have y6 := (HS.out.cell 0 rfl 6).trans rfl; have k6 := HS.out.fz 0 rfl 6; have y7 := (HS.out.cell 0 rfl 7).trans rfl; have k7 := HS.out.fz 0 rfl 7))
  have n0_ : Aside0 (Sv w [(g5, #[.int .i64 0, .int .i64 0, .int .i64 0, .int .i64 0, .int .i64 0, .string (⟨#[]⟩ : ByteArray), .string (⟨#[]⟩ : ByteArray), .bool false], 36), (g2, #[.int .i64 0, .int .i64 0, .int .i64 0, .int .i64 0, .int .i64 0, .string (⟨#[]⟩ : ByteArray), .string (⟨#[]⟩ : ByteArray), .bool false], 36)] (World.setCell (World.setCell (World.setCell (World.setCell (World.setCell (World.setCell (World.setCell (World.setCell w2 ⟨g5, 0, none⟩ (.int .i64 0)) ⟨g5, 1, none⟩ (.int .i64 0)) ⟨g5, 2, none⟩ (.int .i64 0)) ⟨g5, 3, none⟩ (.int .i64 0)) ⟨g5, 4, none⟩ (.int .i64 0)) ⟨g5, 5, none⟩ (.string (⟨#[]⟩ : ByteArray))) ⟨g5, 6, none⟩ (.string (⟨#[]⟩ : ByteArray))) ⟨g5, 7, none⟩ (.bool false))) := ⟨(Sv.set (Sv.set (Sv.set (Sv.set (Sv.set (Sv.set (Sv.set (Sv.set HS.out 0 rfl 0 (.int .i64 0)) 0 rfl 1 (.int .i64 0)) 0 rfl 2 (.int .i64 0)) 0 rfl 3 (.int .i64 0)) 0 rfl 4 (.int .i64 0)) 0 rfl 5 (.string (⟨#[]⟩ : ByteArray))) 0 rfl 6 (.string (⟨#[]⟩ : ByteArray))) 0 rfl 7 (.bool false))⟩
  clear HS y0 k0 y1 k1 y2 k2 y3 k3 y4 k4 y5 k5 y6 k6 y7 k7
  have HS := n0_
  clear n0_
  (try simp only [Act.put, List.setIfInBounds_toArray, List.set_cons_zero, List.set_cons_succ])
  generalize (World.setCell (World.setCell (World.setCell (World.setCell (World.setCell (World.setCell (World.setCell (World.setCell w2 ⟨g5, 0, none⟩ (.int .i64 0)) ⟨g5, 1, none⟩ (.int .i64 0)) ⟨g5, 2, none⟩ (.int .i64 0)) ⟨g5, 3, none⟩ (.int .i64 0)) ⟨g5, 4, none⟩ (.int .i64 0)) ⟨g5, 5, none⟩ (.string (⟨#[]⟩ : ByteArray))) ⟨g5, 6, none⟩ (.string (⟨#[]⟩ : ByteArray))) ⟨g5, 7, none⟩ (.bool false)) = w3 at HS ⊢
  have x0 := pw_cell_below HS.out.below HX0.out
  have x1 := pw_cell_below HS.out.below HX1.out
  have n0 := (HS.out.cell 0 rfl 0).trans rfl
  have c0 := (HS.out.cell 1 rfl 0).trans (show (#[.int .i64 0, .int .i64 0, .int .i64 0, .int .i64 0, .int .i64 0, .string (⟨#[]⟩ : ByteArray), .string (⟨#[]⟩ : ByteArray), .bool false] : Array Value)[0]? = some (.int .i64 0) from rfl); have f0 := HS.out.fz 1 rfl 0; have b0 := (HS.out.cell 0 rfl 0).trans (show (#[.int .i64 0, .int .i64 0, .int .i64 0, .int .i64 0, .int .i64 0, .string (⟨#[]⟩ : ByteArray), .string (⟨#[]⟩ : ByteArray), .bool false] : Array Value)[0]? = some (.int .i64 0) from rfl); have c1 := (HS.out.cell 1 rfl 1).trans (show (#[.int .i64 0, .int .i64 0, .int .i64 0, .int .i64 0, .int .i64 0, .string (⟨#[]⟩ : ByteArray), .string (⟨#[]⟩ : ByteArray), .bool false] : Array Value)[1]? = some (.int .i64 0) from rfl); have f1 := HS.out.fz 1 rfl 1; have b1 := (HS.out.cell 0 rfl 1).trans (show (#[.int .i64 0, .int .i64 0, .int .i64 0, .int .i64 0, .int .i64 0, .string (⟨#[]⟩ : ByteArray), .string (⟨#[]⟩ : ByteArray), .bool false] : Array Value)[1]? = some (.int .i64 0) from rfl); have c2 := (HS.out.cell 1 rfl 2).trans (show (#[.int .i64 0, .int .i64 0, .int .i64 0, .int .i64 0, .int .i64 0, .string (⟨#[]⟩ : ByteArray), .string (⟨#[]⟩ : ByteArray), .bool false] : Array Value)[2]? = some (.int .i64 0) from rfl); have f2 := HS.out.fz 1 rfl 2; have b2 := (HS.out.cell 0 rfl 2).trans (show (#[.int .i64 0, .int .i64 0, .int .i64 0, .int .i64 0, .int .i64 0, .string (⟨#[]⟩ : ByteArray), .string (⟨#[]⟩ : ByteArray), .bool false] : Array Value)[2]? = some (.int .i64 0) from rfl); have c3 := (HS.out.cell 1 rfl 3).trans (show (#[.int .i64 0, .int .i64 0, .int .i64 0, .int .i64 0, .int .i64 0, .string (⟨#[]⟩ : ByteArray), .string (⟨#[]⟩ : ByteArray), .bool false] : Array Value)[3]? = some (.int .i64 0) from rfl); have f3 := HS.out.fz 1 rfl 3; have b3 := (HS.out.cell 0 rfl 3).trans (show (#[.int .i64 0, .int .i64 0, .int .i64 0, .int .i64 0, .int .i64 0, .string (⟨#[]⟩ : ByteArray), .string (⟨#[]⟩ : ByteArray), .bool false] : Array Value)[3]? = some (.int .i64 0) from rfl); have c4 := (HS.out.cell 1 rfl 4).trans (show (#[.int .i64 0, .int .i64 0, .int .i64 0, .int .i64 0, .int .i64 0, .string (⟨#[]⟩ : ByteArray), .string (⟨#[]⟩ : ByteArray), .bool false] : Array Value)[4]? = some (.int .i64 0) from rfl); have f4 := HS.out.fz 1 rfl 4; have b4 := (HS.out.cell 0 rfl 4).trans (show (#[.int .i64 0, .int .i64 0, .int .i64 0, .int .i64 0, .int .i64 0, .string (⟨#[]⟩ : ByteArray), .string (⟨#[]⟩ : ByteArray), .bool false] : Array Value)[4]? = some (.int .i64 0) from rfl); have c5 := (HS.out.cell 1 rfl 5).trans (show (#[.int .i64 0, .int .i64 0, .int .i64 0, .int .i64 0, .int .i64 0, .string (⟨#[]⟩ : ByteArray), .string (⟨#[]⟩ : ByteArray), .bool false] : Array Value)[5]? = some (.string (⟨#[]⟩ : ByteArray)) from rfl); have f5 := HS.out.fz 1 rfl 5; have b5 := (HS.out.cell 0 rfl 5).trans (show (#[.int .i64 0, .int .i64 0, .int .i64 0, .int .i64 0, .int .i64 0, .string (⟨#[]⟩ : ByteArray), .string (⟨#[]⟩ : ByteArray), .bool false] : Array Value)[5]? = some (.string (⟨#[]⟩ : ByteArray)) from rfl); have c6 := (HS.out.cell 1 rfl 6).trans (show (#[.int .i64 0, .int .i64 0, .int .i64 0, .int .i64 0, .int .i64 0, .string (⟨#[]⟩ : ByteArray), .string (⟨#[]⟩ : ByteArray), .bool false] : Array Value)[6]? = some (.string (⟨#[]⟩ : ByteArray)) from rfl); have f6 := HS.out.fz 1 rfl 6; have b6 := (HS.out.cell 0 rfl 6).trans (show (#[.int .i64 0, .int .i64 0, .int .i64 0, .int .i64 0, .int .i64 0, .string (⟨#[]⟩ : ByteArray), .string (⟨#[]⟩ : ByteArray), .bool false] : Array Value)[6]? = some (.string (⟨#[]⟩ : ByteArray)) from rfl); have c7 := (HS.out.cell 1 rfl 7).trans (show (#[.int .i64 0, .int .i64 0, .int .i64 0, .int .i64 0, .int .i64 0, .string (⟨#[]⟩ : ByteArray), .string (⟨#[]⟩ : ByteArray), .bool false] : Array Value)[7]? = some (.bool false) from rfl); have f7 := HS.out.fz 1 rfl 7; have b7 := (HS.out.cell 0 rfl 7).trans (show (#[.int .i64 0, .int .i64 0, .int .i64 0, .int .i64 0, .int .i64 0, .string (⟨#[]⟩ : ByteArray), .string (⟨#[]⟩ : ByteArray), .bool false] : Array Value)[7]? = some (.bool false) from rfl); have n5a : (g5 = g2) = False := eq_false (HS.out.ne 0 1 rfl rfl (by decide)); have n5b : (g2 = g5) = False := eq_false (fun e => HS.out.ne 0 1 rfl rfl (by decide) e.symm)
  go_wp2
  refine bodyPost_ret (results_ctt rfl _ _ g2 36 #[.int .i64 0, .int .i64 0, .int .i64 0, .int .i64 0, .int .i64 0, .string (⟨#[]⟩ : ByteArray), .string (⟨#[]⟩ : ByteArray), .bool false] (0, 0) _ rfl (Sv.at (Sv.set (Sv.set (Sv.set (Sv.set (Sv.set (Sv.set (Sv.set (Sv.set HS.out 1 rfl 0 (.int .i64 0)) 1 rfl 1 (.int .i64 0)) 1 rfl 2 (.int .i64 0)) 1 rfl 3 (.int .i64 0)) 1 rfl 4 (.int .i64 0)) 1 rfl 5 (.string (⟨#[]⟩ : ByteArray))) 1 rfl 6 (.string (⟨#[]⟩ : ByteArray))) 1 rfl 7 (.bool false)) 1 rfl) Try.underlying36 rfl (by kernel_rfl)) rfl ?_
  exact ⟨rfl, Sv.below (Sv.set (Sv.set (Sv.set (Sv.set (Sv.set (Sv.set (Sv.set (Sv.set HS.out 1 rfl 0 (.int .i64 0)) 1 rfl 1 (.int .i64 0)) 1 rfl 2 (.int .i64 0)) 1 rfl 3 (.int .i64 0)) 1 rfl 4 (.int .i64 0)) 1 rfl 5 (.string (⟨#[]⟩ : ByteArray))) 1 rfl 6 (.string (⟨#[]⟩ : ByteArray))) 1 rfl 7 (.bool false))⟩
set_option maxHeartbeats 40000000 in
set_option maxRecDepth 100000 in
theorem ref_bad1 (ad : Addr) (n c : Nat) (x : S30) (w : World) (hn0 : 0 < n) (hx0 : w.cell? ad = some (.string x.f0)) (hx1 : w.cell? ⟨ad.block, ad.off + 1, none⟩ = some (.string x.f1)) (y : x.f0.toList = [73, 72, 68, 82]) (z : ¬ (x.f1.size : Int) = 13) :
    Calls Try.prog 18 #[.slice (some ad) n c] w fun e' w' => e' = .returned (outV (outE 24)) ∧ Below w.heap.size w w' := by
  have HX0 := Aside0.mk hx0
  have HX1 := Aside0.mk hx1
  have t0 : ((n : Int) == 0) = false := beq_eq_false_iff_ne.mpr (by omega)
  have t1 : ¬ n = 0 := by omega
  have t2 : decide (0 < (n : Int)) = true := decide_eq_true (by omega)
  have t3 : (0 < n) = True := eq_true hn0
  have t4 : (0 < (n : Int)) = True := eq_true (by omega)
  have HS := Aside0.mk (Sv.new w)
  clear hx0 hx1
  have y0 : (x.f0.toList == [73, 72, 68, 82]) = true := beq_iff_eq.mpr y
  have y1 : (x.f0.toList != [73, 72, 68, 82]) = false := bne_eq_false_iff_eq.mpr y
  have z0 : ((x.f1.size : Int) == 13) = false := beq_eq_false_iff_ne.mpr z
  have z1 : ((x.f1.size : Int) != 13) = true := bne_iff_ne.mpr z
  clear y z
  go_enter Try.func18, Try.ntmps18
  go_upto_region 2 with (first | ((with_reducible refine gate_dst (N := 2) rfl ?_); refine box_event ?hg (N := 2) ?hd (cs := #[.int .i64 0, .int .i64 0, .int .i64 0, .int .i64 0, .int .i64 0, .string (⟨#[]⟩ : ByteArray), .string (⟨#[]⟩ : ByteArray), .bool false]) (t := 36) ?hr ?_; (case hd => rfl); (case hg => rfl); (case hr => first | (go_simp; done) | (go_simp; rfl)); intro g2 hg w1 hbox hb; have n0_ := Aside0.mk (HS.out.box hb hg hbox); clear HS hb hg hbox; have HS := n0_; clear n0_) | ((with_reducible refine gate_dst (N := 5) rfl ?_); refine box_event ?hg (N := 5) ?hd (cs := #[.int .i64 0, .int .i64 0, .int .i64 0, .int .i64 0, .int .i64 0, .string (⟨#[]⟩ : ByteArray), .string (⟨#[]⟩ : ByteArray), .bool false]) (t := 36) ?hr ?_; (case hd => rfl); (case hg => rfl); (case hr => first | (go_simp; done) | (go_simp; rfl)); intro g5 hg w2 hbox hb; have n0_ := Aside0.mk (HS.out.box hb hg hbox); clear HS hb hg hbox; have HS := n0_; clear n0_; have y0 := (HS.out.cell 0 rfl 0).trans rfl; have k0 := HS.out.fz 0 rfl 0; have y1 := (HS.out.cell 0 rfl 1).trans rfl; have k1 := HS.out.fz 0 rfl 1; have y2 := (HS.out.cell 0 rfl 2).trans rfl; have k2 := HS.out.fz 0 rfl 2; have y3 := (HS.out.cell 0 rfl 3).trans rfl; have k3 := HS.out.fz 0 rfl 3; have y4 := (HS.out.cell 0 rfl 4).trans rfl; have k4 := HS.out.fz 0 rfl 4; have y5 := (HS.out.cell 0 rfl 5).trans rfl; have k5 := HS.out.fz 0 rfl 5; have y6 := (HS.out.cell 0 rfl 6).trans rfl; have k6 := HS.out.fz 0 rfl 6; have y7 := (HS.out.cell 0 rfl 7).trans rfl; have k7 := HS.out.fz 0 rfl 7))
  have n0_ : Aside0 (Sv w [(g5, #[.int .i64 0, .int .i64 0, .int .i64 0, .int .i64 0, .int .i64 0, .string (⟨#[]⟩ : ByteArray), .string (⟨#[]⟩ : ByteArray), .bool false], 36), (g2, #[.int .i64 0, .int .i64 0, .int .i64 0, .int .i64 0, .int .i64 0, .string (⟨#[]⟩ : ByteArray), .string (⟨#[]⟩ : ByteArray), .bool false], 36)] (World.setCell (World.setCell (World.setCell (World.setCell (World.setCell (World.setCell (World.setCell (World.setCell w2 ⟨g5, 0, none⟩ (.int .i64 0)) ⟨g5, 1, none⟩ (.int .i64 0)) ⟨g5, 2, none⟩ (.int .i64 0)) ⟨g5, 3, none⟩ (.int .i64 0)) ⟨g5, 4, none⟩ (.int .i64 0)) ⟨g5, 5, none⟩ (.string (⟨#[]⟩ : ByteArray))) ⟨g5, 6, none⟩ (.string (⟨#[]⟩ : ByteArray))) ⟨g5, 7, none⟩ (.bool false))) := ⟨(Sv.set (Sv.set (Sv.set (Sv.set (Sv.set (Sv.set (Sv.set (Sv.set HS.out 0 rfl 0 (.int .i64 0)) 0 rfl 1 (.int .i64 0)) 0 rfl 2 (.int .i64 0)) 0 rfl 3 (.int .i64 0)) 0 rfl 4 (.int .i64 0)) 0 rfl 5 (.string (⟨#[]⟩ : ByteArray))) 0 rfl 6 (.string (⟨#[]⟩ : ByteArray))) 0 rfl 7 (.bool false))⟩
  clear HS y0 k0 y1 k1 y2 k2 y3 k3 y4 k4 y5 k5 y6 k6 y7 k7
  have HS := n0_
  clear n0_
  (try simp only [Act.put, List.setIfInBounds_toArray, List.set_cons_zero, List.set_cons_succ])
  generalize (World.setCell (World.setCell (World.setCell (World.setCell (World.setCell (World.setCell (World.setCell (World.setCell w2 ⟨g5, 0, none⟩ (.int .i64 0)) ⟨g5, 1, none⟩ (.int .i64 0)) ⟨g5, 2, none⟩ (.int .i64 0)) ⟨g5, 3, none⟩ (.int .i64 0)) ⟨g5, 4, none⟩ (.int .i64 0)) ⟨g5, 5, none⟩ (.string (⟨#[]⟩ : ByteArray))) ⟨g5, 6, none⟩ (.string (⟨#[]⟩ : ByteArray))) ⟨g5, 7, none⟩ (.bool false)) = w3 at HS ⊢
  have x0 := pw_cell_below HS.out.below HX0.out
  have x1 := pw_cell_below HS.out.below HX1.out
  have n0 := (HS.out.cell 0 rfl 0).trans rfl
  have c0 := (HS.out.cell 1 rfl 0).trans (show (#[.int .i64 0, .int .i64 0, .int .i64 0, .int .i64 0, .int .i64 0, .string (⟨#[]⟩ : ByteArray), .string (⟨#[]⟩ : ByteArray), .bool false] : Array Value)[0]? = some (.int .i64 0) from rfl); have f0 := HS.out.fz 1 rfl 0; have b0 := (HS.out.cell 0 rfl 0).trans (show (#[.int .i64 0, .int .i64 0, .int .i64 0, .int .i64 0, .int .i64 0, .string (⟨#[]⟩ : ByteArray), .string (⟨#[]⟩ : ByteArray), .bool false] : Array Value)[0]? = some (.int .i64 0) from rfl); have c1 := (HS.out.cell 1 rfl 1).trans (show (#[.int .i64 0, .int .i64 0, .int .i64 0, .int .i64 0, .int .i64 0, .string (⟨#[]⟩ : ByteArray), .string (⟨#[]⟩ : ByteArray), .bool false] : Array Value)[1]? = some (.int .i64 0) from rfl); have f1 := HS.out.fz 1 rfl 1; have b1 := (HS.out.cell 0 rfl 1).trans (show (#[.int .i64 0, .int .i64 0, .int .i64 0, .int .i64 0, .int .i64 0, .string (⟨#[]⟩ : ByteArray), .string (⟨#[]⟩ : ByteArray), .bool false] : Array Value)[1]? = some (.int .i64 0) from rfl); have c2 := (HS.out.cell 1 rfl 2).trans (show (#[.int .i64 0, .int .i64 0, .int .i64 0, .int .i64 0, .int .i64 0, .string (⟨#[]⟩ : ByteArray), .string (⟨#[]⟩ : ByteArray), .bool false] : Array Value)[2]? = some (.int .i64 0) from rfl); have f2 := HS.out.fz 1 rfl 2; have b2 := (HS.out.cell 0 rfl 2).trans (show (#[.int .i64 0, .int .i64 0, .int .i64 0, .int .i64 0, .int .i64 0, .string (⟨#[]⟩ : ByteArray), .string (⟨#[]⟩ : ByteArray), .bool false] : Array Value)[2]? = some (.int .i64 0) from rfl); have c3 := (HS.out.cell 1 rfl 3).trans (show (#[.int .i64 0, .int .i64 0, .int .i64 0, .int .i64 0, .int .i64 0, .string (⟨#[]⟩ : ByteArray), .string (⟨#[]⟩ : ByteArray), .bool false] : Array Value)[3]? = some (.int .i64 0) from rfl); have f3 := HS.out.fz 1 rfl 3; have b3 := (HS.out.cell 0 rfl 3).trans (show (#[.int .i64 0, .int .i64 0, .int .i64 0, .int .i64 0, .int .i64 0, .string (⟨#[]⟩ : ByteArray), .string (⟨#[]⟩ : ByteArray), .bool false] : Array Value)[3]? = some (.int .i64 0) from rfl); have c4 := (HS.out.cell 1 rfl 4).trans (show (#[.int .i64 0, .int .i64 0, .int .i64 0, .int .i64 0, .int .i64 0, .string (⟨#[]⟩ : ByteArray), .string (⟨#[]⟩ : ByteArray), .bool false] : Array Value)[4]? = some (.int .i64 0) from rfl); have f4 := HS.out.fz 1 rfl 4; have b4 := (HS.out.cell 0 rfl 4).trans (show (#[.int .i64 0, .int .i64 0, .int .i64 0, .int .i64 0, .int .i64 0, .string (⟨#[]⟩ : ByteArray), .string (⟨#[]⟩ : ByteArray), .bool false] : Array Value)[4]? = some (.int .i64 0) from rfl); have c5 := (HS.out.cell 1 rfl 5).trans (show (#[.int .i64 0, .int .i64 0, .int .i64 0, .int .i64 0, .int .i64 0, .string (⟨#[]⟩ : ByteArray), .string (⟨#[]⟩ : ByteArray), .bool false] : Array Value)[5]? = some (.string (⟨#[]⟩ : ByteArray)) from rfl); have f5 := HS.out.fz 1 rfl 5; have b5 := (HS.out.cell 0 rfl 5).trans (show (#[.int .i64 0, .int .i64 0, .int .i64 0, .int .i64 0, .int .i64 0, .string (⟨#[]⟩ : ByteArray), .string (⟨#[]⟩ : ByteArray), .bool false] : Array Value)[5]? = some (.string (⟨#[]⟩ : ByteArray)) from rfl); have c6 := (HS.out.cell 1 rfl 6).trans (show (#[.int .i64 0, .int .i64 0, .int .i64 0, .int .i64 0, .int .i64 0, .string (⟨#[]⟩ : ByteArray), .string (⟨#[]⟩ : ByteArray), .bool false] : Array Value)[6]? = some (.string (⟨#[]⟩ : ByteArray)) from rfl); have f6 := HS.out.fz 1 rfl 6; have b6 := (HS.out.cell 0 rfl 6).trans (show (#[.int .i64 0, .int .i64 0, .int .i64 0, .int .i64 0, .int .i64 0, .string (⟨#[]⟩ : ByteArray), .string (⟨#[]⟩ : ByteArray), .bool false] : Array Value)[6]? = some (.string (⟨#[]⟩ : ByteArray)) from rfl); have c7 := (HS.out.cell 1 rfl 7).trans (show (#[.int .i64 0, .int .i64 0, .int .i64 0, .int .i64 0, .int .i64 0, .string (⟨#[]⟩ : ByteArray), .string (⟨#[]⟩ : ByteArray), .bool false] : Array Value)[7]? = some (.bool false) from rfl); have f7 := HS.out.fz 1 rfl 7; have b7 := (HS.out.cell 0 rfl 7).trans (show (#[.int .i64 0, .int .i64 0, .int .i64 0, .int .i64 0, .int .i64 0, .string (⟨#[]⟩ : ByteArray), .string (⟨#[]⟩ : ByteArray), .bool false] : Array Value)[7]? = some (.bool false) from rfl); have n5a : (g5 = g2) = False := eq_false (HS.out.ne 0 1 rfl rfl (by decide)); have n5b : (g2 = g5) = False := eq_false (fun e => HS.out.ne 0 1 rfl rfl (by decide) e.symm)
  go_wp2
  refine bodyPost_ret (results_ctt rfl _ _ g2 36 #[.int .i64 0, .int .i64 0, .int .i64 0, .int .i64 0, .int .i64 0, .string (⟨#[]⟩ : ByteArray), .string (⟨#[]⟩ : ByteArray), .bool false] (0, 0) _ rfl (Sv.at (Sv.set (Sv.set (Sv.set (Sv.set (Sv.set (Sv.set (Sv.set (Sv.set HS.out 1 rfl 0 (.int .i64 0)) 1 rfl 1 (.int .i64 0)) 1 rfl 2 (.int .i64 0)) 1 rfl 3 (.int .i64 0)) 1 rfl 4 (.int .i64 0)) 1 rfl 5 (.string (⟨#[]⟩ : ByteArray))) 1 rfl 6 (.string (⟨#[]⟩ : ByteArray))) 1 rfl 7 (.bool false)) 1 rfl) Try.underlying36 rfl (by kernel_rfl)) rfl ?_
  exact ⟨rfl, Sv.below (Sv.set (Sv.set (Sv.set (Sv.set (Sv.set (Sv.set (Sv.set (Sv.set HS.out 1 rfl 0 (.int .i64 0)) 1 rfl 1 (.int .i64 0)) 1 rfl 2 (.int .i64 0)) 1 rfl 3 (.int .i64 0)) 1 rfl 4 (.int .i64 0)) 1 rfl 5 (.string (⟨#[]⟩ : ByteArray))) 1 rfl 6 (.string (⟨#[]⟩ : ByteArray))) 1 rfl 7 (.bool false))⟩
set_option maxHeartbeats 40000000 in
set_option maxRecDepth 100000 in
theorem ref_bad2 (ad : Addr) (n c : Nat) (x : S30) (w : World) (hn0 : 0 < n) (hx0 : w.cell? ad = some (.string x.f0)) (hx1 : w.cell? ⟨ad.block, ad.off + 1, none⟩ = some (.string x.f1)) (y : x.f0.toList = [73, 72, 68, 82]) (z : (x.f1.size : Int) = 13) (u : ¬ bt x.f1 10 = 0) :
    Calls Try.prog 18 #[.slice (some ad) n c] w fun e' w' => e' = .returned (outV (outE 24)) ∧ Below w.heap.size w w' := by
  have HX0 := Aside0.mk hx0
  have HX1 := Aside0.mk hx1
  have t0 : ((n : Int) == 0) = false := beq_eq_false_iff_ne.mpr (by omega)
  have t1 : ¬ n = 0 := by omega
  have t2 : decide (0 < (n : Int)) = true := decide_eq_true (by omega)
  have t3 : (0 < n) = True := eq_true hn0
  have t4 : (0 < (n : Int)) = True := eq_true (by omega)
  have HS := Aside0.mk (Sv.new w)
  clear hx0 hx1
  have y0 : (x.f0.toList == [73, 72, 68, 82]) = true := beq_iff_eq.mpr y
  have y1 : (x.f0.toList != [73, 72, 68, 82]) = false := bne_eq_false_iff_eq.mpr y
  have z0 : ((x.f1.size : Int) == 13) = true := beq_iff_eq.mpr z
  have z1 : ((x.f1.size : Int) != 13) = false := bne_eq_false_iff_eq.mpr z
  have qa10 : (10 < x.f1.size) = True := eq_true (by omega)
  have qb10 : (10 < (x.f1.size : Int)) = True := eq_true (by omega)
  have qc10 : decide (10 < (x.f1.size : Int)) = true := decide_eq_true (by omega)
  have qd10 : decide (10 < x.f1.size) = true := decide_eq_true (by omega)
  have hx_10 : ∀ h : 10 < x.f1.size, ((x.f1[10]'h).toNat : Int) = bt x.f1 10 := bt_at x.f1 10
  have u0 : (bt x.f1 10 == 0) = false := beq_eq_false_iff_ne.mpr u
  have u1 : (bt x.f1 10 != 0) = true := bne_iff_ne.mpr u
  clear y z u
  go_enter Try.func18, Try.ntmps18
  go_upto_region 2 with (first | ((with_reducible refine gate_dst (N := 2) rfl ?_); refine box_event ?hg (N := 2) ?hd (cs := #[.int .i64 0, .int .i64 0, .int .i64 0, .int .i64 0, .int .i64 0, .string (⟨#[]⟩ : ByteArray), .string (⟨#[]⟩ : ByteArray), .bool false]) (t := 36) ?hr ?_; (case hd => rfl); (case hg => rfl); (case hr => first | (go_simp; done) | (go_simp; rfl)); intro g2 hg w1 hbox hb; have n0_ := Aside0.mk (HS.out.box hb hg hbox); clear HS hb hg hbox; have HS := n0_; clear n0_) | ((with_reducible refine gate_dst (N := 5) rfl ?_); refine box_event ?hg (N := 5) ?hd (cs := #[.int .i64 0, .int .i64 0, .int .i64 0, .int .i64 0, .int .i64 0, .string (⟨#[]⟩ : ByteArray), .string (⟨#[]⟩ : ByteArray), .bool false]) (t := 36) ?hr ?_; (case hd => rfl); (case hg => rfl); (case hr => first | (go_simp; done) | (go_simp; rfl)); intro g5 hg w2 hbox hb; have n0_ := Aside0.mk (HS.out.box hb hg hbox); clear HS hb hg hbox; have HS := n0_; clear n0_; have y0 := (HS.out.cell 0 rfl 0).trans rfl; have k0 := HS.out.fz 0 rfl 0; have y1 := (HS.out.cell 0 rfl 1).trans rfl; have k1 := HS.out.fz 0 rfl 1; have y2 := (HS.out.cell 0 rfl 2).trans rfl; have k2 := HS.out.fz 0 rfl 2; have y3 := (HS.out.cell 0 rfl 3).trans rfl; have k3 := HS.out.fz 0 rfl 3; have y4 := (HS.out.cell 0 rfl 4).trans rfl; have k4 := HS.out.fz 0 rfl 4; have y5 := (HS.out.cell 0 rfl 5).trans rfl; have k5 := HS.out.fz 0 rfl 5; have y6 := (HS.out.cell 0 rfl 6).trans rfl; have k6 := HS.out.fz 0 rfl 6; have y7 := (HS.out.cell 0 rfl 7).trans rfl; have k7 := HS.out.fz 0 rfl 7))
  have n0_ : Aside0 (Sv w [(g5, #[.int .i64 0, .int .i64 0, .int .i64 0, .int .i64 0, .int .i64 0, .string (⟨#[]⟩ : ByteArray), .string (⟨#[]⟩ : ByteArray), .bool false], 36), (g2, #[.int .i64 0, .int .i64 0, .int .i64 0, .int .i64 0, .int .i64 0, .string (⟨#[]⟩ : ByteArray), .string (⟨#[]⟩ : ByteArray), .bool false], 36)] (World.setCell (World.setCell (World.setCell (World.setCell (World.setCell (World.setCell (World.setCell (World.setCell w2 ⟨g5, 0, none⟩ (.int .i64 0)) ⟨g5, 1, none⟩ (.int .i64 0)) ⟨g5, 2, none⟩ (.int .i64 0)) ⟨g5, 3, none⟩ (.int .i64 0)) ⟨g5, 4, none⟩ (.int .i64 0)) ⟨g5, 5, none⟩ (.string (⟨#[]⟩ : ByteArray))) ⟨g5, 6, none⟩ (.string (⟨#[]⟩ : ByteArray))) ⟨g5, 7, none⟩ (.bool false))) := ⟨(Sv.set (Sv.set (Sv.set (Sv.set (Sv.set (Sv.set (Sv.set (Sv.set HS.out 0 rfl 0 (.int .i64 0)) 0 rfl 1 (.int .i64 0)) 0 rfl 2 (.int .i64 0)) 0 rfl 3 (.int .i64 0)) 0 rfl 4 (.int .i64 0)) 0 rfl 5 (.string (⟨#[]⟩ : ByteArray))) 0 rfl 6 (.string (⟨#[]⟩ : ByteArray))) 0 rfl 7 (.bool false))⟩
  clear HS y0 k0 y1 k1 y2 k2 y3 k3 y4 k4 y5 k5 y6 k6 y7 k7
  have HS := n0_
  clear n0_
  (try simp only [Act.put, List.setIfInBounds_toArray, List.set_cons_zero, List.set_cons_succ])
  generalize (World.setCell (World.setCell (World.setCell (World.setCell (World.setCell (World.setCell (World.setCell (World.setCell w2 ⟨g5, 0, none⟩ (.int .i64 0)) ⟨g5, 1, none⟩ (.int .i64 0)) ⟨g5, 2, none⟩ (.int .i64 0)) ⟨g5, 3, none⟩ (.int .i64 0)) ⟨g5, 4, none⟩ (.int .i64 0)) ⟨g5, 5, none⟩ (.string (⟨#[]⟩ : ByteArray))) ⟨g5, 6, none⟩ (.string (⟨#[]⟩ : ByteArray))) ⟨g5, 7, none⟩ (.bool false)) = w3 at HS ⊢
  have x0 := pw_cell_below HS.out.below HX0.out
  have x1 := pw_cell_below HS.out.below HX1.out
  have n0 := (HS.out.cell 0 rfl 0).trans rfl
  have c0 := (HS.out.cell 1 rfl 0).trans (show (#[.int .i64 0, .int .i64 0, .int .i64 0, .int .i64 0, .int .i64 0, .string (⟨#[]⟩ : ByteArray), .string (⟨#[]⟩ : ByteArray), .bool false] : Array Value)[0]? = some (.int .i64 0) from rfl); have f0 := HS.out.fz 1 rfl 0; have b0 := (HS.out.cell 0 rfl 0).trans (show (#[.int .i64 0, .int .i64 0, .int .i64 0, .int .i64 0, .int .i64 0, .string (⟨#[]⟩ : ByteArray), .string (⟨#[]⟩ : ByteArray), .bool false] : Array Value)[0]? = some (.int .i64 0) from rfl); have c1 := (HS.out.cell 1 rfl 1).trans (show (#[.int .i64 0, .int .i64 0, .int .i64 0, .int .i64 0, .int .i64 0, .string (⟨#[]⟩ : ByteArray), .string (⟨#[]⟩ : ByteArray), .bool false] : Array Value)[1]? = some (.int .i64 0) from rfl); have f1 := HS.out.fz 1 rfl 1; have b1 := (HS.out.cell 0 rfl 1).trans (show (#[.int .i64 0, .int .i64 0, .int .i64 0, .int .i64 0, .int .i64 0, .string (⟨#[]⟩ : ByteArray), .string (⟨#[]⟩ : ByteArray), .bool false] : Array Value)[1]? = some (.int .i64 0) from rfl); have c2 := (HS.out.cell 1 rfl 2).trans (show (#[.int .i64 0, .int .i64 0, .int .i64 0, .int .i64 0, .int .i64 0, .string (⟨#[]⟩ : ByteArray), .string (⟨#[]⟩ : ByteArray), .bool false] : Array Value)[2]? = some (.int .i64 0) from rfl); have f2 := HS.out.fz 1 rfl 2; have b2 := (HS.out.cell 0 rfl 2).trans (show (#[.int .i64 0, .int .i64 0, .int .i64 0, .int .i64 0, .int .i64 0, .string (⟨#[]⟩ : ByteArray), .string (⟨#[]⟩ : ByteArray), .bool false] : Array Value)[2]? = some (.int .i64 0) from rfl); have c3 := (HS.out.cell 1 rfl 3).trans (show (#[.int .i64 0, .int .i64 0, .int .i64 0, .int .i64 0, .int .i64 0, .string (⟨#[]⟩ : ByteArray), .string (⟨#[]⟩ : ByteArray), .bool false] : Array Value)[3]? = some (.int .i64 0) from rfl); have f3 := HS.out.fz 1 rfl 3; have b3 := (HS.out.cell 0 rfl 3).trans (show (#[.int .i64 0, .int .i64 0, .int .i64 0, .int .i64 0, .int .i64 0, .string (⟨#[]⟩ : ByteArray), .string (⟨#[]⟩ : ByteArray), .bool false] : Array Value)[3]? = some (.int .i64 0) from rfl); have c4 := (HS.out.cell 1 rfl 4).trans (show (#[.int .i64 0, .int .i64 0, .int .i64 0, .int .i64 0, .int .i64 0, .string (⟨#[]⟩ : ByteArray), .string (⟨#[]⟩ : ByteArray), .bool false] : Array Value)[4]? = some (.int .i64 0) from rfl); have f4 := HS.out.fz 1 rfl 4; have b4 := (HS.out.cell 0 rfl 4).trans (show (#[.int .i64 0, .int .i64 0, .int .i64 0, .int .i64 0, .int .i64 0, .string (⟨#[]⟩ : ByteArray), .string (⟨#[]⟩ : ByteArray), .bool false] : Array Value)[4]? = some (.int .i64 0) from rfl); have c5 := (HS.out.cell 1 rfl 5).trans (show (#[.int .i64 0, .int .i64 0, .int .i64 0, .int .i64 0, .int .i64 0, .string (⟨#[]⟩ : ByteArray), .string (⟨#[]⟩ : ByteArray), .bool false] : Array Value)[5]? = some (.string (⟨#[]⟩ : ByteArray)) from rfl); have f5 := HS.out.fz 1 rfl 5; have b5 := (HS.out.cell 0 rfl 5).trans (show (#[.int .i64 0, .int .i64 0, .int .i64 0, .int .i64 0, .int .i64 0, .string (⟨#[]⟩ : ByteArray), .string (⟨#[]⟩ : ByteArray), .bool false] : Array Value)[5]? = some (.string (⟨#[]⟩ : ByteArray)) from rfl); have c6 := (HS.out.cell 1 rfl 6).trans (show (#[.int .i64 0, .int .i64 0, .int .i64 0, .int .i64 0, .int .i64 0, .string (⟨#[]⟩ : ByteArray), .string (⟨#[]⟩ : ByteArray), .bool false] : Array Value)[6]? = some (.string (⟨#[]⟩ : ByteArray)) from rfl); have f6 := HS.out.fz 1 rfl 6; have b6 := (HS.out.cell 0 rfl 6).trans (show (#[.int .i64 0, .int .i64 0, .int .i64 0, .int .i64 0, .int .i64 0, .string (⟨#[]⟩ : ByteArray), .string (⟨#[]⟩ : ByteArray), .bool false] : Array Value)[6]? = some (.string (⟨#[]⟩ : ByteArray)) from rfl); have c7 := (HS.out.cell 1 rfl 7).trans (show (#[.int .i64 0, .int .i64 0, .int .i64 0, .int .i64 0, .int .i64 0, .string (⟨#[]⟩ : ByteArray), .string (⟨#[]⟩ : ByteArray), .bool false] : Array Value)[7]? = some (.bool false) from rfl); have f7 := HS.out.fz 1 rfl 7; have b7 := (HS.out.cell 0 rfl 7).trans (show (#[.int .i64 0, .int .i64 0, .int .i64 0, .int .i64 0, .int .i64 0, .string (⟨#[]⟩ : ByteArray), .string (⟨#[]⟩ : ByteArray), .bool false] : Array Value)[7]? = some (.bool false) from rfl); have n5a : (g5 = g2) = False := eq_false (HS.out.ne 0 1 rfl rfl (by decide)); have n5b : (g2 = g5) = False := eq_false (fun e => HS.out.ne 0 1 rfl rfl (by decide) e.symm)
  go_wp2
  refine bodyPost_ret (results_ctt rfl _ _ g2 36 #[.int .i64 0, .int .i64 0, .int .i64 0, .int .i64 0, .int .i64 0, .string (⟨#[]⟩ : ByteArray), .string (⟨#[]⟩ : ByteArray), .bool false] (0, 0) _ rfl (Sv.at (Sv.set (Sv.set (Sv.set (Sv.set (Sv.set (Sv.set (Sv.set (Sv.set HS.out 1 rfl 0 (.int .i64 0)) 1 rfl 1 (.int .i64 0)) 1 rfl 2 (.int .i64 0)) 1 rfl 3 (.int .i64 0)) 1 rfl 4 (.int .i64 0)) 1 rfl 5 (.string (⟨#[]⟩ : ByteArray))) 1 rfl 6 (.string (⟨#[]⟩ : ByteArray))) 1 rfl 7 (.bool false)) 1 rfl) Try.underlying36 rfl (by kernel_rfl)) rfl ?_
  exact ⟨rfl, Sv.below (Sv.set (Sv.set (Sv.set (Sv.set (Sv.set (Sv.set (Sv.set (Sv.set HS.out 1 rfl 0 (.int .i64 0)) 1 rfl 1 (.int .i64 0)) 1 rfl 2 (.int .i64 0)) 1 rfl 3 (.int .i64 0)) 1 rfl 4 (.int .i64 0)) 1 rfl 5 (.string (⟨#[]⟩ : ByteArray))) 1 rfl 6 (.string (⟨#[]⟩ : ByteArray))) 1 rfl 7 (.bool false))⟩
set_option maxHeartbeats 40000000 in
set_option maxRecDepth 100000 in
theorem ref_bad3 (ad : Addr) (n c : Nat) (x : S30) (w : World) (hn0 : 0 < n) (hx0 : w.cell? ad = some (.string x.f0)) (hx1 : w.cell? ⟨ad.block, ad.off + 1, none⟩ = some (.string x.f1)) (y : x.f0.toList = [73, 72, 68, 82]) (z : (x.f1.size : Int) = 13) (u : bt x.f1 10 = 0) (v : ¬ bt x.f1 11 = 0) :
    Calls Try.prog 18 #[.slice (some ad) n c] w fun e' w' => e' = .returned (outV (outE 24)) ∧ Below w.heap.size w w' := by
  have HX0 := Aside0.mk hx0
  have HX1 := Aside0.mk hx1
  have t0 : ((n : Int) == 0) = false := beq_eq_false_iff_ne.mpr (by omega)
  have t1 : ¬ n = 0 := by omega
  have t2 : decide (0 < (n : Int)) = true := decide_eq_true (by omega)
  have t3 : (0 < n) = True := eq_true hn0
  have t4 : (0 < (n : Int)) = True := eq_true (by omega)
  have HS := Aside0.mk (Sv.new w)
  clear hx0 hx1
  have y0 : (x.f0.toList == [73, 72, 68, 82]) = true := beq_iff_eq.mpr y
  have y1 : (x.f0.toList != [73, 72, 68, 82]) = false := bne_eq_false_iff_eq.mpr y
  have z0 : ((x.f1.size : Int) == 13) = true := beq_iff_eq.mpr z
  have z1 : ((x.f1.size : Int) != 13) = false := bne_eq_false_iff_eq.mpr z
  have qa10 : (10 < x.f1.size) = True := eq_true (by omega)
  have qb10 : (10 < (x.f1.size : Int)) = True := eq_true (by omega)
  have qc10 : decide (10 < (x.f1.size : Int)) = true := decide_eq_true (by omega)
  have qd10 : decide (10 < x.f1.size) = true := decide_eq_true (by omega)
  have hx_10 : ∀ h : 10 < x.f1.size, ((x.f1[10]'h).toNat : Int) = bt x.f1 10 := bt_at x.f1 10
  have qa11 : (11 < x.f1.size) = True := eq_true (by omega)
  have qb11 : (11 < (x.f1.size : Int)) = True := eq_true (by omega)
  have qc11 : decide (11 < (x.f1.size : Int)) = true := decide_eq_true (by omega)
  have qd11 : decide (11 < x.f1.size) = true := decide_eq_true (by omega)
  have hx_11 : ∀ h : 11 < x.f1.size, ((x.f1[11]'h).toNat : Int) = bt x.f1 11 := bt_at x.f1 11
  have u0 : (bt x.f1 10 == 0) = true := beq_iff_eq.mpr u
  have u1 : (bt x.f1 10 != 0) = false := bne_eq_false_iff_eq.mpr u
  have v0 : (bt x.f1 11 == 0) = false := beq_eq_false_iff_ne.mpr v
  have v1 : (bt x.f1 11 != 0) = true := bne_iff_ne.mpr v
  clear y z u v
  go_enter Try.func18, Try.ntmps18
  go_upto_region 2 with (first | ((with_reducible refine gate_dst (N := 2) rfl ?_); refine box_event ?hg (N := 2) ?hd (cs := #[.int .i64 0, .int .i64 0, .int .i64 0, .int .i64 0, .int .i64 0, .string (⟨#[]⟩ : ByteArray), .string (⟨#[]⟩ : ByteArray), .bool false]) (t := 36) ?hr ?_; (case hd => rfl); (case hg => rfl); (case hr => first | (go_simp; done) | (go_simp; rfl)); intro g2 hg w1 hbox hb; have n0_ := Aside0.mk (HS.out.box hb hg hbox); clear HS hb hg hbox; have HS := n0_; clear n0_) | ((with_reducible refine gate_dst (N := 5) rfl ?_); refine box_event ?hg (N := 5) ?hd (cs := #[.int .i64 0, .int .i64 0, .int .i64 0, .int .i64 0, .int .i64 0, .string (⟨#[]⟩ : ByteArray), .string (⟨#[]⟩ : ByteArray), .bool false]) (t := 36) ?hr ?_; (case hd => rfl); (case hg => rfl); (case hr => first | (go_simp; done) | (go_simp; rfl)); intro g5 hg w2 hbox hb; have n0_ := Aside0.mk (HS.out.box hb hg hbox); clear HS hb hg hbox; have HS := n0_; clear n0_; have y0 := (HS.out.cell 0 rfl 0).trans rfl; have k0 := HS.out.fz 0 rfl 0; have y1 := (HS.out.cell 0 rfl 1).trans rfl; have k1 := HS.out.fz 0 rfl 1; have y2 := (HS.out.cell 0 rfl 2).trans rfl; have k2 := HS.out.fz 0 rfl 2; have y3 := (HS.out.cell 0 rfl 3).trans rfl; have k3 := HS.out.fz 0 rfl 3; have y4 := (HS.out.cell 0 rfl 4).trans rfl; have k4 := HS.out.fz 0 rfl 4; have y5 := (HS.out.cell 0 rfl 5).trans rfl; have k5 := HS.out.fz 0 rfl 5; have y6 := (HS.out.cell 0 rfl 6).trans rfl; have k6 := HS.out.fz 0 rfl 6; have y7 := (HS.out.cell 0 rfl 7).trans rfl; have k7 := HS.out.fz 0 rfl 7))
  have n0_ : Aside0 (Sv w [(g5, #[.int .i64 0, .int .i64 0, .int .i64 0, .int .i64 0, .int .i64 0, .string (⟨#[]⟩ : ByteArray), .string (⟨#[]⟩ : ByteArray), .bool false], 36), (g2, #[.int .i64 0, .int .i64 0, .int .i64 0, .int .i64 0, .int .i64 0, .string (⟨#[]⟩ : ByteArray), .string (⟨#[]⟩ : ByteArray), .bool false], 36)] (World.setCell (World.setCell (World.setCell (World.setCell (World.setCell (World.setCell (World.setCell (World.setCell w2 ⟨g5, 0, none⟩ (.int .i64 0)) ⟨g5, 1, none⟩ (.int .i64 0)) ⟨g5, 2, none⟩ (.int .i64 0)) ⟨g5, 3, none⟩ (.int .i64 0)) ⟨g5, 4, none⟩ (.int .i64 0)) ⟨g5, 5, none⟩ (.string (⟨#[]⟩ : ByteArray))) ⟨g5, 6, none⟩ (.string (⟨#[]⟩ : ByteArray))) ⟨g5, 7, none⟩ (.bool false))) := ⟨(Sv.set (Sv.set (Sv.set (Sv.set (Sv.set (Sv.set (Sv.set (Sv.set HS.out 0 rfl 0 (.int .i64 0)) 0 rfl 1 (.int .i64 0)) 0 rfl 2 (.int .i64 0)) 0 rfl 3 (.int .i64 0)) 0 rfl 4 (.int .i64 0)) 0 rfl 5 (.string (⟨#[]⟩ : ByteArray))) 0 rfl 6 (.string (⟨#[]⟩ : ByteArray))) 0 rfl 7 (.bool false))⟩
  clear HS y0 k0 y1 k1 y2 k2 y3 k3 y4 k4 y5 k5 y6 k6 y7 k7
  have HS := n0_
  clear n0_
  (try simp only [Act.put, List.setIfInBounds_toArray, List.set_cons_zero, List.set_cons_succ])
  generalize (World.setCell (World.setCell (World.setCell (World.setCell (World.setCell (World.setCell (World.setCell (World.setCell w2 ⟨g5, 0, none⟩ (.int .i64 0)) ⟨g5, 1, none⟩ (.int .i64 0)) ⟨g5, 2, none⟩ (.int .i64 0)) ⟨g5, 3, none⟩ (.int .i64 0)) ⟨g5, 4, none⟩ (.int .i64 0)) ⟨g5, 5, none⟩ (.string (⟨#[]⟩ : ByteArray))) ⟨g5, 6, none⟩ (.string (⟨#[]⟩ : ByteArray))) ⟨g5, 7, none⟩ (.bool false)) = w3 at HS ⊢
  have x0 := pw_cell_below HS.out.below HX0.out
  have x1 := pw_cell_below HS.out.below HX1.out
  have n0 := (HS.out.cell 0 rfl 0).trans rfl
  have c0 := (HS.out.cell 1 rfl 0).trans (show (#[.int .i64 0, .int .i64 0, .int .i64 0, .int .i64 0, .int .i64 0, .string (⟨#[]⟩ : ByteArray), .string (⟨#[]⟩ : ByteArray), .bool false] : Array Value)[0]? = some (.int .i64 0) from rfl); have f0 := HS.out.fz 1 rfl 0; have b0 := (HS.out.cell 0 rfl 0).trans (show (#[.int .i64 0, .int .i64 0, .int .i64 0, .int .i64 0, .int .i64 0, .string (⟨#[]⟩ : ByteArray), .string (⟨#[]⟩ : ByteArray), .bool false] : Array Value)[0]? = some (.int .i64 0) from rfl); have c1 := (HS.out.cell 1 rfl 1).trans (show (#[.int .i64 0, .int .i64 0, .int .i64 0, .int .i64 0, .int .i64 0, .string (⟨#[]⟩ : ByteArray), .string (⟨#[]⟩ : ByteArray), .bool false] : Array Value)[1]? = some (.int .i64 0) from rfl); have f1 := HS.out.fz 1 rfl 1; have b1 := (HS.out.cell 0 rfl 1).trans (show (#[.int .i64 0, .int .i64 0, .int .i64 0, .int .i64 0, .int .i64 0, .string (⟨#[]⟩ : ByteArray), .string (⟨#[]⟩ : ByteArray), .bool false] : Array Value)[1]? = some (.int .i64 0) from rfl); have c2 := (HS.out.cell 1 rfl 2).trans (show (#[.int .i64 0, .int .i64 0, .int .i64 0, .int .i64 0, .int .i64 0, .string (⟨#[]⟩ : ByteArray), .string (⟨#[]⟩ : ByteArray), .bool false] : Array Value)[2]? = some (.int .i64 0) from rfl); have f2 := HS.out.fz 1 rfl 2; have b2 := (HS.out.cell 0 rfl 2).trans (show (#[.int .i64 0, .int .i64 0, .int .i64 0, .int .i64 0, .int .i64 0, .string (⟨#[]⟩ : ByteArray), .string (⟨#[]⟩ : ByteArray), .bool false] : Array Value)[2]? = some (.int .i64 0) from rfl); have c3 := (HS.out.cell 1 rfl 3).trans (show (#[.int .i64 0, .int .i64 0, .int .i64 0, .int .i64 0, .int .i64 0, .string (⟨#[]⟩ : ByteArray), .string (⟨#[]⟩ : ByteArray), .bool false] : Array Value)[3]? = some (.int .i64 0) from rfl); have f3 := HS.out.fz 1 rfl 3; have b3 := (HS.out.cell 0 rfl 3).trans (show (#[.int .i64 0, .int .i64 0, .int .i64 0, .int .i64 0, .int .i64 0, .string (⟨#[]⟩ : ByteArray), .string (⟨#[]⟩ : ByteArray), .bool false] : Array Value)[3]? = some (.int .i64 0) from rfl); have c4 := (HS.out.cell 1 rfl 4).trans (show (#[.int .i64 0, .int .i64 0, .int .i64 0, .int .i64 0, .int .i64 0, .string (⟨#[]⟩ : ByteArray), .string (⟨#[]⟩ : ByteArray), .bool false] : Array Value)[4]? = some (.int .i64 0) from rfl); have f4 := HS.out.fz 1 rfl 4; have b4 := (HS.out.cell 0 rfl 4).trans (show (#[.int .i64 0, .int .i64 0, .int .i64 0, .int .i64 0, .int .i64 0, .string (⟨#[]⟩ : ByteArray), .string (⟨#[]⟩ : ByteArray), .bool false] : Array Value)[4]? = some (.int .i64 0) from rfl); have c5 := (HS.out.cell 1 rfl 5).trans (show (#[.int .i64 0, .int .i64 0, .int .i64 0, .int .i64 0, .int .i64 0, .string (⟨#[]⟩ : ByteArray), .string (⟨#[]⟩ : ByteArray), .bool false] : Array Value)[5]? = some (.string (⟨#[]⟩ : ByteArray)) from rfl); have f5 := HS.out.fz 1 rfl 5; have b5 := (HS.out.cell 0 rfl 5).trans (show (#[.int .i64 0, .int .i64 0, .int .i64 0, .int .i64 0, .int .i64 0, .string (⟨#[]⟩ : ByteArray), .string (⟨#[]⟩ : ByteArray), .bool false] : Array Value)[5]? = some (.string (⟨#[]⟩ : ByteArray)) from rfl); have c6 := (HS.out.cell 1 rfl 6).trans (show (#[.int .i64 0, .int .i64 0, .int .i64 0, .int .i64 0, .int .i64 0, .string (⟨#[]⟩ : ByteArray), .string (⟨#[]⟩ : ByteArray), .bool false] : Array Value)[6]? = some (.string (⟨#[]⟩ : ByteArray)) from rfl); have f6 := HS.out.fz 1 rfl 6; have b6 := (HS.out.cell 0 rfl 6).trans (show (#[.int .i64 0, .int .i64 0, .int .i64 0, .int .i64 0, .int .i64 0, .string (⟨#[]⟩ : ByteArray), .string (⟨#[]⟩ : ByteArray), .bool false] : Array Value)[6]? = some (.string (⟨#[]⟩ : ByteArray)) from rfl); have c7 := (HS.out.cell 1 rfl 7).trans (show (#[.int .i64 0, .int .i64 0, .int .i64 0, .int .i64 0, .int .i64 0, .string (⟨#[]⟩ : ByteArray), .string (⟨#[]⟩ : ByteArray), .bool false] : Array Value)[7]? = some (.bool false) from rfl); have f7 := HS.out.fz 1 rfl 7; have b7 := (HS.out.cell 0 rfl 7).trans (show (#[.int .i64 0, .int .i64 0, .int .i64 0, .int .i64 0, .int .i64 0, .string (⟨#[]⟩ : ByteArray), .string (⟨#[]⟩ : ByteArray), .bool false] : Array Value)[7]? = some (.bool false) from rfl); have n5a : (g5 = g2) = False := eq_false (HS.out.ne 0 1 rfl rfl (by decide)); have n5b : (g2 = g5) = False := eq_false (fun e => HS.out.ne 0 1 rfl rfl (by decide) e.symm)
  go_wp2
  refine bodyPost_ret (results_ctt rfl _ _ g2 36 #[.int .i64 0, .int .i64 0, .int .i64 0, .int .i64 0, .int .i64 0, .string (⟨#[]⟩ : ByteArray), .string (⟨#[]⟩ : ByteArray), .bool false] (0, 0) _ rfl (Sv.at (Sv.set (Sv.set (Sv.set (Sv.set (Sv.set (Sv.set (Sv.set (Sv.set HS.out 1 rfl 0 (.int .i64 0)) 1 rfl 1 (.int .i64 0)) 1 rfl 2 (.int .i64 0)) 1 rfl 3 (.int .i64 0)) 1 rfl 4 (.int .i64 0)) 1 rfl 5 (.string (⟨#[]⟩ : ByteArray))) 1 rfl 6 (.string (⟨#[]⟩ : ByteArray))) 1 rfl 7 (.bool false)) 1 rfl) Try.underlying36 rfl (by kernel_rfl)) rfl ?_
  exact ⟨rfl, Sv.below (Sv.set (Sv.set (Sv.set (Sv.set (Sv.set (Sv.set (Sv.set (Sv.set HS.out 1 rfl 0 (.int .i64 0)) 1 rfl 1 (.int .i64 0)) 1 rfl 2 (.int .i64 0)) 1 rfl 3 (.int .i64 0)) 1 rfl 4 (.int .i64 0)) 1 rfl 5 (.string (⟨#[]⟩ : ByteArray))) 1 rfl 6 (.string (⟨#[]⟩ : ByteArray))) 1 rfl 7 (.bool false))⟩
set_option maxHeartbeats 40000000 in
set_option maxRecDepth 100000 in
theorem ref_err (k : Nat) (ad : Addr) (c : Nat) (l : List S30) (a b c0 dd l0 : Int) (r : HOut) (w : World) (hr : Kd.C k30 w (some ad) l.length l) (hc : l.length ≤ c) (h1 : 0 < l.length) (hm : l.length ≤ 4611686018427387904) (hs : szs l ≤ 140737488355328)
    (hy : (rd_T30 l 0).f0.toList = [73, 72, 68, 82]) (hz : ((rd_T30 l 0).f1.size : Int) = 13 ∧ bt (rd_T30 l 0).f1 10 = 0 ∧ bt (rd_T30 l 0).f1 11 = 0)
    (ho1 : vitrineref06_Of.f k ((rd_T30 l 0).f1.extract 0 4) = some a) (ho2 : vitrineref06_Of.f k ((rd_T30 l 0).f1.extract 4 8) = some b) (hc0 : c0 = wrap64 (bt (rd_T30 l 0).f1 8)) (hdd : dd = wrap64 (bt (rd_T30 l 0).f1 9)) (hl0 : l0 = wrap64 (bt (rd_T30 l 0).f1 12))
    (e : Int) (he : ¬ e = 0) (hR : vitrineref08_Right.f k a b c0 dd l0 = some e) :
    Calls Try.prog 18 #[.slice (some ad) l.length c] w fun e' w' => e' = .returned (outV (outE e)) ∧ Below w.heap.size w w' := by
  have HM := Aside0.mk hm
  have HS_ := Aside0.mk hs
  have HO1 := Aside0.mk ho1
  have HO2 := Aside0.mk ho2
  have HRR := Aside0.mk hR
  have ee0 : (e == 0) = false := beq_eq_false_iff_ne.mpr he
  have ee1 : (e != 0) = true := bne_iff_ne.mpr he
  clear hm hs ho1 ho2 hR he
  obtain ⟨x, hx⟩ : ∃ x, rd_T30 l 0 = x := ⟨_, rfl⟩
  obtain ⟨ad', e_, hx0, hx1⟩ := at_T30 hr 0 (by omega) (by omega)
  cases e_
  rw [hx] at hx0 hx1
  rw [show ((0 : Int)).toNat * 2 = 0 from rfl, Addr.add_zero'] at hx0 hx1
  have HX0 := Aside0.mk hx0
  have HX1 := Aside0.mk hx1
  obtain ⟨n, hn⟩ : ∃ n, l.length = n := ⟨_, rfl⟩
  have HN := Aside0.mk hn
  have HR := Aside0.mk hr
  rw [hn]
  have hn0 : 0 < n := by omega
  have t0 : ((n : Int) == 0) = false := beq_eq_false_iff_ne.mpr (by omega)
  have t1 : ¬ n = 0 := by omega
  have t2 : decide (0 < (n : Int)) = true := decide_eq_true (by omega)
  have t3 : (0 < n) = True := eq_true hn0
  have t4 : (0 < (n : Int)) = True := eq_true (by omega)
  rw [hx] at HO1 HO2 hy hz hc0 hdd hl0
  subst hc0; subst hdd; subst hl0
  have e0 : (x.f0.toList == [73, 72, 68, 82]) = true := beq_iff_eq.mpr hy
  have e1 : (x.f0.toList != [73, 72, 68, 82]) = false := bne_eq_false_iff_eq.mpr hy
  obtain ⟨z0, z1, z2⟩ := hz
  have v0 : ((x.f1.size : Int) == 13) = true := beq_iff_eq.mpr z0
  have v1 : ((x.f1.size : Int) != 13) = false := bne_eq_false_iff_eq.mpr z0
  have v2 : (4 ≤ (x.f1.size : Int)) = True := eq_true (by omega)
  have v3 : decide (4 ≤ (x.f1.size : Int)) = true := decide_eq_true (by omega)
  have v4 : (8 ≤ (x.f1.size : Int)) = True := eq_true (by omega)
  have v5 : decide (8 ≤ (x.f1.size : Int)) = true := decide_eq_true (by omega)
  have qa8 : (8 < x.f1.size) = True := eq_true (by omega)
  have qb8 : (8 < (x.f1.size : Int)) = True := eq_true (by omega)
  have qc8 : decide (8 < (x.f1.size : Int)) = true := decide_eq_true (by omega)
  have qd8 : decide (8 < x.f1.size) = true := decide_eq_true (by omega)
  have hx_8 : ∀ h : 8 < x.f1.size, ((x.f1[8]'h).toNat : Int) = bt x.f1 8 := bt_at x.f1 8
  have qa9 : (9 < x.f1.size) = True := eq_true (by omega)
  have qb9 : (9 < (x.f1.size : Int)) = True := eq_true (by omega)
  have qc9 : decide (9 < (x.f1.size : Int)) = true := decide_eq_true (by omega)
  have qd9 : decide (9 < x.f1.size) = true := decide_eq_true (by omega)
  have hx_9 : ∀ h : 9 < x.f1.size, ((x.f1[9]'h).toNat : Int) = bt x.f1 9 := bt_at x.f1 9
  have qa10 : (10 < x.f1.size) = True := eq_true (by omega)
  have qb10 : (10 < (x.f1.size : Int)) = True := eq_true (by omega)
  have qc10 : decide (10 < (x.f1.size : Int)) = true := decide_eq_true (by omega)
  have qd10 : decide (10 < x.f1.size) = true := decide_eq_true (by omega)
  have hx_10 : ∀ h : 10 < x.f1.size, ((x.f1[10]'h).toNat : Int) = bt x.f1 10 := bt_at x.f1 10
  have qa11 : (11 < x.f1.size) = True := eq_true (by omega)
  have qb11 : (11 < (x.f1.size : Int)) = True := eq_true (by omega)
  have qc11 : decide (11 < (x.f1.size : Int)) = true := decide_eq_true (by omega)
  have qd11 : decide (11 < x.f1.size) = true := decide_eq_true (by omega)
  have hx_11 : ∀ h : 11 < x.f1.size, ((x.f1[11]'h).toNat : Int) = bt x.f1 11 := bt_at x.f1 11
  have qa12 : (12 < x.f1.size) = True := eq_true (by omega)
  have qb12 : (12 < (x.f1.size : Int)) = True := eq_true (by omega)
  have qc12 : decide (12 < (x.f1.size : Int)) = true := decide_eq_true (by omega)
  have qd12 : decide (12 < x.f1.size) = true := decide_eq_true (by omega)
  have hx_12 : ∀ h : 12 < x.f1.size, ((x.f1[12]'h).toNat : Int) = bt x.f1 12 := bt_at x.f1 12
  have x10 : (bt x.f1 10 == 0) = true := beq_iff_eq.mpr z1
  have x11 : (bt x.f1 10 != 0) = false := bne_eq_false_iff_eq.mpr z1
  have y10 : (bt x.f1 11 == 0) = true := beq_iff_eq.mpr z2
  have y11 : (bt x.f1 11 != 0) = false := bne_eq_false_iff_eq.mpr z2
  have HS := Aside0.mk (Sv.new w)
  clear hr hc hx0 hx1 hn hy z0 z1 z2 h1
  go_enter Try.func18, Try.ntmps18
  go_upto_region 2 with (first | ((with_reducible refine gate_dst (N := 2) rfl ?_); refine box_event ?hg (N := 2) ?hd (cs := #[.int .i64 0, .int .i64 0, .int .i64 0, .int .i64 0, .int .i64 0, .string (⟨#[]⟩ : ByteArray), .string (⟨#[]⟩ : ByteArray), .bool false]) (t := 36) ?hr ?_; (case hd => rfl); (case hg => rfl); (case hr => first | (go_simp; done) | (go_simp; rfl)); intro g2 hg w1 hbox hb; have n0_ := Aside0.mk (HS.out.box hb hg hbox); clear HS hb hg hbox; have HS := n0_; clear n0_) | ((with_reducible refine gate_dst (N := 5) rfl ?_); refine box_event ?hg (N := 5) ?hd (cs := #[.int .i64 0, .int .i64 0, .int .i64 0, .int .i64 0, .int .i64 0, .string (⟨#[]⟩ : ByteArray), .string (⟨#[]⟩ : ByteArray), .bool false]) (t := 36) ?hr ?_; (case hd => rfl); (case hg => rfl); (case hr => first | (go_simp; done) | (go_simp; rfl)); intro g5 hg w2 hbox hb; have n0_ := Aside0.mk (HS.out.box hb hg hbox); clear HS hb hg hbox; have HS := n0_; clear n0_; have y0 := (HS.out.cell 0 rfl 0).trans rfl; have k0 := HS.out.fz 0 rfl 0; have y1 := (HS.out.cell 0 rfl 1).trans rfl; have k1 := HS.out.fz 0 rfl 1; have y2 := (HS.out.cell 0 rfl 2).trans rfl; have k2 := HS.out.fz 0 rfl 2; have y3 := (HS.out.cell 0 rfl 3).trans rfl; have k3 := HS.out.fz 0 rfl 3; have y4 := (HS.out.cell 0 rfl 4).trans rfl; have k4 := HS.out.fz 0 rfl 4; have y5 := (HS.out.cell 0 rfl 5).trans rfl; have k5 := HS.out.fz 0 rfl 5; have y6 := (HS.out.cell 0 rfl 6).trans rfl; have k6 := HS.out.fz 0 rfl 6; have y7 := (HS.out.cell 0 rfl 7).trans rfl; have k7 := HS.out.fz 0 rfl 7))
  have n0_ : Aside0 (Sv w [(g5, #[.int .i64 0, .int .i64 0, .int .i64 0, .int .i64 0, .int .i64 0, .string (⟨#[]⟩ : ByteArray), .string (⟨#[]⟩ : ByteArray), .bool false], 36), (g2, #[.int .i64 0, .int .i64 0, .int .i64 0, .int .i64 0, .int .i64 0, .string (⟨#[]⟩ : ByteArray), .string (⟨#[]⟩ : ByteArray), .bool false], 36)] (World.setCell (World.setCell (World.setCell (World.setCell (World.setCell (World.setCell (World.setCell (World.setCell w2 ⟨g5, 0, none⟩ (.int .i64 0)) ⟨g5, 1, none⟩ (.int .i64 0)) ⟨g5, 2, none⟩ (.int .i64 0)) ⟨g5, 3, none⟩ (.int .i64 0)) ⟨g5, 4, none⟩ (.int .i64 0)) ⟨g5, 5, none⟩ (.string (⟨#[]⟩ : ByteArray))) ⟨g5, 6, none⟩ (.string (⟨#[]⟩ : ByteArray))) ⟨g5, 7, none⟩ (.bool false))) := ⟨(Sv.set (Sv.set (Sv.set (Sv.set (Sv.set (Sv.set (Sv.set (Sv.set HS.out 0 rfl 0 (.int .i64 0)) 0 rfl 1 (.int .i64 0)) 0 rfl 2 (.int .i64 0)) 0 rfl 3 (.int .i64 0)) 0 rfl 4 (.int .i64 0)) 0 rfl 5 (.string (⟨#[]⟩ : ByteArray))) 0 rfl 6 (.string (⟨#[]⟩ : ByteArray))) 0 rfl 7 (.bool false))⟩
  clear HS y0 k0 y1 k1 y2 k2 y3 k3 y4 k4 y5 k5 y6 k6 y7 k7
  have HS := n0_
  clear n0_
  (try simp only [Act.put, List.setIfInBounds_toArray, List.set_cons_zero, List.set_cons_succ])
  generalize (World.setCell (World.setCell (World.setCell (World.setCell (World.setCell (World.setCell (World.setCell (World.setCell w2 ⟨g5, 0, none⟩ (.int .i64 0)) ⟨g5, 1, none⟩ (.int .i64 0)) ⟨g5, 2, none⟩ (.int .i64 0)) ⟨g5, 3, none⟩ (.int .i64 0)) ⟨g5, 4, none⟩ (.int .i64 0)) ⟨g5, 5, none⟩ (.string (⟨#[]⟩ : ByteArray))) ⟨g5, 6, none⟩ (.string (⟨#[]⟩ : ByteArray))) ⟨g5, 7, none⟩ (.bool false)) = w3 at HS ⊢
  have x0 := pw_cell_below HS.out.below HX0.out
  have x1 := pw_cell_below HS.out.below HX1.out
  have n0 := (HS.out.cell 0 rfl 0).trans rfl
  go_wp2
  have n0_ := Aside0.mk HS.out.drew
  clear HS x0 x1 n0
  have HS := n0_
  clear n0_
  refine start_ (n := 19) (S := fun _ => True) (ds := []) #[false, false, false, false, false, false, false, false, false, false, false, false, false, false, false, false, false, false, false] (by kernel_rfl) rfl rfl trivial (fun hHeld => ?_)
  refine with_tabW vitrineref08_Read.tab7 vitrineref08_Read.bits7 (fun HT_ HW_ => ?_)
  generalize World.drew _ = w4 at HS hHeld ⊢
  refine pure_ (i := 0) (N := some 46) (v := ?_) (a' := ?_) #[true, false, false, false, false, false, false, false, false, false, false, false, false, false, false, false, false, false, false] rfl rfl (any_of HT_.out (by kernel_rfl)) (fun _ _ _ h => h) (Or.inl ⟨by rfl, ?_⟩) ?_ ?_
  rotate_left
  · intro w'
    go_simp
    with_reducible rfl
  rotate_left
  · simp only [Act.put, List.setIfInBounds_toArray, List.set_cons_zero, List.set_cons_succ, i64_w, i32_w]
    rfl
  refine pure_ (i := 1) (N := some 47) (v := ?_) (a' := ?_) #[true, true, false, false, false, false, false, false, false, false, false, false, false, false, false, false, false, false, false] rfl rfl (any_of HT_.out (by kernel_rfl)) (fun _ _ _ h => h) (Or.inl ⟨by rfl, ?_⟩) ?_ ?_
  rotate_left
  · intro w'
    go_simp
    with_reducible rfl
  rotate_left
  · simp only [Act.put, List.setIfInBounds_toArray, List.set_cons_zero, List.set_cons_succ, i64_w, i32_w]
    rfl
  refine pure_ (i := 3) (N := some 49) (v := ?_) (a' := ?_) #[true, true, false, true, false, false, false, false, false, false, false, false, false, false, false, false, false, false, false] rfl rfl (any_of HT_.out (by kernel_rfl)) (fun _ _ _ h => h) (Or.inl ⟨by rfl, ?_⟩) ?_ ?_
  rotate_left
  · intro w'
    go_simp
    with_reducible rfl
  rotate_left
  · simp only [Act.put, List.setIfInBounds_toArray, List.set_cons_zero, List.set_cons_succ, i64_w, i32_w]
    rfl
  refine pure_ (i := 4) (N := some 50) (v := ?_) (a' := ?_) #[true, true, false, true, true, false, false, false, false, false, false, false, false, false, false, false, false, false, false] rfl rfl (any_of HT_.out (by kernel_rfl)) (fun _ _ _ h => h) (Or.inl ⟨by rfl, ?_⟩) ?_ ?_
  rotate_left
  · intro w'
    go_simp
    with_reducible rfl
  rotate_left
  · simp only [Act.put, List.setIfInBounds_toArray, List.set_cons_zero, List.set_cons_succ, i64_w, i32_w]
    rfl
  refine pure_ (i := 6) (N := some 52) (v := ?_) (a' := ?_) #[true, true, false, true, true, false, true, false, false, false, false, false, false, false, false, false, false, false, false] rfl rfl (any_of HT_.out (by kernel_rfl)) (fun _ _ _ h => h) (Or.inl ⟨by rfl, ?_⟩) ?_ ?_
  rotate_left
  · intro w'
    go_simp
    with_reducible rfl
  rotate_left
  · simp only [Act.put, List.setIfInBounds_toArray, List.set_cons_zero, List.set_cons_succ, i64_w, i32_w]
    rfl
  refine pure_ (i := 7) (N := some 53) (v := ?_) (a' := ?_) #[true, true, false, true, true, false, true, true, false, false, false, false, false, false, false, false, false, false, false] rfl rfl (any_of HT_.out (by kernel_rfl)) (fun _ _ _ h => h) (Or.inl ⟨by rfl, ?_⟩) ?_ ?_
  rotate_left
  · intro w'
    go_simp
    with_reducible rfl
  rotate_left
  · simp only [Act.put, List.setIfInBounds_toArray, List.set_cons_zero, List.set_cons_succ, i64_w, i32_w]
    rfl
  refine pure_ (i := 8) (N := some 54) (v := ?_) (a' := ?_) #[true, true, false, true, true, false, true, true, true, false, false, false, false, false, false, false, false, false, false] rfl rfl (any_of HT_.out (by kernel_rfl)) (fun _ _ _ h => h) (Or.inl ⟨by rfl, ?_⟩) ?_ ?_
  rotate_left
  · intro w'
    go_simp
    with_reducible rfl
  rotate_left
  · simp only [Act.put, List.setIfInBounds_toArray, List.set_cons_zero, List.set_cons_succ, i64_w, i32_w]
    rfl
  refine pure_ (i := 9) (N := some 55) (v := ?_) (a' := ?_) #[true, true, false, true, true, false, true, true, true, true, false, false, false, false, false, false, false, false, false] rfl rfl (any_of HT_.out (by kernel_rfl)) (fun _ _ _ h => h) (Or.inl ⟨by rfl, ?_⟩) ?_ ?_
  rotate_left
  · intro w'
    go_simp
    with_reducible rfl
  rotate_left
  · simp only [Act.put, List.setIfInBounds_toArray, List.set_cons_zero, List.set_cons_succ, i64_w, i32_w]
    rfl
  refine pure_ (i := 10) (N := some 56) (v := ?_) (a' := ?_) #[true, true, false, true, true, false, true, true, true, true, true, false, false, false, false, false, false, false, false] rfl rfl (any_of HT_.out (by kernel_rfl)) (fun _ _ _ h => h) (Or.inl ⟨by rfl, ?_⟩) ?_ ?_
  rotate_left
  · intro w'
    go_simp
    with_reducible rfl
  rotate_left
  · simp only [Act.put, List.setIfInBounds_toArray, List.set_cons_zero, List.set_cons_succ, i64_w, i32_w]
    rfl
  refine pure_ (i := 11) (N := some 57) (v := ?_) (a' := ?_) #[true, true, false, true, true, false, true, true, true, true, true, true, false, false, false, false, false, false, false] rfl rfl (any_of HT_.out (by kernel_rfl)) (fun _ _ _ h => h) (Or.inl ⟨by rfl, ?_⟩) ?_ ?_
  rotate_left
  · intro w'
    go_simp
    with_reducible rfl
  rotate_left
  · simp only [Act.put, List.setIfInBounds_toArray, List.set_cons_zero, List.set_cons_succ, i64_w, i32_w]
    rfl
  refine pure_ (i := 12) (N := some 58) (v := ?_) (a' := ?_) #[true, true, false, true, true, false, true, true, true, true, true, true, true, false, false, false, false, false, false] rfl rfl (any_of HT_.out (by kernel_rfl)) (fun _ _ _ h => h) (Or.inl ⟨by rfl, ?_⟩) ?_ ?_
  rotate_left
  · intro w'
    go_simp
    with_reducible rfl
  rotate_left
  · simp only [Act.put, List.setIfInBounds_toArray, List.set_cons_zero, List.set_cons_succ, i64_w, i32_w]
    rfl
  refine pure_ (i := 13) (N := some 59) (v := ?_) (a' := ?_) #[true, true, false, true, true, false, true, true, true, true, true, true, true, true, false, false, false, false, false] rfl rfl (any_of HT_.out (by kernel_rfl)) (fun _ _ _ h => h) (Or.inl ⟨by rfl, ?_⟩) ?_ ?_
  rotate_left
  · intro w'
    go_simp
    with_reducible rfl
  rotate_left
  · simp only [Act.put, List.setIfInBounds_toArray, List.set_cons_zero, List.set_cons_succ, i64_w, i32_w]
    rfl
  refine pure_ (i := 14) (N := some 60) (v := ?_) (a' := ?_) #[true, true, false, true, true, false, true, true, true, true, true, true, true, true, true, false, false, false, false] rfl rfl (any_of HT_.out (by kernel_rfl)) (fun _ _ _ h => h) (Or.inl ⟨by rfl, ?_⟩) ?_ ?_
  rotate_left
  · intro w'
    go_simp
    with_reducible rfl
  rotate_left
  · simp only [Act.put, List.setIfInBounds_toArray, List.set_cons_zero, List.set_cons_succ, i64_w, i32_w]
    rfl
  refine join_ (σ := Nat) 1 #[true, true, true, true, true, true, true, true, true, true, true, true, true, true, true, true, true, true, false] (fun s_ => [(48, .int .i64 a), (51, .int .i64 b), (61, .agg #[.int .i64 a, .int .i64 b, .int .i64 (wrap64 (bt x.f1 8)), .int .i64 (wrap64 (bt x.f1 9)), .int .i64 (wrap64 (bt x.f1 12))]), (62, .agg #[.int .i64 a, .int .i64 b, .int .i64 (wrap64 (bt x.f1 8)), .int .i64 (wrap64 (bt x.f1 9)), .int .i64 (wrap64 (bt x.f1 12)), .string (⟨#[]⟩ : ByteArray), .string (⟨#[]⟩ : ByteArray), .bool false]), (7, .pointer (some ⟨s_, 0, none⟩))]) (fun s_ w' => Sv w [(s_, #[.int .i64 0, .int .i64 0, .int .i64 0, .int .i64 0, .int .i64 0, .string (⟨#[]⟩ : ByteArray), .string (⟨#[]⟩ : ByteArray), .bool false], 36), (g5, #[.int .i64 0, .int .i64 0, .int .i64 0, .int .i64 0, .int .i64 0, .string (⟨#[]⟩ : ByteArray), .string (⟨#[]⟩ : ByteArray), .bool false], 36), (g2, #[.int .i64 0, .int .i64 0, .int .i64 0, .int .i64 0, .int .i64 0, .string (⟨#[]⟩ : ByteArray), .string (⟨#[]⟩ : ByteArray), .bool false], 36)] w') ?_ ?_
  rotate_left
  · intro hJ
    refine two_ (i := 2) (j := 17) (Ni := some 48) (Nj := some 7) #[true, true, true, true, true, false, true, true, true, true, true, true, true, true, true, false, false, false, false] #[true, true, false, true, true, false, true, true, true, true, true, true, true, true, true, false, false, true, false] rfl rfl rfl rfl (two_of HT_.out (by kernel_rfl)) (by decide) (by decide) (fun K hK => ?_) (fun K hK => ?_)
    · skip
      refine goes_ Try.func33 (by kernel_rfl) rfl #[.string (x.f1.extract 0 4)] (by rfl) rfl rfl (by (try simp only [List.map_toArray, List.map_cons, List.map_nil]); first | done | rfl) ?_
      with_reducible refine (vitrineref06_Of.calls k (x.f1.extract 0 4) a _ HO1.out).mono ?_
      rintro e wn ⟨rfl, hdr⟩
      have hb := hdr.below
      clear hdr
      refine ⟨_, rfl, ?_⟩
      have n0_ := Aside0.mk (HS.out.step hb)
      clear HS hb
      have HS := n0_
      clear n0_
      refine hK.out _ _ trivial (fun hHeld => ?_)
      clear hK K
      refine norm_ (a' := ?_) ?_ ?_
      rotate_left
      · show Act.put _ (some 48) _ = _
        simp only [Act.put, List.setIfInBounds_toArray, List.set_cons_zero, List.set_cons_succ, i64_w, i32_w]
        rfl
      refine two_ (i := 5) (j := 17) (Ni := some 51) (Nj := some 7) #[true, true, true, true, true, true, true, true, true, true, true, true, true, true, true, false, false, false, false] #[true, true, true, true, true, false, true, true, true, true, true, true, true, true, true, false, false, true, false] rfl rfl rfl rfl (two_of HT_.out (by kernel_rfl)) (by decide) (by decide) (fun K hK => ?_) (fun K hK => ?_)
      · skip
        refine goes_ Try.func33 (by kernel_rfl) rfl #[.string (x.f1.extract 4 8)] (by rfl) rfl rfl (by (try simp only [List.map_toArray, List.map_cons, List.map_nil]); first | done | rfl) ?_
        with_reducible refine (vitrineref06_Of.calls k (x.f1.extract 4 8) b _ HO2.out).mono ?_
        rintro e wn ⟨rfl, hdr⟩
        have hb := hdr.below
        clear hdr
        refine ⟨_, rfl, ?_⟩
        have n0_ := Aside0.mk (HS.out.step hb)
        clear HS hb
        have HS := n0_
        clear n0_
        refine hK.out _ _ trivial (fun hHeld => ?_)
        clear hK K
        refine norm_ (a' := ?_) ?_ ?_
        rotate_left
        · show Act.put _ (some 51) _ = _
          simp only [Act.put, List.setIfInBounds_toArray, List.set_cons_zero, List.set_cons_succ, i64_w, i32_w]
          rfl
        refine pure_ (i := 15) (N := some 61) (v := ?_) (a' := ?_) #[true, true, true, true, true, true, true, true, true, true, true, true, true, true, true, true, false, false, false] rfl rfl (any_of HT_.out (by kernel_rfl)) (fun _ _ _ h => h) (Or.inl ⟨by rfl, ?_⟩) ?_ ?_
        rotate_left
        · intro w'
          go_simp
          with_reducible rfl
        rotate_left
        · simp only [Act.put, List.setIfInBounds_toArray, List.set_cons_zero, List.set_cons_succ, i64_w, i32_w]
          rfl
        refine pure_ (i := 16) (N := some 62) (v := ?_) (a' := ?_) #[true, true, true, true, true, true, true, true, true, true, true, true, true, true, true, true, true, false, false] rfl rfl (any_of HT_.out (by kernel_rfl)) (fun _ _ _ h => h) (Or.inl ⟨by rfl, ?_⟩) ?_ ?_
        rotate_left
        · intro w'
          go_simp
          with_reducible rfl
        rotate_left
        · simp only [Act.put, List.setIfInBounds_toArray, List.set_cons_zero, List.set_cons_succ, i64_w, i32_w]
          rfl
        refine one_ (i := 17) (N := some 7) #[true, true, true, true, true, true, true, true, true, true, true, true, true, true, true, true, true, true, false] rfl rfl (one_of HT_.out (by kernel_rfl)) (by decide) (fun K hK => ?_)
        refine box_step (by rfl) (N := 7) rfl (cs := #[.int .i64 0, .int .i64 0, .int .i64 0, .int .i64 0, .int .i64 0, .string (⟨#[]⟩ : ByteArray), .string (⟨#[]⟩ : ByteArray), .bool false]) (t := 36) (by first | (go_simp; done) | (go_simp; rfl)) ?_
        intro g7 hg w1 hbox hb
        have n0_ := Aside0.mk (HS.out.box hb hg hbox)
        clear HS hb hg hbox
        have HS := n0_
        clear n0_
        refine hK.out _ _ trivial (fun hHeld => ?_)
        clear hK K
        refine norm_ (a' := ?_) ?_ ?_
        rotate_left
        · show Act.put _ (some 7) _ = _
          simp only [Act.put, List.setIfInBounds_toArray, List.set_cons_zero, List.set_cons_succ, i64_w, i32_w]
          rfl
        exact norm_ (by first | (simp only [putAll, Act.put, List.setIfInBounds_toArray, List.set_cons_zero, List.set_cons_succ]; done) | (simp only [putAll, Act.put, List.setIfInBounds_toArray, List.set_cons_zero, List.set_cons_succ]; rfl)) (hJ g7 _ HS.out)
      · skip
        refine box_step (by rfl) (N := 7) rfl (cs := #[.int .i64 0, .int .i64 0, .int .i64 0, .int .i64 0, .int .i64 0, .string (⟨#[]⟩ : ByteArray), .string (⟨#[]⟩ : ByteArray), .bool false]) (t := 36) (by first | (go_simp; done) | (go_simp; rfl)) ?_
        intro g7 hg w2 hbox hb
        have n0_ := Aside0.mk (HS.out.box hb hg hbox)
        clear HS hb hg hbox
        have HS := n0_
        clear n0_
        refine hK.out _ _ trivial (fun hHeld => ?_)
        clear hK K
        refine norm_ (a' := ?_) ?_ ?_
        rotate_left
        · show Act.put _ (some 7) _ = _
          simp only [Act.put, List.setIfInBounds_toArray, List.set_cons_zero, List.set_cons_succ, i64_w, i32_w]
          rfl
        refine one_ (i := 5) (N := some 51) #[true, true, true, true, true, true, true, true, true, true, true, true, true, true, true, false, false, true, false] rfl rfl (one_of HT_.out (by kernel_rfl)) (by decide) (fun K hK => ?_)
        refine goes_ Try.func33 (by kernel_rfl) rfl #[.string (x.f1.extract 4 8)] (by rfl) rfl rfl (by (try simp only [List.map_toArray, List.map_cons, List.map_nil]); first | done | rfl) ?_
        with_reducible refine (vitrineref06_Of.calls k (x.f1.extract 4 8) b _ HO2.out).mono ?_
        rintro e wn ⟨rfl, hdr⟩
        have hb := hdr.below
        clear hdr
        refine ⟨_, rfl, ?_⟩
        have n0_ := Aside0.mk (HS.out.step hb)
        clear HS hb
        have HS := n0_
        clear n0_
        refine hK.out _ _ trivial (fun hHeld => ?_)
        clear hK K
        refine norm_ (a' := ?_) ?_ ?_
        rotate_left
        · show Act.put _ (some 51) _ = _
          simp only [Act.put, List.setIfInBounds_toArray, List.set_cons_zero, List.set_cons_succ, i64_w, i32_w]
          rfl
        refine pure_ (i := 15) (N := some 61) (v := ?_) (a' := ?_) #[true, true, true, true, true, true, true, true, true, true, true, true, true, true, true, true, false, true, false] rfl rfl (any_of HT_.out (by kernel_rfl)) (fun _ _ _ h => h) (Or.inl ⟨by rfl, ?_⟩) ?_ ?_
        rotate_left
        · intro w'
          go_simp
          with_reducible rfl
        rotate_left
        · simp only [Act.put, List.setIfInBounds_toArray, List.set_cons_zero, List.set_cons_succ, i64_w, i32_w]
          rfl
        refine pure_ (i := 16) (N := some 62) (v := ?_) (a' := ?_) #[true, true, true, true, true, true, true, true, true, true, true, true, true, true, true, true, true, true, false] rfl rfl (any_of HT_.out (by kernel_rfl)) (fun _ _ _ h => h) (Or.inl ⟨by rfl, ?_⟩) ?_ ?_
        rotate_left
        · intro w'
          go_simp
          with_reducible rfl
        rotate_left
        · simp only [Act.put, List.setIfInBounds_toArray, List.set_cons_zero, List.set_cons_succ, i64_w, i32_w]
          rfl
        exact norm_ (by first | (simp only [putAll, Act.put, List.setIfInBounds_toArray, List.set_cons_zero, List.set_cons_succ]; done) | (simp only [putAll, Act.put, List.setIfInBounds_toArray, List.set_cons_zero, List.set_cons_succ]; rfl)) (hJ g7 _ HS.out)
    · skip
      refine box_step (by rfl) (N := 7) rfl (cs := #[.int .i64 0, .int .i64 0, .int .i64 0, .int .i64 0, .int .i64 0, .string (⟨#[]⟩ : ByteArray), .string (⟨#[]⟩ : ByteArray), .bool false]) (t := 36) (by first | (go_simp; done) | (go_simp; rfl)) ?_
      intro g7 hg w3 hbox hb
      have n0_ := Aside0.mk (HS.out.box hb hg hbox)
      clear HS hb hg hbox
      have HS := n0_
      clear n0_
      refine hK.out _ _ trivial (fun hHeld => ?_)
      clear hK K
      refine norm_ (a' := ?_) ?_ ?_
      rotate_left
      · show Act.put _ (some 7) _ = _
        simp only [Act.put, List.setIfInBounds_toArray, List.set_cons_zero, List.set_cons_succ, i64_w, i32_w]
        rfl
      refine one_ (i := 2) (N := some 48) #[true, true, true, true, true, false, true, true, true, true, true, true, true, true, true, false, false, true, false] rfl rfl (one_of HT_.out (by kernel_rfl)) (by decide) (fun K hK => ?_)
      refine goes_ Try.func33 (by kernel_rfl) rfl #[.string (x.f1.extract 0 4)] (by rfl) rfl rfl (by (try simp only [List.map_toArray, List.map_cons, List.map_nil]); first | done | rfl) ?_
      with_reducible refine (vitrineref06_Of.calls k (x.f1.extract 0 4) a _ HO1.out).mono ?_
      rintro e wn ⟨rfl, hdr⟩
      have hb := hdr.below
      clear hdr
      refine ⟨_, rfl, ?_⟩
      have n0_ := Aside0.mk (HS.out.step hb)
      clear HS hb
      have HS := n0_
      clear n0_
      refine hK.out _ _ trivial (fun hHeld => ?_)
      clear hK K
      refine norm_ (a' := ?_) ?_ ?_
      rotate_left
      · show Act.put _ (some 48) _ = _
        simp only [Act.put, List.setIfInBounds_toArray, List.set_cons_zero, List.set_cons_succ, i64_w, i32_w]
        rfl
      refine one_ (i := 5) (N := some 51) #[true, true, true, true, true, true, true, true, true, true, true, true, true, true, true, false, false, true, false] rfl rfl (one_of HT_.out (by kernel_rfl)) (by decide) (fun K hK => ?_)
      refine goes_ Try.func33 (by kernel_rfl) rfl #[.string (x.f1.extract 4 8)] (by rfl) rfl rfl (by (try simp only [List.map_toArray, List.map_cons, List.map_nil]); first | done | rfl) ?_
      with_reducible refine (vitrineref06_Of.calls k (x.f1.extract 4 8) b _ HO2.out).mono ?_
      rintro e wn ⟨rfl, hdr⟩
      have hb := hdr.below
      clear hdr
      refine ⟨_, rfl, ?_⟩
      have n0_ := Aside0.mk (HS.out.step hb)
      clear HS hb
      have HS := n0_
      clear n0_
      refine hK.out _ _ trivial (fun hHeld => ?_)
      clear hK K
      refine norm_ (a' := ?_) ?_ ?_
      rotate_left
      · show Act.put _ (some 51) _ = _
        simp only [Act.put, List.setIfInBounds_toArray, List.set_cons_zero, List.set_cons_succ, i64_w, i32_w]
        rfl
      refine pure_ (i := 15) (N := some 61) (v := ?_) (a' := ?_) #[true, true, true, true, true, true, true, true, true, true, true, true, true, true, true, true, false, true, false] rfl rfl (any_of HT_.out (by kernel_rfl)) (fun _ _ _ h => h) (Or.inl ⟨by rfl, ?_⟩) ?_ ?_
      rotate_left
      · intro w'
        go_simp
        with_reducible rfl
      rotate_left
      · simp only [Act.put, List.setIfInBounds_toArray, List.set_cons_zero, List.set_cons_succ, i64_w, i32_w]
        rfl
      refine pure_ (i := 16) (N := some 62) (v := ?_) (a' := ?_) #[true, true, true, true, true, true, true, true, true, true, true, true, true, true, true, true, true, true, false] rfl rfl (any_of HT_.out (by kernel_rfl)) (fun _ _ _ h => h) (Or.inl ⟨by rfl, ?_⟩) ?_ ?_
      rotate_left
      · intro w'
        go_simp
        with_reducible rfl
      rotate_left
      · simp only [Act.put, List.setIfInBounds_toArray, List.set_cons_zero, List.set_cons_succ, i64_w, i32_w]
        rfl
      exact norm_ (by first | (simp only [putAll, Act.put, List.setIfInBounds_toArray, List.set_cons_zero, List.set_cons_succ]; done) | (simp only [putAll, Act.put, List.setIfInBounds_toArray, List.set_cons_zero, List.set_cons_succ]; rfl)) (hJ g7 _ HS.out)
  rintro g7 wj hS_
  have n0_ : Aside0 (Sv w [(g7, #[.int .i64 0, .int .i64 0, .int .i64 0, .int .i64 0, .int .i64 0, .string (⟨#[]⟩ : ByteArray), .string (⟨#[]⟩ : ByteArray), .bool false], 36), (g5, #[.int .i64 0, .int .i64 0, .int .i64 0, .int .i64 0, .int .i64 0, .string (⟨#[]⟩ : ByteArray), .string (⟨#[]⟩ : ByteArray), .bool false], 36), (g2, #[.int .i64 0, .int .i64 0, .int .i64 0, .int .i64 0, .int .i64 0, .string (⟨#[]⟩ : ByteArray), .string (⟨#[]⟩ : ByteArray), .bool false], 36)] wj) := ⟨hS_⟩
  clear HS hS_
  have HS := n0_
  clear n0_
  refine norm_ (a' := ?_) ?_ ?_
  rotate_left
  · simp only [putAll, Act.put, List.setIfInBounds_toArray, List.set_cons_zero, List.set_cons_succ]
    rfl
  refine one_ (i := 18) (N := none) #[true, true, true, true, true, true, true, true, true, true, true, true, true, true, true, true, true, true, true] rfl rfl (one_of HT_.out (by kernel_rfl)) (by decide) (fun K hK => ?_)
  have y0 := (HS.out.cell 0 rfl 0).trans rfl; have k0 := HS.out.fz 0 rfl 0
  have y1 := (HS.out.cell 0 rfl 1).trans rfl; have k1 := HS.out.fz 0 rfl 1
  have y2 := (HS.out.cell 0 rfl 2).trans rfl; have k2 := HS.out.fz 0 rfl 2
  have y3 := (HS.out.cell 0 rfl 3).trans rfl; have k3 := HS.out.fz 0 rfl 3
  have y4 := (HS.out.cell 0 rfl 4).trans rfl; have k4 := HS.out.fz 0 rfl 4
  have y5 := (HS.out.cell 0 rfl 5).trans rfl; have k5 := HS.out.fz 0 rfl 5
  have y6 := (HS.out.cell 0 rfl 6).trans rfl; have k6 := HS.out.fz 0 rfl 6
  have y7 := (HS.out.cell 0 rfl 7).trans rfl; have k7 := HS.out.fz 0 rfl 7
  refine skip_ (w1 := ?_) (by rfl) rfl ?_ ?_
  rotate_left
  · go_simp
    rfl
  have n0_ : Aside0 (Sv w [(g7, shp (st0 a b (wrap64 (bt x.f1 8)) (wrap64 (bt x.f1 9)) (wrap64 (bt x.f1 12))), 36), (g5, #[.int .i64 0, .int .i64 0, .int .i64 0, .int .i64 0, .int .i64 0, .string (⟨#[]⟩ : ByteArray), .string (⟨#[]⟩ : ByteArray), .bool false], 36), (g2, #[.int .i64 0, .int .i64 0, .int .i64 0, .int .i64 0, .int .i64 0, .string (⟨#[]⟩ : ByteArray), .string (⟨#[]⟩ : ByteArray), .bool false], 36)] (World.setCell (World.setCell (World.setCell (World.setCell (World.setCell (World.setCell (World.setCell (World.setCell wj ⟨g7, 0, none⟩ (.int .i64 a)) ⟨g7, 1, none⟩ (.int .i64 b)) ⟨g7, 2, none⟩ (.int .i64 (wrap64 (bt x.f1 8)))) ⟨g7, 3, none⟩ (.int .i64 (wrap64 (bt x.f1 9)))) ⟨g7, 4, none⟩ (.int .i64 (wrap64 (bt x.f1 12)))) ⟨g7, 5, none⟩ (.string (⟨#[]⟩ : ByteArray))) ⟨g7, 6, none⟩ (.string (⟨#[]⟩ : ByteArray))) ⟨g7, 7, none⟩ (.bool false))) := ⟨(Sv.set (Sv.set (Sv.set (Sv.set (Sv.set (Sv.set (Sv.set (Sv.set HS.out 0 rfl 0 (.int .i64 a)) 0 rfl 1 (.int .i64 b)) 0 rfl 2 (.int .i64 (wrap64 (bt x.f1 8)))) 0 rfl 3 (.int .i64 (wrap64 (bt x.f1 9)))) 0 rfl 4 (.int .i64 (wrap64 (bt x.f1 12)))) 0 rfl 5 (.string (⟨#[]⟩ : ByteArray))) 0 rfl 6 (.string (⟨#[]⟩ : ByteArray))) 0 rfl 7 (.bool false))⟩
  clear HS y0 k0 y1 k1 y2 k2 y3 k3 y4 k4 y5 k5 y6 k6 y7 k7
  have HS := n0_
  clear n0_
  generalize (World.setCell (World.setCell (World.setCell (World.setCell (World.setCell (World.setCell (World.setCell (World.setCell wj ⟨g7, 0, none⟩ (.int .i64 a)) ⟨g7, 1, none⟩ (.int .i64 b)) ⟨g7, 2, none⟩ (.int .i64 (wrap64 (bt x.f1 8)))) ⟨g7, 3, none⟩ (.int .i64 (wrap64 (bt x.f1 9)))) ⟨g7, 4, none⟩ (.int .i64 (wrap64 (bt x.f1 12)))) ⟨g7, 5, none⟩ (.string (⟨#[]⟩ : ByteArray))) ⟨g7, 6, none⟩ (.string (⟨#[]⟩ : ByteArray))) ⟨g7, 7, none⟩ (.bool false)) = w5 at HS ⊢
  refine hK.out _ _ trivial (fun hHeld => ?_)
  clear hK K
  refine done_ (done_of HT_.out (by kernel_rfl)) ?_
  clear HT_ HW_ hHeld
  have y0 := (HS.out.cell 0 rfl 0).trans (show (shp (st0 a b (wrap64 (bt x.f1 8)) (wrap64 (bt x.f1 9)) (wrap64 (bt x.f1 12))))[0]? = some (.int .i64 a) from rfl)
  have y1 := (HS.out.cell 0 rfl 1).trans (show (shp (st0 a b (wrap64 (bt x.f1 8)) (wrap64 (bt x.f1 9)) (wrap64 (bt x.f1 12))))[1]? = some (.int .i64 b) from rfl)
  have y2 := (HS.out.cell 0 rfl 2).trans (show (shp (st0 a b (wrap64 (bt x.f1 8)) (wrap64 (bt x.f1 9)) (wrap64 (bt x.f1 12))))[2]? = some (.int .i64 (wrap64 (bt x.f1 8))) from rfl)
  have y3 := (HS.out.cell 0 rfl 3).trans (show (shp (st0 a b (wrap64 (bt x.f1 8)) (wrap64 (bt x.f1 9)) (wrap64 (bt x.f1 12))))[3]? = some (.int .i64 (wrap64 (bt x.f1 9))) from rfl)
  have y4 := (HS.out.cell 0 rfl 4).trans (show (shp (st0 a b (wrap64 (bt x.f1 8)) (wrap64 (bt x.f1 9)) (wrap64 (bt x.f1 12))))[4]? = some (.int .i64 (wrap64 (bt x.f1 12))) from rfl)
  go_wp2_with (go_at_call 10; (with_reducible refine (vitrineref08_Right.calls k a b (wrap64 (bt x.f1 8)) (wrap64 (bt x.f1 9)) (wrap64 (bt x.f1 12)) e _ HRR.out).mono ?_); rintro e w6 ⟨rfl, hb⟩; have n0_ := Aside0.mk (HS.out.step hb); clear HS hb y0 y1 y2 y3 y4; have HS := n0_; clear n0_; have c0 := (HS.out.cell 2 rfl 0).trans (show (#[.int .i64 0, .int .i64 0, .int .i64 0, .int .i64 0, .int .i64 0, .string (⟨#[]⟩ : ByteArray), .string (⟨#[]⟩ : ByteArray), .bool false] : Array Value)[0]? = some (.int .i64 0) from rfl); have f0 := HS.out.fz 2 rfl 0; have b0 := (HS.out.cell 1 rfl 0).trans (show (#[.int .i64 0, .int .i64 0, .int .i64 0, .int .i64 0, .int .i64 0, .string (⟨#[]⟩ : ByteArray), .string (⟨#[]⟩ : ByteArray), .bool false] : Array Value)[0]? = some (.int .i64 0) from rfl); have c1 := (HS.out.cell 2 rfl 1).trans (show (#[.int .i64 0, .int .i64 0, .int .i64 0, .int .i64 0, .int .i64 0, .string (⟨#[]⟩ : ByteArray), .string (⟨#[]⟩ : ByteArray), .bool false] : Array Value)[1]? = some (.int .i64 0) from rfl); have f1 := HS.out.fz 2 rfl 1; have b1 := (HS.out.cell 1 rfl 1).trans (show (#[.int .i64 0, .int .i64 0, .int .i64 0, .int .i64 0, .int .i64 0, .string (⟨#[]⟩ : ByteArray), .string (⟨#[]⟩ : ByteArray), .bool false] : Array Value)[1]? = some (.int .i64 0) from rfl); have c2 := (HS.out.cell 2 rfl 2).trans (show (#[.int .i64 0, .int .i64 0, .int .i64 0, .int .i64 0, .int .i64 0, .string (⟨#[]⟩ : ByteArray), .string (⟨#[]⟩ : ByteArray), .bool false] : Array Value)[2]? = some (.int .i64 0) from rfl); have f2 := HS.out.fz 2 rfl 2; have b2 := (HS.out.cell 1 rfl 2).trans (show (#[.int .i64 0, .int .i64 0, .int .i64 0, .int .i64 0, .int .i64 0, .string (⟨#[]⟩ : ByteArray), .string (⟨#[]⟩ : ByteArray), .bool false] : Array Value)[2]? = some (.int .i64 0) from rfl); have c3 := (HS.out.cell 2 rfl 3).trans (show (#[.int .i64 0, .int .i64 0, .int .i64 0, .int .i64 0, .int .i64 0, .string (⟨#[]⟩ : ByteArray), .string (⟨#[]⟩ : ByteArray), .bool false] : Array Value)[3]? = some (.int .i64 0) from rfl); have f3 := HS.out.fz 2 rfl 3; have b3 := (HS.out.cell 1 rfl 3).trans (show (#[.int .i64 0, .int .i64 0, .int .i64 0, .int .i64 0, .int .i64 0, .string (⟨#[]⟩ : ByteArray), .string (⟨#[]⟩ : ByteArray), .bool false] : Array Value)[3]? = some (.int .i64 0) from rfl); have c4 := (HS.out.cell 2 rfl 4).trans (show (#[.int .i64 0, .int .i64 0, .int .i64 0, .int .i64 0, .int .i64 0, .string (⟨#[]⟩ : ByteArray), .string (⟨#[]⟩ : ByteArray), .bool false] : Array Value)[4]? = some (.int .i64 0) from rfl); have f4 := HS.out.fz 2 rfl 4; have b4 := (HS.out.cell 1 rfl 4).trans (show (#[.int .i64 0, .int .i64 0, .int .i64 0, .int .i64 0, .int .i64 0, .string (⟨#[]⟩ : ByteArray), .string (⟨#[]⟩ : ByteArray), .bool false] : Array Value)[4]? = some (.int .i64 0) from rfl); have c5 := (HS.out.cell 2 rfl 5).trans (show (#[.int .i64 0, .int .i64 0, .int .i64 0, .int .i64 0, .int .i64 0, .string (⟨#[]⟩ : ByteArray), .string (⟨#[]⟩ : ByteArray), .bool false] : Array Value)[5]? = some (.string (⟨#[]⟩ : ByteArray)) from rfl); have f5 := HS.out.fz 2 rfl 5; have b5 := (HS.out.cell 1 rfl 5).trans (show (#[.int .i64 0, .int .i64 0, .int .i64 0, .int .i64 0, .int .i64 0, .string (⟨#[]⟩ : ByteArray), .string (⟨#[]⟩ : ByteArray), .bool false] : Array Value)[5]? = some (.string (⟨#[]⟩ : ByteArray)) from rfl); have c6 := (HS.out.cell 2 rfl 6).trans (show (#[.int .i64 0, .int .i64 0, .int .i64 0, .int .i64 0, .int .i64 0, .string (⟨#[]⟩ : ByteArray), .string (⟨#[]⟩ : ByteArray), .bool false] : Array Value)[6]? = some (.string (⟨#[]⟩ : ByteArray)) from rfl); have f6 := HS.out.fz 2 rfl 6; have b6 := (HS.out.cell 1 rfl 6).trans (show (#[.int .i64 0, .int .i64 0, .int .i64 0, .int .i64 0, .int .i64 0, .string (⟨#[]⟩ : ByteArray), .string (⟨#[]⟩ : ByteArray), .bool false] : Array Value)[6]? = some (.string (⟨#[]⟩ : ByteArray)) from rfl); have c7 := (HS.out.cell 2 rfl 7).trans (show (#[.int .i64 0, .int .i64 0, .int .i64 0, .int .i64 0, .int .i64 0, .string (⟨#[]⟩ : ByteArray), .string (⟨#[]⟩ : ByteArray), .bool false] : Array Value)[7]? = some (.bool false) from rfl); have f7 := HS.out.fz 2 rfl 7; have b7 := (HS.out.cell 1 rfl 7).trans (show (#[.int .i64 0, .int .i64 0, .int .i64 0, .int .i64 0, .int .i64 0, .string (⟨#[]⟩ : ByteArray), .string (⟨#[]⟩ : ByteArray), .bool false] : Array Value)[7]? = some (.bool false) from rfl); have n5a : (g5 = g2) = False := eq_false (HS.out.ne 1 2 rfl rfl (by decide)); have n5b : (g2 = g5) = False := eq_false (fun e => HS.out.ne 1 2 rfl rfl (by decide) e.symm))
  refine bodyPost_ret (results_ctt rfl _ _ g2 36 #[.int .i64 0, .int .i64 0, .int .i64 0, .int .i64 0, .int .i64 0, .string (⟨#[]⟩ : ByteArray), .string (⟨#[]⟩ : ByteArray), .bool false] (0, 0) _ rfl (Sv.at (Sv.set (Sv.set (Sv.set (Sv.set (Sv.set (Sv.set (Sv.set (Sv.set HS.out 2 rfl 0 (.int .i64 0)) 2 rfl 1 (.int .i64 0)) 2 rfl 2 (.int .i64 0)) 2 rfl 3 (.int .i64 0)) 2 rfl 4 (.int .i64 0)) 2 rfl 5 (.string (⟨#[]⟩ : ByteArray))) 2 rfl 6 (.string (⟨#[]⟩ : ByteArray))) 2 rfl 7 (.bool false)) 2 rfl) Try.underlying36 rfl (by kernel_rfl)) rfl ?_
  exact ⟨rfl, Sv.below (Sv.set (Sv.set (Sv.set (Sv.set (Sv.set (Sv.set (Sv.set (Sv.set HS.out 2 rfl 0 (.int .i64 0)) 2 rfl 1 (.int .i64 0)) 2 rfl 2 (.int .i64 0)) 2 rfl 3 (.int .i64 0)) 2 rfl 4 (.int .i64 0)) 2 rfl 5 (.string (⟨#[]⟩ : ByteArray))) 2 rfl 6 (.string (⟨#[]⟩ : ByteArray))) 2 rfl 7 (.bool false))⟩
set_option maxHeartbeats 40000000 in
set_option maxRecDepth 100000 in
def ref_cut (k : Nat) (ad : Addr) (c : Nat) (l : List S30) (xh : S30) (a b : Int) (r : HOut) (w : World) :
    Subtype (fun G : Prop × Prop × Prop × Prop × Prop × Prop => Aside0 G.1 → Aside0 G.2.1 → Aside0 G.2.2.1 → Aside0 G.2.2.2.1 → Aside0 G.2.2.2.2.1 → Aside0 G.2.2.2.2.2 → (∀ (hx : rd_T30 l 0 = xh) (hr : Kd.C k30 w (some ad) l.length l) (hc : l.length ≤ c) (h1 : 0 < l.length) (hm : l.length ≤ 4611686018427387904) (hs : szs l ≤ 140737488355328) (hD : 0 ≤ (wrap64 (bt xh.f1 8)) ∧ (wrap64 (bt xh.f1 8)) ≤ 16) (hy : xh.f0.toList = [73, 72, 68, 82]) (hz : (xh.f1.size : Int) = 13 ∧ bt xh.f1 10 = 0 ∧ bt xh.f1 11 = 0) (ho1 : vitrineref06_Of.f k (xh.f1.extract 0 4) = some a) (ho2 : vitrineref06_Of.f k (xh.f1.extract 4 8) = some b) (hR : vitrineref08_Right.f k a b (wrap64 (bt xh.f1 8)) (wrap64 (bt xh.f1 9)) (wrap64 (bt xh.f1 12)) = some 0) (hl : refLoop (l.drop 1) (st0 a b (wrap64 (bt xh.f1 8)) (wrap64 (bt xh.f1 9)) (wrap64 (bt xh.f1 12))) = some r), Calls Try.prog 18 #[.slice (some ad) l.length c] w fun e' w' => e' = .returned (outV r) ∧ Below w.heap.size w w')) := by
  apply (fun (G0 G1 G2 G3 G4 G5 : Prop) (hh : Aside0 G0 → Aside0 G1 → Aside0 G2 → Aside0 G3 → Aside0 G4 → Aside0 G5 → (∀ (hx : rd_T30 l 0 = xh) (hr : Kd.C k30 w (some ad) l.length l) (hc : l.length ≤ c) (h1 : 0 < l.length) (hm : l.length ≤ 4611686018427387904) (hs : szs l ≤ 140737488355328) (hD : 0 ≤ (wrap64 (bt xh.f1 8)) ∧ (wrap64 (bt xh.f1 8)) ≤ 16) (hy : xh.f0.toList = [73, 72, 68, 82]) (hz : (xh.f1.size : Int) = 13 ∧ bt xh.f1 10 = 0 ∧ bt xh.f1 11 = 0) (ho1 : vitrineref06_Of.f k (xh.f1.extract 0 4) = some a) (ho2 : vitrineref06_Of.f k (xh.f1.extract 4 8) = some b) (hR : vitrineref08_Right.f k a b (wrap64 (bt xh.f1 8)) (wrap64 (bt xh.f1 9)) (wrap64 (bt xh.f1 12)) = some 0) (hl : refLoop (l.drop 1) (st0 a b (wrap64 (bt xh.f1 8)) (wrap64 (bt xh.f1 9)) (wrap64 (bt xh.f1 12))) = some r), Calls Try.prog 18 #[.slice (some ad) l.length c] w fun e' w' => e' = .returned (outV r) ∧ Below w.heap.size w w')) => (⟨(G0, G1, G2, G3, G4, G5), hh⟩ : Subtype (fun G : Prop × Prop × Prop × Prop × Prop × Prop => Aside0 G.1 → Aside0 G.2.1 → Aside0 G.2.2.1 → Aside0 G.2.2.2.1 → Aside0 G.2.2.2.2.1 → Aside0 G.2.2.2.2.2 → (∀ (hx : rd_T30 l 0 = xh) (hr : Kd.C k30 w (some ad) l.length l) (hc : l.length ≤ c) (h1 : 0 < l.length) (hm : l.length ≤ 4611686018427387904) (hs : szs l ≤ 140737488355328) (hD : 0 ≤ (wrap64 (bt xh.f1 8)) ∧ (wrap64 (bt xh.f1 8)) ≤ 16) (hy : xh.f0.toList = [73, 72, 68, 82]) (hz : (xh.f1.size : Int) = 13 ∧ bt xh.f1 10 = 0 ∧ bt xh.f1 11 = 0) (ho1 : vitrineref06_Of.f k (xh.f1.extract 0 4) = some a) (ho2 : vitrineref06_Of.f k (xh.f1.extract 4 8) = some b) (hR : vitrineref08_Right.f k a b (wrap64 (bt xh.f1 8)) (wrap64 (bt xh.f1 9)) (wrap64 (bt xh.f1 12)) = some 0) (hl : refLoop (l.drop 1) (st0 a b (wrap64 (bt xh.f1 8)) (wrap64 (bt xh.f1 9)) (wrap64 (bt xh.f1 12))) = some r), Calls Try.prog 18 #[.slice (some ad) l.length c] w fun e' w' => e' = .returned (outV r) ∧ Below w.heap.size w w'))))
  case hh =>
    intro hG0_ hG1_ hG2_ hG3_ hG4_ hG5_
    intro hx hr hc h1 hm hs hD hy hz ho1 ho2 hR hl

    have HM := Aside0.mk hm
    have HS_ := Aside0.mk hs
    have HDD := Aside0.mk hD
    have HO1 := Aside0.mk ho1
    have HO2 := Aside0.mk ho2
    have HRR := Aside0.mk hR
    have HL := Aside0.mk hl
    clear hm hs hD ho1 ho2 hR hl
    obtain ⟨ad', e_, hx0, hx1⟩ := at_T30 hr 0 (by omega) (by omega)
    have e2_ := Option.some.inj e_
    rw [← e2_] at hx0 hx1
    clear e2_ e_ ad'
    rw [hx] at hx0 hx1
    rw [show ((0 : Int)).toNat * 2 = 0 from rfl, Addr.add_zero'] at hx0 hx1
    have HX0 := Aside0.mk hx0
    have HX1 := Aside0.mk hx1
    obtain ⟨n, hn⟩ : ∃ n, l.length = n := ⟨_, rfl⟩
    have HN := Aside0.mk hn
    have HR := Aside0.mk hr
    rw [hn]
    have hn0 : 0 < n := by omega
    have t0 : ((n : Int) == 0) = false := beq_eq_false_iff_ne.mpr (by omega)
    have t1 : ¬ n = 0 := by omega
    have t2 : decide (0 < (n : Int)) = true := decide_eq_true (by omega)
    have t3 : (0 < n) = True := eq_true hn0
    have t4 : (0 < (n : Int)) = True := eq_true (by omega)
    have e0 : (xh.f0.toList == [73, 72, 68, 82]) = true := beq_iff_eq.mpr hy
    have e1 : (xh.f0.toList != [73, 72, 68, 82]) = false := bne_eq_false_iff_eq.mpr hy
    obtain ⟨z0, z1, z2⟩ := hz
    have v0 : ((xh.f1.size : Int) == 13) = true := beq_iff_eq.mpr z0
    have v1 : ((xh.f1.size : Int) != 13) = false := bne_eq_false_iff_eq.mpr z0
    have v2 : (4 ≤ (xh.f1.size : Int)) = True := eq_true (by omega)
    have v3 : decide (4 ≤ (xh.f1.size : Int)) = true := decide_eq_true (by omega)
    have v4 : (8 ≤ (xh.f1.size : Int)) = True := eq_true (by omega)
    have v5 : decide (8 ≤ (xh.f1.size : Int)) = true := decide_eq_true (by omega)
    have qa8 : (8 < xh.f1.size) = True := eq_true (by omega)
    have qb8 : (8 < (xh.f1.size : Int)) = True := eq_true (by omega)
    have qc8 : decide (8 < (xh.f1.size : Int)) = true := decide_eq_true (by omega)
    have qd8 : decide (8 < xh.f1.size) = true := decide_eq_true (by omega)
    have hx_8 : ∀ h : 8 < xh.f1.size, ((xh.f1[8]'h).toNat : Int) = bt xh.f1 8 := bt_at xh.f1 8
    have qa9 : (9 < xh.f1.size) = True := eq_true (by omega)
    have qb9 : (9 < (xh.f1.size : Int)) = True := eq_true (by omega)
    have qc9 : decide (9 < (xh.f1.size : Int)) = true := decide_eq_true (by omega)
    have qd9 : decide (9 < xh.f1.size) = true := decide_eq_true (by omega)
    have hx_9 : ∀ h : 9 < xh.f1.size, ((xh.f1[9]'h).toNat : Int) = bt xh.f1 9 := bt_at xh.f1 9
    have qa10 : (10 < xh.f1.size) = True := eq_true (by omega)
    have qb10 : (10 < (xh.f1.size : Int)) = True := eq_true (by omega)
    have qc10 : decide (10 < (xh.f1.size : Int)) = true := decide_eq_true (by omega)
    have qd10 : decide (10 < xh.f1.size) = true := decide_eq_true (by omega)
    have hx_10 : ∀ h : 10 < xh.f1.size, ((xh.f1[10]'h).toNat : Int) = bt xh.f1 10 := bt_at xh.f1 10
    have qa11 : (11 < xh.f1.size) = True := eq_true (by omega)
    have qb11 : (11 < (xh.f1.size : Int)) = True := eq_true (by omega)
    have qc11 : decide (11 < (xh.f1.size : Int)) = true := decide_eq_true (by omega)
    have qd11 : decide (11 < xh.f1.size) = true := decide_eq_true (by omega)
    have hx_11 : ∀ h : 11 < xh.f1.size, ((xh.f1[11]'h).toNat : Int) = bt xh.f1 11 := bt_at xh.f1 11
    have qa12 : (12 < xh.f1.size) = True := eq_true (by omega)
    have qb12 : (12 < (xh.f1.size : Int)) = True := eq_true (by omega)
    have qc12 : decide (12 < (xh.f1.size : Int)) = true := decide_eq_true (by omega)
    have qd12 : decide (12 < xh.f1.size) = true := decide_eq_true (by omega)
    have hx_12 : ∀ h : 12 < xh.f1.size, ((xh.f1[12]'h).toNat : Int) = bt xh.f1 12 := bt_at xh.f1 12
    have x10 : (bt xh.f1 10 == 0) = true := beq_iff_eq.mpr z1
    have x11 : (bt xh.f1 10 != 0) = false := bne_eq_false_iff_eq.mpr z1
    have y10 : (bt xh.f1 11 == 0) = true := beq_iff_eq.mpr z2
    have y11 : (bt xh.f1 11 != 0) = false := bne_eq_false_iff_eq.mpr z2
    have HS := Aside0.mk (Sv.new w)
    clear hr hc hx0 hx1 hn hy z0 z1 z2 h1
    go_enter Try.func18, Try.ntmps18
    go_upto_region 2 with (first | ((with_reducible refine gate_dst (N := 2) rfl ?_); refine box_event ?hg (N := 2) ?hd (cs := #[.int .i64 0, .int .i64 0, .int .i64 0, .int .i64 0, .int .i64 0, .string (⟨#[]⟩ : ByteArray), .string (⟨#[]⟩ : ByteArray), .bool false]) (t := 36) ?hr ?_; (case hd => rfl); (case hg => rfl); (case hr => first | (go_simp; done) | (go_simp; rfl)); intro g2 hg w1 hbox hb; have n0_ := Aside0.mk (HS.out.box hb hg hbox); clear HS hb hg hbox; have HS := n0_; clear n0_) | ((with_reducible refine gate_dst (N := 5) rfl ?_); refine box_event ?hg (N := 5) ?hd (cs := #[.int .i64 0, .int .i64 0, .int .i64 0, .int .i64 0, .int .i64 0, .string (⟨#[]⟩ : ByteArray), .string (⟨#[]⟩ : ByteArray), .bool false]) (t := 36) ?hr ?_; (case hd => rfl); (case hg => rfl); (case hr => first | (go_simp; done) | (go_simp; rfl)); intro g5 hg w2 hbox hb; have n0_ := Aside0.mk (HS.out.box hb hg hbox); clear HS hb hg hbox; have HS := n0_; clear n0_; have y0 := (HS.out.cell 0 rfl 0).trans rfl; have k0 := HS.out.fz 0 rfl 0; have y1 := (HS.out.cell 0 rfl 1).trans rfl; have k1 := HS.out.fz 0 rfl 1; have y2 := (HS.out.cell 0 rfl 2).trans rfl; have k2 := HS.out.fz 0 rfl 2; have y3 := (HS.out.cell 0 rfl 3).trans rfl; have k3 := HS.out.fz 0 rfl 3; have y4 := (HS.out.cell 0 rfl 4).trans rfl; have k4 := HS.out.fz 0 rfl 4; have y5 := (HS.out.cell 0 rfl 5).trans rfl; have k5 := HS.out.fz 0 rfl 5; have y6 := (HS.out.cell 0 rfl 6).trans rfl; have k6 := HS.out.fz 0 rfl 6; have y7 := (HS.out.cell 0 rfl 7).trans rfl; have k7 := HS.out.fz 0 rfl 7))
    have n0_ : Aside0 (Sv w [(g5, #[.int .i64 0, .int .i64 0, .int .i64 0, .int .i64 0, .int .i64 0, .string (⟨#[]⟩ : ByteArray), .string (⟨#[]⟩ : ByteArray), .bool false], 36), (g2, #[.int .i64 0, .int .i64 0, .int .i64 0, .int .i64 0, .int .i64 0, .string (⟨#[]⟩ : ByteArray), .string (⟨#[]⟩ : ByteArray), .bool false], 36)] (World.setCell (World.setCell (World.setCell (World.setCell (World.setCell (World.setCell (World.setCell (World.setCell w2 ⟨g5, 0, none⟩ (.int .i64 0)) ⟨g5, 1, none⟩ (.int .i64 0)) ⟨g5, 2, none⟩ (.int .i64 0)) ⟨g5, 3, none⟩ (.int .i64 0)) ⟨g5, 4, none⟩ (.int .i64 0)) ⟨g5, 5, none⟩ (.string (⟨#[]⟩ : ByteArray))) ⟨g5, 6, none⟩ (.string (⟨#[]⟩ : ByteArray))) ⟨g5, 7, none⟩ (.bool false))) := ⟨(Sv.set (Sv.set (Sv.set (Sv.set (Sv.set (Sv.set (Sv.set (Sv.set HS.out 0 rfl 0 (.int .i64 0)) 0 rfl 1 (.int .i64 0)) 0 rfl 2 (.int .i64 0)) 0 rfl 3 (.int .i64 0)) 0 rfl 4 (.int .i64 0)) 0 rfl 5 (.string (⟨#[]⟩ : ByteArray))) 0 rfl 6 (.string (⟨#[]⟩ : ByteArray))) 0 rfl 7 (.bool false))⟩
    clear HS y0 k0 y1 k1 y2 k2 y3 k3 y4 k4 y5 k5 y6 k6 y7 k7
    have HS := n0_
    clear n0_
    (try simp only [Act.put, List.setIfInBounds_toArray, List.set_cons_zero, List.set_cons_succ])
    generalize (World.setCell (World.setCell (World.setCell (World.setCell (World.setCell (World.setCell (World.setCell (World.setCell w2 ⟨g5, 0, none⟩ (.int .i64 0)) ⟨g5, 1, none⟩ (.int .i64 0)) ⟨g5, 2, none⟩ (.int .i64 0)) ⟨g5, 3, none⟩ (.int .i64 0)) ⟨g5, 4, none⟩ (.int .i64 0)) ⟨g5, 5, none⟩ (.string (⟨#[]⟩ : ByteArray))) ⟨g5, 6, none⟩ (.string (⟨#[]⟩ : ByteArray))) ⟨g5, 7, none⟩ (.bool false)) = w3 at HS ⊢
    have x0 := pw_cell_below HS.out.below HX0.out
    have x1 := pw_cell_below HS.out.below HX1.out
    have n0 := (HS.out.cell 0 rfl 0).trans rfl
    go_wp2
    have n0_ := Aside0.mk HS.out.drew
    clear HS x0 x1 n0
    have HS := n0_
    clear n0_
    refine start_ (n := 19) (S := fun _ => True) (ds := []) #[false, false, false, false, false, false, false, false, false, false, false, false, false, false, false, false, false, false, false] (by kernel_rfl) rfl rfl trivial (fun hHeld => ?_)
    refine with_tabW vitrineref08_Read.tab7 vitrineref08_Read.bits7 (fun HT_ HW_ => ?_)
    generalize World.drew _ = w4 at HS hHeld ⊢
    refine pure_ (i := 0) (N := some 46) (v := ?_) (a' := ?_) #[true, false, false, false, false, false, false, false, false, false, false, false, false, false, false, false, false, false, false] rfl rfl (any_of HT_.out (by kernel_rfl)) (fun _ _ _ h => h) (Or.inl ⟨by rfl, ?_⟩) ?_ ?_
    rotate_left
    · intro w'
      go_simp
      with_reducible rfl
    rotate_left
    · simp only [Act.put, List.setIfInBounds_toArray, List.set_cons_zero, List.set_cons_succ, i64_w, i32_w]
      rfl
    refine pure_ (i := 1) (N := some 47) (v := ?_) (a' := ?_) #[true, true, false, false, false, false, false, false, false, false, false, false, false, false, false, false, false, false, false] rfl rfl (any_of HT_.out (by kernel_rfl)) (fun _ _ _ h => h) (Or.inl ⟨by rfl, ?_⟩) ?_ ?_
    rotate_left
    · intro w'
      go_simp
      with_reducible rfl
    rotate_left
    · simp only [Act.put, List.setIfInBounds_toArray, List.set_cons_zero, List.set_cons_succ, i64_w, i32_w]
      rfl
    refine pure_ (i := 3) (N := some 49) (v := ?_) (a' := ?_) #[true, true, false, true, false, false, false, false, false, false, false, false, false, false, false, false, false, false, false] rfl rfl (any_of HT_.out (by kernel_rfl)) (fun _ _ _ h => h) (Or.inl ⟨by rfl, ?_⟩) ?_ ?_
    rotate_left
    · intro w'
      go_simp
      with_reducible rfl
    rotate_left
    · simp only [Act.put, List.setIfInBounds_toArray, List.set_cons_zero, List.set_cons_succ, i64_w, i32_w]
      rfl
    refine pure_ (i := 4) (N := some 50) (v := ?_) (a' := ?_) #[true, true, false, true, true, false, false, false, false, false, false, false, false, false, false, false, false, false, false] rfl rfl (any_of HT_.out (by kernel_rfl)) (fun _ _ _ h => h) (Or.inl ⟨by rfl, ?_⟩) ?_ ?_
    rotate_left
    · intro w'
      go_simp
      with_reducible rfl
    rotate_left
    · simp only [Act.put, List.setIfInBounds_toArray, List.set_cons_zero, List.set_cons_succ, i64_w, i32_w]
      rfl
    refine pure_ (i := 6) (N := some 52) (v := ?_) (a' := ?_) #[true, true, false, true, true, false, true, false, false, false, false, false, false, false, false, false, false, false, false] rfl rfl (any_of HT_.out (by kernel_rfl)) (fun _ _ _ h => h) (Or.inl ⟨by rfl, ?_⟩) ?_ ?_
    rotate_left
    · intro w'
      go_simp
      with_reducible rfl
    rotate_left
    · simp only [Act.put, List.setIfInBounds_toArray, List.set_cons_zero, List.set_cons_succ, i64_w, i32_w]
      rfl
    refine pure_ (i := 7) (N := some 53) (v := ?_) (a' := ?_) #[true, true, false, true, true, false, true, true, false, false, false, false, false, false, false, false, false, false, false] rfl rfl (any_of HT_.out (by kernel_rfl)) (fun _ _ _ h => h) (Or.inl ⟨by rfl, ?_⟩) ?_ ?_
    rotate_left
    · intro w'
      go_simp
      with_reducible rfl
    rotate_left
    · simp only [Act.put, List.setIfInBounds_toArray, List.set_cons_zero, List.set_cons_succ, i64_w, i32_w]
      rfl
    refine pure_ (i := 8) (N := some 54) (v := ?_) (a' := ?_) #[true, true, false, true, true, false, true, true, true, false, false, false, false, false, false, false, false, false, false] rfl rfl (any_of HT_.out (by kernel_rfl)) (fun _ _ _ h => h) (Or.inl ⟨by rfl, ?_⟩) ?_ ?_
    rotate_left
    · intro w'
      go_simp
      with_reducible rfl
    rotate_left
    · simp only [Act.put, List.setIfInBounds_toArray, List.set_cons_zero, List.set_cons_succ, i64_w, i32_w]
      rfl
    refine pure_ (i := 9) (N := some 55) (v := ?_) (a' := ?_) #[true, true, false, true, true, false, true, true, true, true, false, false, false, false, false, false, false, false, false] rfl rfl (any_of HT_.out (by kernel_rfl)) (fun _ _ _ h => h) (Or.inl ⟨by rfl, ?_⟩) ?_ ?_
    rotate_left
    · intro w'
      go_simp
      with_reducible rfl
    rotate_left
    · simp only [Act.put, List.setIfInBounds_toArray, List.set_cons_zero, List.set_cons_succ, i64_w, i32_w]
      rfl
    refine pure_ (i := 10) (N := some 56) (v := ?_) (a' := ?_) #[true, true, false, true, true, false, true, true, true, true, true, false, false, false, false, false, false, false, false] rfl rfl (any_of HT_.out (by kernel_rfl)) (fun _ _ _ h => h) (Or.inl ⟨by rfl, ?_⟩) ?_ ?_
    rotate_left
    · intro w'
      go_simp
      with_reducible rfl
    rotate_left
    · simp only [Act.put, List.setIfInBounds_toArray, List.set_cons_zero, List.set_cons_succ, i64_w, i32_w]
      rfl
    refine pure_ (i := 11) (N := some 57) (v := ?_) (a' := ?_) #[true, true, false, true, true, false, true, true, true, true, true, true, false, false, false, false, false, false, false] rfl rfl (any_of HT_.out (by kernel_rfl)) (fun _ _ _ h => h) (Or.inl ⟨by rfl, ?_⟩) ?_ ?_
    rotate_left
    · intro w'
      go_simp
      with_reducible rfl
    rotate_left
    · simp only [Act.put, List.setIfInBounds_toArray, List.set_cons_zero, List.set_cons_succ, i64_w, i32_w]
      rfl
    refine pure_ (i := 12) (N := some 58) (v := ?_) (a' := ?_) #[true, true, false, true, true, false, true, true, true, true, true, true, true, false, false, false, false, false, false] rfl rfl (any_of HT_.out (by kernel_rfl)) (fun _ _ _ h => h) (Or.inl ⟨by rfl, ?_⟩) ?_ ?_
    rotate_left
    · intro w'
      go_simp
      with_reducible rfl
    rotate_left
    · simp only [Act.put, List.setIfInBounds_toArray, List.set_cons_zero, List.set_cons_succ, i64_w, i32_w]
      rfl
    refine pure_ (i := 13) (N := some 59) (v := ?_) (a' := ?_) #[true, true, false, true, true, false, true, true, true, true, true, true, true, true, false, false, false, false, false] rfl rfl (any_of HT_.out (by kernel_rfl)) (fun _ _ _ h => h) (Or.inl ⟨by rfl, ?_⟩) ?_ ?_
    rotate_left
    · intro w'
      go_simp
      with_reducible rfl
    rotate_left
    · simp only [Act.put, List.setIfInBounds_toArray, List.set_cons_zero, List.set_cons_succ, i64_w, i32_w]
      rfl
    refine pure_ (i := 14) (N := some 60) (v := ?_) (a' := ?_) #[true, true, false, true, true, false, true, true, true, true, true, true, true, true, true, false, false, false, false] rfl rfl (any_of HT_.out (by kernel_rfl)) (fun _ _ _ h => h) (Or.inl ⟨by rfl, ?_⟩) ?_ ?_
    rotate_left
    · intro w'
      go_simp
      with_reducible rfl
    rotate_left
    · simp only [Act.put, List.setIfInBounds_toArray, List.set_cons_zero, List.set_cons_succ, i64_w, i32_w]
      rfl
    refine join_ (σ := Nat) 1 #[true, true, true, true, true, true, true, true, true, true, true, true, true, true, true, true, true, true, false] (fun s_ => [(48, .int .i64 a), (51, .int .i64 b), (61, .agg #[.int .i64 a, .int .i64 b, .int .i64 (wrap64 (bt xh.f1 8)), .int .i64 (wrap64 (bt xh.f1 9)), .int .i64 (wrap64 (bt xh.f1 12))]), (62, .agg #[.int .i64 a, .int .i64 b, .int .i64 (wrap64 (bt xh.f1 8)), .int .i64 (wrap64 (bt xh.f1 9)), .int .i64 (wrap64 (bt xh.f1 12)), .string (⟨#[]⟩ : ByteArray), .string (⟨#[]⟩ : ByteArray), .bool false]), (7, .pointer (some ⟨s_, 0, none⟩))]) (fun s_ w' => Sv w [(s_, #[.int .i64 0, .int .i64 0, .int .i64 0, .int .i64 0, .int .i64 0, .string (⟨#[]⟩ : ByteArray), .string (⟨#[]⟩ : ByteArray), .bool false], 36), (g5, #[.int .i64 0, .int .i64 0, .int .i64 0, .int .i64 0, .int .i64 0, .string (⟨#[]⟩ : ByteArray), .string (⟨#[]⟩ : ByteArray), .bool false], 36), (g2, #[.int .i64 0, .int .i64 0, .int .i64 0, .int .i64 0, .int .i64 0, .string (⟨#[]⟩ : ByteArray), .string (⟨#[]⟩ : ByteArray), .bool false], 36)] w') ?_ ?_
    rotate_left
    · intro hJ
      refine two_ (i := 2) (j := 17) (Ni := some 48) (Nj := some 7) #[true, true, true, true, true, false, true, true, true, true, true, true, true, true, true, false, false, false, false] #[true, true, false, true, true, false, true, true, true, true, true, true, true, true, true, false, false, true, false] rfl rfl rfl rfl (two_of HT_.out (by kernel_rfl)) (by decide) (by decide) (fun K hK => ?_) (fun K hK => ?_)
      · skip
        refine goes_ Try.func33 (by kernel_rfl) rfl #[.string (xh.f1.extract 0 4)] (by rfl) rfl rfl (by (try simp only [List.map_toArray, List.map_cons, List.map_nil]); first | done | rfl) ?_
        with_reducible refine (vitrineref06_Of.calls k (xh.f1.extract 0 4) a _ HO1.out).mono ?_
        rintro e wn ⟨rfl, hdr⟩
        have hb := hdr.below
        clear hdr
        refine ⟨_, rfl, ?_⟩
        have n0_ := Aside0.mk (HS.out.step hb)
        clear HS hb
        have HS := n0_
        clear n0_
        refine hK.out _ _ trivial (fun hHeld => ?_)
        clear hK K
        refine norm_ (a' := ?_) ?_ ?_
        rotate_left
        · show Act.put _ (some 48) _ = _
          simp only [Act.put, List.setIfInBounds_toArray, List.set_cons_zero, List.set_cons_succ, i64_w, i32_w]
          rfl
        refine two_ (i := 5) (j := 17) (Ni := some 51) (Nj := some 7) #[true, true, true, true, true, true, true, true, true, true, true, true, true, true, true, false, false, false, false] #[true, true, true, true, true, false, true, true, true, true, true, true, true, true, true, false, false, true, false] rfl rfl rfl rfl (two_of HT_.out (by kernel_rfl)) (by decide) (by decide) (fun K hK => ?_) (fun K hK => ?_)
        · skip
          refine goes_ Try.func33 (by kernel_rfl) rfl #[.string (xh.f1.extract 4 8)] (by rfl) rfl rfl (by (try simp only [List.map_toArray, List.map_cons, List.map_nil]); first | done | rfl) ?_
          with_reducible refine (vitrineref06_Of.calls k (xh.f1.extract 4 8) b _ HO2.out).mono ?_
          rintro e wn ⟨rfl, hdr⟩
          have hb := hdr.below
          clear hdr
          refine ⟨_, rfl, ?_⟩
          have n0_ := Aside0.mk (HS.out.step hb)
          clear HS hb
          have HS := n0_
          clear n0_
          refine hK.out _ _ trivial (fun hHeld => ?_)
          clear hK K
          refine norm_ (a' := ?_) ?_ ?_
          rotate_left
          · show Act.put _ (some 51) _ = _
            simp only [Act.put, List.setIfInBounds_toArray, List.set_cons_zero, List.set_cons_succ, i64_w, i32_w]
            rfl
          refine pure_ (i := 15) (N := some 61) (v := ?_) (a' := ?_) #[true, true, true, true, true, true, true, true, true, true, true, true, true, true, true, true, false, false, false] rfl rfl (any_of HT_.out (by kernel_rfl)) (fun _ _ _ h => h) (Or.inl ⟨by rfl, ?_⟩) ?_ ?_
          rotate_left
          · intro w'
            go_simp
            with_reducible rfl
          rotate_left
          · simp only [Act.put, List.setIfInBounds_toArray, List.set_cons_zero, List.set_cons_succ, i64_w, i32_w]
            rfl
          refine pure_ (i := 16) (N := some 62) (v := ?_) (a' := ?_) #[true, true, true, true, true, true, true, true, true, true, true, true, true, true, true, true, true, false, false] rfl rfl (any_of HT_.out (by kernel_rfl)) (fun _ _ _ h => h) (Or.inl ⟨by rfl, ?_⟩) ?_ ?_
          rotate_left
          · intro w'
            go_simp
            with_reducible rfl
          rotate_left
          · simp only [Act.put, List.setIfInBounds_toArray, List.set_cons_zero, List.set_cons_succ, i64_w, i32_w]
            rfl
          refine one_ (i := 17) (N := some 7) #[true, true, true, true, true, true, true, true, true, true, true, true, true, true, true, true, true, true, false] rfl rfl (one_of HT_.out (by kernel_rfl)) (by decide) (fun K hK => ?_)
          refine box_step (by rfl) (N := 7) rfl (cs := #[.int .i64 0, .int .i64 0, .int .i64 0, .int .i64 0, .int .i64 0, .string (⟨#[]⟩ : ByteArray), .string (⟨#[]⟩ : ByteArray), .bool false]) (t := 36) (by first | (go_simp; done) | (go_simp; rfl)) ?_
          intro g7 hg w1 hbox hb
          have n0_ := Aside0.mk (HS.out.box hb hg hbox)
          clear HS hb hg hbox
          have HS := n0_
          clear n0_
          refine hK.out _ _ trivial (fun hHeld => ?_)
          clear hK K
          refine norm_ (a' := ?_) ?_ ?_
          rotate_left
          · show Act.put _ (some 7) _ = _
            simp only [Act.put, List.setIfInBounds_toArray, List.set_cons_zero, List.set_cons_succ, i64_w, i32_w]
            rfl
          exact norm_ (by first | (simp only [putAll, Act.put, List.setIfInBounds_toArray, List.set_cons_zero, List.set_cons_succ]; done) | (simp only [putAll, Act.put, List.setIfInBounds_toArray, List.set_cons_zero, List.set_cons_succ]; rfl)) (hJ g7 _ HS.out)
        · skip
          refine box_step (by rfl) (N := 7) rfl (cs := #[.int .i64 0, .int .i64 0, .int .i64 0, .int .i64 0, .int .i64 0, .string (⟨#[]⟩ : ByteArray), .string (⟨#[]⟩ : ByteArray), .bool false]) (t := 36) (by first | (go_simp; done) | (go_simp; rfl)) ?_
          intro g7 hg w2 hbox hb
          have n0_ := Aside0.mk (HS.out.box hb hg hbox)
          clear HS hb hg hbox
          have HS := n0_
          clear n0_
          refine hK.out _ _ trivial (fun hHeld => ?_)
          clear hK K
          refine norm_ (a' := ?_) ?_ ?_
          rotate_left
          · show Act.put _ (some 7) _ = _
            simp only [Act.put, List.setIfInBounds_toArray, List.set_cons_zero, List.set_cons_succ, i64_w, i32_w]
            rfl
          refine one_ (i := 5) (N := some 51) #[true, true, true, true, true, true, true, true, true, true, true, true, true, true, true, false, false, true, false] rfl rfl (one_of HT_.out (by kernel_rfl)) (by decide) (fun K hK => ?_)
          refine goes_ Try.func33 (by kernel_rfl) rfl #[.string (xh.f1.extract 4 8)] (by rfl) rfl rfl (by (try simp only [List.map_toArray, List.map_cons, List.map_nil]); first | done | rfl) ?_
          with_reducible refine (vitrineref06_Of.calls k (xh.f1.extract 4 8) b _ HO2.out).mono ?_
          rintro e wn ⟨rfl, hdr⟩
          have hb := hdr.below
          clear hdr
          refine ⟨_, rfl, ?_⟩
          have n0_ := Aside0.mk (HS.out.step hb)
          clear HS hb
          have HS := n0_
          clear n0_
          refine hK.out _ _ trivial (fun hHeld => ?_)
          clear hK K
          refine norm_ (a' := ?_) ?_ ?_
          rotate_left
          · show Act.put _ (some 51) _ = _
            simp only [Act.put, List.setIfInBounds_toArray, List.set_cons_zero, List.set_cons_succ, i64_w, i32_w]
            rfl
          refine pure_ (i := 15) (N := some 61) (v := ?_) (a' := ?_) #[true, true, true, true, true, true, true, true, true, true, true, true, true, true, true, true, false, true, false] rfl rfl (any_of HT_.out (by kernel_rfl)) (fun _ _ _ h => h) (Or.inl ⟨by rfl, ?_⟩) ?_ ?_
          rotate_left
          · intro w'
            go_simp
            with_reducible rfl
          rotate_left
          · simp only [Act.put, List.setIfInBounds_toArray, List.set_cons_zero, List.set_cons_succ, i64_w, i32_w]
            rfl
          refine pure_ (i := 16) (N := some 62) (v := ?_) (a' := ?_) #[true, true, true, true, true, true, true, true, true, true, true, true, true, true, true, true, true, true, false] rfl rfl (any_of HT_.out (by kernel_rfl)) (fun _ _ _ h => h) (Or.inl ⟨by rfl, ?_⟩) ?_ ?_
          rotate_left
          · intro w'
            go_simp
            with_reducible rfl
          rotate_left
          · simp only [Act.put, List.setIfInBounds_toArray, List.set_cons_zero, List.set_cons_succ, i64_w, i32_w]
            rfl
          exact norm_ (by first | (simp only [putAll, Act.put, List.setIfInBounds_toArray, List.set_cons_zero, List.set_cons_succ]; done) | (simp only [putAll, Act.put, List.setIfInBounds_toArray, List.set_cons_zero, List.set_cons_succ]; rfl)) (hJ g7 _ HS.out)
      · skip
        refine box_step (by rfl) (N := 7) rfl (cs := #[.int .i64 0, .int .i64 0, .int .i64 0, .int .i64 0, .int .i64 0, .string (⟨#[]⟩ : ByteArray), .string (⟨#[]⟩ : ByteArray), .bool false]) (t := 36) (by first | (go_simp; done) | (go_simp; rfl)) ?_
        intro g7 hg w3 hbox hb
        have n0_ := Aside0.mk (HS.out.box hb hg hbox)
        clear HS hb hg hbox
        have HS := n0_
        clear n0_
        refine hK.out _ _ trivial (fun hHeld => ?_)
        clear hK K
        refine norm_ (a' := ?_) ?_ ?_
        rotate_left
        · show Act.put _ (some 7) _ = _
          simp only [Act.put, List.setIfInBounds_toArray, List.set_cons_zero, List.set_cons_succ, i64_w, i32_w]
          rfl
        refine one_ (i := 2) (N := some 48) #[true, true, true, true, true, false, true, true, true, true, true, true, true, true, true, false, false, true, false] rfl rfl (one_of HT_.out (by kernel_rfl)) (by decide) (fun K hK => ?_)
        refine goes_ Try.func33 (by kernel_rfl) rfl #[.string (xh.f1.extract 0 4)] (by rfl) rfl rfl (by (try simp only [List.map_toArray, List.map_cons, List.map_nil]); first | done | rfl) ?_
        with_reducible refine (vitrineref06_Of.calls k (xh.f1.extract 0 4) a _ HO1.out).mono ?_
        rintro e wn ⟨rfl, hdr⟩
        have hb := hdr.below
        clear hdr
        refine ⟨_, rfl, ?_⟩
        have n0_ := Aside0.mk (HS.out.step hb)
        clear HS hb
        have HS := n0_
        clear n0_
        refine hK.out _ _ trivial (fun hHeld => ?_)
        clear hK K
        refine norm_ (a' := ?_) ?_ ?_
        rotate_left
        · show Act.put _ (some 48) _ = _
          simp only [Act.put, List.setIfInBounds_toArray, List.set_cons_zero, List.set_cons_succ, i64_w, i32_w]
          rfl
        refine one_ (i := 5) (N := some 51) #[true, true, true, true, true, true, true, true, true, true, true, true, true, true, true, false, false, true, false] rfl rfl (one_of HT_.out (by kernel_rfl)) (by decide) (fun K hK => ?_)
        refine goes_ Try.func33 (by kernel_rfl) rfl #[.string (xh.f1.extract 4 8)] (by rfl) rfl rfl (by (try simp only [List.map_toArray, List.map_cons, List.map_nil]); first | done | rfl) ?_
        with_reducible refine (vitrineref06_Of.calls k (xh.f1.extract 4 8) b _ HO2.out).mono ?_
        rintro e wn ⟨rfl, hdr⟩
        have hb := hdr.below
        clear hdr
        refine ⟨_, rfl, ?_⟩
        have n0_ := Aside0.mk (HS.out.step hb)
        clear HS hb
        have HS := n0_
        clear n0_
        refine hK.out _ _ trivial (fun hHeld => ?_)
        clear hK K
        refine norm_ (a' := ?_) ?_ ?_
        rotate_left
        · show Act.put _ (some 51) _ = _
          simp only [Act.put, List.setIfInBounds_toArray, List.set_cons_zero, List.set_cons_succ, i64_w, i32_w]
          rfl
        refine pure_ (i := 15) (N := some 61) (v := ?_) (a' := ?_) #[true, true, true, true, true, true, true, true, true, true, true, true, true, true, true, true, false, true, false] rfl rfl (any_of HT_.out (by kernel_rfl)) (fun _ _ _ h => h) (Or.inl ⟨by rfl, ?_⟩) ?_ ?_
        rotate_left
        · intro w'
          go_simp
          with_reducible rfl
        rotate_left
        · simp only [Act.put, List.setIfInBounds_toArray, List.set_cons_zero, List.set_cons_succ, i64_w, i32_w]
          rfl
        refine pure_ (i := 16) (N := some 62) (v := ?_) (a' := ?_) #[true, true, true, true, true, true, true, true, true, true, true, true, true, true, true, true, true, true, false] rfl rfl (any_of HT_.out (by kernel_rfl)) (fun _ _ _ h => h) (Or.inl ⟨by rfl, ?_⟩) ?_ ?_
        rotate_left
        · intro w'
          go_simp
          with_reducible rfl
        rotate_left
        · simp only [Act.put, List.setIfInBounds_toArray, List.set_cons_zero, List.set_cons_succ, i64_w, i32_w]
          rfl
        exact norm_ (by first | (simp only [putAll, Act.put, List.setIfInBounds_toArray, List.set_cons_zero, List.set_cons_succ]; done) | (simp only [putAll, Act.put, List.setIfInBounds_toArray, List.set_cons_zero, List.set_cons_succ]; rfl)) (hJ g7 _ HS.out)
    rintro g7 wj hS_
    have n0_ : Aside0 (Sv w [(g7, #[.int .i64 0, .int .i64 0, .int .i64 0, .int .i64 0, .int .i64 0, .string (⟨#[]⟩ : ByteArray), .string (⟨#[]⟩ : ByteArray), .bool false], 36), (g5, #[.int .i64 0, .int .i64 0, .int .i64 0, .int .i64 0, .int .i64 0, .string (⟨#[]⟩ : ByteArray), .string (⟨#[]⟩ : ByteArray), .bool false], 36), (g2, #[.int .i64 0, .int .i64 0, .int .i64 0, .int .i64 0, .int .i64 0, .string (⟨#[]⟩ : ByteArray), .string (⟨#[]⟩ : ByteArray), .bool false], 36)] wj) := ⟨hS_⟩
    clear HS hS_
    have HS := n0_
    clear n0_
    refine norm_ (a' := ?_) ?_ ?_
    rotate_left
    · simp only [putAll, Act.put, List.setIfInBounds_toArray, List.set_cons_zero, List.set_cons_succ]
      rfl
    refine one_ (i := 18) (N := none) #[true, true, true, true, true, true, true, true, true, true, true, true, true, true, true, true, true, true, true] rfl rfl (one_of HT_.out (by kernel_rfl)) (by decide) (fun K hK => ?_)
    have y0 := (HS.out.cell 0 rfl 0).trans rfl; have k0 := HS.out.fz 0 rfl 0
    have y1 := (HS.out.cell 0 rfl 1).trans rfl; have k1 := HS.out.fz 0 rfl 1
    have y2 := (HS.out.cell 0 rfl 2).trans rfl; have k2 := HS.out.fz 0 rfl 2
    have y3 := (HS.out.cell 0 rfl 3).trans rfl; have k3 := HS.out.fz 0 rfl 3
    have y4 := (HS.out.cell 0 rfl 4).trans rfl; have k4 := HS.out.fz 0 rfl 4
    have y5 := (HS.out.cell 0 rfl 5).trans rfl; have k5 := HS.out.fz 0 rfl 5
    have y6 := (HS.out.cell 0 rfl 6).trans rfl; have k6 := HS.out.fz 0 rfl 6
    have y7 := (HS.out.cell 0 rfl 7).trans rfl; have k7 := HS.out.fz 0 rfl 7
    refine skip_ (w1 := ?_) (by rfl) rfl ?_ ?_
    rotate_left
    · go_simp
      rfl
    have n0_ : Aside0 (Sv w [(g7, shp (st0 a b (wrap64 (bt xh.f1 8)) (wrap64 (bt xh.f1 9)) (wrap64 (bt xh.f1 12))), 36), (g5, #[.int .i64 0, .int .i64 0, .int .i64 0, .int .i64 0, .int .i64 0, .string (⟨#[]⟩ : ByteArray), .string (⟨#[]⟩ : ByteArray), .bool false], 36), (g2, #[.int .i64 0, .int .i64 0, .int .i64 0, .int .i64 0, .int .i64 0, .string (⟨#[]⟩ : ByteArray), .string (⟨#[]⟩ : ByteArray), .bool false], 36)] (World.setCell (World.setCell (World.setCell (World.setCell (World.setCell (World.setCell (World.setCell (World.setCell wj ⟨g7, 0, none⟩ (.int .i64 a)) ⟨g7, 1, none⟩ (.int .i64 b)) ⟨g7, 2, none⟩ (.int .i64 (wrap64 (bt xh.f1 8)))) ⟨g7, 3, none⟩ (.int .i64 (wrap64 (bt xh.f1 9)))) ⟨g7, 4, none⟩ (.int .i64 (wrap64 (bt xh.f1 12)))) ⟨g7, 5, none⟩ (.string (⟨#[]⟩ : ByteArray))) ⟨g7, 6, none⟩ (.string (⟨#[]⟩ : ByteArray))) ⟨g7, 7, none⟩ (.bool false))) := ⟨(Sv.set (Sv.set (Sv.set (Sv.set (Sv.set (Sv.set (Sv.set (Sv.set HS.out 0 rfl 0 (.int .i64 a)) 0 rfl 1 (.int .i64 b)) 0 rfl 2 (.int .i64 (wrap64 (bt xh.f1 8)))) 0 rfl 3 (.int .i64 (wrap64 (bt xh.f1 9)))) 0 rfl 4 (.int .i64 (wrap64 (bt xh.f1 12)))) 0 rfl 5 (.string (⟨#[]⟩ : ByteArray))) 0 rfl 6 (.string (⟨#[]⟩ : ByteArray))) 0 rfl 7 (.bool false))⟩
    clear HS y0 k0 y1 k1 y2 k2 y3 k3 y4 k4 y5 k5 y6 k6 y7 k7
    have HS := n0_
    clear n0_
    generalize (World.setCell (World.setCell (World.setCell (World.setCell (World.setCell (World.setCell (World.setCell (World.setCell wj ⟨g7, 0, none⟩ (.int .i64 a)) ⟨g7, 1, none⟩ (.int .i64 b)) ⟨g7, 2, none⟩ (.int .i64 (wrap64 (bt xh.f1 8)))) ⟨g7, 3, none⟩ (.int .i64 (wrap64 (bt xh.f1 9)))) ⟨g7, 4, none⟩ (.int .i64 (wrap64 (bt xh.f1 12)))) ⟨g7, 5, none⟩ (.string (⟨#[]⟩ : ByteArray))) ⟨g7, 6, none⟩ (.string (⟨#[]⟩ : ByteArray))) ⟨g7, 7, none⟩ (.bool false)) = w5 at HS ⊢
    refine hK.out _ _ trivial (fun hHeld => ?_)
    clear hK K
    refine done_ (done_of HT_.out (by kernel_rfl)) ?_
    clear HT_ HW_ hHeld
    have y0 := (HS.out.cell 0 rfl 0).trans (show (shp (st0 a b (wrap64 (bt xh.f1 8)) (wrap64 (bt xh.f1 9)) (wrap64 (bt xh.f1 12))))[0]? = some (.int .i64 a) from rfl)
    have y1 := (HS.out.cell 0 rfl 1).trans (show (shp (st0 a b (wrap64 (bt xh.f1 8)) (wrap64 (bt xh.f1 9)) (wrap64 (bt xh.f1 12))))[1]? = some (.int .i64 b) from rfl)
    have y2 := (HS.out.cell 0 rfl 2).trans (show (shp (st0 a b (wrap64 (bt xh.f1 8)) (wrap64 (bt xh.f1 9)) (wrap64 (bt xh.f1 12))))[2]? = some (.int .i64 (wrap64 (bt xh.f1 8))) from rfl)
    have y3 := (HS.out.cell 0 rfl 3).trans (show (shp (st0 a b (wrap64 (bt xh.f1 8)) (wrap64 (bt xh.f1 9)) (wrap64 (bt xh.f1 12))))[3]? = some (.int .i64 (wrap64 (bt xh.f1 9))) from rfl)
    have y4 := (HS.out.cell 0 rfl 4).trans (show (shp (st0 a b (wrap64 (bt xh.f1 8)) (wrap64 (bt xh.f1 9)) (wrap64 (bt xh.f1 12))))[4]? = some (.int .i64 (wrap64 (bt xh.f1 12))) from rfl)
    go_wp2_with (go_at_call 10; (with_reducible refine (vitrineref08_Right.calls k a b (wrap64 (bt xh.f1 8)) (wrap64 (bt xh.f1 9)) (wrap64 (bt xh.f1 12)) 0 _ HRR.out).mono ?_); rintro e w6 ⟨rfl, hb⟩; have n0_ := Aside0.mk (HS.out.step hb); clear HS hb y0 y1 y2 y3 y4; have HS := n0_; clear n0_)
    clear e0 e1 v0 v1 v2 v3 v4 v5 x10 x11 y10 y11 t0 t1 t2 t3 t4 qa8 qb8 qc8 qd8 hx_8 qa9 qb9 qc9 qd9 hx_9 qa10 qb10 qc10 qd10 hx_10 qa11 qb11 qc11 qd11 hx_11 qa12 qb12 qc12 qd12 hx_12
    go_loopw [9, 10, 11, 12, 13] (fun v9 v10 v11 v12 v13 w' => ∃ (j : Nat) (s : HSt), v10 = .bool s.plt ∧ v11 = .bool s.idat ∧ v12 = .bool s.gap ∧ v13 = .int .i64 (j : Int) ∧ j ≤ n ∧ 1 ≤ j ∧ Aside0 (FInv w g2 g5 g7 l r j s v9 w')) (fun _ _ _ _ v _ => n - (intOf v).toNat)
    case atStart => exact ⟨1, (st0 a b (wrap64 (bt xh.f1 8)) (wrap64 (bt xh.f1 9)) (wrap64 (bt xh.f1 12))), rfl, rfl, rfl, rfl, hn0, Nat.le_refl _, ⟨HS.out, Kd.R_nil _ _ _ _ _, HDD.out.1, HDD.out.2, HL.out, by have h_ := HS_.out; have e_ : szs l = szs (l.take 1) + szs (l.drop 1) := szs_split l 1; show 0 + szs (l.drop 1) ≤ _; omega, by show (0 : Nat) ≤ 768; decide⟩⟩
    case round =>
      obtain ⟨j, s, rfl, rfl, rfl, rfl, hj, hj1, HI⟩ := hrel
      clear HS
      by_cases hlt : j < n
      · have q0 : decide ((j : Int) < (n : Int)) = true := decide_eq_true (by omega)
        have q1 : decide (j < n) = true := decide_eq_true hlt
        have q2 := eq_true (show (0 : Int) ≤ (j : Int) by omega)
        have q3 := eq_true (show (j : Int) < (n : Int) by omega)
        clear hx
        obtain ⟨x, hx⟩ : ∃ x, rd_T30 l (j : Int) = x := ⟨_, rfl⟩
        have HX := Aside0.mk (ref_elem l j x (by rw [HN.out]; exact hlt) hx)
        obtain ⟨hx0, hx1⟩ := ref_cells HR.out j (by rw [HN.out]; exact hlt) hj1 x hx HI.out.1.below
        clear hx
        have HLp := HI.out.2.2.2.2.1
        rw [HX.out] at HLp
        unfold refLoop at HLp
        have HS0 := Aside0.mk HI.out.1
        have HO0 := Aside0.mk HI.out.2.1
        have HD := Aside0.mk (show 0 ≤ s.D ∧ s.D ≤ 16 from ⟨HI.out.2.2.1, HI.out.2.2.2.1⟩)
        have HP := Aside0.mk (show s.pal.size ≤ 768 from HI.out.2.2.2.2.2.2)
        have HSZ0 := HI.out.2.2.2.2.2.1
        rw [HX.out, szs] at HSZ0
        have HSZ := Aside0.mk (show s.data.size + x.f1.size ≤ 140737488355328 from by omega)
        have HSZ1 := Aside0.mk (show s.data.size + szs (l.drop (j + 1)) ≤ 140737488355328 from by omega)
        have HSZ2 := Aside0.mk HSZ0
        clear HSZ0
        have HJ1 := Aside0.mk (show wrap64 ((j : Int) + 1) = ((j + 1 : Nat) : Int) by have := HM.out; have := HN.out; unfold wrap64; omega)
        rename_i Qp Kp ap
        by_cases tE : x.f0.toList = [73, 69, 78, 68]
        · revert HM HS_ HDD HO1 HO2 HRR HL HX0 HX1 n HN HR hn0 Qp g2 w1 g5 w2 w3 hHeld w4 g7 wj w5 w6 Kp ap wr u3 u4 u9 u14 u15 u70 u71 u72 u73 u74 u75 u76 u77 u78 u79 u80 u81 u82 u83 u84 u85 u86 u87 u88 u89 u90 u91 u92 u93 u94 u95 u96 u97 u98 u99 u100 u101 u102 u103 u104 u105 u106 u107 u108 u109 u110 u111 u112 u113 u114 u115 u116 u117 u118 u119 u120 u121 u122 u123 u124 u125 u126 u127 u128 u129 u130 u131 u132 u133 u134 u135 u136 u137 u138 u139 u140 u141 u142 u143 u144 u145 u146 u147 u148 u149 u150 u151 u152 u153 u154 u155 u156 u157 u158 u159 u160 u161 u162 u163 u164 u165 u166 u167 u168 u169 u170 u171 u172 u173 u174 u175 u176 u177 u178 u179 u180 u181 u182 u183 u184 u185 u186 u187 u188 u189 u190 u191 u192 u193 u194 u195 u196 u197 u198 u199 u200 u201 u202 u203 u204 u205 u206 u207 u208 u209 u210 u211 u212 u213 u214 u215 u216 u217 u218 u219 u220 u221 u222 u223 u224 u225 u226 u227 u228 u229 u230 u231 u232 u233 u234 u235 u236 u237 u238 u239 u240 u241 u242 u243 u244 u245 u246 u247 u248 u249 u250 u251 u252 u253 u254 u255 u256 u257 u258 u259 j s hj hj1 HI hlt q0 q1 q2 q3 x HX hx0 hx1 HLp HS0 HO0 HD HP HSZ HSZ1 HSZ2 HJ1 tE; exact hG0_.out
        · skip
          by_cases t90 : x.f0.toList = [73, 72, 68, 82]
          · revert HM HS_ HDD HO1 HO2 HRR HL HX0 HX1 n HN HR hn0 Qp g2 w1 g5 w2 w3 hHeld w4 g7 wj w5 w6 Kp ap wr u3 u4 u9 u14 u15 u70 u71 u72 u73 u74 u75 u76 u77 u78 u79 u80 u81 u82 u83 u84 u85 u86 u87 u88 u89 u90 u91 u92 u93 u94 u95 u96 u97 u98 u99 u100 u101 u102 u103 u104 u105 u106 u107 u108 u109 u110 u111 u112 u113 u114 u115 u116 u117 u118 u119 u120 u121 u122 u123 u124 u125 u126 u127 u128 u129 u130 u131 u132 u133 u134 u135 u136 u137 u138 u139 u140 u141 u142 u143 u144 u145 u146 u147 u148 u149 u150 u151 u152 u153 u154 u155 u156 u157 u158 u159 u160 u161 u162 u163 u164 u165 u166 u167 u168 u169 u170 u171 u172 u173 u174 u175 u176 u177 u178 u179 u180 u181 u182 u183 u184 u185 u186 u187 u188 u189 u190 u191 u192 u193 u194 u195 u196 u197 u198 u199 u200 u201 u202 u203 u204 u205 u206 u207 u208 u209 u210 u211 u212 u213 u214 u215 u216 u217 u218 u219 u220 u221 u222 u223 u224 u225 u226 u227 u228 u229 u230 u231 u232 u233 u234 u235 u236 u237 u238 u239 u240 u241 u242 u243 u244 u245 u246 u247 u248 u249 u250 u251 u252 u253 u254 u255 u256 u257 u258 u259 j s hj hj1 HI hlt q0 q1 q2 q3 x HX hx0 hx1 HLp HS0 HO0 HD HP HSZ HSZ1 HSZ2 HJ1 tE t90; exact hG1_.out
          · skip
            by_cases t91 : x.f0.toList = [80, 76, 84, 69]
            · revert HM HS_ HDD HO1 HO2 HRR HL HX0 HX1 n HN HR hn0 Qp g2 w1 g5 w2 w3 hHeld w4 g7 wj w5 w6 Kp ap wr u3 u4 u9 u14 u15 u70 u71 u72 u73 u74 u75 u76 u77 u78 u79 u80 u81 u82 u83 u84 u85 u86 u87 u88 u89 u90 u91 u92 u93 u94 u95 u96 u97 u98 u99 u100 u101 u102 u103 u104 u105 u106 u107 u108 u109 u110 u111 u112 u113 u114 u115 u116 u117 u118 u119 u120 u121 u122 u123 u124 u125 u126 u127 u128 u129 u130 u131 u132 u133 u134 u135 u136 u137 u138 u139 u140 u141 u142 u143 u144 u145 u146 u147 u148 u149 u150 u151 u152 u153 u154 u155 u156 u157 u158 u159 u160 u161 u162 u163 u164 u165 u166 u167 u168 u169 u170 u171 u172 u173 u174 u175 u176 u177 u178 u179 u180 u181 u182 u183 u184 u185 u186 u187 u188 u189 u190 u191 u192 u193 u194 u195 u196 u197 u198 u199 u200 u201 u202 u203 u204 u205 u206 u207 u208 u209 u210 u211 u212 u213 u214 u215 u216 u217 u218 u219 u220 u221 u222 u223 u224 u225 u226 u227 u228 u229 u230 u231 u232 u233 u234 u235 u236 u237 u238 u239 u240 u241 u242 u243 u244 u245 u246 u247 u248 u249 u250 u251 u252 u253 u254 u255 u256 u257 u258 u259 j s hj hj1 HI hlt q0 q1 q2 q3 x HX hx0 hx1 HLp HS0 HO0 HD HP HSZ HSZ1 HSZ2 HJ1 tE t90 t91; exact hG2_.out
            · skip
              by_cases t92 : x.f0.toList = [116, 82, 78, 83]
              · revert HM HS_ HDD HO1 HO2 HRR HL HX0 HX1 n HN HR hn0 Qp g2 w1 g5 w2 w3 hHeld w4 g7 wj w5 w6 Kp ap wr u3 u4 u9 u14 u15 u70 u71 u72 u73 u74 u75 u76 u77 u78 u79 u80 u81 u82 u83 u84 u85 u86 u87 u88 u89 u90 u91 u92 u93 u94 u95 u96 u97 u98 u99 u100 u101 u102 u103 u104 u105 u106 u107 u108 u109 u110 u111 u112 u113 u114 u115 u116 u117 u118 u119 u120 u121 u122 u123 u124 u125 u126 u127 u128 u129 u130 u131 u132 u133 u134 u135 u136 u137 u138 u139 u140 u141 u142 u143 u144 u145 u146 u147 u148 u149 u150 u151 u152 u153 u154 u155 u156 u157 u158 u159 u160 u161 u162 u163 u164 u165 u166 u167 u168 u169 u170 u171 u172 u173 u174 u175 u176 u177 u178 u179 u180 u181 u182 u183 u184 u185 u186 u187 u188 u189 u190 u191 u192 u193 u194 u195 u196 u197 u198 u199 u200 u201 u202 u203 u204 u205 u206 u207 u208 u209 u210 u211 u212 u213 u214 u215 u216 u217 u218 u219 u220 u221 u222 u223 u224 u225 u226 u227 u228 u229 u230 u231 u232 u233 u234 u235 u236 u237 u238 u239 u240 u241 u242 u243 u244 u245 u246 u247 u248 u249 u250 u251 u252 u253 u254 u255 u256 u257 u258 u259 j s hj hj1 HI hlt q0 q1 q2 q3 x HX hx0 hx1 HLp HS0 HO0 HD HP HSZ HSZ1 HSZ2 HJ1 tE t90 t91 t92; exact hG3_.out
              · skip
                by_cases t93 : x.f0.toList = [73, 68, 65, 84]
                · revert HM HS_ HDD HO1 HO2 HRR HL HX0 HX1 n HN HR hn0 Qp g2 w1 g5 w2 w3 hHeld w4 g7 wj w5 w6 Kp ap wr u3 u4 u9 u14 u15 u70 u71 u72 u73 u74 u75 u76 u77 u78 u79 u80 u81 u82 u83 u84 u85 u86 u87 u88 u89 u90 u91 u92 u93 u94 u95 u96 u97 u98 u99 u100 u101 u102 u103 u104 u105 u106 u107 u108 u109 u110 u111 u112 u113 u114 u115 u116 u117 u118 u119 u120 u121 u122 u123 u124 u125 u126 u127 u128 u129 u130 u131 u132 u133 u134 u135 u136 u137 u138 u139 u140 u141 u142 u143 u144 u145 u146 u147 u148 u149 u150 u151 u152 u153 u154 u155 u156 u157 u158 u159 u160 u161 u162 u163 u164 u165 u166 u167 u168 u169 u170 u171 u172 u173 u174 u175 u176 u177 u178 u179 u180 u181 u182 u183 u184 u185 u186 u187 u188 u189 u190 u191 u192 u193 u194 u195 u196 u197 u198 u199 u200 u201 u202 u203 u204 u205 u206 u207 u208 u209 u210 u211 u212 u213 u214 u215 u216 u217 u218 u219 u220 u221 u222 u223 u224 u225 u226 u227 u228 u229 u230 u231 u232 u233 u234 u235 u236 u237 u238 u239 u240 u241 u242 u243 u244 u245 u246 u247 u248 u249 u250 u251 u252 u253 u254 u255 u256 u257 u258 u259 j s hj hj1 HI hlt q0 q1 q2 q3 x HX hx0 hx1 HLp HS0 HO0 HD HP HSZ HSZ1 HSZ2 HJ1 tE t90 t91 t92 t93; exact hG4_.out
                · skip
                  revert HM HS_ HDD HO1 HO2 HRR HL HX0 HX1 n HN HR hn0 Qp g2 w1 g5 w2 w3 hHeld w4 g7 wj w5 w6 Kp ap wr u3 u4 u9 u14 u15 u70 u71 u72 u73 u74 u75 u76 u77 u78 u79 u80 u81 u82 u83 u84 u85 u86 u87 u88 u89 u90 u91 u92 u93 u94 u95 u96 u97 u98 u99 u100 u101 u102 u103 u104 u105 u106 u107 u108 u109 u110 u111 u112 u113 u114 u115 u116 u117 u118 u119 u120 u121 u122 u123 u124 u125 u126 u127 u128 u129 u130 u131 u132 u133 u134 u135 u136 u137 u138 u139 u140 u141 u142 u143 u144 u145 u146 u147 u148 u149 u150 u151 u152 u153 u154 u155 u156 u157 u158 u159 u160 u161 u162 u163 u164 u165 u166 u167 u168 u169 u170 u171 u172 u173 u174 u175 u176 u177 u178 u179 u180 u181 u182 u183 u184 u185 u186 u187 u188 u189 u190 u191 u192 u193 u194 u195 u196 u197 u198 u199 u200 u201 u202 u203 u204 u205 u206 u207 u208 u209 u210 u211 u212 u213 u214 u215 u216 u217 u218 u219 u220 u221 u222 u223 u224 u225 u226 u227 u228 u229 u230 u231 u232 u233 u234 u235 u236 u237 u238 u239 u240 u241 u242 u243 u244 u245 u246 u247 u248 u249 u250 u251 u252 u253 u254 u255 u256 u257 u258 u259 j s hj hj1 HI hlt q0 q1 q2 q3 x HX hx0 hx1 HLp HS0 HO0 HD HP HSZ HSZ1 HSZ2 HJ1 tE t90 t91 t92 t93; exact hG5_.out
      · clear hG0_ hG1_ hG2_ hG3_ hG4_ hG5_
        obtain rfl : j = n := by omega
        have q0 : decide ((j : Int) < (j : Int)) = false := decide_eq_false (by omega)
        have HLp := HI.out.2.2.2.2.1
        rw [List.drop_of_length_le (Nat.le_of_eq HN.out), refLoop] at HLp
        obtain rfl := Option.some.inj HLp
        clear HLp
        have n5a : (g5 = g2) = False := eq_false (HI.out.1.ne 1 2 rfl rfl (by decide)); have n5b : (g2 = g5) = False := eq_false (fun e => HI.out.1.ne 1 2 rfl rfl (by decide) e.symm)
        have c0 := (HI.out.1.cell 2 rfl 0).trans (show (#[.int .i64 0, .int .i64 0, .int .i64 0, .int .i64 0, .int .i64 0, .string (⟨#[]⟩ : ByteArray), .string (⟨#[]⟩ : ByteArray), .bool false] : Array Value)[0]? = some (.int .i64 0) from rfl); have f0 := HI.out.1.fz 2 rfl 0; have b0 := (HI.out.1.cell 1 rfl 0).trans (show (#[.int .i64 0, .int .i64 0, .int .i64 0, .int .i64 0, .int .i64 0, .string (⟨#[]⟩ : ByteArray), .string (⟨#[]⟩ : ByteArray), .bool false] : Array Value)[0]? = some (.int .i64 0) from rfl); have c1 := (HI.out.1.cell 2 rfl 1).trans (show (#[.int .i64 0, .int .i64 0, .int .i64 0, .int .i64 0, .int .i64 0, .string (⟨#[]⟩ : ByteArray), .string (⟨#[]⟩ : ByteArray), .bool false] : Array Value)[1]? = some (.int .i64 0) from rfl); have f1 := HI.out.1.fz 2 rfl 1; have b1 := (HI.out.1.cell 1 rfl 1).trans (show (#[.int .i64 0, .int .i64 0, .int .i64 0, .int .i64 0, .int .i64 0, .string (⟨#[]⟩ : ByteArray), .string (⟨#[]⟩ : ByteArray), .bool false] : Array Value)[1]? = some (.int .i64 0) from rfl); have c2 := (HI.out.1.cell 2 rfl 2).trans (show (#[.int .i64 0, .int .i64 0, .int .i64 0, .int .i64 0, .int .i64 0, .string (⟨#[]⟩ : ByteArray), .string (⟨#[]⟩ : ByteArray), .bool false] : Array Value)[2]? = some (.int .i64 0) from rfl); have f2 := HI.out.1.fz 2 rfl 2; have b2 := (HI.out.1.cell 1 rfl 2).trans (show (#[.int .i64 0, .int .i64 0, .int .i64 0, .int .i64 0, .int .i64 0, .string (⟨#[]⟩ : ByteArray), .string (⟨#[]⟩ : ByteArray), .bool false] : Array Value)[2]? = some (.int .i64 0) from rfl); have c3 := (HI.out.1.cell 2 rfl 3).trans (show (#[.int .i64 0, .int .i64 0, .int .i64 0, .int .i64 0, .int .i64 0, .string (⟨#[]⟩ : ByteArray), .string (⟨#[]⟩ : ByteArray), .bool false] : Array Value)[3]? = some (.int .i64 0) from rfl); have f3 := HI.out.1.fz 2 rfl 3; have b3 := (HI.out.1.cell 1 rfl 3).trans (show (#[.int .i64 0, .int .i64 0, .int .i64 0, .int .i64 0, .int .i64 0, .string (⟨#[]⟩ : ByteArray), .string (⟨#[]⟩ : ByteArray), .bool false] : Array Value)[3]? = some (.int .i64 0) from rfl); have c4 := (HI.out.1.cell 2 rfl 4).trans (show (#[.int .i64 0, .int .i64 0, .int .i64 0, .int .i64 0, .int .i64 0, .string (⟨#[]⟩ : ByteArray), .string (⟨#[]⟩ : ByteArray), .bool false] : Array Value)[4]? = some (.int .i64 0) from rfl); have f4 := HI.out.1.fz 2 rfl 4; have b4 := (HI.out.1.cell 1 rfl 4).trans (show (#[.int .i64 0, .int .i64 0, .int .i64 0, .int .i64 0, .int .i64 0, .string (⟨#[]⟩ : ByteArray), .string (⟨#[]⟩ : ByteArray), .bool false] : Array Value)[4]? = some (.int .i64 0) from rfl); have c5 := (HI.out.1.cell 2 rfl 5).trans (show (#[.int .i64 0, .int .i64 0, .int .i64 0, .int .i64 0, .int .i64 0, .string (⟨#[]⟩ : ByteArray), .string (⟨#[]⟩ : ByteArray), .bool false] : Array Value)[5]? = some (.string (⟨#[]⟩ : ByteArray)) from rfl); have f5 := HI.out.1.fz 2 rfl 5; have b5 := (HI.out.1.cell 1 rfl 5).trans (show (#[.int .i64 0, .int .i64 0, .int .i64 0, .int .i64 0, .int .i64 0, .string (⟨#[]⟩ : ByteArray), .string (⟨#[]⟩ : ByteArray), .bool false] : Array Value)[5]? = some (.string (⟨#[]⟩ : ByteArray)) from rfl); have c6 := (HI.out.1.cell 2 rfl 6).trans (show (#[.int .i64 0, .int .i64 0, .int .i64 0, .int .i64 0, .int .i64 0, .string (⟨#[]⟩ : ByteArray), .string (⟨#[]⟩ : ByteArray), .bool false] : Array Value)[6]? = some (.string (⟨#[]⟩ : ByteArray)) from rfl); have f6 := HI.out.1.fz 2 rfl 6; have b6 := (HI.out.1.cell 1 rfl 6).trans (show (#[.int .i64 0, .int .i64 0, .int .i64 0, .int .i64 0, .int .i64 0, .string (⟨#[]⟩ : ByteArray), .string (⟨#[]⟩ : ByteArray), .bool false] : Array Value)[6]? = some (.string (⟨#[]⟩ : ByteArray)) from rfl); have c7 := (HI.out.1.cell 2 rfl 7).trans (show (#[.int .i64 0, .int .i64 0, .int .i64 0, .int .i64 0, .int .i64 0, .string (⟨#[]⟩ : ByteArray), .string (⟨#[]⟩ : ByteArray), .bool false] : Array Value)[7]? = some (.bool false) from rfl); have f7 := HI.out.1.fz 2 rfl 7; have b7 := (HI.out.1.cell 1 rfl 7).trans (show (#[.int .i64 0, .int .i64 0, .int .i64 0, .int .i64 0, .int .i64 0, .string (⟨#[]⟩ : ByteArray), .string (⟨#[]⟩ : ByteArray), .bool false] : Array Value)[7]? = some (.bool false) from rfl)
        go_wp2
        refine bodyPost_ret (results_ctt rfl _ _ g2 36 #[.int .i64 0, .int .i64 0, .int .i64 0, .int .i64 0, .int .i64 0, .string (⟨#[]⟩ : ByteArray), .string (⟨#[]⟩ : ByteArray), .bool false] (0, 0) _ rfl (Sv.at (Sv.set (Sv.set (Sv.set (Sv.set (Sv.set (Sv.set (Sv.set (Sv.set HI.out.1 2 rfl 0 (.int .i64 0)) 2 rfl 1 (.int .i64 0)) 2 rfl 2 (.int .i64 0)) 2 rfl 3 (.int .i64 0)) 2 rfl 4 (.int .i64 0)) 2 rfl 5 (.string (⟨#[]⟩ : ByteArray))) 2 rfl 6 (.string (⟨#[]⟩ : ByteArray))) 2 rfl 7 (.bool false)) 2 rfl) Try.underlying36 rfl (by kernel_rfl)) rfl ?_
        exact ⟨rfl, Sv.below (Sv.set (Sv.set (Sv.set (Sv.set (Sv.set (Sv.set (Sv.set (Sv.set HI.out.1 2 rfl 0 (.int .i64 0)) 2 rfl 1 (.int .i64 0)) 2 rfl 2 (.int .i64 0)) 2 rfl 3 (.int .i64 0)) 2 rfl 4 (.int .i64 0)) 2 rfl 5 (.string (⟨#[]⟩ : ByteArray))) 2 rfl 6 (.string (⟨#[]⟩ : ByteArray))) 2 rfl 7 (.bool false))⟩
set_option maxHeartbeats 40000000 in
set_option maxRecDepth 100000 in
theorem ref_part0 (k : Nat) (ad : Addr) (c : Nat) (l : List S30) (xh : S30) (a b : Int) (r : HOut) (w : World) :
    (ref_cut k ad c l xh a b r w).1.1 := by
  delta ref_cut
  intro HM HS_ HDD HO1 HO2 HRR HL HX0 HX1 n HN HR hn0 Qp g2 w1 g5 w2 w3 hHeld w4 g7 wj w5 w6 Kp ap wr u3 u4 u9 u14 u15 u70 u71 u72 u73 u74 u75 u76 u77 u78 u79 u80 u81 u82 u83 u84 u85 u86 u87 u88 u89 u90 u91 u92 u93 u94 u95 u96 u97 u98 u99 u100 u101 u102 u103 u104 u105 u106 u107 u108 u109 u110 u111 u112 u113 u114 u115 u116 u117 u118 u119 u120 u121 u122 u123 u124 u125 u126 u127 u128 u129 u130 u131 u132 u133 u134 u135 u136 u137 u138 u139 u140 u141 u142 u143 u144 u145 u146 u147 u148 u149 u150 u151 u152 u153 u154 u155 u156 u157 u158 u159 u160 u161 u162 u163 u164 u165 u166 u167 u168 u169 u170 u171 u172 u173 u174 u175 u176 u177 u178 u179 u180 u181 u182 u183 u184 u185 u186 u187 u188 u189 u190 u191 u192 u193 u194 u195 u196 u197 u198 u199 u200 u201 u202 u203 u204 u205 u206 u207 u208 u209 u210 u211 u212 u213 u214 u215 u216 u217 u218 u219 u220 u221 u222 u223 u224 u225 u226 u227 u228 u229 u230 u231 u232 u233 u234 u235 u236 u237 u238 u239 u240 u241 u242 u243 u244 u245 u246 u247 u248 u249 u250 u251 u252 u253 u254 u255 u256 u257 u258 u259 j s hj hj1 HI hlt q0 q1 q2 q3 x HX hx0 hx1 HLp HS0 HO0 HD HP HSZ HSZ1 HSZ2 HJ1 tE
  rw [if_pos tE] at HLp
  have eI : (x.f0.toList == [73, 72, 68, 82]) = false := by rw [tE]; decide
  have eP : (x.f0.toList == [80, 76, 84, 69]) = false := by rw [tE]; decide
  have eT : (x.f0.toList == [116, 82, 78, 83]) = false := by rw [tE]; decide
  have eD : (x.f0.toList == [73, 68, 65, 84]) = false := by rw [tE]; decide
  have eE : (x.f0.toList == [73, 69, 78, 68]) = true := beq_iff_eq.mpr tE
  clear tE
  by_cases z : (x.f1.size : Int) = 0
  · rw [if_pos z] at HLp
    have z0 : ((x.f1.size : Int) == 0) = true := beq_iff_eq.mpr z
    have z1 : ((x.f1.size : Int) != 0) = false := bne_eq_false_iff_eq.mpr z
    have z2 : x.f1.size = 0 := by omega
    clear z
    by_cases i1 : s.idat = true
    · rw [if_pos i1] at HLp
      have HLEN := Aside0.mk (show (l.drop (j + 1)).length = n - (j + 1) from by rw [List.length_drop, HN.out])
      by_cases m : 0 < (l.drop (j + 1)).length
      · rw [if_pos m] at HLp
        have m0 : decide (wrap64 ((j : Int) + 1) < (n : Int)) = true := decide_eq_true (by rw [HJ1.out]; have := HLEN.out; omega)
        clear m
        replace HLp : some (outE 4) = some r := HLp
        obtain rfl := Option.some.inj HLp
        clear HLp
        go_wp2_with ((with_reducible refine gate_dst (N := 14) rfl ?_); refine box_event ?hg (N := 14) ?hd (cs := #[.string (⟨#[]⟩ : ByteArray), .string (⟨#[]⟩ : ByteArray)]) (t := 30) ?hr ?_; (case hd => rfl); (case hg => rfl); (case hr => first | (go_simp; done) | (go_simp; rfl)); intro gc hg w5 hbox hb; have HS5 := Aside0.mk (HS0.out.box hb hg hbox); have HO5 := Aside0.mk (Kd.R_below HO0.out hb); obtain ⟨a0, a1, a2, a3, a4, a5, a6, a7, b0, b1, b2, b3, b4, b5, b6, b7, c0, f0, c1, f1, c2, f2, c3, f3, c4, f4, c5, f5, c6, f6, c7, f7, g5_, g6_, g7_, d0, k0, d1, k1, n0a, n0b, n1a, n1b, n2a, n2b, n3a, n3b, n4a, n4b, n5a, n5b⟩ := zfacts HS5.out; clear hb hg hbox HS0 HO0 hx0 hx1)
        refine bodyPost_ret (results_ctt rfl _ _ g2 36 #[.int .i64 0, .int .i64 0, .int .i64 0, .int .i64 0, .int .i64 0, .string (⟨#[]⟩ : ByteArray), .string (⟨#[]⟩ : ByteArray), .bool false] (0, 0) _ rfl (Sv.at (Sv.set (Sv.set (Sv.set (Sv.set (Sv.set (Sv.set (Sv.set (Sv.set ((HS5.out.set 0 rfl 0 (.string x.f0)).set 0 rfl 1 (.string x.f1)) 3 rfl 0 (.int .i64 0)) 3 rfl 1 (.int .i64 0)) 3 rfl 2 (.int .i64 0)) 3 rfl 3 (.int .i64 0)) 3 rfl 4 (.int .i64 0)) 3 rfl 5 (.string (⟨#[]⟩ : ByteArray))) 3 rfl 6 (.string (⟨#[]⟩ : ByteArray))) 3 rfl 7 (.bool false)) 3 rfl) Try.underlying36 rfl (by kernel_rfl)) rfl ?_
        exact ⟨rfl, Sv.below (Sv.set (Sv.set (Sv.set (Sv.set (Sv.set (Sv.set (Sv.set (Sv.set ((HS5.out.set 0 rfl 0 (.string x.f0)).set 0 rfl 1 (.string x.f1)) 3 rfl 0 (.int .i64 0)) 3 rfl 1 (.int .i64 0)) 3 rfl 2 (.int .i64 0)) 3 rfl 3 (.int .i64 0)) 3 rfl 4 (.int .i64 0)) 3 rfl 5 (.string (⟨#[]⟩ : ByteArray))) 3 rfl 6 (.string (⟨#[]⟩ : ByteArray))) 3 rfl 7 (.bool false))⟩
      · rw [if_neg m] at HLp
        have m0 : decide (wrap64 ((j : Int) + 1) < (n : Int)) = false := decide_eq_false (by rw [HJ1.out]; have := HLEN.out; omega)
        clear m
        replace HLp : some (outS s) = some r := HLp
        obtain rfl := Option.some.inj HLp
        clear HLp
        go_wp2_with ((with_reducible refine gate_dst (N := 14) rfl ?_); refine box_event ?hg (N := 14) ?hd (cs := #[.string (⟨#[]⟩ : ByteArray), .string (⟨#[]⟩ : ByteArray)]) (t := 30) ?hr ?_; (case hd => rfl); (case hg => rfl); (case hr => first | (go_simp; done) | (go_simp; rfl)); intro gc hg w5 hbox hb; have HS5 := Aside0.mk (HS0.out.box hb hg hbox); have HO5 := Aside0.mk (Kd.R_below HO0.out hb); obtain ⟨a0, a1, a2, a3, a4, a5, a6, a7, b0, b1, b2, b3, b4, b5, b6, b7, c0, f0, c1, f1, c2, f2, c3, f3, c4, f4, c5, f5, c6, f6, c7, f7, g5_, g6_, g7_, d0, k0, d1, k1, n0a, n0b, n1a, n1b, n2a, n2b, n3a, n3b, n4a, n4b, n5a, n5b⟩ := zfacts HS5.out; clear hb hg hbox HS0 HO0 hx0 hx1)
        have HS6 : Aside0 (Sv w [(gc, #[.string x.f0, .string x.f1], 30), (g7, shp s, 36), (g5, #[.int .i64 0, .int .i64 0, .int .i64 0, .int .i64 0, .int .i64 0, .string (⟨#[]⟩ : ByteArray), .string (⟨#[]⟩ : ByteArray), .bool false], 36), (g2, #[.int .i64 0, .int .i64 0, .int .i64 0, .int .i64 0, .int .i64 0, .string (⟨#[]⟩ : ByteArray), .string (⟨#[]⟩ : ByteArray), .bool false], 36)] _) := ⟨(((HS5.out.set 0 rfl 0 (.string x.f0)).set 0 rfl 1 (.string x.f1))).drew⟩
        have HO6 := Aside0.mk (Kd.R_drew ((HS5.out.set 0 rfl 0 (.string x.f0)).keeps 0 rfl (by decide) (HS5.out.keeps 0 rfl (by decide) HO5.out 0 (.string x.f0)) 1 (.string x.f1)))
        clear HS5 HO5 a0 a1 a2 a3 a4 a5 a6 a7 b0 b1 b2 b3 b4 b5 b6 b7 c0 f0 c1 f1 c2 f2 c3 f3 c4 f4 c5 f5 c6 f6 c7 f7 g5_ g6_ g7_ d0 k0 d1 k1 n0a n0b n1a n1b n2a n2b n3a n3b n4a n4b n5a n5b
        refine start_ (n := 6) (S := fun w' => w'.cell? ⟨g7, 0, none⟩ = some (.int .i64 s.W) ∧ w'.cell? ⟨g7, 1, none⟩ = some (.int .i64 s.H) ∧ w'.cell? ⟨g7, 2, none⟩ = some (.int .i64 s.D) ∧ w'.cell? ⟨g7, 3, none⟩ = some (.int .i64 s.C) ∧ w'.cell? ⟨g7, 4, none⟩ = some (.int .i64 s.L) ∧ w'.cell? ⟨g7, 5, none⟩ = some (.string s.pal) ∧ w'.cell? ⟨g7, 6, none⟩ = some (.string s.tr) ∧ w'.cell? ⟨g7, 7, none⟩ = some (.bool s.ht) ∧ Kd.R (Kd.int .u8) 5 w' w.heap.size (fun _ => True) u9 (bytesOf s.data)) (ds := []) #[false, false, false, false, false, false] (by kernel_rfl) rfl rfl ⟨(HS6.out.cell 1 rfl 0).trans rfl, (HS6.out.cell 1 rfl 1).trans rfl, (HS6.out.cell 1 rfl 2).trans rfl, (HS6.out.cell 1 rfl 3).trans rfl, (HS6.out.cell 1 rfl 4).trans rfl, (HS6.out.cell 1 rfl 5).trans rfl, (HS6.out.cell 1 rfl 6).trans rfl, (HS6.out.cell 1 rfl 7).trans rfl, HO6.out⟩ (fun hHeld => ?_)
        generalize World.drew _ = w7 at HS6 HO6 hHeld ⊢
        refine pure_ (i := 1) (N := some 257) (v := ?_) (a' := ?_) #[false, true, false, false, false, false] rfl rfl (by kernel_rfl) (fun _ _ _ h => h) (Or.inl ⟨by rfl, ?_⟩) ?_ ?_
        rotate_left
        · intro w'
          go_simp
          with_reducible rfl
        rotate_left
        · simp only [Act.put, List.setIfInBounds_toArray, List.set_cons_zero, List.set_cons_succ, i64_w, i32_w]
          rfl
        refine take_ (i := 0) (N := some 256) (v := ?_) (a' := ?_) #[true, true, false, false, false, false] rfl rfl (by kernel_rfl) (fun _ _ _ h => h) (Or.inl ⟨by rfl, ?_⟩) hHeld ?_ ?_
        rotate_left
        · rintro w' ⟨s0, s1, s2, s3, s4, s5, s6, s7, so⟩
          go_simp
          with_reducible rfl
        rotate_left
        · simp only [Act.put, List.setIfInBounds_toArray, List.set_cons_zero, List.set_cons_succ, i64_w, i32_w]
          rfl
        refine take_ (i := 2) (N := some 258) (v := ?_) (a' := ?_) #[true, true, true, false, false, false] rfl rfl (by kernel_rfl) (fun _ _ _ h => h) (Or.inl ⟨by rfl, ?_⟩) hHeld ?_ ?_
        rotate_left
        · rintro w' ⟨s0, s1, s2, s3, s4, s5, s6, s7, so⟩
          have hcv_ := own_string (P := Try.prog) Try.underlying51 Try.underlying5 Try.underlying9 (Kd.own_of_R so)
          go_simp
          with_reducible rfl
        rotate_left
        · simp only [Act.put, List.setIfInBounds_toArray, List.set_cons_zero, List.set_cons_succ, i64_w, i32_w]
          rfl
        refine one_ (i := 3) (N := none) #[true, true, true, true, false, false] rfl rfl (by kernel_rfl) (by decide) (fun K hK => ?_)
        have y0 := (HS6.out.cell 3 rfl 0).trans rfl; have k0 := HS6.out.fz 3 rfl 0
        have y1 := (HS6.out.cell 3 rfl 1).trans rfl; have k1 := HS6.out.fz 3 rfl 1
        have y2 := (HS6.out.cell 3 rfl 2).trans rfl; have k2 := HS6.out.fz 3 rfl 2
        have y3 := (HS6.out.cell 3 rfl 3).trans rfl; have k3 := HS6.out.fz 3 rfl 3
        have y4 := (HS6.out.cell 3 rfl 4).trans rfl; have k4 := HS6.out.fz 3 rfl 4
        have y5 := (HS6.out.cell 3 rfl 5).trans rfl; have k5 := HS6.out.fz 3 rfl 5
        have y6 := (HS6.out.cell 3 rfl 6).trans rfl; have k6 := HS6.out.fz 3 rfl 6
        have y7 := (HS6.out.cell 3 rfl 7).trans rfl; have k7 := HS6.out.fz 3 rfl 7
        refine skip_ (w1 := ?_) (by rfl) rfl ?_ ?_
        rotate_left
        · go_simp
          rfl
        have n0_ : Aside0 (Sv w [(gc, #[.string x.f0, .string x.f1], 30), (g7, shp s, 36), (g5, #[.int .i64 0, .int .i64 0, .int .i64 0, .int .i64 0, .int .i64 0, .string (⟨#[]⟩ : ByteArray), .string (⟨#[]⟩ : ByteArray), .bool false], 36), (g2, #[.int .i64 s.W, .int .i64 s.H, .int .i64 s.D, .int .i64 s.C, .int .i64 s.L, .string s.pal, .string s.tr, .bool s.ht], 36)] (World.setCell (World.setCell (World.setCell (World.setCell (World.setCell (World.setCell (World.setCell (World.setCell w7 ⟨g2, 0, none⟩ (.int .i64 s.W)) ⟨g2, 1, none⟩ (.int .i64 s.H)) ⟨g2, 2, none⟩ (.int .i64 s.D)) ⟨g2, 3, none⟩ (.int .i64 s.C)) ⟨g2, 4, none⟩ (.int .i64 s.L)) ⟨g2, 5, none⟩ (.string s.pal)) ⟨g2, 6, none⟩ (.string s.tr)) ⟨g2, 7, none⟩ (.bool s.ht))) := ⟨(Sv.set (Sv.set (Sv.set (Sv.set (Sv.set (Sv.set (Sv.set (Sv.set HS6.out 3 rfl 0 (.int .i64 s.W)) 3 rfl 1 (.int .i64 s.H)) 3 rfl 2 (.int .i64 s.D)) 3 rfl 3 (.int .i64 s.C)) 3 rfl 4 (.int .i64 s.L)) 3 rfl 5 (.string s.pal)) 3 rfl 6 (.string s.tr)) 3 rfl 7 (.bool s.ht))⟩
        have n1_ : Aside0 (Kd.R (Kd.int .u8) 5 (World.setCell (World.setCell (World.setCell (World.setCell (World.setCell (World.setCell (World.setCell (World.setCell w7 ⟨g2, 0, none⟩ (.int .i64 s.W)) ⟨g2, 1, none⟩ (.int .i64 s.H)) ⟨g2, 2, none⟩ (.int .i64 s.D)) ⟨g2, 3, none⟩ (.int .i64 s.C)) ⟨g2, 4, none⟩ (.int .i64 s.L)) ⟨g2, 5, none⟩ (.string s.pal)) ⟨g2, 6, none⟩ (.string s.tr)) ⟨g2, 7, none⟩ (.bool s.ht)) w.heap.size (fun _ => True) u9 (bytesOf s.data)) := ⟨(Sv.keeps (Sv.set (Sv.set (Sv.set (Sv.set (Sv.set (Sv.set (Sv.set HS6.out 3 rfl 0 (.int .i64 s.W)) 3 rfl 1 (.int .i64 s.H)) 3 rfl 2 (.int .i64 s.D)) 3 rfl 3 (.int .i64 s.C)) 3 rfl 4 (.int .i64 s.L)) 3 rfl 5 (.string s.pal)) 3 rfl 6 (.string s.tr)) 3 rfl (by decide) (Sv.keeps (Sv.set (Sv.set (Sv.set (Sv.set (Sv.set (Sv.set HS6.out 3 rfl 0 (.int .i64 s.W)) 3 rfl 1 (.int .i64 s.H)) 3 rfl 2 (.int .i64 s.D)) 3 rfl 3 (.int .i64 s.C)) 3 rfl 4 (.int .i64 s.L)) 3 rfl 5 (.string s.pal)) 3 rfl (by decide) (Sv.keeps (Sv.set (Sv.set (Sv.set (Sv.set (Sv.set HS6.out 3 rfl 0 (.int .i64 s.W)) 3 rfl 1 (.int .i64 s.H)) 3 rfl 2 (.int .i64 s.D)) 3 rfl 3 (.int .i64 s.C)) 3 rfl 4 (.int .i64 s.L)) 3 rfl (by decide) (Sv.keeps (Sv.set (Sv.set (Sv.set (Sv.set HS6.out 3 rfl 0 (.int .i64 s.W)) 3 rfl 1 (.int .i64 s.H)) 3 rfl 2 (.int .i64 s.D)) 3 rfl 3 (.int .i64 s.C)) 3 rfl (by decide) (Sv.keeps (Sv.set (Sv.set (Sv.set HS6.out 3 rfl 0 (.int .i64 s.W)) 3 rfl 1 (.int .i64 s.H)) 3 rfl 2 (.int .i64 s.D)) 3 rfl (by decide) (Sv.keeps (Sv.set (Sv.set HS6.out 3 rfl 0 (.int .i64 s.W)) 3 rfl 1 (.int .i64 s.H)) 3 rfl (by decide) (Sv.keeps (Sv.set HS6.out 3 rfl 0 (.int .i64 s.W)) 3 rfl (by decide) (Sv.keeps HS6.out 3 rfl (by decide) HO6.out 0 (.int .i64 s.W)) 1 (.int .i64 s.H)) 2 (.int .i64 s.D)) 3 (.int .i64 s.C)) 4 (.int .i64 s.L)) 5 (.string s.pal)) 6 (.string s.tr)) 7 (.bool s.ht))⟩
        clear HS6 HO6 y0 k0 y1 k1 y2 k2 y3 k3 y4 k4 y5 k5 y6 k6 y7 k7
        have HS6 := n0_
        have HO6 := n1_
        clear n0_ n1_
        generalize (World.setCell (World.setCell (World.setCell (World.setCell (World.setCell (World.setCell (World.setCell (World.setCell w7 ⟨g2, 0, none⟩ (.int .i64 s.W)) ⟨g2, 1, none⟩ (.int .i64 s.H)) ⟨g2, 2, none⟩ (.int .i64 s.D)) ⟨g2, 3, none⟩ (.int .i64 s.C)) ⟨g2, 4, none⟩ (.int .i64 s.L)) ⟨g2, 5, none⟩ (.string s.pal)) ⟨g2, 6, none⟩ (.string s.tr)) ⟨g2, 7, none⟩ (.bool s.ht)) = w8 at HS6 HO6 ⊢
        refine hK.out _ _ ⟨(HS6.out.cell 1 rfl 0).trans rfl, (HS6.out.cell 1 rfl 1).trans rfl, (HS6.out.cell 1 rfl 2).trans rfl, (HS6.out.cell 1 rfl 3).trans rfl, (HS6.out.cell 1 rfl 4).trans rfl, (HS6.out.cell 1 rfl 5).trans rfl, (HS6.out.cell 1 rfl 6).trans rfl, (HS6.out.cell 1 rfl 7).trans rfl, HO6.out⟩ (fun hHeld => ?_)
        clear hK K
        refine pure_ (i := 4) (N := some 3) (v := ?_) (a' := ?_) #[true, true, true, true, true, false] rfl rfl (by kernel_rfl) (fun _ _ _ h => h) (Or.inl ⟨by rfl, ?_⟩) ?_ ?_
        rotate_left
        · intro w'
          go_simp
          with_reducible rfl
        rotate_left
        · simp only [Act.put, List.setIfInBounds_toArray, List.set_cons_zero, List.set_cons_succ, i64_w, i32_w]
          rfl
        refine pure_ (i := 5) (N := some 4) (v := ?_) (a' := ?_) #[true, true, true, true, true, true] rfl rfl (by kernel_rfl) (fun _ _ _ h => h) (Or.inl ⟨by rfl, ?_⟩) ?_ ?_
        rotate_left
        · intro w'
          go_simp
          with_reducible rfl
        rotate_left
        · simp only [Act.put, List.setIfInBounds_toArray, List.set_cons_zero, List.set_cons_succ, i64_w, i32_w]
          rfl
        refine done_ (by kernel_rfl) ?_
        try go_wp2
        refine bodyPost_ret (results_ctt rfl _ _ g2 36 #[.int .i64 s.W, .int .i64 s.H, .int .i64 s.D, .int .i64 s.C, .int .i64 s.L, .string s.pal, .string s.tr, .bool s.ht] (0, 0) _ rfl (HS6.out.at 3 rfl) Try.underlying36 rfl (by kernel_rfl)) rfl ?_
        exact ⟨by rw [show strOfNums (bytesOf s.data) = s.data from ref_str _]; rfl, HS6.out.below⟩
    · rw [if_neg i1] at HLp
      have i2 : s.idat = false := Bool.eq_false_iff.mpr i1
      clear i1
      replace HLp : some (outE 23) = some r := HLp
      obtain rfl := Option.some.inj HLp
      clear HLp
      go_wp2_with ((with_reducible refine gate_dst (N := 14) rfl ?_); refine box_event ?hg (N := 14) ?hd (cs := #[.string (⟨#[]⟩ : ByteArray), .string (⟨#[]⟩ : ByteArray)]) (t := 30) ?hr ?_; (case hd => rfl); (case hg => rfl); (case hr => first | (go_simp; done) | (go_simp; rfl)); intro gc hg w5 hbox hb; have HS5 := Aside0.mk (HS0.out.box hb hg hbox); have HO5 := Aside0.mk (Kd.R_below HO0.out hb); obtain ⟨a0, a1, a2, a3, a4, a5, a6, a7, b0, b1, b2, b3, b4, b5, b6, b7, c0, f0, c1, f1, c2, f2, c3, f3, c4, f4, c5, f5, c6, f6, c7, f7, g5_, g6_, g7_, d0, k0, d1, k1, n0a, n0b, n1a, n1b, n2a, n2b, n3a, n3b, n4a, n4b, n5a, n5b⟩ := zfacts HS5.out; clear hb hg hbox HS0 HO0 hx0 hx1)
      refine bodyPost_ret (results_ctt rfl _ _ g2 36 #[.int .i64 0, .int .i64 0, .int .i64 0, .int .i64 0, .int .i64 0, .string (⟨#[]⟩ : ByteArray), .string (⟨#[]⟩ : ByteArray), .bool false] (0, 0) _ rfl (Sv.at (Sv.set (Sv.set (Sv.set (Sv.set (Sv.set (Sv.set (Sv.set (Sv.set ((HS5.out.set 0 rfl 0 (.string x.f0)).set 0 rfl 1 (.string x.f1)) 3 rfl 0 (.int .i64 0)) 3 rfl 1 (.int .i64 0)) 3 rfl 2 (.int .i64 0)) 3 rfl 3 (.int .i64 0)) 3 rfl 4 (.int .i64 0)) 3 rfl 5 (.string (⟨#[]⟩ : ByteArray))) 3 rfl 6 (.string (⟨#[]⟩ : ByteArray))) 3 rfl 7 (.bool false)) 3 rfl) Try.underlying36 rfl (by kernel_rfl)) rfl ?_
      exact ⟨rfl, Sv.below (Sv.set (Sv.set (Sv.set (Sv.set (Sv.set (Sv.set (Sv.set (Sv.set ((HS5.out.set 0 rfl 0 (.string x.f0)).set 0 rfl 1 (.string x.f1)) 3 rfl 0 (.int .i64 0)) 3 rfl 1 (.int .i64 0)) 3 rfl 2 (.int .i64 0)) 3 rfl 3 (.int .i64 0)) 3 rfl 4 (.int .i64 0)) 3 rfl 5 (.string (⟨#[]⟩ : ByteArray))) 3 rfl 6 (.string (⟨#[]⟩ : ByteArray))) 3 rfl 7 (.bool false))⟩
  · rw [if_neg z] at HLp
    have z0 : ((x.f1.size : Int) == 0) = false := beq_eq_false_iff_ne.mpr z
    have z1 : ((x.f1.size : Int) != 0) = true := bne_iff_ne.mpr z
    have z2 : ¬ x.f1.size = 0 := by omega
    clear z
    replace HLp : some (outE 21) = some r := HLp
    obtain rfl := Option.some.inj HLp
    clear HLp
    go_wp2_with ((with_reducible refine gate_dst (N := 14) rfl ?_); refine box_event ?hg (N := 14) ?hd (cs := #[.string (⟨#[]⟩ : ByteArray), .string (⟨#[]⟩ : ByteArray)]) (t := 30) ?hr ?_; (case hd => rfl); (case hg => rfl); (case hr => first | (go_simp; done) | (go_simp; rfl)); intro gc hg w5 hbox hb; have HS5 := Aside0.mk (HS0.out.box hb hg hbox); have HO5 := Aside0.mk (Kd.R_below HO0.out hb); obtain ⟨a0, a1, a2, a3, a4, a5, a6, a7, b0, b1, b2, b3, b4, b5, b6, b7, c0, f0, c1, f1, c2, f2, c3, f3, c4, f4, c5, f5, c6, f6, c7, f7, g5_, g6_, g7_, d0, k0, d1, k1, n0a, n0b, n1a, n1b, n2a, n2b, n3a, n3b, n4a, n4b, n5a, n5b⟩ := zfacts HS5.out; clear hb hg hbox HS0 HO0 hx0 hx1)
    refine bodyPost_ret (results_ctt rfl _ _ g2 36 #[.int .i64 0, .int .i64 0, .int .i64 0, .int .i64 0, .int .i64 0, .string (⟨#[]⟩ : ByteArray), .string (⟨#[]⟩ : ByteArray), .bool false] (0, 0) _ rfl (Sv.at (Sv.set (Sv.set (Sv.set (Sv.set (Sv.set (Sv.set (Sv.set (Sv.set ((HS5.out.set 0 rfl 0 (.string x.f0)).set 0 rfl 1 (.string x.f1)) 3 rfl 0 (.int .i64 0)) 3 rfl 1 (.int .i64 0)) 3 rfl 2 (.int .i64 0)) 3 rfl 3 (.int .i64 0)) 3 rfl 4 (.int .i64 0)) 3 rfl 5 (.string (⟨#[]⟩ : ByteArray))) 3 rfl 6 (.string (⟨#[]⟩ : ByteArray))) 3 rfl 7 (.bool false)) 3 rfl) Try.underlying36 rfl (by kernel_rfl)) rfl ?_
    exact ⟨rfl, Sv.below (Sv.set (Sv.set (Sv.set (Sv.set (Sv.set (Sv.set (Sv.set (Sv.set ((HS5.out.set 0 rfl 0 (.string x.f0)).set 0 rfl 1 (.string x.f1)) 3 rfl 0 (.int .i64 0)) 3 rfl 1 (.int .i64 0)) 3 rfl 2 (.int .i64 0)) 3 rfl 3 (.int .i64 0)) 3 rfl 4 (.int .i64 0)) 3 rfl 5 (.string (⟨#[]⟩ : ByteArray))) 3 rfl 6 (.string (⟨#[]⟩ : ByteArray))) 3 rfl 7 (.bool false))⟩
set_option maxHeartbeats 40000000 in
set_option maxRecDepth 100000 in
theorem ref_part1 (k : Nat) (ad : Addr) (c : Nat) (l : List S30) (xh : S30) (a b : Int) (r : HOut) (w : World) :
    (ref_cut k ad c l xh a b r w).1.2.1 := by
  delta ref_cut
  intro HM HS_ HDD HO1 HO2 HRR HL HX0 HX1 n HN HR hn0 Qp g2 w1 g5 w2 w3 hHeld w4 g7 wj w5 w6 Kp ap wr u3 u4 u9 u14 u15 u70 u71 u72 u73 u74 u75 u76 u77 u78 u79 u80 u81 u82 u83 u84 u85 u86 u87 u88 u89 u90 u91 u92 u93 u94 u95 u96 u97 u98 u99 u100 u101 u102 u103 u104 u105 u106 u107 u108 u109 u110 u111 u112 u113 u114 u115 u116 u117 u118 u119 u120 u121 u122 u123 u124 u125 u126 u127 u128 u129 u130 u131 u132 u133 u134 u135 u136 u137 u138 u139 u140 u141 u142 u143 u144 u145 u146 u147 u148 u149 u150 u151 u152 u153 u154 u155 u156 u157 u158 u159 u160 u161 u162 u163 u164 u165 u166 u167 u168 u169 u170 u171 u172 u173 u174 u175 u176 u177 u178 u179 u180 u181 u182 u183 u184 u185 u186 u187 u188 u189 u190 u191 u192 u193 u194 u195 u196 u197 u198 u199 u200 u201 u202 u203 u204 u205 u206 u207 u208 u209 u210 u211 u212 u213 u214 u215 u216 u217 u218 u219 u220 u221 u222 u223 u224 u225 u226 u227 u228 u229 u230 u231 u232 u233 u234 u235 u236 u237 u238 u239 u240 u241 u242 u243 u244 u245 u246 u247 u248 u249 u250 u251 u252 u253 u254 u255 u256 u257 u258 u259 j s hj hj1 HI hlt q0 q1 q2 q3 x HX hx0 hx1 HLp HS0 HO0 HD HP HSZ HSZ1 HSZ2 HJ1 tE t90
  rw [if_neg tE] at HLp
  have eE : (x.f0.toList == [73, 69, 78, 68]) = false := beq_eq_false_iff_ne.mpr tE
  clear tE
  have T90_ := Aside0.mk t90
  have u90_0 : (x.f0.toList == [73, 72, 68, 82]) = true := beq_iff_eq.mpr t90
  clear t90
  have E0 : refStep s x.f0 x.f1 = (23, s) := by unfold refStep; rw [if_pos T90_.out]
  rw [E0] at HLp
  replace HLp : some (outE 23) = some r := HLp
  obtain rfl := Option.some.inj HLp
  clear HLp E0
  go_wp2_with ((with_reducible refine gate_dst (N := 14) rfl ?_); refine box_event ?hg (N := 14) ?hd (cs := #[.string (⟨#[]⟩ : ByteArray), .string (⟨#[]⟩ : ByteArray)]) (t := 30) ?hr ?_; (case hd => rfl); (case hg => rfl); (case hr => first | (go_simp; done) | (go_simp; rfl)); intro gc hg w5 hbox hb; have HS5 := Aside0.mk (HS0.out.box hb hg hbox); have HO5 := Aside0.mk (Kd.R_below HO0.out hb); obtain ⟨a0, a1, a2, a3, a4, a5, a6, a7, b0, b1, b2, b3, b4, b5, b6, b7, c0, f0, c1, f1, c2, f2, c3, f3, c4, f4, c5, f5, c6, f6, c7, f7, g5_, g6_, g7_, d0, k0, d1, k1, n0a, n0b, n1a, n1b, n2a, n2b, n3a, n3b, n4a, n4b, n5a, n5b⟩ := zfacts HS5.out; clear hb hg hbox HS0 HO0 hx0 hx1)
  refine bodyPost_ret (results_ctt rfl _ _ g2 36 #[.int .i64 0, .int .i64 0, .int .i64 0, .int .i64 0, .int .i64 0, .string (⟨#[]⟩ : ByteArray), .string (⟨#[]⟩ : ByteArray), .bool false] (0, 0) _ rfl (Sv.at (Sv.set (Sv.set (Sv.set (Sv.set (Sv.set (Sv.set (Sv.set (Sv.set ((HS5.out.set 0 rfl 0 (.string x.f0)).set 0 rfl 1 (.string x.f1)) 3 rfl 0 (.int .i64 0)) 3 rfl 1 (.int .i64 0)) 3 rfl 2 (.int .i64 0)) 3 rfl 3 (.int .i64 0)) 3 rfl 4 (.int .i64 0)) 3 rfl 5 (.string (⟨#[]⟩ : ByteArray))) 3 rfl 6 (.string (⟨#[]⟩ : ByteArray))) 3 rfl 7 (.bool false)) 3 rfl) Try.underlying36 rfl (by kernel_rfl)) rfl ?_
  exact ⟨rfl, Sv.below (Sv.set (Sv.set (Sv.set (Sv.set (Sv.set (Sv.set (Sv.set (Sv.set ((HS5.out.set 0 rfl 0 (.string x.f0)).set 0 rfl 1 (.string x.f1)) 3 rfl 0 (.int .i64 0)) 3 rfl 1 (.int .i64 0)) 3 rfl 2 (.int .i64 0)) 3 rfl 3 (.int .i64 0)) 3 rfl 4 (.int .i64 0)) 3 rfl 5 (.string (⟨#[]⟩ : ByteArray))) 3 rfl 6 (.string (⟨#[]⟩ : ByteArray))) 3 rfl 7 (.bool false))⟩
set_option maxHeartbeats 40000000 in
set_option maxRecDepth 100000 in
theorem ref_part2 (k : Nat) (ad : Addr) (c : Nat) (l : List S30) (xh : S30) (a b : Int) (r : HOut) (w : World) :
    (ref_cut k ad c l xh a b r w).1.2.2.1 := by
  delta ref_cut
  intro HM HS_ HDD HO1 HO2 HRR HL HX0 HX1 n HN HR hn0 Qp g2 w1 g5 w2 w3 hHeld w4 g7 wj w5 w6 Kp ap wr u3 u4 u9 u14 u15 u70 u71 u72 u73 u74 u75 u76 u77 u78 u79 u80 u81 u82 u83 u84 u85 u86 u87 u88 u89 u90 u91 u92 u93 u94 u95 u96 u97 u98 u99 u100 u101 u102 u103 u104 u105 u106 u107 u108 u109 u110 u111 u112 u113 u114 u115 u116 u117 u118 u119 u120 u121 u122 u123 u124 u125 u126 u127 u128 u129 u130 u131 u132 u133 u134 u135 u136 u137 u138 u139 u140 u141 u142 u143 u144 u145 u146 u147 u148 u149 u150 u151 u152 u153 u154 u155 u156 u157 u158 u159 u160 u161 u162 u163 u164 u165 u166 u167 u168 u169 u170 u171 u172 u173 u174 u175 u176 u177 u178 u179 u180 u181 u182 u183 u184 u185 u186 u187 u188 u189 u190 u191 u192 u193 u194 u195 u196 u197 u198 u199 u200 u201 u202 u203 u204 u205 u206 u207 u208 u209 u210 u211 u212 u213 u214 u215 u216 u217 u218 u219 u220 u221 u222 u223 u224 u225 u226 u227 u228 u229 u230 u231 u232 u233 u234 u235 u236 u237 u238 u239 u240 u241 u242 u243 u244 u245 u246 u247 u248 u249 u250 u251 u252 u253 u254 u255 u256 u257 u258 u259 j s hj hj1 HI hlt q0 q1 q2 q3 x HX hx0 hx1 HLp HS0 HO0 HD HP HSZ HSZ1 HSZ2 HJ1 tE t90 t91
  rw [if_neg tE] at HLp
  have eE : (x.f0.toList == [73, 69, 78, 68]) = false := beq_eq_false_iff_ne.mpr tE
  clear tE
  have T90_ := Aside0.mk t90
  have u90_0 : (x.f0.toList == [73, 72, 68, 82]) = false := beq_eq_false_iff_ne.mpr t90
  clear t90
  have T91_ := Aside0.mk t91
  have u91_0 : (x.f0.toList == [80, 76, 84, 69]) = true := beq_iff_eq.mpr t91
  clear t91
  by_cases t33 : s.plt = true
  · have T33_ := Aside0.mk t33
    have u33_0 : s.plt = true := t33
    clear t33
    have E0 : refStep s x.f0 x.f1 = (23, s) := by unfold refStep; rw [if_neg T90_.out, if_pos T91_.out, if_pos T33_.out]
    rw [E0] at HLp
    replace HLp : some (outE 23) = some r := HLp
    obtain rfl := Option.some.inj HLp
    clear HLp E0
    go_wp2_with ((with_reducible refine gate_dst (N := 14) rfl ?_); refine box_event ?hg (N := 14) ?hd (cs := #[.string (⟨#[]⟩ : ByteArray), .string (⟨#[]⟩ : ByteArray)]) (t := 30) ?hr ?_; (case hd => rfl); (case hg => rfl); (case hr => first | (go_simp; done) | (go_simp; rfl)); intro gc hg w5 hbox hb; have HS5 := Aside0.mk (HS0.out.box hb hg hbox); have HO5 := Aside0.mk (Kd.R_below HO0.out hb); obtain ⟨a0, a1, a2, a3, a4, a5, a6, a7, b0, b1, b2, b3, b4, b5, b6, b7, c0, f0, c1, f1, c2, f2, c3, f3, c4, f4, c5, f5, c6, f6, c7, f7, g5_, g6_, g7_, d0, k0, d1, k1, n0a, n0b, n1a, n1b, n2a, n2b, n3a, n3b, n4a, n4b, n5a, n5b⟩ := zfacts HS5.out; clear hb hg hbox HS0 HO0 hx0 hx1)
    refine bodyPost_ret (results_ctt rfl _ _ g2 36 #[.int .i64 0, .int .i64 0, .int .i64 0, .int .i64 0, .int .i64 0, .string (⟨#[]⟩ : ByteArray), .string (⟨#[]⟩ : ByteArray), .bool false] (0, 0) _ rfl (Sv.at (Sv.set (Sv.set (Sv.set (Sv.set (Sv.set (Sv.set (Sv.set (Sv.set ((HS5.out.set 0 rfl 0 (.string x.f0)).set 0 rfl 1 (.string x.f1)) 3 rfl 0 (.int .i64 0)) 3 rfl 1 (.int .i64 0)) 3 rfl 2 (.int .i64 0)) 3 rfl 3 (.int .i64 0)) 3 rfl 4 (.int .i64 0)) 3 rfl 5 (.string (⟨#[]⟩ : ByteArray))) 3 rfl 6 (.string (⟨#[]⟩ : ByteArray))) 3 rfl 7 (.bool false)) 3 rfl) Try.underlying36 rfl (by kernel_rfl)) rfl ?_
    exact ⟨rfl, Sv.below (Sv.set (Sv.set (Sv.set (Sv.set (Sv.set (Sv.set (Sv.set (Sv.set ((HS5.out.set 0 rfl 0 (.string x.f0)).set 0 rfl 1 (.string x.f1)) 3 rfl 0 (.int .i64 0)) 3 rfl 1 (.int .i64 0)) 3 rfl 2 (.int .i64 0)) 3 rfl 3 (.int .i64 0)) 3 rfl 4 (.int .i64 0)) 3 rfl 5 (.string (⟨#[]⟩ : ByteArray))) 3 rfl 6 (.string (⟨#[]⟩ : ByteArray))) 3 rfl 7 (.bool false))⟩
  · have T33_ := Aside0.mk t33
    have u33_0 : s.plt = false := Bool.eq_false_iff.mpr t33
    clear t33
    by_cases t34 : s.ht = true
    · have T34_ := Aside0.mk t34
      have u34_0 : s.ht = true := t34
      clear t34
      have E0 : refStep s x.f0 x.f1 = (23, s) := by unfold refStep; rw [if_neg T90_.out, if_pos T91_.out, if_neg T33_.out, if_pos T34_.out]
      rw [E0] at HLp
      replace HLp : some (outE 23) = some r := HLp
      obtain rfl := Option.some.inj HLp
      clear HLp E0
      go_wp2_with ((with_reducible refine gate_dst (N := 14) rfl ?_); refine box_event ?hg (N := 14) ?hd (cs := #[.string (⟨#[]⟩ : ByteArray), .string (⟨#[]⟩ : ByteArray)]) (t := 30) ?hr ?_; (case hd => rfl); (case hg => rfl); (case hr => first | (go_simp; done) | (go_simp; rfl)); intro gc hg w5 hbox hb; have HS5 := Aside0.mk (HS0.out.box hb hg hbox); have HO5 := Aside0.mk (Kd.R_below HO0.out hb); obtain ⟨a0, a1, a2, a3, a4, a5, a6, a7, b0, b1, b2, b3, b4, b5, b6, b7, c0, f0, c1, f1, c2, f2, c3, f3, c4, f4, c5, f5, c6, f6, c7, f7, g5_, g6_, g7_, d0, k0, d1, k1, n0a, n0b, n1a, n1b, n2a, n2b, n3a, n3b, n4a, n4b, n5a, n5b⟩ := zfacts HS5.out; clear hb hg hbox HS0 HO0 hx0 hx1)
      refine bodyPost_ret (results_ctt rfl _ _ g2 36 #[.int .i64 0, .int .i64 0, .int .i64 0, .int .i64 0, .int .i64 0, .string (⟨#[]⟩ : ByteArray), .string (⟨#[]⟩ : ByteArray), .bool false] (0, 0) _ rfl (Sv.at (Sv.set (Sv.set (Sv.set (Sv.set (Sv.set (Sv.set (Sv.set (Sv.set ((HS5.out.set 0 rfl 0 (.string x.f0)).set 0 rfl 1 (.string x.f1)) 3 rfl 0 (.int .i64 0)) 3 rfl 1 (.int .i64 0)) 3 rfl 2 (.int .i64 0)) 3 rfl 3 (.int .i64 0)) 3 rfl 4 (.int .i64 0)) 3 rfl 5 (.string (⟨#[]⟩ : ByteArray))) 3 rfl 6 (.string (⟨#[]⟩ : ByteArray))) 3 rfl 7 (.bool false)) 3 rfl) Try.underlying36 rfl (by kernel_rfl)) rfl ?_
      exact ⟨rfl, Sv.below (Sv.set (Sv.set (Sv.set (Sv.set (Sv.set (Sv.set (Sv.set (Sv.set ((HS5.out.set 0 rfl 0 (.string x.f0)).set 0 rfl 1 (.string x.f1)) 3 rfl 0 (.int .i64 0)) 3 rfl 1 (.int .i64 0)) 3 rfl 2 (.int .i64 0)) 3 rfl 3 (.int .i64 0)) 3 rfl 4 (.int .i64 0)) 3 rfl 5 (.string (⟨#[]⟩ : ByteArray))) 3 rfl 6 (.string (⟨#[]⟩ : ByteArray))) 3 rfl 7 (.bool false))⟩
    · have T34_ := Aside0.mk t34
      have u34_0 : s.ht = false := Bool.eq_false_iff.mpr t34
      clear t34
      by_cases t35 : s.idat = true
      · have T35_ := Aside0.mk t35
        have u35_0 : s.idat = true := t35
        clear t35
        have E0 : refStep s x.f0 x.f1 = (23, s) := by unfold refStep; rw [if_neg T90_.out, if_pos T91_.out, if_neg T33_.out, if_neg T34_.out, if_pos T35_.out]
        rw [E0] at HLp
        replace HLp : some (outE 23) = some r := HLp
        obtain rfl := Option.some.inj HLp
        clear HLp E0
        go_wp2_with ((with_reducible refine gate_dst (N := 14) rfl ?_); refine box_event ?hg (N := 14) ?hd (cs := #[.string (⟨#[]⟩ : ByteArray), .string (⟨#[]⟩ : ByteArray)]) (t := 30) ?hr ?_; (case hd => rfl); (case hg => rfl); (case hr => first | (go_simp; done) | (go_simp; rfl)); intro gc hg w5 hbox hb; have HS5 := Aside0.mk (HS0.out.box hb hg hbox); have HO5 := Aside0.mk (Kd.R_below HO0.out hb); obtain ⟨a0, a1, a2, a3, a4, a5, a6, a7, b0, b1, b2, b3, b4, b5, b6, b7, c0, f0, c1, f1, c2, f2, c3, f3, c4, f4, c5, f5, c6, f6, c7, f7, g5_, g6_, g7_, d0, k0, d1, k1, n0a, n0b, n1a, n1b, n2a, n2b, n3a, n3b, n4a, n4b, n5a, n5b⟩ := zfacts HS5.out; clear hb hg hbox HS0 HO0 hx0 hx1)
        refine bodyPost_ret (results_ctt rfl _ _ g2 36 #[.int .i64 0, .int .i64 0, .int .i64 0, .int .i64 0, .int .i64 0, .string (⟨#[]⟩ : ByteArray), .string (⟨#[]⟩ : ByteArray), .bool false] (0, 0) _ rfl (Sv.at (Sv.set (Sv.set (Sv.set (Sv.set (Sv.set (Sv.set (Sv.set (Sv.set ((HS5.out.set 0 rfl 0 (.string x.f0)).set 0 rfl 1 (.string x.f1)) 3 rfl 0 (.int .i64 0)) 3 rfl 1 (.int .i64 0)) 3 rfl 2 (.int .i64 0)) 3 rfl 3 (.int .i64 0)) 3 rfl 4 (.int .i64 0)) 3 rfl 5 (.string (⟨#[]⟩ : ByteArray))) 3 rfl 6 (.string (⟨#[]⟩ : ByteArray))) 3 rfl 7 (.bool false)) 3 rfl) Try.underlying36 rfl (by kernel_rfl)) rfl ?_
        exact ⟨rfl, Sv.below (Sv.set (Sv.set (Sv.set (Sv.set (Sv.set (Sv.set (Sv.set (Sv.set ((HS5.out.set 0 rfl 0 (.string x.f0)).set 0 rfl 1 (.string x.f1)) 3 rfl 0 (.int .i64 0)) 3 rfl 1 (.int .i64 0)) 3 rfl 2 (.int .i64 0)) 3 rfl 3 (.int .i64 0)) 3 rfl 4 (.int .i64 0)) 3 rfl 5 (.string (⟨#[]⟩ : ByteArray))) 3 rfl 6 (.string (⟨#[]⟩ : ByteArray))) 3 rfl 7 (.bool false))⟩
      · have T35_ := Aside0.mk t35
        have u35_0 : s.idat = false := Bool.eq_false_iff.mpr t35
        clear t35
        by_cases t36 : s.C = 0
        · have T36_ := Aside0.mk t36
          have u36_0 : (s.C == 0) = true := beq_iff_eq.mpr t36
          have u36_1 : (s.C != 0) = false := bne_eq_false_iff_eq.mpr t36
          have u36_2 : (s.C == 2) = false := beq_eq_false_iff_ne.mpr (by rw [t36]; decide)
          have u36_3 : (s.C == 3) = false := beq_eq_false_iff_ne.mpr (by rw [t36]; decide)
          have u36_4 : (s.C == 4) = false := beq_eq_false_iff_ne.mpr (by rw [t36]; decide)
          have u36_5 : (s.C == 6) = false := beq_eq_false_iff_ne.mpr (by rw [t36]; decide)
          clear t36
          have E0 : refStep s x.f0 x.f1 = (25, s) := by unfold refStep; rw [if_neg T90_.out, if_pos T91_.out, if_neg T33_.out, if_neg T34_.out, if_neg T35_.out, if_pos T36_.out]
          rw [E0] at HLp
          replace HLp : some (outE 25) = some r := HLp
          obtain rfl := Option.some.inj HLp
          clear HLp E0
          go_wp2_with ((with_reducible refine gate_dst (N := 14) rfl ?_); refine box_event ?hg (N := 14) ?hd (cs := #[.string (⟨#[]⟩ : ByteArray), .string (⟨#[]⟩ : ByteArray)]) (t := 30) ?hr ?_; (case hd => rfl); (case hg => rfl); (case hr => first | (go_simp; done) | (go_simp; rfl)); intro gc hg w5 hbox hb; have HS5 := Aside0.mk (HS0.out.box hb hg hbox); have HO5 := Aside0.mk (Kd.R_below HO0.out hb); obtain ⟨a0, a1, a2, a3, a4, a5, a6, a7, b0, b1, b2, b3, b4, b5, b6, b7, c0, f0, c1, f1, c2, f2, c3, f3, c4, f4, c5, f5, c6, f6, c7, f7, g5_, g6_, g7_, d0, k0, d1, k1, n0a, n0b, n1a, n1b, n2a, n2b, n3a, n3b, n4a, n4b, n5a, n5b⟩ := zfacts HS5.out; clear hb hg hbox HS0 HO0 hx0 hx1)
          refine bodyPost_ret (results_ctt rfl _ _ g2 36 #[.int .i64 0, .int .i64 0, .int .i64 0, .int .i64 0, .int .i64 0, .string (⟨#[]⟩ : ByteArray), .string (⟨#[]⟩ : ByteArray), .bool false] (0, 0) _ rfl (Sv.at (Sv.set (Sv.set (Sv.set (Sv.set (Sv.set (Sv.set (Sv.set (Sv.set ((HS5.out.set 0 rfl 0 (.string x.f0)).set 0 rfl 1 (.string x.f1)) 3 rfl 0 (.int .i64 0)) 3 rfl 1 (.int .i64 0)) 3 rfl 2 (.int .i64 0)) 3 rfl 3 (.int .i64 0)) 3 rfl 4 (.int .i64 0)) 3 rfl 5 (.string (⟨#[]⟩ : ByteArray))) 3 rfl 6 (.string (⟨#[]⟩ : ByteArray))) 3 rfl 7 (.bool false)) 3 rfl) Try.underlying36 rfl (by kernel_rfl)) rfl ?_
          exact ⟨rfl, Sv.below (Sv.set (Sv.set (Sv.set (Sv.set (Sv.set (Sv.set (Sv.set (Sv.set ((HS5.out.set 0 rfl 0 (.string x.f0)).set 0 rfl 1 (.string x.f1)) 3 rfl 0 (.int .i64 0)) 3 rfl 1 (.int .i64 0)) 3 rfl 2 (.int .i64 0)) 3 rfl 3 (.int .i64 0)) 3 rfl 4 (.int .i64 0)) 3 rfl 5 (.string (⟨#[]⟩ : ByteArray))) 3 rfl 6 (.string (⟨#[]⟩ : ByteArray))) 3 rfl 7 (.bool false))⟩
        · have T36_ := Aside0.mk t36
          have u36_0 : (s.C == 0) = false := beq_eq_false_iff_ne.mpr t36
          have u36_1 : (s.C != 0) = true := bne_iff_ne.mpr t36
          clear t36
          by_cases t37 : s.C = 4
          · have T37_ := Aside0.mk t37
            have u37_0 : (s.C == 4) = true := beq_iff_eq.mpr t37
            have u37_1 : (s.C != 4) = false := bne_eq_false_iff_eq.mpr t37
            have u37_2 : (s.C == 0) = false := beq_eq_false_iff_ne.mpr (by rw [t37]; decide)
            have u37_3 : (s.C == 2) = false := beq_eq_false_iff_ne.mpr (by rw [t37]; decide)
            have u37_4 : (s.C == 3) = false := beq_eq_false_iff_ne.mpr (by rw [t37]; decide)
            have u37_5 : (s.C == 6) = false := beq_eq_false_iff_ne.mpr (by rw [t37]; decide)
            clear t37
            have E0 : refStep s x.f0 x.f1 = (25, s) := by unfold refStep; rw [if_neg T90_.out, if_pos T91_.out, if_neg T33_.out, if_neg T34_.out, if_neg T35_.out, if_neg T36_.out, if_pos T37_.out]
            rw [E0] at HLp
            replace HLp : some (outE 25) = some r := HLp
            obtain rfl := Option.some.inj HLp
            clear HLp E0
            go_wp2_with ((with_reducible refine gate_dst (N := 14) rfl ?_); refine box_event ?hg (N := 14) ?hd (cs := #[.string (⟨#[]⟩ : ByteArray), .string (⟨#[]⟩ : ByteArray)]) (t := 30) ?hr ?_; (case hd => rfl); (case hg => rfl); (case hr => first | (go_simp; done) | (go_simp; rfl)); intro gc hg w5 hbox hb; have HS5 := Aside0.mk (HS0.out.box hb hg hbox); have HO5 := Aside0.mk (Kd.R_below HO0.out hb); obtain ⟨a0, a1, a2, a3, a4, a5, a6, a7, b0, b1, b2, b3, b4, b5, b6, b7, c0, f0, c1, f1, c2, f2, c3, f3, c4, f4, c5, f5, c6, f6, c7, f7, g5_, g6_, g7_, d0, k0, d1, k1, n0a, n0b, n1a, n1b, n2a, n2b, n3a, n3b, n4a, n4b, n5a, n5b⟩ := zfacts HS5.out; clear hb hg hbox HS0 HO0 hx0 hx1)
            refine bodyPost_ret (results_ctt rfl _ _ g2 36 #[.int .i64 0, .int .i64 0, .int .i64 0, .int .i64 0, .int .i64 0, .string (⟨#[]⟩ : ByteArray), .string (⟨#[]⟩ : ByteArray), .bool false] (0, 0) _ rfl (Sv.at (Sv.set (Sv.set (Sv.set (Sv.set (Sv.set (Sv.set (Sv.set (Sv.set ((HS5.out.set 0 rfl 0 (.string x.f0)).set 0 rfl 1 (.string x.f1)) 3 rfl 0 (.int .i64 0)) 3 rfl 1 (.int .i64 0)) 3 rfl 2 (.int .i64 0)) 3 rfl 3 (.int .i64 0)) 3 rfl 4 (.int .i64 0)) 3 rfl 5 (.string (⟨#[]⟩ : ByteArray))) 3 rfl 6 (.string (⟨#[]⟩ : ByteArray))) 3 rfl 7 (.bool false)) 3 rfl) Try.underlying36 rfl (by kernel_rfl)) rfl ?_
            exact ⟨rfl, Sv.below (Sv.set (Sv.set (Sv.set (Sv.set (Sv.set (Sv.set (Sv.set (Sv.set ((HS5.out.set 0 rfl 0 (.string x.f0)).set 0 rfl 1 (.string x.f1)) 3 rfl 0 (.int .i64 0)) 3 rfl 1 (.int .i64 0)) 3 rfl 2 (.int .i64 0)) 3 rfl 3 (.int .i64 0)) 3 rfl 4 (.int .i64 0)) 3 rfl 5 (.string (⟨#[]⟩ : ByteArray))) 3 rfl 6 (.string (⟨#[]⟩ : ByteArray))) 3 rfl 7 (.bool false))⟩
          · have T37_ := Aside0.mk t37
            have u37_0 : (s.C == 4) = false := beq_eq_false_iff_ne.mpr t37
            have u37_1 : (s.C != 4) = true := bne_iff_ne.mpr t37
            clear t37
            by_cases t38 : ¬ (x.f1.size : Int) % 3 = 0
            · have T38_ := Aside0.mk t38
              have u38_0 : (((x.f1.size : Int) % 3) == 0) = false := beq_eq_false_iff_ne.mpr t38
              have u38_1 : (((x.f1.size : Int) % 3) != 0) = true := bne_iff_ne.mpr t38
              clear t38
              have E0 : refStep s x.f0 x.f1 = (25, s) := by unfold refStep; rw [if_neg T90_.out, if_pos T91_.out, if_neg T33_.out, if_neg T34_.out, if_neg T35_.out, if_neg T36_.out, if_neg T37_.out, if_pos T38_.out]
              rw [E0] at HLp
              replace HLp : some (outE 25) = some r := HLp
              obtain rfl := Option.some.inj HLp
              clear HLp E0
              go_wp2_with ((with_reducible refine gate_dst (N := 14) rfl ?_); refine box_event ?hg (N := 14) ?hd (cs := #[.string (⟨#[]⟩ : ByteArray), .string (⟨#[]⟩ : ByteArray)]) (t := 30) ?hr ?_; (case hd => rfl); (case hg => rfl); (case hr => first | (go_simp; done) | (go_simp; rfl)); intro gc hg w5 hbox hb; have HS5 := Aside0.mk (HS0.out.box hb hg hbox); have HO5 := Aside0.mk (Kd.R_below HO0.out hb); obtain ⟨a0, a1, a2, a3, a4, a5, a6, a7, b0, b1, b2, b3, b4, b5, b6, b7, c0, f0, c1, f1, c2, f2, c3, f3, c4, f4, c5, f5, c6, f6, c7, f7, g5_, g6_, g7_, d0, k0, d1, k1, n0a, n0b, n1a, n1b, n2a, n2b, n3a, n3b, n4a, n4b, n5a, n5b⟩ := zfacts HS5.out; clear hb hg hbox HS0 HO0 hx0 hx1)
              refine bodyPost_ret (results_ctt rfl _ _ g2 36 #[.int .i64 0, .int .i64 0, .int .i64 0, .int .i64 0, .int .i64 0, .string (⟨#[]⟩ : ByteArray), .string (⟨#[]⟩ : ByteArray), .bool false] (0, 0) _ rfl (Sv.at (Sv.set (Sv.set (Sv.set (Sv.set (Sv.set (Sv.set (Sv.set (Sv.set ((HS5.out.set 0 rfl 0 (.string x.f0)).set 0 rfl 1 (.string x.f1)) 3 rfl 0 (.int .i64 0)) 3 rfl 1 (.int .i64 0)) 3 rfl 2 (.int .i64 0)) 3 rfl 3 (.int .i64 0)) 3 rfl 4 (.int .i64 0)) 3 rfl 5 (.string (⟨#[]⟩ : ByteArray))) 3 rfl 6 (.string (⟨#[]⟩ : ByteArray))) 3 rfl 7 (.bool false)) 3 rfl) Try.underlying36 rfl (by kernel_rfl)) rfl ?_
              exact ⟨rfl, Sv.below (Sv.set (Sv.set (Sv.set (Sv.set (Sv.set (Sv.set (Sv.set (Sv.set ((HS5.out.set 0 rfl 0 (.string x.f0)).set 0 rfl 1 (.string x.f1)) 3 rfl 0 (.int .i64 0)) 3 rfl 1 (.int .i64 0)) 3 rfl 2 (.int .i64 0)) 3 rfl 3 (.int .i64 0)) 3 rfl 4 (.int .i64 0)) 3 rfl 5 (.string (⟨#[]⟩ : ByteArray))) 3 rfl 6 (.string (⟨#[]⟩ : ByteArray))) 3 rfl 7 (.bool false))⟩
            · have T38_ := Aside0.mk t38
              have u38_0 : (((x.f1.size : Int) % 3) == 0) = true := beq_iff_eq.mpr (Decidable.not_not.1 t38)
              have u38_1 : (((x.f1.size : Int) % 3) != 0) = false := bne_eq_false_iff_eq.mpr (Decidable.not_not.1 t38)
              clear t38
              by_cases t39 : (x.f1.size : Int) < 3
              · have T39_ := Aside0.mk t39
                have u39_0 : decide ((x.f1.size : Int) < 3) = true := decide_eq_true t39
                have u39_1 : decide (x.f1.size < 3) = true := decide_eq_true (by have := t39; omega)
                clear t39
                have E0 : refStep s x.f0 x.f1 = (25, s) := by unfold refStep; rw [if_neg T90_.out, if_pos T91_.out, if_neg T33_.out, if_neg T34_.out, if_neg T35_.out, if_neg T36_.out, if_neg T37_.out, if_neg T38_.out, if_pos T39_.out]
                rw [E0] at HLp
                replace HLp : some (outE 25) = some r := HLp
                obtain rfl := Option.some.inj HLp
                clear HLp E0
                go_wp2_with ((with_reducible refine gate_dst (N := 14) rfl ?_); refine box_event ?hg (N := 14) ?hd (cs := #[.string (⟨#[]⟩ : ByteArray), .string (⟨#[]⟩ : ByteArray)]) (t := 30) ?hr ?_; (case hd => rfl); (case hg => rfl); (case hr => first | (go_simp; done) | (go_simp; rfl)); intro gc hg w5 hbox hb; have HS5 := Aside0.mk (HS0.out.box hb hg hbox); have HO5 := Aside0.mk (Kd.R_below HO0.out hb); obtain ⟨a0, a1, a2, a3, a4, a5, a6, a7, b0, b1, b2, b3, b4, b5, b6, b7, c0, f0, c1, f1, c2, f2, c3, f3, c4, f4, c5, f5, c6, f6, c7, f7, g5_, g6_, g7_, d0, k0, d1, k1, n0a, n0b, n1a, n1b, n2a, n2b, n3a, n3b, n4a, n4b, n5a, n5b⟩ := zfacts HS5.out; clear hb hg hbox HS0 HO0 hx0 hx1)
                refine bodyPost_ret (results_ctt rfl _ _ g2 36 #[.int .i64 0, .int .i64 0, .int .i64 0, .int .i64 0, .int .i64 0, .string (⟨#[]⟩ : ByteArray), .string (⟨#[]⟩ : ByteArray), .bool false] (0, 0) _ rfl (Sv.at (Sv.set (Sv.set (Sv.set (Sv.set (Sv.set (Sv.set (Sv.set (Sv.set ((HS5.out.set 0 rfl 0 (.string x.f0)).set 0 rfl 1 (.string x.f1)) 3 rfl 0 (.int .i64 0)) 3 rfl 1 (.int .i64 0)) 3 rfl 2 (.int .i64 0)) 3 rfl 3 (.int .i64 0)) 3 rfl 4 (.int .i64 0)) 3 rfl 5 (.string (⟨#[]⟩ : ByteArray))) 3 rfl 6 (.string (⟨#[]⟩ : ByteArray))) 3 rfl 7 (.bool false)) 3 rfl) Try.underlying36 rfl (by kernel_rfl)) rfl ?_
                exact ⟨rfl, Sv.below (Sv.set (Sv.set (Sv.set (Sv.set (Sv.set (Sv.set (Sv.set (Sv.set ((HS5.out.set 0 rfl 0 (.string x.f0)).set 0 rfl 1 (.string x.f1)) 3 rfl 0 (.int .i64 0)) 3 rfl 1 (.int .i64 0)) 3 rfl 2 (.int .i64 0)) 3 rfl 3 (.int .i64 0)) 3 rfl 4 (.int .i64 0)) 3 rfl 5 (.string (⟨#[]⟩ : ByteArray))) 3 rfl 6 (.string (⟨#[]⟩ : ByteArray))) 3 rfl 7 (.bool false))⟩
              · have T39_ := Aside0.mk t39
                have u39_0 : decide ((x.f1.size : Int) < 3) = false := decide_eq_false t39
                have u39_1 : decide (x.f1.size < 3) = false := decide_eq_false (by have := t39; omega)
                clear t39
                by_cases t40 : 768 < (x.f1.size : Int)
                · have T40_ := Aside0.mk t40
                  have u40_0 : decide (768 < (x.f1.size : Int)) = true := decide_eq_true t40
                  have u40_1 : decide (768 < x.f1.size) = true := decide_eq_true (by have := t40; omega)
                  clear t40
                  have E0 : refStep s x.f0 x.f1 = (25, s) := by unfold refStep; rw [if_neg T90_.out, if_pos T91_.out, if_neg T33_.out, if_neg T34_.out, if_neg T35_.out, if_neg T36_.out, if_neg T37_.out, if_neg T38_.out, if_neg T39_.out, if_pos T40_.out]
                  rw [E0] at HLp
                  replace HLp : some (outE 25) = some r := HLp
                  obtain rfl := Option.some.inj HLp
                  clear HLp E0
                  go_wp2_with ((with_reducible refine gate_dst (N := 14) rfl ?_); refine box_event ?hg (N := 14) ?hd (cs := #[.string (⟨#[]⟩ : ByteArray), .string (⟨#[]⟩ : ByteArray)]) (t := 30) ?hr ?_; (case hd => rfl); (case hg => rfl); (case hr => first | (go_simp; done) | (go_simp; rfl)); intro gc hg w5 hbox hb; have HS5 := Aside0.mk (HS0.out.box hb hg hbox); have HO5 := Aside0.mk (Kd.R_below HO0.out hb); obtain ⟨a0, a1, a2, a3, a4, a5, a6, a7, b0, b1, b2, b3, b4, b5, b6, b7, c0, f0, c1, f1, c2, f2, c3, f3, c4, f4, c5, f5, c6, f6, c7, f7, g5_, g6_, g7_, d0, k0, d1, k1, n0a, n0b, n1a, n1b, n2a, n2b, n3a, n3b, n4a, n4b, n5a, n5b⟩ := zfacts HS5.out; clear hb hg hbox HS0 HO0 hx0 hx1)
                  refine bodyPost_ret (results_ctt rfl _ _ g2 36 #[.int .i64 0, .int .i64 0, .int .i64 0, .int .i64 0, .int .i64 0, .string (⟨#[]⟩ : ByteArray), .string (⟨#[]⟩ : ByteArray), .bool false] (0, 0) _ rfl (Sv.at (Sv.set (Sv.set (Sv.set (Sv.set (Sv.set (Sv.set (Sv.set (Sv.set ((HS5.out.set 0 rfl 0 (.string x.f0)).set 0 rfl 1 (.string x.f1)) 3 rfl 0 (.int .i64 0)) 3 rfl 1 (.int .i64 0)) 3 rfl 2 (.int .i64 0)) 3 rfl 3 (.int .i64 0)) 3 rfl 4 (.int .i64 0)) 3 rfl 5 (.string (⟨#[]⟩ : ByteArray))) 3 rfl 6 (.string (⟨#[]⟩ : ByteArray))) 3 rfl 7 (.bool false)) 3 rfl) Try.underlying36 rfl (by kernel_rfl)) rfl ?_
                  exact ⟨rfl, Sv.below (Sv.set (Sv.set (Sv.set (Sv.set (Sv.set (Sv.set (Sv.set (Sv.set ((HS5.out.set 0 rfl 0 (.string x.f0)).set 0 rfl 1 (.string x.f1)) 3 rfl 0 (.int .i64 0)) 3 rfl 1 (.int .i64 0)) 3 rfl 2 (.int .i64 0)) 3 rfl 3 (.int .i64 0)) 3 rfl 4 (.int .i64 0)) 3 rfl 5 (.string (⟨#[]⟩ : ByteArray))) 3 rfl 6 (.string (⟨#[]⟩ : ByteArray))) 3 rfl 7 (.bool false))⟩
                · have T40_ := Aside0.mk t40
                  have u40_0 : decide (768 < (x.f1.size : Int)) = false := decide_eq_false t40
                  have u40_1 : decide (768 < x.f1.size) = false := decide_eq_false (by have := t40; omega)
                  clear t40
                  by_cases t41 : s.C = 3
                  · have T41_ := Aside0.mk t41
                    have u41_0 : (s.C == 3) = true := beq_iff_eq.mpr t41
                    have u41_1 : (s.C != 3) = false := bne_eq_false_iff_eq.mpr t41
                    have u41_2 : (s.C == 0) = false := beq_eq_false_iff_ne.mpr (by rw [t41]; decide)
                    have u41_3 : (s.C == 2) = false := beq_eq_false_iff_ne.mpr (by rw [t41]; decide)
                    have u41_4 : (s.C == 4) = false := beq_eq_false_iff_ne.mpr (by rw [t41]; decide)
                    have u41_5 : (s.C == 6) = false := beq_eq_false_iff_ne.mpr (by rw [t41]; decide)
                    clear t41
                    obtain ⟨J, hJ⟩ : ∃ j_ : Int, (shl .i64 3 s.D) = j_ := ⟨_, rfl⟩
                    have HJe := Aside0.mk hJ
                    have g0 := eq_true HD.out.1
                    have g1 : decide (0 ≤ s.D) = true := decide_eq_true HD.out.1
                    have hJ_ : (IntKind.i64.wrap (3 * 2 ^ min s.D.toNat 64)) = J := hJ
                    have hJz : s.D ≤ 64 → (IntKind.i64.wrap (3 * 2 ^ s.D.toNat)) = J := shl_small hJ
                    have hJy : (wrap64 (3 * 2 ^ min s.D.toNat 64)) = J := (i64_w _).symm.trans hJ_
                    have hJx : s.D ≤ 64 → (wrap64 (3 * 2 ^ s.D.toNat)) = J := fun h_ => (i64_w _).symm.trans (hJz h_)
                    have hJw : wrap64 (3 * 2 ^ s.D.toNat) = J := hJx (by have := HD.out.2; omega)
                    clear hJ
                    by_cases t42 : shl .i64 3 s.D < (x.f1.size : Int)
                    · have T42_ := Aside0.mk t42
                      have u42_0 : decide (J < (x.f1.size : Int)) = true := decide_eq_true (by have h_ := t42; rw [HJe.out] at h_; exact h_)
                      clear t42
                      have E0 : refStep s x.f0 x.f1 = (25, s) := by unfold refStep; rw [if_neg T90_.out, if_pos T91_.out, if_neg T33_.out, if_neg T34_.out, if_neg T35_.out, if_neg T36_.out, if_neg T37_.out, if_neg T38_.out, if_neg T39_.out, if_neg T40_.out, if_pos T41_.out, if_pos T42_.out]
                      rw [E0] at HLp
                      replace HLp : some (outE 25) = some r := HLp
                      obtain rfl := Option.some.inj HLp
                      clear HLp E0
                      go_wp2_with ((with_reducible refine gate_dst (N := 14) rfl ?_); refine box_event ?hg (N := 14) ?hd (cs := #[.string (⟨#[]⟩ : ByteArray), .string (⟨#[]⟩ : ByteArray)]) (t := 30) ?hr ?_; (case hd => rfl); (case hg => rfl); (case hr => first | (go_simp; done) | (go_simp; rfl)); intro gc hg w5 hbox hb; have HS5 := Aside0.mk (HS0.out.box hb hg hbox); have HO5 := Aside0.mk (Kd.R_below HO0.out hb); obtain ⟨a0, a1, a2, a3, a4, a5, a6, a7, b0, b1, b2, b3, b4, b5, b6, b7, c0, f0, c1, f1, c2, f2, c3, f3, c4, f4, c5, f5, c6, f6, c7, f7, g5_, g6_, g7_, d0, k0, d1, k1, n0a, n0b, n1a, n1b, n2a, n2b, n3a, n3b, n4a, n4b, n5a, n5b⟩ := zfacts HS5.out; clear hb hg hbox HS0 HO0 hx0 hx1)
                      refine bodyPost_ret (results_ctt rfl _ _ g2 36 #[.int .i64 0, .int .i64 0, .int .i64 0, .int .i64 0, .int .i64 0, .string (⟨#[]⟩ : ByteArray), .string (⟨#[]⟩ : ByteArray), .bool false] (0, 0) _ rfl (Sv.at (Sv.set (Sv.set (Sv.set (Sv.set (Sv.set (Sv.set (Sv.set (Sv.set ((HS5.out.set 0 rfl 0 (.string x.f0)).set 0 rfl 1 (.string x.f1)) 3 rfl 0 (.int .i64 0)) 3 rfl 1 (.int .i64 0)) 3 rfl 2 (.int .i64 0)) 3 rfl 3 (.int .i64 0)) 3 rfl 4 (.int .i64 0)) 3 rfl 5 (.string (⟨#[]⟩ : ByteArray))) 3 rfl 6 (.string (⟨#[]⟩ : ByteArray))) 3 rfl 7 (.bool false)) 3 rfl) Try.underlying36 rfl (by kernel_rfl)) rfl ?_
                      exact ⟨rfl, Sv.below (Sv.set (Sv.set (Sv.set (Sv.set (Sv.set (Sv.set (Sv.set (Sv.set ((HS5.out.set 0 rfl 0 (.string x.f0)).set 0 rfl 1 (.string x.f1)) 3 rfl 0 (.int .i64 0)) 3 rfl 1 (.int .i64 0)) 3 rfl 2 (.int .i64 0)) 3 rfl 3 (.int .i64 0)) 3 rfl 4 (.int .i64 0)) 3 rfl 5 (.string (⟨#[]⟩ : ByteArray))) 3 rfl 6 (.string (⟨#[]⟩ : ByteArray))) 3 rfl 7 (.bool false))⟩
                    · have T42_ := Aside0.mk t42
                      have u42_0 : decide (J < (x.f1.size : Int)) = false := decide_eq_false (by have h_ := t42; rw [HJe.out] at h_; exact h_)
                      clear t42
                      have E0 : refStep s x.f0 x.f1 = (0, { s with plt := true, pal := x.f1, gap := s.idat }) := by unfold refStep; rw [if_neg T90_.out, if_pos T91_.out, if_neg T33_.out, if_neg T34_.out, if_neg T35_.out, if_neg T36_.out, if_neg T37_.out, if_neg T38_.out, if_neg T39_.out, if_neg T40_.out, if_pos T41_.out, if_neg T42_.out]
                      rw [E0] at HLp
                      replace HLp : refLoop (l.drop (j + 1)) { s with plt := true, pal := x.f1, gap := s.idat } = some r := HLp
                      have HLq := Aside0.mk HLp
                      clear HLp E0
                      go_wp2_with ((with_reducible refine gate_dst (N := 14) rfl ?_); refine box_event ?hg (N := 14) ?hd (cs := #[.string (⟨#[]⟩ : ByteArray), .string (⟨#[]⟩ : ByteArray)]) (t := 30) ?hr ?_; (case hd => rfl); (case hg => rfl); (case hr => first | (go_simp; done) | (go_simp; rfl)); intro gc hg w5 hbox hb; have HS5 := Aside0.mk (HS0.out.box hb hg hbox); have HO5 := Aside0.mk (Kd.R_below HO0.out hb); obtain ⟨a0, a1, a2, a3, a4, a5, a6, a7, b0, b1, b2, b3, b4, b5, b6, b7, c0, f0, c1, f1, c2, f2, c3, f3, c4, f4, c5, f5, c6, f6, c7, f7, g5_, g6_, g7_, d0, k0, d1, k1, n0a, n0b, n1a, n1b, n2a, n2b, n3a, n3b, n4a, n4b, n5a, n5b⟩ := zfacts HS5.out; clear hb hg hbox HS0 HO0 hx0 hx1)
                      go_roundw
                      case rel => exact ⟨j + 1, { s with plt := true, pal := x.f1, gap := s.idat }, (by first | rfl | (show Value.bool _ = Value.bool s.plt; rw [u33_0]) | (show Value.bool _ = Value.bool s.ht; rw [u34_0]) | (show Value.bool _ = Value.bool s.idat; rw [u35_0])), (by first | rfl | (show Value.bool _ = Value.bool s.plt; rw [u33_0]) | (show Value.bool _ = Value.bool s.ht; rw [u34_0]) | (show Value.bool _ = Value.bool s.idat; rw [u35_0])), (by first | rfl | (show Value.bool _ = Value.bool s.plt; rw [u33_0]) | (show Value.bool _ = Value.bool s.ht; rw [u34_0]) | (show Value.bool _ = Value.bool s.idat; rw [u35_0])), by first | rfl | (rw [HJ1.out]) | go_num, hlt, Nat.le_add_left 1 j, ⟨((Sv.set ((HS5.out.set 0 rfl 0 (.string x.f0)).set 0 rfl 1 (.string x.f1)) 1 rfl 5 (.string x.f1))).tail, (Sv.keeps ((HS5.out.set 0 rfl 0 (.string x.f0)).set 0 rfl 1 (.string x.f1)) 1 rfl (by decide) ((HS5.out.set 0 rfl 0 (.string x.f0)).keeps 0 rfl (by decide) (HS5.out.keeps 0 rfl (by decide) HO5.out 0 (.string x.f0)) 1 (.string x.f1)) 5 (.string x.f1)), HD.out.1, HD.out.2, HLq.out, HSZ1.out, by have h_ := T40_.out; show x.f1.size ≤ 768; omega⟩⟩
                      case measure => exact mea_read2 hlt HJ1.out
                  · have T41_ := Aside0.mk t41
                    have u41_0 : (s.C == 3) = false := beq_eq_false_iff_ne.mpr t41
                    have u41_1 : (s.C != 3) = true := bne_iff_ne.mpr t41
                    clear t41
                    have E0 : refStep s x.f0 x.f1 = (0, { s with plt := true, pal := x.f1, gap := s.idat }) := by unfold refStep; rw [if_neg T90_.out, if_pos T91_.out, if_neg T33_.out, if_neg T34_.out, if_neg T35_.out, if_neg T36_.out, if_neg T37_.out, if_neg T38_.out, if_neg T39_.out, if_neg T40_.out, if_neg T41_.out]
                    rw [E0] at HLp
                    replace HLp : refLoop (l.drop (j + 1)) { s with plt := true, pal := x.f1, gap := s.idat } = some r := HLp
                    have HLq := Aside0.mk HLp
                    clear HLp E0
                    go_wp2_with ((with_reducible refine gate_dst (N := 14) rfl ?_); refine box_event ?hg (N := 14) ?hd (cs := #[.string (⟨#[]⟩ : ByteArray), .string (⟨#[]⟩ : ByteArray)]) (t := 30) ?hr ?_; (case hd => rfl); (case hg => rfl); (case hr => first | (go_simp; done) | (go_simp; rfl)); intro gc hg w5 hbox hb; have HS5 := Aside0.mk (HS0.out.box hb hg hbox); have HO5 := Aside0.mk (Kd.R_below HO0.out hb); obtain ⟨a0, a1, a2, a3, a4, a5, a6, a7, b0, b1, b2, b3, b4, b5, b6, b7, c0, f0, c1, f1, c2, f2, c3, f3, c4, f4, c5, f5, c6, f6, c7, f7, g5_, g6_, g7_, d0, k0, d1, k1, n0a, n0b, n1a, n1b, n2a, n2b, n3a, n3b, n4a, n4b, n5a, n5b⟩ := zfacts HS5.out; clear hb hg hbox HS0 HO0 hx0 hx1)
                    go_roundw
                    case rel => exact ⟨j + 1, { s with plt := true, pal := x.f1, gap := s.idat }, (by first | rfl | (show Value.bool _ = Value.bool s.plt; rw [u33_0]) | (show Value.bool _ = Value.bool s.ht; rw [u34_0]) | (show Value.bool _ = Value.bool s.idat; rw [u35_0])), (by first | rfl | (show Value.bool _ = Value.bool s.plt; rw [u33_0]) | (show Value.bool _ = Value.bool s.ht; rw [u34_0]) | (show Value.bool _ = Value.bool s.idat; rw [u35_0])), (by first | rfl | (show Value.bool _ = Value.bool s.plt; rw [u33_0]) | (show Value.bool _ = Value.bool s.ht; rw [u34_0]) | (show Value.bool _ = Value.bool s.idat; rw [u35_0])), by first | rfl | (rw [HJ1.out]) | go_num, hlt, Nat.le_add_left 1 j, ⟨((Sv.set ((HS5.out.set 0 rfl 0 (.string x.f0)).set 0 rfl 1 (.string x.f1)) 1 rfl 5 (.string x.f1))).tail, (Sv.keeps ((HS5.out.set 0 rfl 0 (.string x.f0)).set 0 rfl 1 (.string x.f1)) 1 rfl (by decide) ((HS5.out.set 0 rfl 0 (.string x.f0)).keeps 0 rfl (by decide) (HS5.out.keeps 0 rfl (by decide) HO5.out 0 (.string x.f0)) 1 (.string x.f1)) 5 (.string x.f1)), HD.out.1, HD.out.2, HLq.out, HSZ1.out, by have h_ := T40_.out; show x.f1.size ≤ 768; omega⟩⟩
                    case measure => exact mea_read2 hlt HJ1.out
set_option maxHeartbeats 40000000 in
set_option maxRecDepth 100000 in
theorem ref_part3 (k : Nat) (ad : Addr) (c : Nat) (l : List S30) (xh : S30) (a b : Int) (r : HOut) (w : World) :
    (ref_cut k ad c l xh a b r w).1.2.2.2.1 := by
  delta ref_cut
  intro HM HS_ HDD HO1 HO2 HRR HL HX0 HX1 n HN HR hn0 Qp g2 w1 g5 w2 w3 hHeld w4 g7 wj w5 w6 Kp ap wr u3 u4 u9 u14 u15 u70 u71 u72 u73 u74 u75 u76 u77 u78 u79 u80 u81 u82 u83 u84 u85 u86 u87 u88 u89 u90 u91 u92 u93 u94 u95 u96 u97 u98 u99 u100 u101 u102 u103 u104 u105 u106 u107 u108 u109 u110 u111 u112 u113 u114 u115 u116 u117 u118 u119 u120 u121 u122 u123 u124 u125 u126 u127 u128 u129 u130 u131 u132 u133 u134 u135 u136 u137 u138 u139 u140 u141 u142 u143 u144 u145 u146 u147 u148 u149 u150 u151 u152 u153 u154 u155 u156 u157 u158 u159 u160 u161 u162 u163 u164 u165 u166 u167 u168 u169 u170 u171 u172 u173 u174 u175 u176 u177 u178 u179 u180 u181 u182 u183 u184 u185 u186 u187 u188 u189 u190 u191 u192 u193 u194 u195 u196 u197 u198 u199 u200 u201 u202 u203 u204 u205 u206 u207 u208 u209 u210 u211 u212 u213 u214 u215 u216 u217 u218 u219 u220 u221 u222 u223 u224 u225 u226 u227 u228 u229 u230 u231 u232 u233 u234 u235 u236 u237 u238 u239 u240 u241 u242 u243 u244 u245 u246 u247 u248 u249 u250 u251 u252 u253 u254 u255 u256 u257 u258 u259 j s hj hj1 HI hlt q0 q1 q2 q3 x HX hx0 hx1 HLp HS0 HO0 HD HP HSZ HSZ1 HSZ2 HJ1 tE t90 t91 t92
  rw [if_neg tE] at HLp
  have eE : (x.f0.toList == [73, 69, 78, 68]) = false := beq_eq_false_iff_ne.mpr tE
  clear tE
  have T90_ := Aside0.mk t90
  have u90_0 : (x.f0.toList == [73, 72, 68, 82]) = false := beq_eq_false_iff_ne.mpr t90
  clear t90
  have T91_ := Aside0.mk t91
  have u91_0 : (x.f0.toList == [80, 76, 84, 69]) = false := beq_eq_false_iff_ne.mpr t91
  clear t91
  have T92_ := Aside0.mk t92
  have u92_0 : (x.f0.toList == [116, 82, 78, 83]) = true := beq_iff_eq.mpr t92
  clear t92
  by_cases t43 : s.ht = true
  · have T43_ := Aside0.mk t43
    have u43_0 : s.ht = true := t43
    clear t43
    have E0 : refStep s x.f0 x.f1 = (23, s) := by unfold refStep; rw [if_neg T90_.out, if_neg T91_.out, if_pos T92_.out, if_pos T43_.out]
    rw [E0] at HLp
    replace HLp : some (outE 23) = some r := HLp
    obtain rfl := Option.some.inj HLp
    clear HLp E0
    go_wp2_with ((with_reducible refine gate_dst (N := 14) rfl ?_); refine box_event ?hg (N := 14) ?hd (cs := #[.string (⟨#[]⟩ : ByteArray), .string (⟨#[]⟩ : ByteArray)]) (t := 30) ?hr ?_; (case hd => rfl); (case hg => rfl); (case hr => first | (go_simp; done) | (go_simp; rfl)); intro gc hg w5 hbox hb; have HS5 := Aside0.mk (HS0.out.box hb hg hbox); have HO5 := Aside0.mk (Kd.R_below HO0.out hb); obtain ⟨a0, a1, a2, a3, a4, a5, a6, a7, b0, b1, b2, b3, b4, b5, b6, b7, c0, f0, c1, f1, c2, f2, c3, f3, c4, f4, c5, f5, c6, f6, c7, f7, g5_, g6_, g7_, d0, k0, d1, k1, n0a, n0b, n1a, n1b, n2a, n2b, n3a, n3b, n4a, n4b, n5a, n5b⟩ := zfacts HS5.out; clear hb hg hbox HS0 HO0 hx0 hx1)
    refine bodyPost_ret (results_ctt rfl _ _ g2 36 #[.int .i64 0, .int .i64 0, .int .i64 0, .int .i64 0, .int .i64 0, .string (⟨#[]⟩ : ByteArray), .string (⟨#[]⟩ : ByteArray), .bool false] (0, 0) _ rfl (Sv.at (Sv.set (Sv.set (Sv.set (Sv.set (Sv.set (Sv.set (Sv.set (Sv.set ((HS5.out.set 0 rfl 0 (.string x.f0)).set 0 rfl 1 (.string x.f1)) 3 rfl 0 (.int .i64 0)) 3 rfl 1 (.int .i64 0)) 3 rfl 2 (.int .i64 0)) 3 rfl 3 (.int .i64 0)) 3 rfl 4 (.int .i64 0)) 3 rfl 5 (.string (⟨#[]⟩ : ByteArray))) 3 rfl 6 (.string (⟨#[]⟩ : ByteArray))) 3 rfl 7 (.bool false)) 3 rfl) Try.underlying36 rfl (by kernel_rfl)) rfl ?_
    exact ⟨rfl, Sv.below (Sv.set (Sv.set (Sv.set (Sv.set (Sv.set (Sv.set (Sv.set (Sv.set ((HS5.out.set 0 rfl 0 (.string x.f0)).set 0 rfl 1 (.string x.f1)) 3 rfl 0 (.int .i64 0)) 3 rfl 1 (.int .i64 0)) 3 rfl 2 (.int .i64 0)) 3 rfl 3 (.int .i64 0)) 3 rfl 4 (.int .i64 0)) 3 rfl 5 (.string (⟨#[]⟩ : ByteArray))) 3 rfl 6 (.string (⟨#[]⟩ : ByteArray))) 3 rfl 7 (.bool false))⟩
  · have T43_ := Aside0.mk t43
    have u43_0 : s.ht = false := Bool.eq_false_iff.mpr t43
    clear t43
    by_cases t44 : s.idat = true
    · have T44_ := Aside0.mk t44
      have u44_0 : s.idat = true := t44
      clear t44
      have E0 : refStep s x.f0 x.f1 = (23, s) := by unfold refStep; rw [if_neg T90_.out, if_neg T91_.out, if_pos T92_.out, if_neg T43_.out, if_pos T44_.out]
      rw [E0] at HLp
      replace HLp : some (outE 23) = some r := HLp
      obtain rfl := Option.some.inj HLp
      clear HLp E0
      go_wp2_with ((with_reducible refine gate_dst (N := 14) rfl ?_); refine box_event ?hg (N := 14) ?hd (cs := #[.string (⟨#[]⟩ : ByteArray), .string (⟨#[]⟩ : ByteArray)]) (t := 30) ?hr ?_; (case hd => rfl); (case hg => rfl); (case hr => first | (go_simp; done) | (go_simp; rfl)); intro gc hg w5 hbox hb; have HS5 := Aside0.mk (HS0.out.box hb hg hbox); have HO5 := Aside0.mk (Kd.R_below HO0.out hb); obtain ⟨a0, a1, a2, a3, a4, a5, a6, a7, b0, b1, b2, b3, b4, b5, b6, b7, c0, f0, c1, f1, c2, f2, c3, f3, c4, f4, c5, f5, c6, f6, c7, f7, g5_, g6_, g7_, d0, k0, d1, k1, n0a, n0b, n1a, n1b, n2a, n2b, n3a, n3b, n4a, n4b, n5a, n5b⟩ := zfacts HS5.out; clear hb hg hbox HS0 HO0 hx0 hx1)
      refine bodyPost_ret (results_ctt rfl _ _ g2 36 #[.int .i64 0, .int .i64 0, .int .i64 0, .int .i64 0, .int .i64 0, .string (⟨#[]⟩ : ByteArray), .string (⟨#[]⟩ : ByteArray), .bool false] (0, 0) _ rfl (Sv.at (Sv.set (Sv.set (Sv.set (Sv.set (Sv.set (Sv.set (Sv.set (Sv.set ((HS5.out.set 0 rfl 0 (.string x.f0)).set 0 rfl 1 (.string x.f1)) 3 rfl 0 (.int .i64 0)) 3 rfl 1 (.int .i64 0)) 3 rfl 2 (.int .i64 0)) 3 rfl 3 (.int .i64 0)) 3 rfl 4 (.int .i64 0)) 3 rfl 5 (.string (⟨#[]⟩ : ByteArray))) 3 rfl 6 (.string (⟨#[]⟩ : ByteArray))) 3 rfl 7 (.bool false)) 3 rfl) Try.underlying36 rfl (by kernel_rfl)) rfl ?_
      exact ⟨rfl, Sv.below (Sv.set (Sv.set (Sv.set (Sv.set (Sv.set (Sv.set (Sv.set (Sv.set ((HS5.out.set 0 rfl 0 (.string x.f0)).set 0 rfl 1 (.string x.f1)) 3 rfl 0 (.int .i64 0)) 3 rfl 1 (.int .i64 0)) 3 rfl 2 (.int .i64 0)) 3 rfl 3 (.int .i64 0)) 3 rfl 4 (.int .i64 0)) 3 rfl 5 (.string (⟨#[]⟩ : ByteArray))) 3 rfl 6 (.string (⟨#[]⟩ : ByteArray))) 3 rfl 7 (.bool false))⟩
    · have T44_ := Aside0.mk t44
      have u44_0 : s.idat = false := Bool.eq_false_iff.mpr t44
      clear t44
      by_cases t45 : s.C = 3
      · have T45_ := Aside0.mk t45
        have u45_0 : (s.C == 3) = true := beq_iff_eq.mpr t45
        have u45_1 : (s.C != 3) = false := bne_eq_false_iff_eq.mpr t45
        have u45_2 : (s.C == 0) = false := beq_eq_false_iff_ne.mpr (by rw [t45]; decide)
        have u45_3 : (s.C == 2) = false := beq_eq_false_iff_ne.mpr (by rw [t45]; decide)
        have u45_4 : (s.C == 4) = false := beq_eq_false_iff_ne.mpr (by rw [t45]; decide)
        have u45_5 : (s.C == 6) = false := beq_eq_false_iff_ne.mpr (by rw [t45]; decide)
        clear t45
        by_cases t46 : s.plt = true
        · have T46_ := Aside0.mk t46
          have u46_0 : s.plt = true := t46
          clear t46
          by_cases t47 : (s.pal.size : Int) / 3 < (x.f1.size : Int)
          · have T47_ := Aside0.mk t47
            have u47_0 : decide ((s.pal.size : Int) / 3 < (x.f1.size : Int)) = true := decide_eq_true t47
            have u47_1 : s.pal.size ≤ 768 := HP.out
            clear t47
            have E0 : refStep s x.f0 x.f1 = (26, s) := by unfold refStep; rw [if_neg T90_.out, if_neg T91_.out, if_pos T92_.out, if_neg T43_.out, if_neg T44_.out, if_pos T45_.out, if_pos T46_.out, if_pos T47_.out]
            rw [E0] at HLp
            replace HLp : some (outE 26) = some r := HLp
            obtain rfl := Option.some.inj HLp
            clear HLp E0
            go_wp2_with ((with_reducible refine gate_dst (N := 14) rfl ?_); refine box_event ?hg (N := 14) ?hd (cs := #[.string (⟨#[]⟩ : ByteArray), .string (⟨#[]⟩ : ByteArray)]) (t := 30) ?hr ?_; (case hd => rfl); (case hg => rfl); (case hr => first | (go_simp; done) | (go_simp; rfl)); intro gc hg w5 hbox hb; have HS5 := Aside0.mk (HS0.out.box hb hg hbox); have HO5 := Aside0.mk (Kd.R_below HO0.out hb); obtain ⟨a0, a1, a2, a3, a4, a5, a6, a7, b0, b1, b2, b3, b4, b5, b6, b7, c0, f0, c1, f1, c2, f2, c3, f3, c4, f4, c5, f5, c6, f6, c7, f7, g5_, g6_, g7_, d0, k0, d1, k1, n0a, n0b, n1a, n1b, n2a, n2b, n3a, n3b, n4a, n4b, n5a, n5b⟩ := zfacts HS5.out; clear hb hg hbox HS0 HO0 hx0 hx1)
            refine bodyPost_ret (results_ctt rfl _ _ g2 36 #[.int .i64 0, .int .i64 0, .int .i64 0, .int .i64 0, .int .i64 0, .string (⟨#[]⟩ : ByteArray), .string (⟨#[]⟩ : ByteArray), .bool false] (0, 0) _ rfl (Sv.at (Sv.set (Sv.set (Sv.set (Sv.set (Sv.set (Sv.set (Sv.set (Sv.set ((HS5.out.set 0 rfl 0 (.string x.f0)).set 0 rfl 1 (.string x.f1)) 3 rfl 0 (.int .i64 0)) 3 rfl 1 (.int .i64 0)) 3 rfl 2 (.int .i64 0)) 3 rfl 3 (.int .i64 0)) 3 rfl 4 (.int .i64 0)) 3 rfl 5 (.string (⟨#[]⟩ : ByteArray))) 3 rfl 6 (.string (⟨#[]⟩ : ByteArray))) 3 rfl 7 (.bool false)) 3 rfl) Try.underlying36 rfl (by kernel_rfl)) rfl ?_
            exact ⟨rfl, Sv.below (Sv.set (Sv.set (Sv.set (Sv.set (Sv.set (Sv.set (Sv.set (Sv.set ((HS5.out.set 0 rfl 0 (.string x.f0)).set 0 rfl 1 (.string x.f1)) 3 rfl 0 (.int .i64 0)) 3 rfl 1 (.int .i64 0)) 3 rfl 2 (.int .i64 0)) 3 rfl 3 (.int .i64 0)) 3 rfl 4 (.int .i64 0)) 3 rfl 5 (.string (⟨#[]⟩ : ByteArray))) 3 rfl 6 (.string (⟨#[]⟩ : ByteArray))) 3 rfl 7 (.bool false))⟩
          · have T47_ := Aside0.mk t47
            have u47_0 : decide ((s.pal.size : Int) / 3 < (x.f1.size : Int)) = false := decide_eq_false t47
            have u47_1 : s.pal.size ≤ 768 := HP.out
            clear t47
            have E0 : refStep s x.f0 x.f1 = (0, { s with ht := true, tr := x.f1, gap := s.idat }) := by unfold refStep; rw [if_neg T90_.out, if_neg T91_.out, if_pos T92_.out, if_neg T43_.out, if_neg T44_.out, if_pos T45_.out, if_pos T46_.out, if_neg T47_.out]
            rw [E0] at HLp
            replace HLp : refLoop (l.drop (j + 1)) { s with ht := true, tr := x.f1, gap := s.idat } = some r := HLp
            have HLq := Aside0.mk HLp
            clear HLp E0
            go_wp2_with ((with_reducible refine gate_dst (N := 14) rfl ?_); refine box_event ?hg (N := 14) ?hd (cs := #[.string (⟨#[]⟩ : ByteArray), .string (⟨#[]⟩ : ByteArray)]) (t := 30) ?hr ?_; (case hd => rfl); (case hg => rfl); (case hr => first | (go_simp; done) | (go_simp; rfl)); intro gc hg w5 hbox hb; have HS5 := Aside0.mk (HS0.out.box hb hg hbox); have HO5 := Aside0.mk (Kd.R_below HO0.out hb); obtain ⟨a0, a1, a2, a3, a4, a5, a6, a7, b0, b1, b2, b3, b4, b5, b6, b7, c0, f0, c1, f1, c2, f2, c3, f3, c4, f4, c5, f5, c6, f6, c7, f7, g5_, g6_, g7_, d0, k0, d1, k1, n0a, n0b, n1a, n1b, n2a, n2b, n3a, n3b, n4a, n4b, n5a, n5b⟩ := zfacts HS5.out; clear hb hg hbox HS0 HO0 hx0 hx1)
            go_roundw
            case rel => exact ⟨j + 1, { s with ht := true, tr := x.f1, gap := s.idat }, (by first | rfl | (show Value.bool _ = Value.bool s.ht; rw [u43_0]) | (show Value.bool _ = Value.bool s.idat; rw [u44_0]) | (show Value.bool _ = Value.bool s.plt; rw [u46_0])), (by first | rfl | (show Value.bool _ = Value.bool s.ht; rw [u43_0]) | (show Value.bool _ = Value.bool s.idat; rw [u44_0]) | (show Value.bool _ = Value.bool s.plt; rw [u46_0])), (by first | rfl | (show Value.bool _ = Value.bool s.ht; rw [u43_0]) | (show Value.bool _ = Value.bool s.idat; rw [u44_0]) | (show Value.bool _ = Value.bool s.plt; rw [u46_0])), by first | rfl | (rw [HJ1.out]) | go_num, hlt, Nat.le_add_left 1 j, ⟨((Sv.set (Sv.set ((HS5.out.set 0 rfl 0 (.string x.f0)).set 0 rfl 1 (.string x.f1)) 1 rfl 7 (.bool true)) 1 rfl 6 (.string x.f1))).tail, (Sv.keeps (Sv.set ((HS5.out.set 0 rfl 0 (.string x.f0)).set 0 rfl 1 (.string x.f1)) 1 rfl 7 (.bool true)) 1 rfl (by decide) ((Sv.keeps ((HS5.out.set 0 rfl 0 (.string x.f0)).set 0 rfl 1 (.string x.f1)) 1 rfl (by decide) ((HS5.out.set 0 rfl 0 (.string x.f0)).keeps 0 rfl (by decide) (HS5.out.keeps 0 rfl (by decide) HO5.out 0 (.string x.f0)) 1 (.string x.f1)) 7 (.bool true))) 6 (.string x.f1)), HD.out.1, HD.out.2, HLq.out, HSZ1.out, HP.out⟩⟩
            case measure => exact mea_read2 hlt HJ1.out
        · have T46_ := Aside0.mk t46
          have u46_0 : s.plt = false := Bool.eq_false_iff.mpr t46
          clear t46
          have E0 : refStep s x.f0 x.f1 = (23, s) := by unfold refStep; rw [if_neg T90_.out, if_neg T91_.out, if_pos T92_.out, if_neg T43_.out, if_neg T44_.out, if_pos T45_.out, if_neg T46_.out]
          rw [E0] at HLp
          replace HLp : some (outE 23) = some r := HLp
          obtain rfl := Option.some.inj HLp
          clear HLp E0
          go_wp2_with ((with_reducible refine gate_dst (N := 14) rfl ?_); refine box_event ?hg (N := 14) ?hd (cs := #[.string (⟨#[]⟩ : ByteArray), .string (⟨#[]⟩ : ByteArray)]) (t := 30) ?hr ?_; (case hd => rfl); (case hg => rfl); (case hr => first | (go_simp; done) | (go_simp; rfl)); intro gc hg w5 hbox hb; have HS5 := Aside0.mk (HS0.out.box hb hg hbox); have HO5 := Aside0.mk (Kd.R_below HO0.out hb); obtain ⟨a0, a1, a2, a3, a4, a5, a6, a7, b0, b1, b2, b3, b4, b5, b6, b7, c0, f0, c1, f1, c2, f2, c3, f3, c4, f4, c5, f5, c6, f6, c7, f7, g5_, g6_, g7_, d0, k0, d1, k1, n0a, n0b, n1a, n1b, n2a, n2b, n3a, n3b, n4a, n4b, n5a, n5b⟩ := zfacts HS5.out; clear hb hg hbox HS0 HO0 hx0 hx1)
          refine bodyPost_ret (results_ctt rfl _ _ g2 36 #[.int .i64 0, .int .i64 0, .int .i64 0, .int .i64 0, .int .i64 0, .string (⟨#[]⟩ : ByteArray), .string (⟨#[]⟩ : ByteArray), .bool false] (0, 0) _ rfl (Sv.at (Sv.set (Sv.set (Sv.set (Sv.set (Sv.set (Sv.set (Sv.set (Sv.set ((HS5.out.set 0 rfl 0 (.string x.f0)).set 0 rfl 1 (.string x.f1)) 3 rfl 0 (.int .i64 0)) 3 rfl 1 (.int .i64 0)) 3 rfl 2 (.int .i64 0)) 3 rfl 3 (.int .i64 0)) 3 rfl 4 (.int .i64 0)) 3 rfl 5 (.string (⟨#[]⟩ : ByteArray))) 3 rfl 6 (.string (⟨#[]⟩ : ByteArray))) 3 rfl 7 (.bool false)) 3 rfl) Try.underlying36 rfl (by kernel_rfl)) rfl ?_
          exact ⟨rfl, Sv.below (Sv.set (Sv.set (Sv.set (Sv.set (Sv.set (Sv.set (Sv.set (Sv.set ((HS5.out.set 0 rfl 0 (.string x.f0)).set 0 rfl 1 (.string x.f1)) 3 rfl 0 (.int .i64 0)) 3 rfl 1 (.int .i64 0)) 3 rfl 2 (.int .i64 0)) 3 rfl 3 (.int .i64 0)) 3 rfl 4 (.int .i64 0)) 3 rfl 5 (.string (⟨#[]⟩ : ByteArray))) 3 rfl 6 (.string (⟨#[]⟩ : ByteArray))) 3 rfl 7 (.bool false))⟩
      · have T45_ := Aside0.mk t45
        have u45_0 : (s.C == 3) = false := beq_eq_false_iff_ne.mpr t45
        have u45_1 : (s.C != 3) = true := bne_iff_ne.mpr t45
        clear t45
        by_cases t48 : s.C = 4
        · have T48_ := Aside0.mk t48
          have u48_0 : (s.C == 4) = true := beq_iff_eq.mpr t48
          have u48_1 : (s.C != 4) = false := bne_eq_false_iff_eq.mpr t48
          have u48_2 : (s.C == 0) = false := beq_eq_false_iff_ne.mpr (by rw [t48]; decide)
          have u48_3 : (s.C == 2) = false := beq_eq_false_iff_ne.mpr (by rw [t48]; decide)
          have u48_4 : (s.C == 3) = false := beq_eq_false_iff_ne.mpr (by rw [t48]; decide)
          have u48_5 : (s.C == 6) = false := beq_eq_false_iff_ne.mpr (by rw [t48]; decide)
          clear t48
          have E0 : refStep s x.f0 x.f1 = (26, s) := by unfold refStep; rw [if_neg T90_.out, if_neg T91_.out, if_pos T92_.out, if_neg T43_.out, if_neg T44_.out, if_neg T45_.out, if_pos T48_.out]
          rw [E0] at HLp
          replace HLp : some (outE 26) = some r := HLp
          obtain rfl := Option.some.inj HLp
          clear HLp E0
          go_wp2_with ((with_reducible refine gate_dst (N := 14) rfl ?_); refine box_event ?hg (N := 14) ?hd (cs := #[.string (⟨#[]⟩ : ByteArray), .string (⟨#[]⟩ : ByteArray)]) (t := 30) ?hr ?_; (case hd => rfl); (case hg => rfl); (case hr => first | (go_simp; done) | (go_simp; rfl)); intro gc hg w5 hbox hb; have HS5 := Aside0.mk (HS0.out.box hb hg hbox); have HO5 := Aside0.mk (Kd.R_below HO0.out hb); obtain ⟨a0, a1, a2, a3, a4, a5, a6, a7, b0, b1, b2, b3, b4, b5, b6, b7, c0, f0, c1, f1, c2, f2, c3, f3, c4, f4, c5, f5, c6, f6, c7, f7, g5_, g6_, g7_, d0, k0, d1, k1, n0a, n0b, n1a, n1b, n2a, n2b, n3a, n3b, n4a, n4b, n5a, n5b⟩ := zfacts HS5.out; clear hb hg hbox HS0 HO0 hx0 hx1)
          refine bodyPost_ret (results_ctt rfl _ _ g2 36 #[.int .i64 0, .int .i64 0, .int .i64 0, .int .i64 0, .int .i64 0, .string (⟨#[]⟩ : ByteArray), .string (⟨#[]⟩ : ByteArray), .bool false] (0, 0) _ rfl (Sv.at (Sv.set (Sv.set (Sv.set (Sv.set (Sv.set (Sv.set (Sv.set (Sv.set ((HS5.out.set 0 rfl 0 (.string x.f0)).set 0 rfl 1 (.string x.f1)) 3 rfl 0 (.int .i64 0)) 3 rfl 1 (.int .i64 0)) 3 rfl 2 (.int .i64 0)) 3 rfl 3 (.int .i64 0)) 3 rfl 4 (.int .i64 0)) 3 rfl 5 (.string (⟨#[]⟩ : ByteArray))) 3 rfl 6 (.string (⟨#[]⟩ : ByteArray))) 3 rfl 7 (.bool false)) 3 rfl) Try.underlying36 rfl (by kernel_rfl)) rfl ?_
          exact ⟨rfl, Sv.below (Sv.set (Sv.set (Sv.set (Sv.set (Sv.set (Sv.set (Sv.set (Sv.set ((HS5.out.set 0 rfl 0 (.string x.f0)).set 0 rfl 1 (.string x.f1)) 3 rfl 0 (.int .i64 0)) 3 rfl 1 (.int .i64 0)) 3 rfl 2 (.int .i64 0)) 3 rfl 3 (.int .i64 0)) 3 rfl 4 (.int .i64 0)) 3 rfl 5 (.string (⟨#[]⟩ : ByteArray))) 3 rfl 6 (.string (⟨#[]⟩ : ByteArray))) 3 rfl 7 (.bool false))⟩
        · have T48_ := Aside0.mk t48
          have u48_0 : (s.C == 4) = false := beq_eq_false_iff_ne.mpr t48
          have u48_1 : (s.C != 4) = true := bne_iff_ne.mpr t48
          clear t48
          by_cases t49 : s.C = 6
          · have T49_ := Aside0.mk t49
            have u49_0 : (s.C == 6) = true := beq_iff_eq.mpr t49
            have u49_1 : (s.C != 6) = false := bne_eq_false_iff_eq.mpr t49
            have u49_2 : (s.C == 0) = false := beq_eq_false_iff_ne.mpr (by rw [t49]; decide)
            have u49_3 : (s.C == 2) = false := beq_eq_false_iff_ne.mpr (by rw [t49]; decide)
            have u49_4 : (s.C == 3) = false := beq_eq_false_iff_ne.mpr (by rw [t49]; decide)
            have u49_5 : (s.C == 4) = false := beq_eq_false_iff_ne.mpr (by rw [t49]; decide)
            clear t49
            have E0 : refStep s x.f0 x.f1 = (26, s) := by unfold refStep; rw [if_neg T90_.out, if_neg T91_.out, if_pos T92_.out, if_neg T43_.out, if_neg T44_.out, if_neg T45_.out, if_neg T48_.out, if_pos T49_.out]
            rw [E0] at HLp
            replace HLp : some (outE 26) = some r := HLp
            obtain rfl := Option.some.inj HLp
            clear HLp E0
            go_wp2_with ((with_reducible refine gate_dst (N := 14) rfl ?_); refine box_event ?hg (N := 14) ?hd (cs := #[.string (⟨#[]⟩ : ByteArray), .string (⟨#[]⟩ : ByteArray)]) (t := 30) ?hr ?_; (case hd => rfl); (case hg => rfl); (case hr => first | (go_simp; done) | (go_simp; rfl)); intro gc hg w5 hbox hb; have HS5 := Aside0.mk (HS0.out.box hb hg hbox); have HO5 := Aside0.mk (Kd.R_below HO0.out hb); obtain ⟨a0, a1, a2, a3, a4, a5, a6, a7, b0, b1, b2, b3, b4, b5, b6, b7, c0, f0, c1, f1, c2, f2, c3, f3, c4, f4, c5, f5, c6, f6, c7, f7, g5_, g6_, g7_, d0, k0, d1, k1, n0a, n0b, n1a, n1b, n2a, n2b, n3a, n3b, n4a, n4b, n5a, n5b⟩ := zfacts HS5.out; clear hb hg hbox HS0 HO0 hx0 hx1)
            refine bodyPost_ret (results_ctt rfl _ _ g2 36 #[.int .i64 0, .int .i64 0, .int .i64 0, .int .i64 0, .int .i64 0, .string (⟨#[]⟩ : ByteArray), .string (⟨#[]⟩ : ByteArray), .bool false] (0, 0) _ rfl (Sv.at (Sv.set (Sv.set (Sv.set (Sv.set (Sv.set (Sv.set (Sv.set (Sv.set ((HS5.out.set 0 rfl 0 (.string x.f0)).set 0 rfl 1 (.string x.f1)) 3 rfl 0 (.int .i64 0)) 3 rfl 1 (.int .i64 0)) 3 rfl 2 (.int .i64 0)) 3 rfl 3 (.int .i64 0)) 3 rfl 4 (.int .i64 0)) 3 rfl 5 (.string (⟨#[]⟩ : ByteArray))) 3 rfl 6 (.string (⟨#[]⟩ : ByteArray))) 3 rfl 7 (.bool false)) 3 rfl) Try.underlying36 rfl (by kernel_rfl)) rfl ?_
            exact ⟨rfl, Sv.below (Sv.set (Sv.set (Sv.set (Sv.set (Sv.set (Sv.set (Sv.set (Sv.set ((HS5.out.set 0 rfl 0 (.string x.f0)).set 0 rfl 1 (.string x.f1)) 3 rfl 0 (.int .i64 0)) 3 rfl 1 (.int .i64 0)) 3 rfl 2 (.int .i64 0)) 3 rfl 3 (.int .i64 0)) 3 rfl 4 (.int .i64 0)) 3 rfl 5 (.string (⟨#[]⟩ : ByteArray))) 3 rfl 6 (.string (⟨#[]⟩ : ByteArray))) 3 rfl 7 (.bool false))⟩
          · have T49_ := Aside0.mk t49
            have u49_0 : (s.C == 6) = false := beq_eq_false_iff_ne.mpr t49
            have u49_1 : (s.C != 6) = true := bne_iff_ne.mpr t49
            clear t49
            by_cases t50 : s.C = 0
            · have T50_ := Aside0.mk t50
              have u50_0 : (s.C == 0) = true := beq_iff_eq.mpr t50
              have u50_1 : (s.C != 0) = false := bne_eq_false_iff_eq.mpr t50
              have u50_2 : (s.C == 2) = false := beq_eq_false_iff_ne.mpr (by rw [t50]; decide)
              have u50_3 : (s.C == 3) = false := beq_eq_false_iff_ne.mpr (by rw [t50]; decide)
              have u50_4 : (s.C == 4) = false := beq_eq_false_iff_ne.mpr (by rw [t50]; decide)
              have u50_5 : (s.C == 6) = false := beq_eq_false_iff_ne.mpr (by rw [t50]; decide)
              clear t50
              by_cases t51 : (x.f1.size : Int) = 2
              · have T51_ := Aside0.mk t51
                have u51_0 : ((x.f1.size : Int) == 2) = true := beq_iff_eq.mpr t51
                have u51_1 : ((x.f1.size : Int) != 2) = false := bne_eq_false_iff_eq.mpr t51
                clear t51
                have E0 : refStep s x.f0 x.f1 = (0, { s with ht := true, tr := x.f1, gap := s.idat }) := by unfold refStep; rw [if_neg T90_.out, if_neg T91_.out, if_pos T92_.out, if_neg T43_.out, if_neg T44_.out, if_neg T45_.out, if_neg T48_.out, if_neg T49_.out, if_pos T50_.out, if_pos T51_.out]
                rw [E0] at HLp
                replace HLp : refLoop (l.drop (j + 1)) { s with ht := true, tr := x.f1, gap := s.idat } = some r := HLp
                have HLq := Aside0.mk HLp
                clear HLp E0
                go_wp2_with ((with_reducible refine gate_dst (N := 14) rfl ?_); refine box_event ?hg (N := 14) ?hd (cs := #[.string (⟨#[]⟩ : ByteArray), .string (⟨#[]⟩ : ByteArray)]) (t := 30) ?hr ?_; (case hd => rfl); (case hg => rfl); (case hr => first | (go_simp; done) | (go_simp; rfl)); intro gc hg w5 hbox hb; have HS5 := Aside0.mk (HS0.out.box hb hg hbox); have HO5 := Aside0.mk (Kd.R_below HO0.out hb); obtain ⟨a0, a1, a2, a3, a4, a5, a6, a7, b0, b1, b2, b3, b4, b5, b6, b7, c0, f0, c1, f1, c2, f2, c3, f3, c4, f4, c5, f5, c6, f6, c7, f7, g5_, g6_, g7_, d0, k0, d1, k1, n0a, n0b, n1a, n1b, n2a, n2b, n3a, n3b, n4a, n4b, n5a, n5b⟩ := zfacts HS5.out; clear hb hg hbox HS0 HO0 hx0 hx1)
                go_roundw
                case rel => exact ⟨j + 1, { s with ht := true, tr := x.f1, gap := s.idat }, (by first | rfl | (show Value.bool _ = Value.bool s.ht; rw [u43_0]) | (show Value.bool _ = Value.bool s.idat; rw [u44_0])), (by first | rfl | (show Value.bool _ = Value.bool s.ht; rw [u43_0]) | (show Value.bool _ = Value.bool s.idat; rw [u44_0])), (by first | rfl | (show Value.bool _ = Value.bool s.ht; rw [u43_0]) | (show Value.bool _ = Value.bool s.idat; rw [u44_0])), by first | rfl | (rw [HJ1.out]) | go_num, hlt, Nat.le_add_left 1 j, ⟨((Sv.set (Sv.set ((HS5.out.set 0 rfl 0 (.string x.f0)).set 0 rfl 1 (.string x.f1)) 1 rfl 7 (.bool true)) 1 rfl 6 (.string x.f1))).tail, (Sv.keeps (Sv.set ((HS5.out.set 0 rfl 0 (.string x.f0)).set 0 rfl 1 (.string x.f1)) 1 rfl 7 (.bool true)) 1 rfl (by decide) ((Sv.keeps ((HS5.out.set 0 rfl 0 (.string x.f0)).set 0 rfl 1 (.string x.f1)) 1 rfl (by decide) ((HS5.out.set 0 rfl 0 (.string x.f0)).keeps 0 rfl (by decide) (HS5.out.keeps 0 rfl (by decide) HO5.out 0 (.string x.f0)) 1 (.string x.f1)) 7 (.bool true))) 6 (.string x.f1)), HD.out.1, HD.out.2, HLq.out, HSZ1.out, HP.out⟩⟩
                case measure => exact mea_read2 hlt HJ1.out
              · have T51_ := Aside0.mk t51
                have u51_0 : ((x.f1.size : Int) == 2) = false := beq_eq_false_iff_ne.mpr t51
                have u51_1 : ((x.f1.size : Int) != 2) = true := bne_iff_ne.mpr t51
                clear t51
                have E0 : refStep s x.f0 x.f1 = (26, s) := by unfold refStep; rw [if_neg T90_.out, if_neg T91_.out, if_pos T92_.out, if_neg T43_.out, if_neg T44_.out, if_neg T45_.out, if_neg T48_.out, if_neg T49_.out, if_pos T50_.out, if_neg T51_.out]
                rw [E0] at HLp
                replace HLp : some (outE 26) = some r := HLp
                obtain rfl := Option.some.inj HLp
                clear HLp E0
                go_wp2_with ((with_reducible refine gate_dst (N := 14) rfl ?_); refine box_event ?hg (N := 14) ?hd (cs := #[.string (⟨#[]⟩ : ByteArray), .string (⟨#[]⟩ : ByteArray)]) (t := 30) ?hr ?_; (case hd => rfl); (case hg => rfl); (case hr => first | (go_simp; done) | (go_simp; rfl)); intro gc hg w5 hbox hb; have HS5 := Aside0.mk (HS0.out.box hb hg hbox); have HO5 := Aside0.mk (Kd.R_below HO0.out hb); obtain ⟨a0, a1, a2, a3, a4, a5, a6, a7, b0, b1, b2, b3, b4, b5, b6, b7, c0, f0, c1, f1, c2, f2, c3, f3, c4, f4, c5, f5, c6, f6, c7, f7, g5_, g6_, g7_, d0, k0, d1, k1, n0a, n0b, n1a, n1b, n2a, n2b, n3a, n3b, n4a, n4b, n5a, n5b⟩ := zfacts HS5.out; clear hb hg hbox HS0 HO0 hx0 hx1)
                refine bodyPost_ret (results_ctt rfl _ _ g2 36 #[.int .i64 0, .int .i64 0, .int .i64 0, .int .i64 0, .int .i64 0, .string (⟨#[]⟩ : ByteArray), .string (⟨#[]⟩ : ByteArray), .bool false] (0, 0) _ rfl (Sv.at (Sv.set (Sv.set (Sv.set (Sv.set (Sv.set (Sv.set (Sv.set (Sv.set ((HS5.out.set 0 rfl 0 (.string x.f0)).set 0 rfl 1 (.string x.f1)) 3 rfl 0 (.int .i64 0)) 3 rfl 1 (.int .i64 0)) 3 rfl 2 (.int .i64 0)) 3 rfl 3 (.int .i64 0)) 3 rfl 4 (.int .i64 0)) 3 rfl 5 (.string (⟨#[]⟩ : ByteArray))) 3 rfl 6 (.string (⟨#[]⟩ : ByteArray))) 3 rfl 7 (.bool false)) 3 rfl) Try.underlying36 rfl (by kernel_rfl)) rfl ?_
                exact ⟨rfl, Sv.below (Sv.set (Sv.set (Sv.set (Sv.set (Sv.set (Sv.set (Sv.set (Sv.set ((HS5.out.set 0 rfl 0 (.string x.f0)).set 0 rfl 1 (.string x.f1)) 3 rfl 0 (.int .i64 0)) 3 rfl 1 (.int .i64 0)) 3 rfl 2 (.int .i64 0)) 3 rfl 3 (.int .i64 0)) 3 rfl 4 (.int .i64 0)) 3 rfl 5 (.string (⟨#[]⟩ : ByteArray))) 3 rfl 6 (.string (⟨#[]⟩ : ByteArray))) 3 rfl 7 (.bool false))⟩
            · have T50_ := Aside0.mk t50
              have u50_0 : (s.C == 0) = false := beq_eq_false_iff_ne.mpr t50
              have u50_1 : (s.C != 0) = true := bne_iff_ne.mpr t50
              clear t50
              by_cases t52 : s.C = 2
              · have T52_ := Aside0.mk t52
                have u52_0 : (s.C == 2) = true := beq_iff_eq.mpr t52
                have u52_1 : (s.C != 2) = false := bne_eq_false_iff_eq.mpr t52
                have u52_2 : (s.C == 0) = false := beq_eq_false_iff_ne.mpr (by rw [t52]; decide)
                have u52_3 : (s.C == 3) = false := beq_eq_false_iff_ne.mpr (by rw [t52]; decide)
                have u52_4 : (s.C == 4) = false := beq_eq_false_iff_ne.mpr (by rw [t52]; decide)
                have u52_5 : (s.C == 6) = false := beq_eq_false_iff_ne.mpr (by rw [t52]; decide)
                clear t52
                by_cases t53 : (x.f1.size : Int) = 6
                · have T53_ := Aside0.mk t53
                  have u53_0 : ((x.f1.size : Int) == 6) = true := beq_iff_eq.mpr t53
                  have u53_1 : ((x.f1.size : Int) != 6) = false := bne_eq_false_iff_eq.mpr t53
                  clear t53
                  have E0 : refStep s x.f0 x.f1 = (0, { s with ht := true, tr := x.f1, gap := s.idat }) := by unfold refStep; rw [if_neg T90_.out, if_neg T91_.out, if_pos T92_.out, if_neg T43_.out, if_neg T44_.out, if_neg T45_.out, if_neg T48_.out, if_neg T49_.out, if_neg T50_.out, if_pos T52_.out, if_pos T53_.out]
                  rw [E0] at HLp
                  replace HLp : refLoop (l.drop (j + 1)) { s with ht := true, tr := x.f1, gap := s.idat } = some r := HLp
                  have HLq := Aside0.mk HLp
                  clear HLp E0
                  go_wp2_with ((with_reducible refine gate_dst (N := 14) rfl ?_); refine box_event ?hg (N := 14) ?hd (cs := #[.string (⟨#[]⟩ : ByteArray), .string (⟨#[]⟩ : ByteArray)]) (t := 30) ?hr ?_; (case hd => rfl); (case hg => rfl); (case hr => first | (go_simp; done) | (go_simp; rfl)); intro gc hg w5 hbox hb; have HS5 := Aside0.mk (HS0.out.box hb hg hbox); have HO5 := Aside0.mk (Kd.R_below HO0.out hb); obtain ⟨a0, a1, a2, a3, a4, a5, a6, a7, b0, b1, b2, b3, b4, b5, b6, b7, c0, f0, c1, f1, c2, f2, c3, f3, c4, f4, c5, f5, c6, f6, c7, f7, g5_, g6_, g7_, d0, k0, d1, k1, n0a, n0b, n1a, n1b, n2a, n2b, n3a, n3b, n4a, n4b, n5a, n5b⟩ := zfacts HS5.out; clear hb hg hbox HS0 HO0 hx0 hx1)
                  go_roundw
                  case rel => exact ⟨j + 1, { s with ht := true, tr := x.f1, gap := s.idat }, (by first | rfl | (show Value.bool _ = Value.bool s.ht; rw [u43_0]) | (show Value.bool _ = Value.bool s.idat; rw [u44_0])), (by first | rfl | (show Value.bool _ = Value.bool s.ht; rw [u43_0]) | (show Value.bool _ = Value.bool s.idat; rw [u44_0])), (by first | rfl | (show Value.bool _ = Value.bool s.ht; rw [u43_0]) | (show Value.bool _ = Value.bool s.idat; rw [u44_0])), by first | rfl | (rw [HJ1.out]) | go_num, hlt, Nat.le_add_left 1 j, ⟨((Sv.set (Sv.set ((HS5.out.set 0 rfl 0 (.string x.f0)).set 0 rfl 1 (.string x.f1)) 1 rfl 7 (.bool true)) 1 rfl 6 (.string x.f1))).tail, (Sv.keeps (Sv.set ((HS5.out.set 0 rfl 0 (.string x.f0)).set 0 rfl 1 (.string x.f1)) 1 rfl 7 (.bool true)) 1 rfl (by decide) ((Sv.keeps ((HS5.out.set 0 rfl 0 (.string x.f0)).set 0 rfl 1 (.string x.f1)) 1 rfl (by decide) ((HS5.out.set 0 rfl 0 (.string x.f0)).keeps 0 rfl (by decide) (HS5.out.keeps 0 rfl (by decide) HO5.out 0 (.string x.f0)) 1 (.string x.f1)) 7 (.bool true))) 6 (.string x.f1)), HD.out.1, HD.out.2, HLq.out, HSZ1.out, HP.out⟩⟩
                  case measure => exact mea_read2 hlt HJ1.out
                · have T53_ := Aside0.mk t53
                  have u53_0 : ((x.f1.size : Int) == 6) = false := beq_eq_false_iff_ne.mpr t53
                  have u53_1 : ((x.f1.size : Int) != 6) = true := bne_iff_ne.mpr t53
                  clear t53
                  have E0 : refStep s x.f0 x.f1 = (26, s) := by unfold refStep; rw [if_neg T90_.out, if_neg T91_.out, if_pos T92_.out, if_neg T43_.out, if_neg T44_.out, if_neg T45_.out, if_neg T48_.out, if_neg T49_.out, if_neg T50_.out, if_pos T52_.out, if_neg T53_.out]
                  rw [E0] at HLp
                  replace HLp : some (outE 26) = some r := HLp
                  obtain rfl := Option.some.inj HLp
                  clear HLp E0
                  go_wp2_with ((with_reducible refine gate_dst (N := 14) rfl ?_); refine box_event ?hg (N := 14) ?hd (cs := #[.string (⟨#[]⟩ : ByteArray), .string (⟨#[]⟩ : ByteArray)]) (t := 30) ?hr ?_; (case hd => rfl); (case hg => rfl); (case hr => first | (go_simp; done) | (go_simp; rfl)); intro gc hg w5 hbox hb; have HS5 := Aside0.mk (HS0.out.box hb hg hbox); have HO5 := Aside0.mk (Kd.R_below HO0.out hb); obtain ⟨a0, a1, a2, a3, a4, a5, a6, a7, b0, b1, b2, b3, b4, b5, b6, b7, c0, f0, c1, f1, c2, f2, c3, f3, c4, f4, c5, f5, c6, f6, c7, f7, g5_, g6_, g7_, d0, k0, d1, k1, n0a, n0b, n1a, n1b, n2a, n2b, n3a, n3b, n4a, n4b, n5a, n5b⟩ := zfacts HS5.out; clear hb hg hbox HS0 HO0 hx0 hx1)
                  refine bodyPost_ret (results_ctt rfl _ _ g2 36 #[.int .i64 0, .int .i64 0, .int .i64 0, .int .i64 0, .int .i64 0, .string (⟨#[]⟩ : ByteArray), .string (⟨#[]⟩ : ByteArray), .bool false] (0, 0) _ rfl (Sv.at (Sv.set (Sv.set (Sv.set (Sv.set (Sv.set (Sv.set (Sv.set (Sv.set ((HS5.out.set 0 rfl 0 (.string x.f0)).set 0 rfl 1 (.string x.f1)) 3 rfl 0 (.int .i64 0)) 3 rfl 1 (.int .i64 0)) 3 rfl 2 (.int .i64 0)) 3 rfl 3 (.int .i64 0)) 3 rfl 4 (.int .i64 0)) 3 rfl 5 (.string (⟨#[]⟩ : ByteArray))) 3 rfl 6 (.string (⟨#[]⟩ : ByteArray))) 3 rfl 7 (.bool false)) 3 rfl) Try.underlying36 rfl (by kernel_rfl)) rfl ?_
                  exact ⟨rfl, Sv.below (Sv.set (Sv.set (Sv.set (Sv.set (Sv.set (Sv.set (Sv.set (Sv.set ((HS5.out.set 0 rfl 0 (.string x.f0)).set 0 rfl 1 (.string x.f1)) 3 rfl 0 (.int .i64 0)) 3 rfl 1 (.int .i64 0)) 3 rfl 2 (.int .i64 0)) 3 rfl 3 (.int .i64 0)) 3 rfl 4 (.int .i64 0)) 3 rfl 5 (.string (⟨#[]⟩ : ByteArray))) 3 rfl 6 (.string (⟨#[]⟩ : ByteArray))) 3 rfl 7 (.bool false))⟩
              · have T52_ := Aside0.mk t52
                have u52_0 : (s.C == 2) = false := beq_eq_false_iff_ne.mpr t52
                have u52_1 : (s.C != 2) = true := bne_iff_ne.mpr t52
                clear t52
                have E0 : refStep s x.f0 x.f1 = (0, { s with ht := true, tr := x.f1, gap := s.idat }) := by unfold refStep; rw [if_neg T90_.out, if_neg T91_.out, if_pos T92_.out, if_neg T43_.out, if_neg T44_.out, if_neg T45_.out, if_neg T48_.out, if_neg T49_.out, if_neg T50_.out, if_neg T52_.out]
                rw [E0] at HLp
                replace HLp : refLoop (l.drop (j + 1)) { s with ht := true, tr := x.f1, gap := s.idat } = some r := HLp
                have HLq := Aside0.mk HLp
                clear HLp E0
                go_wp2_with ((with_reducible refine gate_dst (N := 14) rfl ?_); refine box_event ?hg (N := 14) ?hd (cs := #[.string (⟨#[]⟩ : ByteArray), .string (⟨#[]⟩ : ByteArray)]) (t := 30) ?hr ?_; (case hd => rfl); (case hg => rfl); (case hr => first | (go_simp; done) | (go_simp; rfl)); intro gc hg w5 hbox hb; have HS5 := Aside0.mk (HS0.out.box hb hg hbox); have HO5 := Aside0.mk (Kd.R_below HO0.out hb); obtain ⟨a0, a1, a2, a3, a4, a5, a6, a7, b0, b1, b2, b3, b4, b5, b6, b7, c0, f0, c1, f1, c2, f2, c3, f3, c4, f4, c5, f5, c6, f6, c7, f7, g5_, g6_, g7_, d0, k0, d1, k1, n0a, n0b, n1a, n1b, n2a, n2b, n3a, n3b, n4a, n4b, n5a, n5b⟩ := zfacts HS5.out; clear hb hg hbox HS0 HO0 hx0 hx1)
                go_roundw
                case rel => exact ⟨j + 1, { s with ht := true, tr := x.f1, gap := s.idat }, (by first | rfl | (show Value.bool _ = Value.bool s.ht; rw [u43_0]) | (show Value.bool _ = Value.bool s.idat; rw [u44_0])), (by first | rfl | (show Value.bool _ = Value.bool s.ht; rw [u43_0]) | (show Value.bool _ = Value.bool s.idat; rw [u44_0])), (by first | rfl | (show Value.bool _ = Value.bool s.ht; rw [u43_0]) | (show Value.bool _ = Value.bool s.idat; rw [u44_0])), by first | rfl | (rw [HJ1.out]) | go_num, hlt, Nat.le_add_left 1 j, ⟨((Sv.set (Sv.set ((HS5.out.set 0 rfl 0 (.string x.f0)).set 0 rfl 1 (.string x.f1)) 1 rfl 7 (.bool true)) 1 rfl 6 (.string x.f1))).tail, (Sv.keeps (Sv.set ((HS5.out.set 0 rfl 0 (.string x.f0)).set 0 rfl 1 (.string x.f1)) 1 rfl 7 (.bool true)) 1 rfl (by decide) ((Sv.keeps ((HS5.out.set 0 rfl 0 (.string x.f0)).set 0 rfl 1 (.string x.f1)) 1 rfl (by decide) ((HS5.out.set 0 rfl 0 (.string x.f0)).keeps 0 rfl (by decide) (HS5.out.keeps 0 rfl (by decide) HO5.out 0 (.string x.f0)) 1 (.string x.f1)) 7 (.bool true))) 6 (.string x.f1)), HD.out.1, HD.out.2, HLq.out, HSZ1.out, HP.out⟩⟩
                case measure => exact mea_read2 hlt HJ1.out
set_option maxHeartbeats 40000000 in
set_option maxRecDepth 100000 in
theorem ref_part4 (k : Nat) (ad : Addr) (c : Nat) (l : List S30) (xh : S30) (a b : Int) (r : HOut) (w : World) :
    (ref_cut k ad c l xh a b r w).1.2.2.2.2.1 := by
  delta ref_cut
  intro HM HS_ HDD HO1 HO2 HRR HL HX0 HX1 n HN HR hn0 Qp g2 w1 g5 w2 w3 hHeld w4 g7 wj w5 w6 Kp ap wr u3 u4 u9 u14 u15 u70 u71 u72 u73 u74 u75 u76 u77 u78 u79 u80 u81 u82 u83 u84 u85 u86 u87 u88 u89 u90 u91 u92 u93 u94 u95 u96 u97 u98 u99 u100 u101 u102 u103 u104 u105 u106 u107 u108 u109 u110 u111 u112 u113 u114 u115 u116 u117 u118 u119 u120 u121 u122 u123 u124 u125 u126 u127 u128 u129 u130 u131 u132 u133 u134 u135 u136 u137 u138 u139 u140 u141 u142 u143 u144 u145 u146 u147 u148 u149 u150 u151 u152 u153 u154 u155 u156 u157 u158 u159 u160 u161 u162 u163 u164 u165 u166 u167 u168 u169 u170 u171 u172 u173 u174 u175 u176 u177 u178 u179 u180 u181 u182 u183 u184 u185 u186 u187 u188 u189 u190 u191 u192 u193 u194 u195 u196 u197 u198 u199 u200 u201 u202 u203 u204 u205 u206 u207 u208 u209 u210 u211 u212 u213 u214 u215 u216 u217 u218 u219 u220 u221 u222 u223 u224 u225 u226 u227 u228 u229 u230 u231 u232 u233 u234 u235 u236 u237 u238 u239 u240 u241 u242 u243 u244 u245 u246 u247 u248 u249 u250 u251 u252 u253 u254 u255 u256 u257 u258 u259 j s hj hj1 HI hlt q0 q1 q2 q3 x HX hx0 hx1 HLp HS0 HO0 HD HP HSZ HSZ1 HSZ2 HJ1 tE t90 t91 t92 t93
  rw [if_neg tE] at HLp
  have eE : (x.f0.toList == [73, 69, 78, 68]) = false := beq_eq_false_iff_ne.mpr tE
  clear tE
  have T90_ := Aside0.mk t90
  have u90_0 : (x.f0.toList == [73, 72, 68, 82]) = false := beq_eq_false_iff_ne.mpr t90
  clear t90
  have T91_ := Aside0.mk t91
  have u91_0 : (x.f0.toList == [80, 76, 84, 69]) = false := beq_eq_false_iff_ne.mpr t91
  clear t91
  have T92_ := Aside0.mk t92
  have u92_0 : (x.f0.toList == [116, 82, 78, 83]) = false := beq_eq_false_iff_ne.mpr t92
  clear t92
  have T93_ := Aside0.mk t93
  have u93_0 : (x.f0.toList == [73, 68, 65, 84]) = true := beq_iff_eq.mpr t93
  clear t93
  by_cases t54 : s.C = 3
  · have T54_ := Aside0.mk t54
    have u54_0 : (s.C == 3) = true := beq_iff_eq.mpr t54
    have u54_1 : (s.C != 3) = false := bne_eq_false_iff_eq.mpr t54
    have u54_2 : (s.C == 0) = false := beq_eq_false_iff_ne.mpr (by rw [t54]; decide)
    have u54_3 : (s.C == 2) = false := beq_eq_false_iff_ne.mpr (by rw [t54]; decide)
    have u54_4 : (s.C == 4) = false := beq_eq_false_iff_ne.mpr (by rw [t54]; decide)
    have u54_5 : (s.C == 6) = false := beq_eq_false_iff_ne.mpr (by rw [t54]; decide)
    clear t54
    by_cases t55 : s.plt = true
    · have T55_ := Aside0.mk t55
      have u55_0 : s.plt = true := t55
      clear t55
      by_cases t56 : s.gap = true
      · have T56_ := Aside0.mk t56
        have u56_0 : s.gap = true := t56
        clear t56
        have E0 : refStep s x.f0 x.f1 = (23, s) := by unfold refStep; rw [if_neg T90_.out, if_neg T91_.out, if_neg T92_.out, if_pos T93_.out, if_pos T54_.out, if_pos T55_.out, if_pos T56_.out]
        rw [E0] at HLp
        replace HLp : some (outE 23) = some r := HLp
        obtain rfl := Option.some.inj HLp
        clear HLp E0
        go_wp2_with ((with_reducible refine gate_dst (N := 14) rfl ?_); refine box_event ?hg (N := 14) ?hd (cs := #[.string (⟨#[]⟩ : ByteArray), .string (⟨#[]⟩ : ByteArray)]) (t := 30) ?hr ?_; (case hd => rfl); (case hg => rfl); (case hr => first | (go_simp; done) | (go_simp; rfl)); intro gc hg w5 hbox hb; have HS5 := Aside0.mk (HS0.out.box hb hg hbox); have HO5 := Aside0.mk (Kd.R_below HO0.out hb); obtain ⟨a0, a1, a2, a3, a4, a5, a6, a7, b0, b1, b2, b3, b4, b5, b6, b7, c0, f0, c1, f1, c2, f2, c3, f3, c4, f4, c5, f5, c6, f6, c7, f7, g5_, g6_, g7_, d0, k0, d1, k1, n0a, n0b, n1a, n1b, n2a, n2b, n3a, n3b, n4a, n4b, n5a, n5b⟩ := zfacts HS5.out; clear hb hg hbox HS0 HO0 hx0 hx1)
        refine bodyPost_ret (results_ctt rfl _ _ g2 36 #[.int .i64 0, .int .i64 0, .int .i64 0, .int .i64 0, .int .i64 0, .string (⟨#[]⟩ : ByteArray), .string (⟨#[]⟩ : ByteArray), .bool false] (0, 0) _ rfl (Sv.at (Sv.set (Sv.set (Sv.set (Sv.set (Sv.set (Sv.set (Sv.set (Sv.set ((HS5.out.set 0 rfl 0 (.string x.f0)).set 0 rfl 1 (.string x.f1)) 3 rfl 0 (.int .i64 0)) 3 rfl 1 (.int .i64 0)) 3 rfl 2 (.int .i64 0)) 3 rfl 3 (.int .i64 0)) 3 rfl 4 (.int .i64 0)) 3 rfl 5 (.string (⟨#[]⟩ : ByteArray))) 3 rfl 6 (.string (⟨#[]⟩ : ByteArray))) 3 rfl 7 (.bool false)) 3 rfl) Try.underlying36 rfl (by kernel_rfl)) rfl ?_
        exact ⟨rfl, Sv.below (Sv.set (Sv.set (Sv.set (Sv.set (Sv.set (Sv.set (Sv.set (Sv.set ((HS5.out.set 0 rfl 0 (.string x.f0)).set 0 rfl 1 (.string x.f1)) 3 rfl 0 (.int .i64 0)) 3 rfl 1 (.int .i64 0)) 3 rfl 2 (.int .i64 0)) 3 rfl 3 (.int .i64 0)) 3 rfl 4 (.int .i64 0)) 3 rfl 5 (.string (⟨#[]⟩ : ByteArray))) 3 rfl 6 (.string (⟨#[]⟩ : ByteArray))) 3 rfl 7 (.bool false))⟩
      · have T56_ := Aside0.mk t56
        have u56_0 : s.gap = false := Bool.eq_false_iff.mpr t56
        clear t56
        have E0 : refStep s x.f0 x.f1 = (0, { s with idat := true, data := s.data ++ x.f1 }) := by unfold refStep; rw [if_neg T90_.out, if_neg T91_.out, if_neg T92_.out, if_pos T93_.out, if_pos T54_.out, if_pos T55_.out, if_neg T56_.out]
        rw [E0] at HLp
        replace HLp : refLoop (l.drop (j + 1)) { s with idat := true, data := s.data ++ x.f1 } = some r := HLp
        have HLq := Aside0.mk HLp
        clear HLp E0
        go_wp2_with (first | ((with_reducible refine gate_dst (N := 14) rfl ?_); refine box_event ?hg (N := 14) ?hd (cs := #[.string (⟨#[]⟩ : ByteArray), .string (⟨#[]⟩ : ByteArray)]) (t := 30) ?hr ?_; (case hd => rfl); (case hg => rfl); (case hr => first | (go_simp; done) | (go_simp; rfl)); intro gc hg w5 hbox hb; have HS5 := Aside0.mk (HS0.out.box hb hg hbox); have HO5 := Aside0.mk (Kd.R_below HO0.out hb); obtain ⟨a0, a1, a2, a3, a4, a5, a6, a7, b0, b1, b2, b3, b4, b5, b6, b7, c0, f0, c1, f1, c2, f2, c3, f3, c4, f4, c5, f5, c6, f6, c7, f7, g5_, g6_, g7_, d0, k0, d1, k1, n0a, n0b, n1a, n1b, n2a, n2b, n3a, n3b, n4a, n4b, n5a, n5b⟩ := zfacts HS5.out; clear hb hg hbox HS0 HO0 hx0 hx1) | (at_builtin; refine print_append_str (w0 := w) w.heap.size rfl (.tmp 238) _ 51 9 5 rfl Try.underlying51 Try.underlying9 info5 u9 (bytesOf s.data) x.f1 rfl rfl ?aO ?aB ?aS ?aL ?_; (case aO => exact Kd.own_of_R ((HS5.out.set 0 rfl 0 (.string x.f0)).keeps 0 rfl (by decide) (HS5.out.keeps 0 rfl (by decide) HO5.out 0 (.string x.f0)) 1 (.string x.f1))); (case aB => exact ((HS5.out.set 0 rfl 0 (.string x.f0)).set 0 rfl 1 (.string x.f1)).below); (case aS => exact ((HS5.out.set 0 rfl 0 (.string x.f0)).set 0 rfl 1 (.string x.f1)).below.size); (case aL => have := HSZ.out; rw [bytesOf_length]; omega); intro v10_ w6 ho0 hb hg; have ho := Kd.R_of_own (h1 := fun _ => rfl) (ok := fun _ => True) ho0 (fun _ _ => trivial); have HS6 := Aside0.mk (Sv.row (show Sv w [(gc, #[.string x.f0, .string x.f1], 30), (g7, shp s, 36), (g5, #[.int .i64 0, .int .i64 0, .int .i64 0, .int .i64 0, .int .i64 0, .string (⟨#[]⟩ : ByteArray), .string (⟨#[]⟩ : ByteArray), .bool false], 36), (g2, #[.int .i64 0, .int .i64 0, .int .i64 0, .int .i64 0, .int .i64 0, .string (⟨#[]⟩ : ByteArray), .string (⟨#[]⟩ : ByteArray), .bool false], 36)] _ from ((HS5.out.set 0 rfl 0 (.string x.f0)).set 0 rfl 1 (.string x.f1))) (Kd.own_of_R ((HS5.out.set 0 rfl 0 (.string x.f0)).keeps 0 rfl (by decide) (HS5.out.keeps 0 rfl (by decide) HO5.out 0 (.string x.f0)) 1 (.string x.f1))) hg (fun p hp => by simp only [List.mem_cons, List.not_mem_nil, or_false] at hp; rcases hp with rfl | rfl | rfl | rfl <;> simp)); have HO6 := Aside0.mk ho; clear ho ho0 hb hg))
        go_roundw
        case rel => exact ⟨j + 1, { s with idat := true, data := s.data ++ x.f1 }, (by first | rfl | (show Value.bool _ = Value.bool s.plt; rw [u55_0]) | (show Value.bool _ = Value.bool s.gap; rw [u56_0])), (by first | rfl | (show Value.bool _ = Value.bool s.plt; rw [u55_0]) | (show Value.bool _ = Value.bool s.gap; rw [u56_0])), (by first | rfl | (show Value.bool _ = Value.bool s.plt; rw [u55_0]) | (show Value.bool _ = Value.bool s.gap; rw [u56_0])), by first | rfl | (rw [HJ1.out]) | go_num, hlt, Nat.le_add_left 1 j, ⟨HS6.out.tail, by rw [show bytesOf ({ s with idat := true, data := s.data ++ x.f1 } : HSt).data = bytesOf s.data ++ bytesOf x.f1 from bytes_app _ _]; exact HO6.out, HD.out.1, HD.out.2, HLq.out, by have := HSZ2.out; show (s.data ++ x.f1).size + _ ≤ _; rw [ByteArray.size_append]; omega, HP.out⟩⟩
        case measure => exact mea_read2 hlt HJ1.out
    · have T55_ := Aside0.mk t55
      have u55_0 : s.plt = false := Bool.eq_false_iff.mpr t55
      clear t55
      have E0 : refStep s x.f0 x.f1 = (23, s) := by unfold refStep; rw [if_neg T90_.out, if_neg T91_.out, if_neg T92_.out, if_pos T93_.out, if_pos T54_.out, if_neg T55_.out]
      rw [E0] at HLp
      replace HLp : some (outE 23) = some r := HLp
      obtain rfl := Option.some.inj HLp
      clear HLp E0
      go_wp2_with ((with_reducible refine gate_dst (N := 14) rfl ?_); refine box_event ?hg (N := 14) ?hd (cs := #[.string (⟨#[]⟩ : ByteArray), .string (⟨#[]⟩ : ByteArray)]) (t := 30) ?hr ?_; (case hd => rfl); (case hg => rfl); (case hr => first | (go_simp; done) | (go_simp; rfl)); intro gc hg w5 hbox hb; have HS5 := Aside0.mk (HS0.out.box hb hg hbox); have HO5 := Aside0.mk (Kd.R_below HO0.out hb); obtain ⟨a0, a1, a2, a3, a4, a5, a6, a7, b0, b1, b2, b3, b4, b5, b6, b7, c0, f0, c1, f1, c2, f2, c3, f3, c4, f4, c5, f5, c6, f6, c7, f7, g5_, g6_, g7_, d0, k0, d1, k1, n0a, n0b, n1a, n1b, n2a, n2b, n3a, n3b, n4a, n4b, n5a, n5b⟩ := zfacts HS5.out; clear hb hg hbox HS0 HO0 hx0 hx1)
      refine bodyPost_ret (results_ctt rfl _ _ g2 36 #[.int .i64 0, .int .i64 0, .int .i64 0, .int .i64 0, .int .i64 0, .string (⟨#[]⟩ : ByteArray), .string (⟨#[]⟩ : ByteArray), .bool false] (0, 0) _ rfl (Sv.at (Sv.set (Sv.set (Sv.set (Sv.set (Sv.set (Sv.set (Sv.set (Sv.set ((HS5.out.set 0 rfl 0 (.string x.f0)).set 0 rfl 1 (.string x.f1)) 3 rfl 0 (.int .i64 0)) 3 rfl 1 (.int .i64 0)) 3 rfl 2 (.int .i64 0)) 3 rfl 3 (.int .i64 0)) 3 rfl 4 (.int .i64 0)) 3 rfl 5 (.string (⟨#[]⟩ : ByteArray))) 3 rfl 6 (.string (⟨#[]⟩ : ByteArray))) 3 rfl 7 (.bool false)) 3 rfl) Try.underlying36 rfl (by kernel_rfl)) rfl ?_
      exact ⟨rfl, Sv.below (Sv.set (Sv.set (Sv.set (Sv.set (Sv.set (Sv.set (Sv.set (Sv.set ((HS5.out.set 0 rfl 0 (.string x.f0)).set 0 rfl 1 (.string x.f1)) 3 rfl 0 (.int .i64 0)) 3 rfl 1 (.int .i64 0)) 3 rfl 2 (.int .i64 0)) 3 rfl 3 (.int .i64 0)) 3 rfl 4 (.int .i64 0)) 3 rfl 5 (.string (⟨#[]⟩ : ByteArray))) 3 rfl 6 (.string (⟨#[]⟩ : ByteArray))) 3 rfl 7 (.bool false))⟩
  · have T54_ := Aside0.mk t54
    have u54_0 : (s.C == 3) = false := beq_eq_false_iff_ne.mpr t54
    have u54_1 : (s.C != 3) = true := bne_iff_ne.mpr t54
    clear t54
    by_cases t57 : s.gap = true
    · have T57_ := Aside0.mk t57
      have u57_0 : s.gap = true := t57
      clear t57
      have E0 : refStep s x.f0 x.f1 = (23, s) := by unfold refStep; rw [if_neg T90_.out, if_neg T91_.out, if_neg T92_.out, if_pos T93_.out, if_neg T54_.out, if_pos T57_.out]
      rw [E0] at HLp
      replace HLp : some (outE 23) = some r := HLp
      obtain rfl := Option.some.inj HLp
      clear HLp E0
      go_wp2_with ((with_reducible refine gate_dst (N := 14) rfl ?_); refine box_event ?hg (N := 14) ?hd (cs := #[.string (⟨#[]⟩ : ByteArray), .string (⟨#[]⟩ : ByteArray)]) (t := 30) ?hr ?_; (case hd => rfl); (case hg => rfl); (case hr => first | (go_simp; done) | (go_simp; rfl)); intro gc hg w5 hbox hb; have HS5 := Aside0.mk (HS0.out.box hb hg hbox); have HO5 := Aside0.mk (Kd.R_below HO0.out hb); obtain ⟨a0, a1, a2, a3, a4, a5, a6, a7, b0, b1, b2, b3, b4, b5, b6, b7, c0, f0, c1, f1, c2, f2, c3, f3, c4, f4, c5, f5, c6, f6, c7, f7, g5_, g6_, g7_, d0, k0, d1, k1, n0a, n0b, n1a, n1b, n2a, n2b, n3a, n3b, n4a, n4b, n5a, n5b⟩ := zfacts HS5.out; clear hb hg hbox HS0 HO0 hx0 hx1)
      refine bodyPost_ret (results_ctt rfl _ _ g2 36 #[.int .i64 0, .int .i64 0, .int .i64 0, .int .i64 0, .int .i64 0, .string (⟨#[]⟩ : ByteArray), .string (⟨#[]⟩ : ByteArray), .bool false] (0, 0) _ rfl (Sv.at (Sv.set (Sv.set (Sv.set (Sv.set (Sv.set (Sv.set (Sv.set (Sv.set ((HS5.out.set 0 rfl 0 (.string x.f0)).set 0 rfl 1 (.string x.f1)) 3 rfl 0 (.int .i64 0)) 3 rfl 1 (.int .i64 0)) 3 rfl 2 (.int .i64 0)) 3 rfl 3 (.int .i64 0)) 3 rfl 4 (.int .i64 0)) 3 rfl 5 (.string (⟨#[]⟩ : ByteArray))) 3 rfl 6 (.string (⟨#[]⟩ : ByteArray))) 3 rfl 7 (.bool false)) 3 rfl) Try.underlying36 rfl (by kernel_rfl)) rfl ?_
      exact ⟨rfl, Sv.below (Sv.set (Sv.set (Sv.set (Sv.set (Sv.set (Sv.set (Sv.set (Sv.set ((HS5.out.set 0 rfl 0 (.string x.f0)).set 0 rfl 1 (.string x.f1)) 3 rfl 0 (.int .i64 0)) 3 rfl 1 (.int .i64 0)) 3 rfl 2 (.int .i64 0)) 3 rfl 3 (.int .i64 0)) 3 rfl 4 (.int .i64 0)) 3 rfl 5 (.string (⟨#[]⟩ : ByteArray))) 3 rfl 6 (.string (⟨#[]⟩ : ByteArray))) 3 rfl 7 (.bool false))⟩
    · have T57_ := Aside0.mk t57
      have u57_0 : s.gap = false := Bool.eq_false_iff.mpr t57
      clear t57
      have E0 : refStep s x.f0 x.f1 = (0, { s with idat := true, data := s.data ++ x.f1 }) := by unfold refStep; rw [if_neg T90_.out, if_neg T91_.out, if_neg T92_.out, if_pos T93_.out, if_neg T54_.out, if_neg T57_.out]
      rw [E0] at HLp
      replace HLp : refLoop (l.drop (j + 1)) { s with idat := true, data := s.data ++ x.f1 } = some r := HLp
      have HLq := Aside0.mk HLp
      clear HLp E0
      go_wp2_with (first | ((with_reducible refine gate_dst (N := 14) rfl ?_); refine box_event ?hg (N := 14) ?hd (cs := #[.string (⟨#[]⟩ : ByteArray), .string (⟨#[]⟩ : ByteArray)]) (t := 30) ?hr ?_; (case hd => rfl); (case hg => rfl); (case hr => first | (go_simp; done) | (go_simp; rfl)); intro gc hg w5 hbox hb; have HS5 := Aside0.mk (HS0.out.box hb hg hbox); have HO5 := Aside0.mk (Kd.R_below HO0.out hb); obtain ⟨a0, a1, a2, a3, a4, a5, a6, a7, b0, b1, b2, b3, b4, b5, b6, b7, c0, f0, c1, f1, c2, f2, c3, f3, c4, f4, c5, f5, c6, f6, c7, f7, g5_, g6_, g7_, d0, k0, d1, k1, n0a, n0b, n1a, n1b, n2a, n2b, n3a, n3b, n4a, n4b, n5a, n5b⟩ := zfacts HS5.out; clear hb hg hbox HS0 HO0 hx0 hx1) | (at_builtin; refine print_append_str (w0 := w) w.heap.size rfl (.tmp 238) _ 51 9 5 rfl Try.underlying51 Try.underlying9 info5 u9 (bytesOf s.data) x.f1 rfl rfl ?aO ?aB ?aS ?aL ?_; (case aO => exact Kd.own_of_R ((HS5.out.set 0 rfl 0 (.string x.f0)).keeps 0 rfl (by decide) (HS5.out.keeps 0 rfl (by decide) HO5.out 0 (.string x.f0)) 1 (.string x.f1))); (case aB => exact ((HS5.out.set 0 rfl 0 (.string x.f0)).set 0 rfl 1 (.string x.f1)).below); (case aS => exact ((HS5.out.set 0 rfl 0 (.string x.f0)).set 0 rfl 1 (.string x.f1)).below.size); (case aL => have := HSZ.out; rw [bytesOf_length]; omega); intro v10_ w6 ho0 hb hg; have ho := Kd.R_of_own (h1 := fun _ => rfl) (ok := fun _ => True) ho0 (fun _ _ => trivial); have HS6 := Aside0.mk (Sv.row (show Sv w [(gc, #[.string x.f0, .string x.f1], 30), (g7, shp s, 36), (g5, #[.int .i64 0, .int .i64 0, .int .i64 0, .int .i64 0, .int .i64 0, .string (⟨#[]⟩ : ByteArray), .string (⟨#[]⟩ : ByteArray), .bool false], 36), (g2, #[.int .i64 0, .int .i64 0, .int .i64 0, .int .i64 0, .int .i64 0, .string (⟨#[]⟩ : ByteArray), .string (⟨#[]⟩ : ByteArray), .bool false], 36)] _ from ((HS5.out.set 0 rfl 0 (.string x.f0)).set 0 rfl 1 (.string x.f1))) (Kd.own_of_R ((HS5.out.set 0 rfl 0 (.string x.f0)).keeps 0 rfl (by decide) (HS5.out.keeps 0 rfl (by decide) HO5.out 0 (.string x.f0)) 1 (.string x.f1))) hg (fun p hp => by simp only [List.mem_cons, List.not_mem_nil, or_false] at hp; rcases hp with rfl | rfl | rfl | rfl <;> simp)); have HO6 := Aside0.mk ho; clear ho ho0 hb hg))
      go_roundw
      case rel => exact ⟨j + 1, { s with idat := true, data := s.data ++ x.f1 }, (by first | rfl | (show Value.bool _ = Value.bool s.gap; rw [u57_0])), (by first | rfl | (show Value.bool _ = Value.bool s.gap; rw [u57_0])), (by first | rfl | (show Value.bool _ = Value.bool s.gap; rw [u57_0])), by first | rfl | (rw [HJ1.out]) | go_num, hlt, Nat.le_add_left 1 j, ⟨HS6.out.tail, by rw [show bytesOf ({ s with idat := true, data := s.data ++ x.f1 } : HSt).data = bytesOf s.data ++ bytesOf x.f1 from bytes_app _ _]; exact HO6.out, HD.out.1, HD.out.2, HLq.out, by have := HSZ2.out; show (s.data ++ x.f1).size + _ ≤ _; rw [ByteArray.size_append]; omega, HP.out⟩⟩
      case measure => exact mea_read2 hlt HJ1.out
set_option maxHeartbeats 40000000 in
set_option maxRecDepth 100000 in
theorem ref_part5 (k : Nat) (ad : Addr) (c : Nat) (l : List S30) (xh : S30) (a b : Int) (r : HOut) (w : World) :
    (ref_cut k ad c l xh a b r w).1.2.2.2.2.2 := by
  delta ref_cut
  intro HM HS_ HDD HO1 HO2 HRR HL HX0 HX1 n HN HR hn0 Qp g2 w1 g5 w2 w3 hHeld w4 g7 wj w5 w6 Kp ap wr u3 u4 u9 u14 u15 u70 u71 u72 u73 u74 u75 u76 u77 u78 u79 u80 u81 u82 u83 u84 u85 u86 u87 u88 u89 u90 u91 u92 u93 u94 u95 u96 u97 u98 u99 u100 u101 u102 u103 u104 u105 u106 u107 u108 u109 u110 u111 u112 u113 u114 u115 u116 u117 u118 u119 u120 u121 u122 u123 u124 u125 u126 u127 u128 u129 u130 u131 u132 u133 u134 u135 u136 u137 u138 u139 u140 u141 u142 u143 u144 u145 u146 u147 u148 u149 u150 u151 u152 u153 u154 u155 u156 u157 u158 u159 u160 u161 u162 u163 u164 u165 u166 u167 u168 u169 u170 u171 u172 u173 u174 u175 u176 u177 u178 u179 u180 u181 u182 u183 u184 u185 u186 u187 u188 u189 u190 u191 u192 u193 u194 u195 u196 u197 u198 u199 u200 u201 u202 u203 u204 u205 u206 u207 u208 u209 u210 u211 u212 u213 u214 u215 u216 u217 u218 u219 u220 u221 u222 u223 u224 u225 u226 u227 u228 u229 u230 u231 u232 u233 u234 u235 u236 u237 u238 u239 u240 u241 u242 u243 u244 u245 u246 u247 u248 u249 u250 u251 u252 u253 u254 u255 u256 u257 u258 u259 j s hj hj1 HI hlt q0 q1 q2 q3 x HX hx0 hx1 HLp HS0 HO0 HD HP HSZ HSZ1 HSZ2 HJ1 tE t90 t91 t92 t93
  rw [if_neg tE] at HLp
  have eE : (x.f0.toList == [73, 69, 78, 68]) = false := beq_eq_false_iff_ne.mpr tE
  clear tE
  have T90_ := Aside0.mk t90
  have u90_0 : (x.f0.toList == [73, 72, 68, 82]) = false := beq_eq_false_iff_ne.mpr t90
  clear t90
  have T91_ := Aside0.mk t91
  have u91_0 : (x.f0.toList == [80, 76, 84, 69]) = false := beq_eq_false_iff_ne.mpr t91
  clear t91
  have T92_ := Aside0.mk t92
  have u92_0 : (x.f0.toList == [116, 82, 78, 83]) = false := beq_eq_false_iff_ne.mpr t92
  clear t92
  have T93_ := Aside0.mk t93
  have u93_0 : (x.f0.toList == [73, 68, 65, 84]) = false := beq_eq_false_iff_ne.mpr t93
  clear t93
  by_cases t58 : 0 < (x.f0.size : Int)
  · have T58_ := Aside0.mk t58
    have u58_0 : decide (0 < (x.f0.size : Int)) = true := decide_eq_true t58
    have u58_1 : decide (0 < x.f0.size) = true := decide_eq_true (by have := t58; omega)
    have q0_ : (0 < x.f0.size) = True := eq_true (by have := t58; omega)
    have q1_ : (0 < (x.f0.size : Int)) = True := eq_true t58
    have hbt : ∀ h : 0 < x.f0.size, ((x.f0[0]'h).toNat : Int) = bt x.f0 0 := bt_at x.f0 0
    clear t58
    by_cases t59 : 65 ≤ bt x.f0 0
    · have T59_ := Aside0.mk t59
      have u59_0 : decide (65 ≤ bt x.f0 0) = true := decide_eq_true t59
      clear t59
      by_cases t60 : bt x.f0 0 ≤ 90
      · have T60_ := Aside0.mk t60
        have u60_0 : decide (bt x.f0 0 ≤ 90) = true := decide_eq_true t60
        clear t60
        have E0 : refStep s x.f0 x.f1 = (27, s) := by unfold refStep; rw [if_neg T90_.out, if_neg T91_.out, if_neg T92_.out, if_neg T93_.out, if_pos T58_.out, if_pos T59_.out, if_pos T60_.out]
        rw [E0] at HLp
        replace HLp : some (outE 27) = some r := HLp
        obtain rfl := Option.some.inj HLp
        clear HLp E0
        go_wp2_with ((with_reducible refine gate_dst (N := 14) rfl ?_); refine box_event ?hg (N := 14) ?hd (cs := #[.string (⟨#[]⟩ : ByteArray), .string (⟨#[]⟩ : ByteArray)]) (t := 30) ?hr ?_; (case hd => rfl); (case hg => rfl); (case hr => first | (go_simp; done) | (go_simp; rfl)); intro gc hg w5 hbox hb; have HS5 := Aside0.mk (HS0.out.box hb hg hbox); have HO5 := Aside0.mk (Kd.R_below HO0.out hb); obtain ⟨a0, a1, a2, a3, a4, a5, a6, a7, b0, b1, b2, b3, b4, b5, b6, b7, c0, f0, c1, f1, c2, f2, c3, f3, c4, f4, c5, f5, c6, f6, c7, f7, g5_, g6_, g7_, d0, k0, d1, k1, n0a, n0b, n1a, n1b, n2a, n2b, n3a, n3b, n4a, n4b, n5a, n5b⟩ := zfacts HS5.out; clear hb hg hbox HS0 HO0 hx0 hx1)
        refine bodyPost_ret (results_ctt rfl _ _ g2 36 #[.int .i64 0, .int .i64 0, .int .i64 0, .int .i64 0, .int .i64 0, .string (⟨#[]⟩ : ByteArray), .string (⟨#[]⟩ : ByteArray), .bool false] (0, 0) _ rfl (Sv.at (Sv.set (Sv.set (Sv.set (Sv.set (Sv.set (Sv.set (Sv.set (Sv.set ((HS5.out.set 0 rfl 0 (.string x.f0)).set 0 rfl 1 (.string x.f1)) 3 rfl 0 (.int .i64 0)) 3 rfl 1 (.int .i64 0)) 3 rfl 2 (.int .i64 0)) 3 rfl 3 (.int .i64 0)) 3 rfl 4 (.int .i64 0)) 3 rfl 5 (.string (⟨#[]⟩ : ByteArray))) 3 rfl 6 (.string (⟨#[]⟩ : ByteArray))) 3 rfl 7 (.bool false)) 3 rfl) Try.underlying36 rfl (by kernel_rfl)) rfl ?_
        exact ⟨rfl, Sv.below (Sv.set (Sv.set (Sv.set (Sv.set (Sv.set (Sv.set (Sv.set (Sv.set ((HS5.out.set 0 rfl 0 (.string x.f0)).set 0 rfl 1 (.string x.f1)) 3 rfl 0 (.int .i64 0)) 3 rfl 1 (.int .i64 0)) 3 rfl 2 (.int .i64 0)) 3 rfl 3 (.int .i64 0)) 3 rfl 4 (.int .i64 0)) 3 rfl 5 (.string (⟨#[]⟩ : ByteArray))) 3 rfl 6 (.string (⟨#[]⟩ : ByteArray))) 3 rfl 7 (.bool false))⟩
      · have T60_ := Aside0.mk t60
        have u60_0 : decide (bt x.f0 0 ≤ 90) = false := decide_eq_false t60
        clear t60
        have E0 : refStep s x.f0 x.f1 = (0, s.late) := by unfold refStep; rw [if_neg T90_.out, if_neg T91_.out, if_neg T92_.out, if_neg T93_.out, if_pos T58_.out, if_pos T59_.out, if_neg T60_.out]
        rw [E0] at HLp
        replace HLp : refLoop (l.drop (j + 1)) s.late = some r := HLp
        have HLq := Aside0.mk HLp
        clear HLp E0
        go_wp2_with ((with_reducible refine gate_dst (N := 14) rfl ?_); refine box_event ?hg (N := 14) ?hd (cs := #[.string (⟨#[]⟩ : ByteArray), .string (⟨#[]⟩ : ByteArray)]) (t := 30) ?hr ?_; (case hd => rfl); (case hg => rfl); (case hr => first | (go_simp; done) | (go_simp; rfl)); intro gc hg w5 hbox hb; have HS5 := Aside0.mk (HS0.out.box hb hg hbox); have HO5 := Aside0.mk (Kd.R_below HO0.out hb); obtain ⟨a0, a1, a2, a3, a4, a5, a6, a7, b0, b1, b2, b3, b4, b5, b6, b7, c0, f0, c1, f1, c2, f2, c3, f3, c4, f4, c5, f5, c6, f6, c7, f7, g5_, g6_, g7_, d0, k0, d1, k1, n0a, n0b, n1a, n1b, n2a, n2b, n3a, n3b, n4a, n4b, n5a, n5b⟩ := zfacts HS5.out; clear hb hg hbox HS0 HO0 hx0 hx1)
        go_roundw
        case rel => exact ⟨j + 1, s.late, (by first | rfl), (by first | rfl), (by first | rfl), by first | rfl | (rw [HJ1.out]) | go_num, hlt, Nat.le_add_left 1 j, ⟨(((HS5.out.set 0 rfl 0 (.string x.f0)).set 0 rfl 1 (.string x.f1))).tail, (HS5.out.set 0 rfl 0 (.string x.f0)).keeps 0 rfl (by decide) (HS5.out.keeps 0 rfl (by decide) HO5.out 0 (.string x.f0)) 1 (.string x.f1), HD.out.1, HD.out.2, HLq.out, HSZ1.out, HP.out⟩⟩
        case measure => exact mea_read2 hlt HJ1.out
    · have T59_ := Aside0.mk t59
      have u59_0 : decide (65 ≤ bt x.f0 0) = false := decide_eq_false t59
      clear t59
      have E0 : refStep s x.f0 x.f1 = (0, s.late) := by unfold refStep; rw [if_neg T90_.out, if_neg T91_.out, if_neg T92_.out, if_neg T93_.out, if_pos T58_.out, if_neg T59_.out]
      rw [E0] at HLp
      replace HLp : refLoop (l.drop (j + 1)) s.late = some r := HLp
      have HLq := Aside0.mk HLp
      clear HLp E0
      go_wp2_with ((with_reducible refine gate_dst (N := 14) rfl ?_); refine box_event ?hg (N := 14) ?hd (cs := #[.string (⟨#[]⟩ : ByteArray), .string (⟨#[]⟩ : ByteArray)]) (t := 30) ?hr ?_; (case hd => rfl); (case hg => rfl); (case hr => first | (go_simp; done) | (go_simp; rfl)); intro gc hg w5 hbox hb; have HS5 := Aside0.mk (HS0.out.box hb hg hbox); have HO5 := Aside0.mk (Kd.R_below HO0.out hb); obtain ⟨a0, a1, a2, a3, a4, a5, a6, a7, b0, b1, b2, b3, b4, b5, b6, b7, c0, f0, c1, f1, c2, f2, c3, f3, c4, f4, c5, f5, c6, f6, c7, f7, g5_, g6_, g7_, d0, k0, d1, k1, n0a, n0b, n1a, n1b, n2a, n2b, n3a, n3b, n4a, n4b, n5a, n5b⟩ := zfacts HS5.out; clear hb hg hbox HS0 HO0 hx0 hx1)
      go_roundw
      case rel => exact ⟨j + 1, s.late, (by first | rfl), (by first | rfl), (by first | rfl), by first | rfl | (rw [HJ1.out]) | go_num, hlt, Nat.le_add_left 1 j, ⟨(((HS5.out.set 0 rfl 0 (.string x.f0)).set 0 rfl 1 (.string x.f1))).tail, (HS5.out.set 0 rfl 0 (.string x.f0)).keeps 0 rfl (by decide) (HS5.out.keeps 0 rfl (by decide) HO5.out 0 (.string x.f0)) 1 (.string x.f1), HD.out.1, HD.out.2, HLq.out, HSZ1.out, HP.out⟩⟩
      case measure => exact mea_read2 hlt HJ1.out
  · have T58_ := Aside0.mk t58
    have u58_0 : decide (0 < (x.f0.size : Int)) = false := decide_eq_false t58
    have u58_1 : decide (0 < x.f0.size) = false := decide_eq_false (by have := t58; omega)
    clear t58
    have E0 : refStep s x.f0 x.f1 = (0, s.late) := by unfold refStep; rw [if_neg T90_.out, if_neg T91_.out, if_neg T92_.out, if_neg T93_.out, if_neg T58_.out]
    rw [E0] at HLp
    replace HLp : refLoop (l.drop (j + 1)) s.late = some r := HLp
    have HLq := Aside0.mk HLp
    clear HLp E0
    go_wp2_with ((with_reducible refine gate_dst (N := 14) rfl ?_); refine box_event ?hg (N := 14) ?hd (cs := #[.string (⟨#[]⟩ : ByteArray), .string (⟨#[]⟩ : ByteArray)]) (t := 30) ?hr ?_; (case hd => rfl); (case hg => rfl); (case hr => first | (go_simp; done) | (go_simp; rfl)); intro gc hg w5 hbox hb; have HS5 := Aside0.mk (HS0.out.box hb hg hbox); have HO5 := Aside0.mk (Kd.R_below HO0.out hb); obtain ⟨a0, a1, a2, a3, a4, a5, a6, a7, b0, b1, b2, b3, b4, b5, b6, b7, c0, f0, c1, f1, c2, f2, c3, f3, c4, f4, c5, f5, c6, f6, c7, f7, g5_, g6_, g7_, d0, k0, d1, k1, n0a, n0b, n1a, n1b, n2a, n2b, n3a, n3b, n4a, n4b, n5a, n5b⟩ := zfacts HS5.out; clear hb hg hbox HS0 HO0 hx0 hx1)
    go_roundw
    case rel => exact ⟨j + 1, s.late, (by first | rfl), (by first | rfl), (by first | rfl), by first | rfl | (rw [HJ1.out]) | go_num, hlt, Nat.le_add_left 1 j, ⟨(((HS5.out.set 0 rfl 0 (.string x.f0)).set 0 rfl 1 (.string x.f1))).tail, (HS5.out.set 0 rfl 0 (.string x.f0)).keeps 0 rfl (by decide) (HS5.out.keeps 0 rfl (by decide) HO5.out 0 (.string x.f0)) 1 (.string x.f1), HD.out.1, HD.out.2, HLq.out, HSZ1.out, HP.out⟩⟩
    case measure => exact mea_read2 hlt HJ1.out
set_option maxHeartbeats 40000000 in
set_option maxRecDepth 100000 in
theorem ref_walk (k : Nat) (ad : Addr) (c : Nat) (l : List S30) (xh : S30) (a b : Int) (r : HOut) (w : World) :
    (∀ (hx : rd_T30 l 0 = xh) (hr : Kd.C k30 w (some ad) l.length l) (hc : l.length ≤ c) (h1 : 0 < l.length) (hm : l.length ≤ 4611686018427387904) (hs : szs l ≤ 140737488355328) (hD : 0 ≤ (wrap64 (bt xh.f1 8)) ∧ (wrap64 (bt xh.f1 8)) ≤ 16) (hy : xh.f0.toList = [73, 72, 68, 82]) (hz : (xh.f1.size : Int) = 13 ∧ bt xh.f1 10 = 0 ∧ bt xh.f1 11 = 0) (ho1 : vitrineref06_Of.f k (xh.f1.extract 0 4) = some a) (ho2 : vitrineref06_Of.f k (xh.f1.extract 4 8) = some b) (hR : vitrineref08_Right.f k a b (wrap64 (bt xh.f1 8)) (wrap64 (bt xh.f1 9)) (wrap64 (bt xh.f1 12)) = some 0) (hl : refLoop (l.drop 1) (st0 a b (wrap64 (bt xh.f1 8)) (wrap64 (bt xh.f1 9)) (wrap64 (bt xh.f1 12))) = some r), Calls Try.prog 18 #[.slice (some ad) l.length c] w fun e' w' => e' = .returned (outV r) ∧ Below w.heap.size w w') :=
  (ref_cut k ad c l xh a b r w).2 ⟨ref_part0 k ad c l xh a b r w⟩ ⟨ref_part1 k ad c l xh a b r w⟩ ⟨ref_part2 k ad c l xh a b r w⟩ ⟨ref_part3 k ad c l xh a b r w⟩ ⟨ref_part4 k ad c l xh a b r w⟩ ⟨ref_part5 k ad c l xh a b r w⟩
/-- What the document's reading answers. -/
def refV (k : Nat) (l : List S30) : Option HOut := match l with
  | [] => some (outE 23)
  | c :: r => if c.f0.toList = [73, 72, 68, 82] then (if (c.f1.size : Int) = 13 ∧ bt c.f1 10 = 0 ∧ bt c.f1 11 = 0 then (vitrineref06_Of.f k (c.f1.extract 0 4)).bind fun a => (vitrineref06_Of.f k (c.f1.extract 4 8)).bind fun b => (vitrineref08_Right.f k a b (wrap64 (bt c.f1 8)) (wrap64 (bt c.f1 9)) (wrap64 (bt c.f1 12))).bind fun e =>
      (if wrap64 (bt c.f1 8) ≤ 16 then (if e = 0 then refLoop r (st0 a b (wrap64 (bt c.f1 8)) (wrap64 (bt c.f1 9)) (wrap64 (bt c.f1 12))) else some (outE e)) else (if e = 0 then none else some (outE e))) else some (outE 24)) else some (outE 23)
theorem refV_calls (k : Nat) (A : Option Addr) (c : Nat) (l : List S30) (r : HOut) (w : World) (hr : Kd.C k30 w A l.length l) (hc : l.length ≤ c) (hm : l.length ≤ 4611686018427387904) (hs : szs l ≤ 140737488355328) (h : refV k l = some r) :
    Calls Try.prog 18 #[.slice A l.length c] w fun e' w' => e' = .returned (outV r) ∧ Below w.heap.size w w' := by
  cases l with
  | nil =>
    obtain rfl := Option.some.inj h
    exact ref_none A c w
  | cons hd tl =>
    have hlen : (hd :: tl).length = tl.length + 1 := rfl
    obtain ⟨ad, e_, hx0, hx1⟩ := at_T30 hr 0 (by omega) (by omega)
    subst e_
    rw [show rd_T30 (hd :: tl) 0 = hd from rfl] at hx0 hx1
    rw [show ((0 : Int)).toNat * 2 = 0 from rfl, Addr.add_zero'] at hx0 hx1
    replace h : (if hd.f0.toList = [73, 72, 68, 82] then _ else _) = some r := h
    by_cases y : hd.f0.toList = [73, 72, 68, 82]
    · rw [if_pos y] at h
      by_cases z : (hd.f1.size : Int) = 13 ∧ bt hd.f1 10 = 0 ∧ bt hd.f1 11 = 0
      · rw [if_pos z] at h
        obtain ⟨a, ha, h⟩ := Option.bind_eq_some_iff.1 h
        obtain ⟨b, hb, h⟩ := Option.bind_eq_some_iff.1 h
        obtain ⟨e, he, h⟩ := Option.bind_eq_some_iff.1 h
        by_cases e0 : e = 0
        · subst e0
          by_cases hD : wrap64 (bt hd.f1 8) ≤ 16
          · rw [if_pos hD, if_pos rfl] at h
            have hb8 := bt_range hd.f1 8
            exact ref_walk k ad c (hd :: tl) hd a b r w rfl hr hc (by omega) hm hs ⟨by unfold wrap64; omega, hD⟩ y z ha hb he h
          · rw [if_neg hD, if_pos rfl] at h
            cases h
        · have h2 : some (outE e) = some r := by
            by_cases hD : wrap64 (bt hd.f1 8) ≤ 16
            · rw [if_pos hD, if_neg e0] at h; exact h
            · rw [if_neg hD, if_neg e0] at h; exact h
          obtain rfl := Option.some.inj h2
          exact ref_err k ad c (hd :: tl) a b _ _ _ (outE e) w hr hc (by omega) hm hs y z ha hb rfl rfl rfl e e0 he
      · rw [if_neg z] at h
        obtain rfl := Option.some.inj h
        by_cases z1 : (hd.f1.size : Int) = 13
        · by_cases z2 : bt hd.f1 10 = 0
          · exact ref_bad3 ad _ c hd w (by omega) hx0 hx1 y z1 z2 (fun z3 => z ⟨z1, z2, z3⟩)
          · exact ref_bad2 ad _ c hd w (by omega) hx0 hx1 y z1 z2
        · exact ref_bad1 ad _ c hd w (by omega) hx0 hx1 y z1
    · rw [if_neg y] at h
      obtain rfl := Option.some.inj h
      exact ref_not ad _ c hd w (by omega) hx0 hx1 y
def vitrineref08_Read.f (k : Nat) (l0 : List S30) : Option (Int × Int × Int × Int × Int × ByteArray × ByteArray × Bool × ByteArray × Int) :=
  if l0.length ≤ 4611686018427387904 ∧ szs l0 ≤ 140737488355328 then (refV k l0).bind fun r => some (r.W, r.H, r.D, r.C, r.L, r.pal, r.tr, r.ht, r.data, r.e) else none
theorem vitrineref08_Read.mono : ∀ a0 k, LeO (vitrineref08_Read.f k a0) (vitrineref08_Read.f (k + 1) a0) := by
  intro a0 k
  unfold vitrineref08_Read.f
  refine LeO.ite (LeO.bind ?_ (fun _ => LeO.refl _)) (LeO.refl _)
  unfold refV
  cases a0 with
  | nil => exact LeO.refl _
  | cons c r => exact LeO.ite (LeO.ite (LeO.bind (vitrineref06_Of.mono _ _) (fun _ => LeO.bind (vitrineref06_Of.mono _ _) (fun _ => LeO.bind (vitrineref08_Right.mono _ _ _ _ _ _) (fun _ => LeO.refl _)))) (LeO.refl _)) (LeO.refl _)
theorem vitrineref08_Read.calls (k : Nat) (A0 : Option Addr) (c0 : Nat) (l0 : List S30) (r1 : Int) (r2 : Int) (r3 : Int) (r4 : Int) (r5 : Int) (r6 : ByteArray) (r7 : ByteArray) (r8 : Bool) (r9 : ByteArray) (r10 : Int) (w : World) (hr0 : Kd.C k30 w A0 l0.length l0) (hc0 : l0.length ≤ c0) (h : vitrineref08_Read.f k l0 = some (r1, r2, r3, r4, r5, r6, r7, r8, r9, r10)) :
    Calls Try.prog 18 #[.slice A0 l0.length c0] w fun e w' => e = .returned (.tuple #[.agg #[.int .i64 r1, .int .i64 r2, .int .i64 r3, .int .i64 r4, .int .i64 r5, .string r6, .string r7, .bool r8], .string r9, .int .i64 r10]) ∧ Below w.heap.size w w' := by
  unfold vitrineref08_Read.f at h
  by_cases hc : l0.length ≤ 4611686018427387904 ∧ szs l0 ≤ 140737488355328
  · rw [if_pos hc] at h
    obtain ⟨r, hr, h⟩ := Option.bind_eq_some_iff.1 h
    cases h
    exact refV_calls k A0 c0 l0 r w hr0 hc0 hc.1 hc.2 hr
  · rw [if_neg hc] at h
    cases h

end Go.Proofs.Ytbpnkgidlmjkkaa.PL08
