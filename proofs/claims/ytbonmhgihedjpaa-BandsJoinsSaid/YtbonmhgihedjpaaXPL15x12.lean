/- Printed for this claim by a program of this session over the kit's print program: the Go functions as Lean functions, and proofs that the calls come to these answers. No conditions. -/
import Derived.Test.YtbonmhgihedjpaaXM
import Derived.Test.YtbonmhgihedjpaaXPL15x0
namespace Go.Proofs.Ytbonmhgihedjpaa.PL15
open Go.RowKit Go.Proofs.YtbonmhgihedjpaaW.PrintWords Go.Proofs.YtbonmhgihedjpaaW.PrintLast Go.Proofs.YtbonmhgihedjpaaW.PrintMore
attribute [local go_sem] max2_int min2_int max_two min_two max_three min_three max_four min_four   -- for this text's walks alone
set_option linter.unusedVariables false
set_option linter.unusedSimpArgs false

def vitrineref06_Four.f (a0 : Int) : Option (ByteArray) := some (strOfNums (([(wrap64 (Int.tdiv a0 16777216)) % 256, (wrap64 (Int.tdiv a0 65536)) % 256, (wrap64 (Int.tdiv a0 256)) % 256, (a0) % 256] : List Int)))
set_option maxHeartbeats 40000000 in
set_option maxRecDepth 100000 in
theorem vitrineref06_Four.calls (a0 : Int) (r : ByteArray) (w : World) (h : vitrineref06_Four.f a0 = some r) :
  Calls Try.prog 30 #[.int .i64 a0] w fun e w' => e = .returned (.string r) ∧ Below w.heap.size w w' := by
 have HB := Aside0.mk (Below.refl w.heap.size w)
 have H : (some (strOfNums (([(wrap64 (Int.tdiv a0 16777216)) % 256, (wrap64 (Int.tdiv a0 65536)) % 256, (wrap64 (Int.tdiv a0 256)) % 256, (a0) % 256] : List Int)))) = some r := h
 clear h
 obtain ⟨y166, hy166⟩ : ∃ y_ : List Int, y_ = (([(wrap64 (Int.tdiv a0 16777216)) % 256, (wrap64 (Int.tdiv a0 65536)) % 256, (wrap64 (Int.tdiv a0 256)) % 256, (a0) % 256] : List Int)) := ⟨_, rfl⟩
 replace H : (some (strOfNums y166)) = some r := by first | (rw [hy166]; with_reducible exact H) | (have H2_ := (Option.bind_some _ _).symm.trans H; rw [hy166]; with_reducible exact H2_) | (have H2_ := (Option.bind_some _ _).symm.trans H; with_reducible exact H2_) | with_reducible exact H | (rw [hy166]; exact H) | exact H
 have Ny166 := Aside0.mk hy166
 clear hy166
 obtain rfl := Option.some.inj H
 go_enter Try.func30, Try.ntmps30
 go_wp2_with (first | ((with_reducible refine gate_dst (N := 14) rfl ?_); refine Kd.R_lit (Kd.int .u8) _ 5 ?hg (N := 14) ?hd (xs := ([(wrap64 (Int.tdiv a0 16777216)) % 256, (wrap64 (Int.tdiv a0 65536)) % 256, (wrap64 (Int.tdiv a0 256)) % 256, (a0) % 256] : List Int)) (inner := [.int .u8 ((wrap64 (Int.tdiv a0 16777216)) % 256), .int .u8 ((wrap64 (Int.tdiv a0 65536)) % 256), .int .u8 ((wrap64 (Int.tdiv a0 256)) % 256), .int .u8 ((a0) % 256)]) (ok := fun _ => True) (okp := fun _ => True) ?hr ?hp (fun _ hk => hk) trivial (Below.refl _ _) (Nat.le_refl _) (by simp) ?_; (case hd => rfl); (case hg => rfl); (case hr => first | (go_simp; done) | (go_simp; rfl)); (case hp => exact (Reps.one (show Kd.M (Kd.int .u8) _ _ _ ((wrap64 (Int.tdiv a0 16777216)) % 256) [.int .u8 ((wrap64 (Int.tdiv a0 16777216)) % 256)] from rfl) (Reps.one (show Kd.M (Kd.int .u8) _ _ _ ((wrap64 (Int.tdiv a0 65536)) % 256) [.int .u8 ((wrap64 (Int.tdiv a0 65536)) % 256)] from rfl) (Reps.one (show Kd.M (Kd.int .u8) _ _ _ ((wrap64 (Int.tdiv a0 256)) % 256) [.int .u8 ((wrap64 (Int.tdiv a0 256)) % 256)] from rfl) (Reps.one (show Kd.M (Kd.int .u8) _ _ _ ((a0) % 256) [.int .u8 ((a0) % 256)] from rfl) (Reps.none _ _)))))); intro v167 w2 ho3 hb hg_ hnew_; clear hg_ hnew_; (first | rw [← Ny166.out] at ho3 | (simp only [Int.reduceToNat] at ho3; rw [← Ny166.out] at ho3)); have n0_ := Aside0.mk (Kd.R_lower ho3 (below_size (by repeat (first | (with_reducible first | exact HB.out | apply below_alloc | apply pw_below_drewN | apply below_drew1) | exact HB.out)))); have n1_ := Aside0.mk (below_step (by repeat (first | (with_reducible first | exact HB.out | apply below_alloc | apply pw_below_drewN | apply below_drew1) | exact HB.out)) hb); clear HB; have HO168 := n0_; have HB := n1_; clear n0_ n1_; clear hb ho3; have hcv4 := own_string (P := Try.prog) Try.underlying47 Try.underlying5 Try.underlying9 (Kd.own_of_R HO168.out)))
 go_ret
 exact ⟨by first | rfl | (simp [errW_none, errW_some] <;> rfl) | (simp [*, errW_none, errW_some] <;> rfl), by repeat (first | (with_reducible first | exact HB.out | apply below_alloc | apply pw_below_drewN | apply below_drew1) | exact HB.out)⟩

def vitrineref14_constants.f  : Option (List Int) := some (([1116352408, 1899447441, 3049323471, 3921009573, 961987163, 1508970993, 2453635748, 2870763221, 3624381080, 310598401, 607225278, 1426881987, 1925078388, 2162078206, 2614888103, 3248222580, 3835390401, 4022224774, 264347078, 604807628, 770255983, 1249150122, 1555081692, 1996064986, 2554220882, 2821834349, 2952996808, 3210313671, 3336571891, 3584528711, 113926993, 338241895, 666307205, 773529912, 1294757372, 1396182291, 1695183700, 1986661051, 2177026350, 2456956037, 2730485921, 2820302411, 3259730800, 3345764771, 3516065817, 3600352804, 4094571909, 275423344, 430227734, 506948616, 659060556, 883997877, 958139571, 1322822218, 1537002063, 1747873779, 1955562222, 2024104815, 2227730452, 2361852424, 2428436474, 2756734187, 3204031479, 3329325298] : List Int))
set_option maxHeartbeats 40000000 in
set_option maxRecDepth 100000 in
theorem vitrineref14_constants.calls  (r : List Int) (w : World) (h : vitrineref14_constants.f  = some r) :
  Calls Try.prog 42 #[] w fun e w' => ∃ v0_ : Value, e = .returned (v0_) ∧ Kd.R (Kd.int .i64) 3 w' w.heap.size (fun _ => True) v0_ r ∧ Below w.heap.size w w' := by
 have HB := Aside0.mk (Below.refl w.heap.size w)
 have H : (some (([1116352408, 1899447441, 3049323471, 3921009573, 961987163, 1508970993, 2453635748, 2870763221, 3624381080, 310598401, 607225278, 1426881987, 1925078388, 2162078206, 2614888103, 3248222580, 3835390401, 4022224774, 264347078, 604807628, 770255983, 1249150122, 1555081692, 1996064986, 2554220882, 2821834349, 2952996808, 3210313671, 3336571891, 3584528711, 113926993, 338241895, 666307205, 773529912, 1294757372, 1396182291, 1695183700, 1986661051, 2177026350, 2456956037, 2730485921, 2820302411, 3259730800, 3345764771, 3516065817, 3600352804, 4094571909, 275423344, 430227734, 506948616, 659060556, 883997877, 958139571, 1322822218, 1537002063, 1747873779, 1955562222, 2024104815, 2227730452, 2361852424, 2428436474, 2756734187, 3204031479, 3329325298] : List Int))) = some r := h
 clear h
 obtain ⟨y169, hy169⟩ : ∃ y_ : List Int, y_ = (([1116352408, 1899447441, 3049323471, 3921009573, 961987163, 1508970993, 2453635748, 2870763221, 3624381080, 310598401, 607225278, 1426881987, 1925078388, 2162078206, 2614888103, 3248222580, 3835390401, 4022224774, 264347078, 604807628, 770255983, 1249150122, 1555081692, 1996064986, 2554220882, 2821834349, 2952996808, 3210313671, 3336571891, 3584528711, 113926993, 338241895, 666307205, 773529912, 1294757372, 1396182291, 1695183700, 1986661051, 2177026350, 2456956037, 2730485921, 2820302411, 3259730800, 3345764771, 3516065817, 3600352804, 4094571909, 275423344, 430227734, 506948616, 659060556, 883997877, 958139571, 1322822218, 1537002063, 1747873779, 1955562222, 2024104815, 2227730452, 2361852424, 2428436474, 2756734187, 3204031479, 3329325298] : List Int)) := ⟨_, rfl⟩
 replace H : (some y169) = some r := by first | (rw [hy169]; with_reducible exact H) | (have H2_ := (Option.bind_some _ _).symm.trans H; rw [hy169]; with_reducible exact H2_) | (have H2_ := (Option.bind_some _ _).symm.trans H; with_reducible exact H2_) | with_reducible exact H | (rw [hy169]; exact H) | exact H
 have Ny169 := Aside0.mk hy169
 clear hy169
 obtain rfl := Option.some.inj H
 go_enter Try.func42, Try.ntmps42
 go_wp2_with (first | ((with_reducible refine gate_dst (N := 1) rfl ?_); refine Kd.R_lit (Kd.int .i64) _ 3 ?hg (N := 1) ?hd (xs := ([1116352408, 1899447441, 3049323471, 3921009573, 961987163, 1508970993, 2453635748, 2870763221, 3624381080, 310598401, 607225278, 1426881987, 1925078388, 2162078206, 2614888103, 3248222580, 3835390401, 4022224774, 264347078, 604807628, 770255983, 1249150122, 1555081692, 1996064986, 2554220882, 2821834349, 2952996808, 3210313671, 3336571891, 3584528711, 113926993, 338241895, 666307205, 773529912, 1294757372, 1396182291, 1695183700, 1986661051, 2177026350, 2456956037, 2730485921, 2820302411, 3259730800, 3345764771, 3516065817, 3600352804, 4094571909, 275423344, 430227734, 506948616, 659060556, 883997877, 958139571, 1322822218, 1537002063, 1747873779, 1955562222, 2024104815, 2227730452, 2361852424, 2428436474, 2756734187, 3204031479, 3329325298] : List Int)) (inner := [.int .i64 1116352408, .int .i64 1899447441, .int .i64 3049323471, .int .i64 3921009573, .int .i64 961987163, .int .i64 1508970993, .int .i64 2453635748, .int .i64 2870763221, .int .i64 3624381080, .int .i64 310598401, .int .i64 607225278, .int .i64 1426881987, .int .i64 1925078388, .int .i64 2162078206, .int .i64 2614888103, .int .i64 3248222580, .int .i64 3835390401, .int .i64 4022224774, .int .i64 264347078, .int .i64 604807628, .int .i64 770255983, .int .i64 1249150122, .int .i64 1555081692, .int .i64 1996064986, .int .i64 2554220882, .int .i64 2821834349, .int .i64 2952996808, .int .i64 3210313671, .int .i64 3336571891, .int .i64 3584528711, .int .i64 113926993, .int .i64 338241895, .int .i64 666307205, .int .i64 773529912, .int .i64 1294757372, .int .i64 1396182291, .int .i64 1695183700, .int .i64 1986661051, .int .i64 2177026350, .int .i64 2456956037, .int .i64 2730485921, .int .i64 2820302411, .int .i64 3259730800, .int .i64 3345764771, .int .i64 3516065817, .int .i64 3600352804, .int .i64 4094571909, .int .i64 275423344, .int .i64 430227734, .int .i64 506948616, .int .i64 659060556, .int .i64 883997877, .int .i64 958139571, .int .i64 1322822218, .int .i64 1537002063, .int .i64 1747873779, .int .i64 1955562222, .int .i64 2024104815, .int .i64 2227730452, .int .i64 2361852424, .int .i64 2428436474, .int .i64 2756734187, .int .i64 3204031479, .int .i64 3329325298]) (ok := fun _ => True) (okp := fun _ => True) ?hr ?hp (fun _ hk => hk) trivial (Below.refl _ _) (Nat.le_refl _) (by simp) ?_; (case hd => rfl); (case hg => rfl); (case hr => first | (go_simp; done) | (go_simp; rfl)); (case hp => exact (Reps.one (show Kd.M (Kd.int .i64) _ _ _ 1116352408 [.int .i64 1116352408] from rfl) (Reps.one (show Kd.M (Kd.int .i64) _ _ _ 1899447441 [.int .i64 1899447441] from rfl) (Reps.one (show Kd.M (Kd.int .i64) _ _ _ 3049323471 [.int .i64 3049323471] from rfl) (Reps.one (show Kd.M (Kd.int .i64) _ _ _ 3921009573 [.int .i64 3921009573] from rfl) (Reps.one (show Kd.M (Kd.int .i64) _ _ _ 961987163 [.int .i64 961987163] from rfl) (Reps.one (show Kd.M (Kd.int .i64) _ _ _ 1508970993 [.int .i64 1508970993] from rfl) (Reps.one (show Kd.M (Kd.int .i64) _ _ _ 2453635748 [.int .i64 2453635748] from rfl) (Reps.one (show Kd.M (Kd.int .i64) _ _ _ 2870763221 [.int .i64 2870763221] from rfl) (Reps.one (show Kd.M (Kd.int .i64) _ _ _ 3624381080 [.int .i64 3624381080] from rfl) (Reps.one (show Kd.M (Kd.int .i64) _ _ _ 310598401 [.int .i64 310598401] from rfl) (Reps.one (show Kd.M (Kd.int .i64) _ _ _ 607225278 [.int .i64 607225278] from rfl) (Reps.one (show Kd.M (Kd.int .i64) _ _ _ 1426881987 [.int .i64 1426881987] from rfl) (Reps.one (show Kd.M (Kd.int .i64) _ _ _ 1925078388 [.int .i64 1925078388] from rfl) (Reps.one (show Kd.M (Kd.int .i64) _ _ _ 2162078206 [.int .i64 2162078206] from rfl) (Reps.one (show Kd.M (Kd.int .i64) _ _ _ 2614888103 [.int .i64 2614888103] from rfl) (Reps.one (show Kd.M (Kd.int .i64) _ _ _ 3248222580 [.int .i64 3248222580] from rfl) (Reps.one (show Kd.M (Kd.int .i64) _ _ _ 3835390401 [.int .i64 3835390401] from rfl) (Reps.one (show Kd.M (Kd.int .i64) _ _ _ 4022224774 [.int .i64 4022224774] from rfl) (Reps.one (show Kd.M (Kd.int .i64) _ _ _ 264347078 [.int .i64 264347078] from rfl) (Reps.one (show Kd.M (Kd.int .i64) _ _ _ 604807628 [.int .i64 604807628] from rfl) (Reps.one (show Kd.M (Kd.int .i64) _ _ _ 770255983 [.int .i64 770255983] from rfl) (Reps.one (show Kd.M (Kd.int .i64) _ _ _ 1249150122 [.int .i64 1249150122] from rfl) (Reps.one (show Kd.M (Kd.int .i64) _ _ _ 1555081692 [.int .i64 1555081692] from rfl) (Reps.one (show Kd.M (Kd.int .i64) _ _ _ 1996064986 [.int .i64 1996064986] from rfl) (Reps.one (show Kd.M (Kd.int .i64) _ _ _ 2554220882 [.int .i64 2554220882] from rfl) (Reps.one (show Kd.M (Kd.int .i64) _ _ _ 2821834349 [.int .i64 2821834349] from rfl) (Reps.one (show Kd.M (Kd.int .i64) _ _ _ 2952996808 [.int .i64 2952996808] from rfl) (Reps.one (show Kd.M (Kd.int .i64) _ _ _ 3210313671 [.int .i64 3210313671] from rfl) (Reps.one (show Kd.M (Kd.int .i64) _ _ _ 3336571891 [.int .i64 3336571891] from rfl) (Reps.one (show Kd.M (Kd.int .i64) _ _ _ 3584528711 [.int .i64 3584528711] from rfl) (Reps.one (show Kd.M (Kd.int .i64) _ _ _ 113926993 [.int .i64 113926993] from rfl) (Reps.one (show Kd.M (Kd.int .i64) _ _ _ 338241895 [.int .i64 338241895] from rfl) (Reps.one (show Kd.M (Kd.int .i64) _ _ _ 666307205 [.int .i64 666307205] from rfl) (Reps.one (show Kd.M (Kd.int .i64) _ _ _ 773529912 [.int .i64 773529912] from rfl) (Reps.one (show Kd.M (Kd.int .i64) _ _ _ 1294757372 [.int .i64 1294757372] from rfl) (Reps.one (show Kd.M (Kd.int .i64) _ _ _ 1396182291 [.int .i64 1396182291] from rfl) (Reps.one (show Kd.M (Kd.int .i64) _ _ _ 1695183700 [.int .i64 1695183700] from rfl) (Reps.one (show Kd.M (Kd.int .i64) _ _ _ 1986661051 [.int .i64 1986661051] from rfl) (Reps.one (show Kd.M (Kd.int .i64) _ _ _ 2177026350 [.int .i64 2177026350] from rfl) (Reps.one (show Kd.M (Kd.int .i64) _ _ _ 2456956037 [.int .i64 2456956037] from rfl) (Reps.one (show Kd.M (Kd.int .i64) _ _ _ 2730485921 [.int .i64 2730485921] from rfl) (Reps.one (show Kd.M (Kd.int .i64) _ _ _ 2820302411 [.int .i64 2820302411] from rfl) (Reps.one (show Kd.M (Kd.int .i64) _ _ _ 3259730800 [.int .i64 3259730800] from rfl) (Reps.one (show Kd.M (Kd.int .i64) _ _ _ 3345764771 [.int .i64 3345764771] from rfl) (Reps.one (show Kd.M (Kd.int .i64) _ _ _ 3516065817 [.int .i64 3516065817] from rfl) (Reps.one (show Kd.M (Kd.int .i64) _ _ _ 3600352804 [.int .i64 3600352804] from rfl) (Reps.one (show Kd.M (Kd.int .i64) _ _ _ 4094571909 [.int .i64 4094571909] from rfl) (Reps.one (show Kd.M (Kd.int .i64) _ _ _ 275423344 [.int .i64 275423344] from rfl) (Reps.one (show Kd.M (Kd.int .i64) _ _ _ 430227734 [.int .i64 430227734] from rfl) (Reps.one (show Kd.M (Kd.int .i64) _ _ _ 506948616 [.int .i64 506948616] from rfl) (Reps.one (show Kd.M (Kd.int .i64) _ _ _ 659060556 [.int .i64 659060556] from rfl) (Reps.one (show Kd.M (Kd.int .i64) _ _ _ 883997877 [.int .i64 883997877] from rfl) (Reps.one (show Kd.M (Kd.int .i64) _ _ _ 958139571 [.int .i64 958139571] from rfl) (Reps.one (show Kd.M (Kd.int .i64) _ _ _ 1322822218 [.int .i64 1322822218] from rfl) (Reps.one (show Kd.M (Kd.int .i64) _ _ _ 1537002063 [.int .i64 1537002063] from rfl) (Reps.one (show Kd.M (Kd.int .i64) _ _ _ 1747873779 [.int .i64 1747873779] from rfl) (Reps.one (show Kd.M (Kd.int .i64) _ _ _ 1955562222 [.int .i64 1955562222] from rfl) (Reps.one (show Kd.M (Kd.int .i64) _ _ _ 2024104815 [.int .i64 2024104815] from rfl) (Reps.one (show Kd.M (Kd.int .i64) _ _ _ 2227730452 [.int .i64 2227730452] from rfl) (Reps.one (show Kd.M (Kd.int .i64) _ _ _ 2361852424 [.int .i64 2361852424] from rfl) (Reps.one (show Kd.M (Kd.int .i64) _ _ _ 2428436474 [.int .i64 2428436474] from rfl) (Reps.one (show Kd.M (Kd.int .i64) _ _ _ 2756734187 [.int .i64 2756734187] from rfl) (Reps.one (show Kd.M (Kd.int .i64) _ _ _ 3204031479 [.int .i64 3204031479] from rfl) (Reps.one (show Kd.M (Kd.int .i64) _ _ _ 3329325298 [.int .i64 3329325298] from rfl) (Reps.none _ _)))))))))))))))))))))))))))))))))))))))))))))))))))))))))))))))))); intro v170 w1 ho2 hb hg_ hnew_; clear hg_ hnew_; (first | rw [← Ny169.out] at ho2 | (simp only [Int.reduceToNat] at ho2; rw [← Ny169.out] at ho2)); have n0_ := Aside0.mk (Kd.R_lower ho2 (below_size (by repeat (first | (with_reducible first | exact HB.out | apply below_alloc | apply pw_below_drewN | apply below_drew1) | exact HB.out)))); have n1_ := Aside0.mk (below_step (by repeat (first | (with_reducible first | exact HB.out | apply below_alloc | apply pw_below_drewN | apply below_drew1) | exact HB.out)) hb); clear HB; have HO171 := n0_; have HB := n1_; clear n0_ n1_; clear hb ho2))
 go_ret
 exact ⟨_, by first | rfl | (simp [errW_none, errW_some] <;> rfl) | (simp [*, errW_none, errW_some] <;> rfl), by (with_reducible repeat (first | apply Kd.R_alloc | apply Kd.R_drewN | apply Kd.R_drew)); exact HO171.out, by repeat (first | (with_reducible first | exact HB.out | apply below_alloc | apply pw_below_drewN | apply below_drew1) | exact HB.out)⟩

mutual
def vitrineref14_Filled.l0 : Nat → ByteArray → List Int → Option (List Int)
 | 0, _, _ => none
 | k + 1, x0, x3 => if ((x3.length : Int) % 64) = 56 then (vitrineref14_Filled.l1 k x3 (wrap64 (8 * (x0.size : Int))) 7) else (if x3.length < 140737488355328 then (vitrineref14_Filled.l0 k x0 (x3 ++ [0])) else (none))
def vitrineref14_Filled.l1 : Nat → List Int → Int → Int → Option (List Int)
 | 0, _, _, _ => none
 | k + 1, x3, x4, x5 => if x5 ≥ 0 then (if 0 ≤ (wrap64 (8 * x5)) then (if x3.length < 140737488355328 then (vitrineref14_Filled.l1 k (x3 ++ [(shr .i64 x4 (wrap64 (8 * x5))) % 256]) x4 (wrap64 (x5 - 1))) else (none)) else (none)) else (some x3)
end
def vitrineref14_Filled.f (k : Nat) (a0 : ByteArray) : Option (List Int) := if a0.size ≤ 140737488355328 then ((some ((bytesOf a0) : List Int)).bind fun y172 => (if y172.length < 140737488355328 then (vitrineref14_Filled.l0 k a0 (y172 ++ [128])) else (none))) else (none)
theorem vitrineref14_Filled.mono_l : ∀ k, (∀ y0 y1, LeO (vitrineref14_Filled.l0 k y0 y1) (vitrineref14_Filled.l0 (k + 1) y0 y1)) ∧ (∀ y0 y1 y2, LeO (vitrineref14_Filled.l1 k y0 y1 y2) (vitrineref14_Filled.l1 (k + 1) y0 y1 y2))
 | 0 => ⟨fun _ _ r h => by simp [vitrineref14_Filled.l0] at h, fun _ _ _ r h => by simp [vitrineref14_Filled.l1] at h⟩
 | k + 1 => by
  obtain ⟨ih0, ih1⟩ := vitrineref14_Filled.mono_l k
  refine ⟨?_, ?_⟩
  ·intro y0 y1
   unfold vitrineref14_Filled.l0
   repeat' first
   | (with_reducible exact ih0 _ _)
   | (with_reducible exact ih1 _ _ _)
   | (with_reducible exact LeO.refl _)
   | (with_reducible exact LeO.none _)
   | (with_reducible refine LeO.ite ?_ ?_)
   | (with_reducible refine LeO.bind ?_ (fun _ => ?_))
   | exact ih0 _ _
   | exact ih1 _ _ _
   | exact LeO.none _
   | refine LeO.ite ?_ ?_
   | refine LeO.bind ?_ (fun _ => ?_)
  ·intro y0 y1 y2
   unfold vitrineref14_Filled.l1
   repeat' first
   | (with_reducible exact ih0 _ _)
   | (with_reducible exact ih1 _ _ _)
   | (with_reducible exact LeO.refl _)
   | (with_reducible exact LeO.none _)
   | (with_reducible refine LeO.ite ?_ ?_)
   | (with_reducible refine LeO.bind ?_ (fun _ => ?_))
   | exact ih0 _ _
   | exact ih1 _ _ _
   | exact LeO.none _
   | refine LeO.ite ?_ ?_
   | refine LeO.bind ?_ (fun _ => ?_)
theorem vitrineref14_Filled.mono : ∀ a0 k, LeO (vitrineref14_Filled.f k a0) (vitrineref14_Filled.f (k + 1) a0) := by
 intro a0 k
 obtain ⟨ih0, ih1⟩ := vitrineref14_Filled.mono_l k
 unfold vitrineref14_Filled.f
 repeat' first
   | (with_reducible exact ih0 _ _)
   | (with_reducible exact ih1 _ _ _)
   | (with_reducible exact LeO.refl _)
   | (with_reducible exact LeO.none _)
   | (with_reducible refine LeO.ite ?_ ?_)
   | (with_reducible refine LeO.bind ?_ (fun _ => ?_))
   | exact ih0 _ _
   | exact ih1 _ _ _
   | exact LeO.none _
   | refine LeO.ite ?_ ?_
   | refine LeO.bind ?_ (fun _ => ?_)
set_option maxHeartbeats 40000000 in
set_option maxRecDepth 100000 in
theorem vitrineref14_Filled.calls (k : Nat) (a0 : ByteArray) (r : List Int) (w : World) (h : vitrineref14_Filled.f k a0 = some r) :
  Calls Try.prog 43 #[.string a0] w fun e w' => ∃ v0_ : Value, e = .returned (v0_) ∧ Go.Proofs.YtbonmhgihedjpaaM.RM (Kd.int .u8) 5 w' w.heap.size (fun _ => True) v0_ r ∧ Below w.heap.size w w' := by
 have HB := Aside0.mk (Below.refl w.heap.size w)
 have H : (if a0.size ≤ 140737488355328 then ((some ((bytesOf a0) : List Int)).bind fun y172 => (if y172.length < 140737488355328 then (vitrineref14_Filled.l0 k a0 (y172 ++ [128])) else (none))) else (none)) = some r := h
 clear h
 by_cases c2 : a0.size ≤ 140737488355328
 ·rw [if_pos c2] at H
  have c2b0 := eq_true c2
  have c2b1 : decide (a0.size ≤ 140737488355328) = true := decide_eq_true c2
  clear c2
  obtain ⟨y172, hy172⟩ : ∃ y_ : List Int, y_ = ((bytesOf a0)) := ⟨_, rfl⟩
  replace H : (if y172.length < 140737488355328 then (vitrineref14_Filled.l0 k a0 (y172 ++ [128])) else (none)) = some r := by first | (rw [hy172]; with_reducible exact H) | (have H2_ := (Option.bind_some _ _).symm.trans H; rw [hy172]; with_reducible exact H2_) | (have H2_ := (Option.bind_some _ _).symm.trans H; with_reducible exact H2_) | with_reducible exact H | (rw [hy172]; exact H) | exact H
  have Ny172 := Aside0.mk hy172
  clear hy172
  by_cases c3 : y172.length < 140737488355328
  ·rw [if_pos c3] at H
   have LMc3 := Aside0.mk c3
   clear c3
   obtain ⟨y175, hy175⟩ : ∃ y_ : List Int, y_ = (y172 ++ [128]) := ⟨_, rfl⟩
   replace H : (vitrineref14_Filled.l0 k a0 y175) = some r := by first | (rw [hy175]; with_reducible exact H) | (have H2_ := (Option.bind_some _ _).symm.trans H; rw [hy175]; with_reducible exact H2_) | (have H2_ := (Option.bind_some _ _).symm.trans H; with_reducible exact H2_) | with_reducible exact H | (rw [hy175]; exact H) | exact H
   have Ny175 := Aside0.mk hy175
   clear hy175
   have H' := Aside0.mk H
   clear H
   go_enter Try.func43, Try.ntmps43
   go_wp2_with (first | ((with_reducible refine gate_dst (N := 7) rfl ?_); refine Go.Proofs.YtbonmhgihedjpaaM.conv_event (Kd.int .u8) _ rfl (N := 7) rfl _ 9 47 5 rfl Try.underlying9 Try.underlying47 Try.underlying5 a0 rfl (fun _ => True) (Below.refl _ _) (Nat.le_refl _) (Nat.le_trans (of_decide_eq_true (by first | (with_reducible assumption) | assumption) : a0.size ≤ 140737488355328) (by omega)) ?_; intro v173 w4 ho5 hb hg_ hnew_; clear hg_ hnew_; (first | rw [← Ny172.out] at ho5 | (simp only [Int.reduceToNat] at ho5; rw [← Ny172.out] at ho5)); have n0_ := Aside0.mk (Go.Proofs.YtbonmhgihedjpaaM.RM_lower ho5 (below_size (by repeat (first | (with_reducible first | exact HB.out | apply below_alloc | apply pw_below_drewN | apply below_drew1) | exact HB.out)))); have n1_ := Aside0.mk (below_step (by repeat (first | (with_reducible first | exact HB.out | apply below_alloc | apply pw_below_drewN | apply below_drew1) | exact HB.out)) hb); clear HB; have HO174 := n0_; have HB := n1_; clear n0_ n1_; clear hb ho5) | ((with_reducible refine gate_builtin (b := .append) (xs := #[.tmp 7, .tmp 8]) rfl ?_); at_builtin; refine Go.Proofs.YtbonmhgihedjpaaM.RM_append (Kd.int .u8) (w0 := w) w.heap.size rfl (.tmp 7) (.tmp 8) 47 5 (.int .u8 0) 1 rfl Try.underlying47 info5 rfl (by decide) (by omega) v173 y172 128 [.int .u8 128] (fun _ => True) (fun _ => False) rfl rfl ?aP (fun _ hk => hk.elim) ?aF ?aO ?aB ?aS ?aL ?_; (case aP => exact rfl); (case aB => exact (by repeat (first | (with_reducible first | exact HB.out | apply below_alloc | apply pw_below_drewN | apply below_drew1) | exact HB.out))); (case aF => exact (fun _ _ => trivial)); (case aO => exact (by (with_reducible repeat (first | apply Go.Proofs.YtbonmhgihedjpaaM.RM_alloc | apply Go.Proofs.YtbonmhgihedjpaaM.RM_drewN | apply Go.Proofs.YtbonmhgihedjpaaM.RM_drew)); exact HO174.out)); (case aS => exact (below_size (by repeat (first | (with_reducible first | exact HB.out | apply below_alloc | apply pw_below_drewN | apply below_drew1) | exact HB.out)))); (case aL => have := LMc3.out; omega); intro v176 w6 ho hb hg hat; rw [← Ny175.out] at ho; have n0_ := Aside0.mk (hb); have n1_ := Aside0.mk (ho); clear HB; clear HO174; have HB := n0_; have HO177 := n1_; clear n0_ n1_; clear ho hb hg hat))
   go_loopg [3] k (fun kq v3 w' => ∃ (x3_1 : List Int), Aside0 (vitrineref14_Filled.l0 kq a0 x3_1 = some r) ∧ Aside0 (kq ≤ k) ∧ Aside0 (Go.Proofs.YtbonmhgihedjpaaM.RM (Kd.int .u8) 5 w' w.heap.size (fun _ => True) v3 x3_1) ∧ Aside0 (Below w.heap.size w w'))
   case atStart => exact ⟨(y175), H', ⟨Nat.le_refl _⟩, ⟨by (with_reducible repeat (first | apply Go.Proofs.YtbonmhgihedjpaaM.RM_alloc | apply Go.Proofs.YtbonmhgihedjpaaM.RM_drewN | apply Go.Proofs.YtbonmhgihedjpaaM.RM_drew)); exact HO177.out⟩, ⟨by repeat (first | (with_reducible first | exact HB.out | apply below_alloc | apply pw_below_drewN | apply below_drew1) | exact HB.out)⟩⟩
   case round =>
    clear H'
    try clear c2
    try clear c2b0
    try clear c2b1
    try clear p2
    try clear c3
    try clear c4
    obtain ⟨x3_1, HA, HK1, HO_3, HB⟩ := hrel
    cases gk with
    | zero => exact absurd HA.out (by simp [vitrineref14_Filled.l0])
    | succ k1 =>
     have H := HA.out
     clear HA
     simp only [vitrineref14_Filled.l0] at H
     by_cases c7 : ((x3_1.length : Int) % 64) = 56
     ·rw [if_pos c7] at H
      have c7b0 : (((x3_1.length : Int) % 64) == 56) = true := beq_iff_eq.mpr c7
      have c7b1 : (((x3_1.length : Int) % 64) != 56) = false := bne_eq_false_iff_eq.mpr c7
      clear c7
      have H' := Aside0.mk H
      clear H
      obtain ⟨Ao8, co8, eo8⟩ := Go.Proofs.YtbonmhgihedjpaaM.RM_slice HO_3.out
      subst eo8
      go_wp2
      go_loopg [3, 5] k1 (fun kq v3 v5 w' => ∃ (x3_2 : List Int) (x5_2 : Int), v5 = .int .i64 x5_2 ∧ Aside0 (vitrineref14_Filled.l1 kq x3_2 (wrap64 (8 * (a0.size : Int))) x5_2 = some r) ∧ Aside0 (kq ≤ k1) ∧ Aside0 (Go.Proofs.YtbonmhgihedjpaaM.RM (Kd.int .u8) 5 w' w.heap.size (fun _ => True) v3 x3_2) ∧ Aside0 (Below w.heap.size w w'))
      case atStart => exact ⟨(x3_1), (7), (by first | rfl | (simp; done) | (simp [*]; done)), H', ⟨Nat.le_refl _⟩, ⟨by (with_reducible repeat (first | apply Go.Proofs.YtbonmhgihedjpaaM.RM_alloc | apply Go.Proofs.YtbonmhgihedjpaaM.RM_drewN | apply Go.Proofs.YtbonmhgihedjpaaM.RM_drew)); exact HO_3.out⟩, ⟨by repeat (first | (with_reducible first | exact HB.out | apply below_alloc | apply pw_below_drewN | apply below_drew1) | exact HB.out)⟩⟩
      case round =>
       clear H'
       try clear c2
       try clear c2b0
       try clear c2b1
       try clear p2
       try clear c3
       try clear c4
       try clear p6
       try clear c7
       try clear c7b0
       try clear c7b1
       try clear p2
       obtain ⟨x3_2, x5_2, rfl, HA, HK2, HO_3, HB⟩ := hrel
       cases gk with
       | zero => exact absurd HA.out (by simp [vitrineref14_Filled.l1])
       | succ k2 =>
        have H := HA.out
        clear HA
        simp only [vitrineref14_Filled.l1] at H
        by_cases c9 : x5_2 ≥ 0
        ·rw [if_pos c9] at H
         have c9b0 : decide (0 ≤ x5_2) = true := decide_eq_true c9
         clear c9
         obtain ⟨ji10, hji10⟩ : ∃ j_ : Int, (wrap64 (8 * x5_2)) = j_ := ⟨_, rfl⟩
         replace H : (if 0 ≤ (ji10) then (if x3_2.length < 140737488355328 then (vitrineref14_Filled.l1 k2 (x3_2 ++ [(shr .i64 (wrap64 (8 * (a0.size : Int))) (ji10)) % 256]) (wrap64 (8 * (a0.size : Int))) (wrap64 (x5_2 - 1))) else (none)) else (none)) = some r := by first | (rw [hji10] at H; exact H) | (simp only [hji10] at H ⊢; exact H)
         have hji10w : (IntKind.i64.wrap (8 * x5_2)) = ji10 := (i64_w _).trans hji10
         by_cases c11 : 0 ≤ (ji10)
         ·rw [if_pos c11] at H
          have c11b0 := eq_true c11
          have c11b1 : decide (0 ≤ (ji10)) = true := decide_eq_true c11
          clear c11
          obtain ⟨ji12, hji12⟩ : ∃ j_ : Int, (shr .i64 (wrap64 (8 * (a0.size : Int))) (ji10)) = j_ := ⟨_, rfl⟩
          replace H : (if x3_2.length < 140737488355328 then (vitrineref14_Filled.l1 k2 (x3_2 ++ [(ji12) % 256]) (wrap64 (8 * (a0.size : Int))) (wrap64 (x5_2 - 1))) else (none)) = some r := by first | (rw [hji12] at H; exact H) | (simp only [hji12] at H ⊢; exact H)
          have hji12_ : ((wrap64 (8 * (a0.size : Int))) / 2 ^ min (ji10).toNat 64) = ji12 := hji12
          have hji12z : (ji10) ≤ 64 → ((wrap64 (8 * (a0.size : Int))) / 2 ^ (ji10).toNat) = ji12 := shr_small hji12
          by_cases c13 : x3_2.length < 140737488355328
          ·rw [if_pos c13] at H
           have LMc13 := Aside0.mk c13
           clear c13
           obtain ⟨y181, hy181⟩ : ∃ y_ : List Int, y_ = (x3_2 ++ [(ji12) % 256]) := ⟨_, rfl⟩
           replace H : (vitrineref14_Filled.l1 k2 y181 (wrap64 (8 * (a0.size : Int))) (wrap64 (x5_2 - 1))) = some r := by first | (rw [hy181]; with_reducible exact H) | (have H2_ := (Option.bind_some _ _).symm.trans H; rw [hy181]; with_reducible exact H2_) | (have H2_ := (Option.bind_some _ _).symm.trans H; with_reducible exact H2_) | with_reducible exact H | (rw [hy181]; exact H) | exact H
           have Ny181 := Aside0.mk hy181
           clear hy181
           have H' := Aside0.mk H
           clear H
           go_wp2_with (first | ((with_reducible refine gate_builtin (b := .append) (xs := #[.tmp 24, .tmp 30]) rfl ?_); at_builtin; refine Go.Proofs.YtbonmhgihedjpaaM.RM_append (Kd.int .u8) (w0 := w) w.heap.size rfl (.tmp 24) (.tmp 30) 47 5 (.int .u8 0) 1 rfl Try.underlying47 info5 rfl (by decide) (by omega) u3 x3_2 ((ji12) % 256) [.int .u8 ((ji12) % 256)] (fun _ => True) (fun _ => False) rfl rfl ?aP (fun _ hk => hk.elim) ?aF ?aO ?aB ?aS ?aL ?_; (case aP => exact rfl); (case aB => exact (by repeat (first | (with_reducible first | exact HB.out | apply below_alloc | apply pw_below_drewN | apply below_drew1) | exact HB.out))); (case aF => exact (fun _ _ => trivial)); (case aO => exact (by (with_reducible repeat (first | apply Go.Proofs.YtbonmhgihedjpaaM.RM_alloc | apply Go.Proofs.YtbonmhgihedjpaaM.RM_drewN | apply Go.Proofs.YtbonmhgihedjpaaM.RM_drew)); exact HO_3.out)); (case aS => exact (below_size (by repeat (first | (with_reducible first | exact HB.out | apply below_alloc | apply pw_below_drewN | apply below_drew1) | exact HB.out)))); (case aL => have := LMc13.out; omega); intro v182 w14 ho hb hg hat; rw [← Ny181.out] at ho; have n0_ := Aside0.mk (hb); have n1_ := Aside0.mk (ho); clear HB; clear HO_3; have HB := n0_; have HO183 := n1_; clear n0_ n1_; clear ho hb hg hat))
           go_roundg k2
           case measure => have := HK1.out; have := HK2.out; omega
           case rel => exact ⟨(y181), (wrap64 (x5_2 - 1)), (by first | rfl | (simp; done) | (simp [*]; done)), H', ⟨by have := HK1.out; have := HK2.out; omega⟩, ⟨by (with_reducible repeat (first | apply Go.Proofs.YtbonmhgihedjpaaM.RM_alloc | apply Go.Proofs.YtbonmhgihedjpaaM.RM_drewN | apply Go.Proofs.YtbonmhgihedjpaaM.RM_drew)); exact HO183.out⟩, ⟨by repeat (first | (with_reducible first | exact HB.out | apply below_alloc | apply pw_below_drewN | apply below_drew1) | exact HB.out)⟩⟩
          ·rw [if_neg c13] at H
           exact absurd H (by simp)
         ·rw [if_neg c11] at H
          exact absurd H (by simp)
        ·rw [if_neg c9] at H
         have c9b0 : decide (0 ≤ x5_2) = false := decide_eq_false c9
         clear c9
         obtain rfl := Option.some.inj H
         go_wp2
         go_ret
         exact ⟨_, by first | rfl | (simp [errW_none, errW_some] <;> rfl) | (simp [*, errW_none, errW_some] <;> rfl), by (with_reducible repeat (first | apply Go.Proofs.YtbonmhgihedjpaaM.RM_alloc | apply Go.Proofs.YtbonmhgihedjpaaM.RM_drewN | apply Go.Proofs.YtbonmhgihedjpaaM.RM_drew)); exact HO_3.out, by repeat (first | (with_reducible first | exact HB.out | apply below_alloc | apply pw_below_drewN | apply below_drew1) | exact HB.out)⟩
     ·rw [if_neg c7] at H
      have c7b0 : (((x3_1.length : Int) % 64) == 56) = false := beq_eq_false_iff_ne.mpr c7
      have c7b1 : (((x3_1.length : Int) % 64) != 56) = true := bne_iff_ne.mpr c7
      by_cases c15 : x3_1.length < 140737488355328
      ·rw [if_pos c15] at H
       have LMc15 := Aside0.mk c15
       clear c15
       obtain ⟨y178, hy178⟩ : ∃ y_ : List Int, y_ = (x3_1 ++ [0]) := ⟨_, rfl⟩
       replace H : (vitrineref14_Filled.l0 k1 a0 y178) = some r := by first | (rw [hy178]; with_reducible exact H) | (have H2_ := (Option.bind_some _ _).symm.trans H; rw [hy178]; with_reducible exact H2_) | (have H2_ := (Option.bind_some _ _).symm.trans H; with_reducible exact H2_) | with_reducible exact H | (rw [hy178]; exact H) | exact H
       have Ny178 := Aside0.mk hy178
       clear hy178
       have H' := Aside0.mk H
       clear H
       obtain ⟨Ao16, co16, eo16⟩ := Go.Proofs.YtbonmhgihedjpaaM.RM_slice HO_3.out
       subst eo16
       go_wp2_with (first | ((with_reducible refine gate_builtin (b := .append) (xs := #[.tmp 14, .tmp 15]) rfl ?_); at_builtin; refine Go.Proofs.YtbonmhgihedjpaaM.RM_append (Kd.int .u8) (w0 := w) w.heap.size rfl (.tmp 14) (.tmp 15) 47 5 (.int .u8 0) 1 rfl Try.underlying47 info5 rfl (by decide) (by omega) (.slice Ao16 x3_1.length co16) x3_1 0 [.int .u8 0] (fun _ => True) (fun _ => False) rfl rfl ?aP (fun _ hk => hk.elim) ?aF ?aO ?aB ?aS ?aL ?_; (case aP => exact rfl); (case aB => exact (by repeat (first | (with_reducible first | exact HB.out | apply below_alloc | apply pw_below_drewN | apply below_drew1) | exact HB.out))); (case aF => exact (fun _ _ => trivial)); (case aO => exact (by (with_reducible repeat (first | apply Go.Proofs.YtbonmhgihedjpaaM.RM_alloc | apply Go.Proofs.YtbonmhgihedjpaaM.RM_drewN | apply Go.Proofs.YtbonmhgihedjpaaM.RM_drew)); exact HO_3.out)); (case aS => exact (below_size (by repeat (first | (with_reducible first | exact HB.out | apply below_alloc | apply pw_below_drewN | apply below_drew1) | exact HB.out)))); (case aL => have := LMc15.out; omega); intro v179 w17 ho hb hg hat; rw [← Ny178.out] at ho; have n0_ := Aside0.mk (hb); have n1_ := Aside0.mk (ho); clear HB; clear HO_3; have HB := n0_; have HO180 := n1_; clear n0_ n1_; clear ho hb hg hat))
       go_roundg k1
       case measure => have := HK1.out; omega
       case rel => exact ⟨(y178), H', ⟨by have := HK1.out; omega⟩, ⟨by (with_reducible repeat (first | apply Go.Proofs.YtbonmhgihedjpaaM.RM_alloc | apply Go.Proofs.YtbonmhgihedjpaaM.RM_drewN | apply Go.Proofs.YtbonmhgihedjpaaM.RM_drew)); exact HO180.out⟩, ⟨by repeat (first | (with_reducible first | exact HB.out | apply below_alloc | apply pw_below_drewN | apply below_drew1) | exact HB.out)⟩⟩
      ·rw [if_neg c15] at H
       exact absurd H (by simp)
  ·rw [if_neg c3] at H
   exact absurd H (by simp)
 ·rw [if_neg c2] at H
  exact absurd H (by simp)

def vitrineref14_turned.f (a0 : Int) (a1 : Int) : Option (Int) := if 0 ≤ a1 then (if 0 ≤ (wrap64 (32 - a1)) then (some (Int.tmod (Go.bits .or .i64 (shr .i64 a0 a1) (shl .i64 a0 (wrap64 (32 - a1)))) 4294967296)) else (none)) else (none)
set_option maxHeartbeats 40000000 in
set_option maxRecDepth 100000 in
theorem vitrineref14_turned.calls (a0 : Int) (a1 : Int) (r : Int) (w : World) (h : vitrineref14_turned.f a0 a1 = some r) :
  Calls Try.prog 44 #[.int .i64 a0, .int .i64 a1] w fun e w' => e = .returned (.int .i64 r) ∧ Drawn0 w w' := by
 have H : (if 0 ≤ a1 then (if 0 ≤ (wrap64 (32 - a1)) then (some (Int.tmod (Go.bits .or .i64 (shr .i64 a0 a1) (shl .i64 a0 (wrap64 (32 - a1)))) 4294967296)) else (none)) else (none)) = some r := h
 clear h
 by_cases c3 : 0 ≤ a1
 ·rw [if_pos c3] at H
  have c3b0 := eq_true c3
  have c3b1 : decide (0 ≤ a1) = true := decide_eq_true c3
  clear c3
  obtain ⟨ji4, hji4⟩ : ∃ j_ : Int, (shr .i64 a0 a1) = j_ := ⟨_, rfl⟩
  replace H : (if 0 ≤ (wrap64 (32 - a1)) then (some (Int.tmod (Go.bits .or .i64 (ji4) (shl .i64 a0 (wrap64 (32 - a1)))) 4294967296)) else (none)) = some r := by first | (rw [hji4] at H; exact H) | (simp only [hji4] at H ⊢; exact H)
  have hji4_ : (a0 / 2 ^ min a1.toNat 64) = ji4 := hji4
  have hji4z : a1 ≤ 64 → (a0 / 2 ^ a1.toNat) = ji4 := shr_small hji4
  obtain ⟨ji5, hji5⟩ : ∃ j_ : Int, (wrap64 (32 - a1)) = j_ := ⟨_, rfl⟩
  replace H : (if 0 ≤ (ji5) then (some (Int.tmod (Go.bits .or .i64 (ji4) (shl .i64 a0 (ji5))) 4294967296)) else (none)) = some r := by first | (rw [hji5] at H; exact H) | (simp only [hji5] at H ⊢; exact H)
  have hji5w : (IntKind.i64.wrap (32 - a1)) = ji5 := (i64_w _).trans hji5
  by_cases c6 : 0 ≤ (ji5)
  ·rw [if_pos c6] at H
   have c6b0 := eq_true c6
   have c6b1 : decide (0 ≤ (ji5)) = true := decide_eq_true c6
   clear c6
   obtain ⟨ji7, hji7⟩ : ∃ j_ : Int, (shl .i64 a0 (ji5)) = j_ := ⟨_, rfl⟩
   replace H : (some (Int.tmod (Go.bits .or .i64 (ji4) (ji7)) 4294967296)) = some r := by first | (rw [hji7] at H; exact H) | (simp only [hji7] at H ⊢; exact H)
   have hji7_ : (IntKind.i64.wrap (a0 * 2 ^ min (ji5).toNat 64)) = ji7 := hji7
   have hji7z : (ji5) ≤ 64 → (IntKind.i64.wrap (a0 * 2 ^ (ji5).toNat)) = ji7 := shl_small hji7
   have hji7y : (wrap64 (a0 * 2 ^ min (ji5).toNat 64)) = ji7 := (i64_w _).symm.trans hji7_
   have hji7x : (ji5) ≤ 64 → (wrap64 (a0 * 2 ^ (ji5).toNat)) = ji7 := fun h_ => (i64_w _).symm.trans (hji7z h_)
   obtain rfl := Option.some.inj H
   go_enter Try.func44, Try.ntmps44
   go_wp2
   repeat (go_quiet (fail); try go_wp2)
   go_ret
   exact ⟨by first | rfl | (simp; done) | (simp only [← hji4, ← hji5, ← hji7] <;> (first | rfl | simp)) | (simp [*]; done), by repeat (first | exact Drawn0.refl _ | apply Drawn0.step)⟩
  ·rw [if_neg c6] at H
   exact absurd H (by simp)
 ·rw [if_neg c3] at H
  exact absurd H (by simp)

end Go.Proofs.Ytbonmhgihedjpaa.PL15
