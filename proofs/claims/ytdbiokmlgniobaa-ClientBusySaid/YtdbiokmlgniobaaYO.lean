/- A value that reads at a type as data is a plain Lean value whose cells say so, kind by kind, and each string and slice in it is within reach. Conditions: the type's underlying form, its cells and its fields' places, each a closed fact of the program.
   Own text of this session (no print). Ytdbiokmlgniobaa: the seat's Name. -/
import Derived.Test.YtdbiokmlgniobaaYWWords
import Derived.ProofKit
import Derived.OpenShut
import Derived.SizedLaws
import Derived.ChangeArms
import Derived.WideShapes
namespace Go.Proofs.YtdbiokmlgniobaaO
open Go.RowKit Go.ChangeShapes Go.WideShapes Go.Proofs.YtdbiokmlgniobaaW.PrintWords
set_option linter.unusedVariables false

def Opn {α : Type} (P : Program) (t : TypeId) (d : Kd α) (ok : α → Prop) : Prop :=
  ∀ (H : Type) (enc : TypeId × Value → H) (w : World) (base : Nat) (spare : Nat → Bool) (held : Bool) (fuel : Nat) (cs : List Value) (x : DataW H × List MemPlace),
    DataW.trod enc P w base spare held fuel t cs = some x → (∀ n ∈ x.1.weights P t, n ≤ reachBytes) → ∃ y, d.K w y cs ∧ ok y

theorem opn_int {P : Program} {t : TypeId} {k : IntKind} (ht : P.underlying t = some (.int k)) : Opn P t (Kd.int k) (fun x => (Lit.int k x).wf = true) := by
  intro H enc w base spare held fuel cs x h _
  obtain ⟨n, rfl, _, hw⟩ := DataW.trod_int ht h
  exact ⟨n, rfl, hw⟩
theorem opn_string {P : Program} {t : TypeId} (ht : P.underlying t = some .string) : Opn P t Kd.string (fun s => s.size ≤ 140737488351232) := by
  intro H enc w base spare held fuel cs x h hw
  obtain ⟨s, rfl, rfl, _⟩ := DataW.trod_string ht h
  refine ⟨s, rfl, ?_⟩
  have := hw s.data.toList.length (by simp [DataW.weights])
  simpa [reachBytes] using this

def OpnFs {α : Type} (P : Program) (fs : List Field) (off : Nat) (d : Kd α) (ok : α → Prop) : Prop :=
  ∀ (H : Type) (enc : TypeId × Value → H) (w : World) (base : Nat) (spare : Nat → Bool) (held : Bool) (fuel : Nat) (cs : List Value) (xs : List (DataW H × List MemPlace)),
    cs.length = off + d.sz → xs.length = fs.length → (∀ (i : Nat) (f : Field), fs[i]? = some f → DataW.trod enc P w base spare held fuel f.type ((cs.drop f.offset).take (P.cellsOf f.type)) = xs[i]?) →
    (∀ n ∈ DataW.weightsEach P (fs.map (·.type)) (xs.map (·.1)), n ≤ reachBytes) → ∃ y, d.K w y (cs.drop off) ∧ ok y

theorem opnFs_one {α : Type} {P : Program} {f : Field} {off : Nat} {d : Kd α} {ok : α → Prop} (ho : f.offset = off) (hc : P.cellsOf f.type = d.sz) (h : Opn P f.type d ok) : OpnFs P [f] off d ok := by
  intro H enc w base spare held fuel cs xs hl hx hf hw
  match xs, hx with
  | [x], _ =>
    have h1 := hf 0 f rfl
    rw [ho, hc] at h1
    have h2 : (cs.drop off).take d.sz = cs.drop off := List.take_of_length_le (by rw [List.length_drop]; omega)
    rw [h2] at h1
    refine h H enc w base spare held fuel _ x h1 (fun n hn => hw n ?_)
    simp only [List.map_cons, List.map_nil, DataW.weightsEach, List.append_nil]
    exact hn
theorem opnFs_cons {α β : Type} {P : Program} {f : Field} {fs : List Field} {off off' : Nat} {a : Kd α} {b : Kd β} {oka : α → Prop} {okb : β → Prop} (ho : f.offset = off) (hc : P.cellsOf f.type = a.sz) (h : Opn P f.type a oka) (he : off + a.sz = off') (hr : OpnFs P fs off' b okb) :
    OpnFs P (f :: fs) off (Kd.pair a b) (fun x => oka x.1 ∧ okb x.2) := by
  subst he
  intro H enc w base spare held fuel cs xs hl hx hf hw
  match xs, hx with
  | x :: xs, hx =>
    have hsz : (Kd.pair a b).sz = a.sz + b.sz := rfl
    rw [hsz] at hl
    have h1 := hf 0 f rfl
    rw [ho, hc] at h1
    obtain ⟨y, hy, oy⟩ := h H enc w base spare held fuel _ x h1 (fun n hn => hw n (by simp only [List.map_cons, DataW.weightsEach, List.mem_append]; exact .inl hn))
    obtain ⟨z, hz, oz⟩ := hr H enc w base spare held fuel cs xs (by omega) (by simpa using hx) (fun i g hg => by have := hf (i + 1) g (by simpa using hg); simpa using this) (fun n hn => hw n (by simp only [List.map_cons, DataW.weightsEach, List.mem_append]; exact .inr hn))
    refine ⟨(y, z), ⟨_, _, ?_, hy, hz⟩, oy, oz⟩
    rw [← List.drop_drop, List.take_append_drop]
theorem opn_struct {α : Type} {P : Program} {t : TypeId} {fs : Array Field} {d : Kd α} {ok : α → Prop} (ht : P.underlying t = some (.struct fs)) (hc : P.cellsOf t = d.sz) (h : OpnFs P fs.toList 0 d ok) : Opn P t d ok := by
  intro H enc w base spare held fuel cs x hx hw
  obtain ⟨xs, n, rfl, rfl, hl, hlen, hf⟩ := DataW.trod_struct ht hx
  obtain ⟨y, hy, oy⟩ := h H enc w base spare held n cs xs (by rw [hl, hc]; omega) (by simpa using hlen) (fun i f hi => hf i f (by simpa using hi)) (fun k hk => hw k (by simp only [DataW.weights, ht]; exact hk))
  exact ⟨y, by simpa using hy, oy⟩
theorem weightsAll_mem {H : Type} {P : Program} {e : TypeId} : ∀ {l : List (DataW H)} {d : DataW H}, d ∈ l → ∀ n ∈ d.weights P e, n ∈ DataW.weightsAll P e l
  | x :: r, d, hd, n, hn => by
    simp only [DataW.weightsAll, List.mem_append]
    rcases List.mem_cons.1 hd with rfl | hd
    · exact .inl hn
    · exact .inr (weightsAll_mem hd n hn)

theorem opn_slice {α : Type} {P : Program} {t e : TypeId} {d : Kd α} {ok : α → Prop} {B : Nat} (ht : P.underlying t = some (.slice e)) (hc : P.cellsOf e = d.sz) (hB : P.bytesOf e = B) (h : Opn P e d ok) :
    Opn P t (Kd.slice e d) (fun xs => xs.length ≤ maxLen ∧ xs.length * B ≤ 140737488351232 ∧ ∀ y ∈ xs, ok y) := by
  intro H enc w base spare held fuel cs x hx hw
  rcases DataW.trod_slice ht hx with ⟨rfl, rfl⟩ | ⟨a, len, cap, elems, rest, n, rfl, rfl, rfl, hb, hl, hm, hlen, hel, _, _⟩
  · exact ⟨[], ⟨none, 0, rfl, Nat.le_refl _, rfl, Nat.zero_le _, fun h0 => absurd h0 (Nat.lt_irrefl _)⟩, by simp, by simp, by simp⟩
  · have hwt : ∀ k ∈ DataW.weights P t (DataW.slice (elems.map (·.1)) (rest.map (·.1))), k ≤ reachBytes := hw
    simp only [DataW.weights, ht] at hwt
    have step : ∀ i : Nat, ∃ y : Option α, i < len → ∃ z cs', y = some z ∧ w.cells? base (a.add (i * P.cellsOf e)) (P.cellsOf e) = some cs' ∧ d.K w z cs' ∧ ok z := by
      intro i
      by_cases hi : i < len
      · have hei := hel i hi
        rw [List.getElem?_eq_getElem (by omega)] at hei
        rw [Option.bind_eq_some_iff] at hei
        obtain ⟨cs', hcs, htr⟩ := hei
        obtain ⟨z, hz, oz⟩ := h H enc w base spare held n cs' _ htr (fun k hk => hwt k (List.mem_cons_of_mem _ (List.mem_append_left _ (weightsAll_mem (List.mem_map.2 ⟨_, List.getElem_mem _, rfl⟩) k hk))))
        exact ⟨some z, fun _ => ⟨z, cs', rfl, hcs, hz, oz⟩⟩
      · exact ⟨none, fun h0 => absurd h0 hi⟩
    by_cases h0 : len = 0
    · subst h0
      exact ⟨[], ⟨some a, cap, rfl, Nat.zero_le _, rfl, Nat.zero_le _, fun h0 => absurd h0 (Nat.lt_irrefl _)⟩, by simp, by simp, by simp⟩
    · obtain ⟨z0, _, _, _, _, _⟩ := (Classical.choose_spec (step 0)) (by omega)
      have pick : ∀ i : Nat, i < len → ∃ z cs', (Classical.choose (step i)).getD z0 = z ∧ w.cells? base (a.add (i * P.cellsOf e)) (P.cellsOf e) = some cs' ∧ d.K w z cs' ∧ ok z := by
        intro i hi
        obtain ⟨z, cs', hz, h1, h2, h3⟩ := (Classical.choose_spec (step i)) hi
        exact ⟨z, cs', by rw [hz]; rfl, h1, h2, h3⟩
      generalize hF : (fun i => (Classical.choose (step i)).getD z0) = F at pick
      have pick' : ∀ i : Nat, i < len → ∃ cs', w.cells? base (a.add (i * P.cellsOf e)) (P.cellsOf e) = some cs' ∧ d.K w (F i) cs' ∧ ok (F i) := by
        intro i hi
        obtain ⟨z, cs', hz, h1, h2, h3⟩ := pick i hi
        have : F i = z := by rw [← hF]; exact hz
        rw [this]
        exact ⟨cs', h1, h2, h3⟩
      have hlm : ((List.range len).map F).length = len := by simp
      refine ⟨(List.range len).map F, ⟨some a, cap, by rw [hlm], by rw [hlm]; exact hl, rfl, by rw [hlm]; unfold maxLen at hm; omega, fun _ => ⟨a, rfl, ?_⟩⟩, by rw [hlm]; omega, ?_, ?_⟩
      · intro j p hj
        obtain ⟨hj1, hj2⟩ := List.getElem?_eq_some_iff.1 hj
        rw [hlm] at hj1
        obtain ⟨cs', h1, h2, h3⟩ := pick' j hj1
        have hp : F j = p := by rw [← hj2]; simp
        subst hp
        obtain ⟨_, hcl, hat⟩ := World.cells?_some h1
        rw [hc] at hcl hat h1
        refine ⟨cs', hcl, h2, fun i u hu => ?_⟩
        have hi : i < d.sz := by have := (List.getElem?_eq_some_iff.1 hu).1; omega
        have := hat i hi
        rw [Go.Proofs.YtdbiokmlgniobaaW.PrintWords.add_add] at this
        rw [this, hu]
      · have := hwt _ List.mem_cons_self
        rw [hlm, hB] at *
        have h1 : len * B ≤ (elems.map (·.1)).length * B + (rest.map (·.1)).length * B := by simp [hlen]
        rw [← Nat.add_mul] at h1
        unfold reachBytes at this
        omega
      · intro y hy
        obtain ⟨i, hi, rfl⟩ := List.mem_map.1 hy
        obtain ⟨_, _, _, h3⟩ := pick' i (by simpa using hi)
        exact h3

theorem opn_mk {α β : Type} {P : Program} {t : TypeId} {d' : Kd β} {ok' : β → Prop} {d : Kd α} {f : β → α} {ok : α → Prop} (hd : d' = Kd.iso d f) (g : α → β) (hfg : ∀ a, f (g a) = a) (h : Opn P t d ok) (hk : ∀ b, ok (f b) → ok' b) : Opn P t d' ok' := by
  subst hd
  intro H enc w base spare held fuel cs x hx hw
  obtain ⟨y, hy, oy⟩ := h H enc w base spare held fuel cs x hx hw
  exact ⟨g y, by show d.K w (f (g y)) cs; rw [hfg]; exact hy, hk _ (by rw [hfg]; exact oy)⟩

theorem opn_arg {α : Type} {P : Program} {t : TypeId} {d : Kd α} {ok : α → Prop} (h : Opn P t d ok) {H : Type} {enc : TypeId × Value → H} {W : World} {base : Nat} {spare : Nat → Bool} {held : Bool} {v : Value} {dat : DataW H} {ps : List MemPlace} {ts : List TypeId} {ds : List (DataW H)} {j : Nat}
    (hsz : (DataW.weightsEach P ts ds).all (· ≤ reachBytes) = true) (ht : ts[j]? = some t) (hd : ds[j]? = some dat) (hT : DataW.Trod enc P W base spare held t v dat ps) : ∃ y, d.K W y v.cells.toList ∧ ok y := by
  obtain ⟨fuel, hf⟩ := hT
  refine h H enc W base spare held fuel _ _ hf (fun n hn => ?_)
  have := List.all_eq_true.1 hsz n (DataW.weights_mem_each ht hd n hn)
  simpa using this
theorem cells_agg {cs : Array Value} {l : List Value} (h : (Value.agg cs).cells.toList = l) : Value.agg cs = .agg l.toArray := by
  have : cs.toList = l := h
  subst this
  rfl
end Go.Proofs.YtdbiokmlgniobaaO
