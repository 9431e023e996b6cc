/- What a call's argument reads as (the model's reader) is told as a kind of the print's words (Kd): whole numbers, bools, strings, structs, arrays, slices, nested as they are. For rows of laws over such arguments. -/
import Derived.Test.YtgibokbkobcnaaaWWords
import Derived.Test.YtgibokbkobcnaaaWLast
import Derived.Deep.Slices
import Derived.SizedLaws
import Derived.ProofKit
import Derived.DataReads
namespace Go.Proofs.Ytgibokbkobcnaaa.Opn
open Go.Proofs.YtgibokbkobcnaaaW.PrintWords
open Go.WideShapes Go.Deep Go.ChangeShapes

/-- Whatever reads at type t is told by the kind K, and is good. -/
def Opens (P : Program) (t : TypeId) {α : Type} (K : Kd α) (G : α → Prop) : Prop :=
  ∀ {H : Type} (enc : TypeId × Value → H) (w : World) (fuel : Nat) (cs : List Value) (x : DataW H × List MemPlace),
    DataW.trod enc P w 0 (fun _ => true) true fuel t cs = some x → (∀ n ∈ x.1.weights P t, n ≤ reachBytes) → ∃ a, K.K w a cs ∧ G a

theorem Opens.int {P : Program} {t : TypeId} {k : IntKind} (hu : P.underlying t = some (.int k)) : Opens P t (Kd.int k) (fun n => (Lit.int k n).wf = true) := by
  intro H enc w fuel cs x h _
  obtain ⟨n, rfl, _, hw⟩ := DataW.trod_int hu h
  exact ⟨n, rfl, hw⟩
theorem Opens.bool {P : Program} {t : TypeId} (hu : P.underlying t = some .bool) : Opens P t Kd.bool (fun _ => True) := by
  intro H enc w fuel cs x h _
  obtain ⟨b, rfl, _⟩ := DataW.trod_bool hu h
  exact ⟨b, rfl, trivial⟩
theorem Opens.string {P : Program} {t : TypeId} (hu : P.underlying t = some .string) : Opens P t Kd.string (fun s => s.size ≤ 140737488351232) := by
  intro H enc w fuel cs x h hz
  obtain ⟨s, rfl, hx, hw⟩ := DataW.trod_string hu h
  subst hx
  refine ⟨s, rfl, ?_⟩
  have := hz s.data.toList.length (by simp [DataW.weights])
  rw [Array.length_toList] at this
  exact this
theorem Opens.iso {P : Program} {t : TypeId} {α β : Type} {K : Kd α} {G : α → Prop} (h : Opens P t K G) (f : β → α) (g : α → β) (hfg : ∀ a, f (g a) = a) : Opens P t (Kd.iso K f) (fun x => G (f x)) := by
  intro H enc w fuel cs x hx hz
  obtain ⟨a, hK, hG⟩ := h enc w fuel cs x hx hz
  exact ⟨g a, by show K.K w (f (g a)) cs; rw [hfg]; exact hK, by show G (f (g a)); rw [hfg]; exact hG⟩
theorem Opens.mono {P : Program} {t : TypeId} {α : Type} {K : Kd α} {G G' : α → Prop} (h : Opens P t K G) (hg : ∀ a, G a → G' a) : Opens P t K G' := by
  intro H enc w fuel cs x hx hz
  obtain ⟨a, hK, hG⟩ := h enc w fuel cs x hx hz
  exact ⟨a, hK, hg a hG⟩

/-- Parts that stand behind each other from cell o on. -/
def Parts (P : Program) (ts : List (TypeId × Nat)) (o : Nat) {α : Type} (K : Kd α) (G : α → Prop) : Prop :=
  ∀ {H : Type} (enc : TypeId × Value → H) (w : World) (fuel : Nat) (cs : List Value) (ys : List (DataW H × List MemPlace)),
    ts.mapM (fun f => DataW.trod enc P w 0 (fun _ => true) true fuel f.1 ((cs.drop f.2).take (P.cellsOf f.1))) = some ys → cs.length = o + K.sz →
      (∀ n ∈ DataW.weightsEach P (ts.map (·.1)) (ys.map (·.1)), n ≤ reachBytes) → ∃ a, K.K w a (cs.drop o) ∧ G a

theorem Parts.one {P : Program} {t : TypeId} {o : Nat} {α : Type} {K : Kd α} {G : α → Prop} (h : Opens P t K G) (hc : P.cellsOf t = K.sz) : Parts P [(t, o)] o K G := by
  intro H enc w fuel cs ys hy hl hz
  rw [List.mapM_cons] at hy
  obtain ⟨y, h1, h2⟩ := Option.bind_eq_some_iff.1 hy
  simp only [List.mapM_nil] at h2
  obtain ⟨_, h3, h4⟩ := Option.bind_eq_some_iff.1 h2
  obtain rfl := Option.some.inj h3
  obtain rfl := Option.some.inj h4
  have e : (cs.drop o).take (P.cellsOf t) = cs.drop o := by rw [List.take_of_length_le]; simp; omega
  rw [e] at h1
  exact h enc w fuel _ y h1 (fun n hn => hz n (by simp [DataW.weightsEach, hn]))
theorem Parts.cons {P : Program} {t : TypeId} {o o' : Nat} {ts : List (TypeId × Nat)} {α β : Type} {K : Kd α} {K' : Kd β} {G : α → Prop} {G' : β → Prop}
    (h : Opens P t K G) (hc : P.cellsOf t = K.sz) (ho : o' = o + K.sz) (h' : Parts P ts o' K' G') : Parts P ((t, o) :: ts) o (Kd.pair K K') (fun x => G x.1 ∧ G' x.2) := by
  intro H enc w fuel cs ys hy hl hz
  have hl : cs.length = o + (K.sz + K'.sz) := hl
  rw [List.mapM_cons] at hy
  obtain ⟨y, h1, h2⟩ := Option.bind_eq_some_iff.1 hy
  obtain ⟨ys', h3, h4⟩ := Option.bind_eq_some_iff.1 h2
  obtain rfl := Option.some.inj h4
  rw [hc] at h1
  obtain ⟨a, ha, ga⟩ := h enc w fuel _ y h1 (fun n hn => hz n (by simp [DataW.weightsEach, hn]))
  obtain ⟨b, hb, gb⟩ := h' enc w fuel cs ys' h3 (by omega) (fun n hn => hz n (by
    simp only [List.map_cons, DataW.weightsEach, List.mem_append]
    exact Or.inr hn))
  refine ⟨(a, b), ⟨_, _, ?_, ha, hb⟩, ga, gb⟩
  rw [ho, ← List.drop_drop, List.take_append_drop]
theorem Opens.struct {P : Program} {t : TypeId} {fs : Array Field} {α : Type} {K : Kd α} {G : α → Prop} (hu : P.underlying t = some (.struct fs)) (hc : P.cellsOf t = K.sz)
    (ts : List (TypeId × Nat)) (hts : fs.toList.map (fun f => (f.type, f.offset)) = ts) (h : Parts P ts 0 K G) : Opens P t K G := by
  intro H enc w fuel cs x hx hz
  cases fuel with
  | zero => simp [DataW.trod] at hx
  | succ n =>
    have hx' : (if cs.length = P.cellsOf t then (fs.toList.mapM fun f => DataW.trod enc P w 0 (fun _ => true) true n f.type ((cs.drop f.offset).take (P.cellsOf f.type))).map fun xs => (.agg (xs.map (·.1)), xs.flatMap (·.2)) else none) = some x := by
      rw [← hx, DataW.trod_step]
      unfold DataW.trodStep
      rw [hu]
    split at hx'
    · rename_i hlen
      obtain ⟨ys, h1, h2⟩ := Option.map_eq_some_iff.1 hx'
      subst h2
      have h3 : ts.mapM (fun f => DataW.trod enc P w 0 (fun _ => true) true n f.1 ((cs.drop f.2).take (P.cellsOf f.1))) = some ys := by
        rw [← hts, List.mapM_map]
        exact h1
      have := h enc w n cs ys h3 (by omega) (fun m hm => hz m (by
        simp only [DataW.weights, hu]
        rw [← hts, List.map_map] at hm
        exact hm))
      simpa using this
    · cases hx'
theorem weightsAll_each {H : Type} {P : Program} (e : TypeId) : ∀ (ds : List (DataW H)) (ts : List TypeId), ts.length = ds.length → (∀ t ∈ ts, t = e) → DataW.weightsEach P ts ds = DataW.weightsAll P e ds
  | [], [], _, _ => rfl
  | d :: ds, t :: ts, hl, ht => by
    have h0 := ht t (by simp)
    subst h0
    simp only [DataW.weightsEach, DataW.weightsAll]
    rw [weightsAll_each t ds ts (by simpa using hl) (fun t' h' => ht t' (by simp [h']))]
theorem Opens.array {P : Program} {t e : TypeId} {n : Nat} {α : Type} {K : Kd α} {G : α → Prop} (hu : P.underlying t = some (.array n e)) (hc : P.cellsOf t = K.sz)
    (ts : List (TypeId × Nat)) (hts : (List.range n).map (fun i => (e, i * P.cellsOf e)) = ts) (h : Parts P ts 0 K G) : Opens P t K G := by
  intro H enc w fuel cs x hx hz
  cases fuel with
  | zero => simp [DataW.trod] at hx
  | succ m =>
    have hx' : (if cs.length = P.cellsOf t then ((List.range n).mapM fun i => DataW.trod enc P w 0 (fun _ => true) true m e ((cs.drop (i * P.cellsOf e)).take (P.cellsOf e))).map fun xs => (.agg (xs.map (·.1)), xs.flatMap (·.2)) else none) = some x := by
      rw [← hx, DataW.trod_step]
      unfold DataW.trodStep
      rw [hu]
    split at hx'
    · rename_i hlen
      obtain ⟨ys, h1, h2⟩ := Option.map_eq_some_iff.1 hx'
      subst h2
      have hlen' : ys.length = n := by simpa using mapM_some_length h1
      have h3 : ts.mapM (fun f => DataW.trod enc P w 0 (fun _ => true) true m f.1 ((cs.drop f.2).take (P.cellsOf f.1))) = some ys := by
        rw [← hts, List.mapM_map]
        exact h1
      have := h enc w m cs ys h3 (by omega) (fun k hk => hz k (by
        simp only [DataW.weights, hu]
        rw [← hts, List.map_map, weightsAll_each e _ _ (by simp [hlen']) (by simp)] at hk
        exact hk))
      simpa using this
    · cases hx'
theorem mem_weightsAll {H : Type} {P : Program} {e : TypeId} {n : Nat} : ∀ {ds : List (DataW H)} {d : DataW H}, d ∈ ds → n ∈ d.weights P e → n ∈ DataW.weightsAll P e ds
  | d0 :: ds, d, hd, hn => by
    simp only [DataW.weightsAll, List.mem_append]
    rcases List.mem_cons.1 hd with rfl | h
    · exact Or.inl hn
    · exact Or.inr (mem_weightsAll h hn)
theorem Opens.slice {P : Program} {t e : TypeId} {α : Type} {K : Kd α} {G : α → Prop} (hu : P.underlying t = some (.slice e)) (hc : P.cellsOf e = K.sz) (B : Nat) (hB : P.bytesOf e = B) (h : Opens P e K G) :
    Opens P t (Kd.slice e K) (fun l => l.length ≤ maxLen ∧ l.length * B ≤ 140737488351232 ∧ ∀ a ∈ l, G a) := by
  intro H enc w fuel cs x hx hz
  rcases open_slice hu hx with ⟨rfl, _⟩ | ⟨a, len, cap, m, n, D, Pl, rfl, _, hl, hm, hmm, rfl, hel⟩
  · exact ⟨[], ⟨none, 0, rfl, Nat.le_refl _, rfl, by simp, fun h0 => absurd h0 (by simp)⟩, by simp, by simp, by simp⟩
  · have hmc : m = cap := by simpa using hmm
    subst hmc
    have key : ∀ i, i < len → ∃ y : α, ∃ cs', w.cells? 0 (a.add (i * P.cellsOf e)) (P.cellsOf e) = some cs' ∧ K.K w y cs' ∧ G y := by
      intro i hi
      obtain ⟨cs', h1, h2⟩ := hel i (by omega)
      obtain ⟨y, hy, gy⟩ := h enc w n cs' (D i, Pl i) h2 (fun k hk => hz k (by
        simp only [DataW.weights, hu, List.mem_cons, List.mem_append]
        exact Or.inr (Or.inl (mem_weightsAll (List.mem_map.2 ⟨i, List.mem_range.2 hi, rfl⟩) hk))))
      exact ⟨y, cs', h1, hy, gy⟩
    have hw := hz ((len + (m - len)) * P.bytesOf e) (by simp [DataW.weights, hu])
    rw [hB] at hw
    have hw : len * B ≤ 140737488351232 := Nat.le_trans (Nat.mul_le_mul_right _ (by omega)) hw
    have hex : ∀ k, k ≤ len → ∃ ys : List α, ys.length = k ∧ ∀ i (hi : i < ys.length), ∃ cs', w.cells? 0 (a.add (i * P.cellsOf e)) (P.cellsOf e) = some cs' ∧ K.K w ys[i] cs' ∧ G ys[i] := by
      intro k
      induction k with
      | zero => exact fun _ => ⟨[], rfl, fun i hi => absurd hi (by simp)⟩
      | succ k ih =>
        intro hk
        obtain ⟨ys, hy, hall⟩ := ih (by omega)
        obtain ⟨y, cs', h1, h2, h3⟩ := key k (by omega)
        refine ⟨ys ++ [y], by simp [hy], fun i hi => ?_⟩
        by_cases hlt : i < ys.length
        · rw [List.getElem_append_left hlt]
          exact hall i hlt
        · have hik : i = k := by simp at hi; omega
          subst hik
          rw [List.getElem_append_right (by omega)]
          simp only [hy, Nat.sub_self, List.getElem_cons_zero]
          exact ⟨cs', h1, h2, h3⟩
    obtain ⟨ys, hy, hall⟩ := hex len (Nat.le_refl _)
    have hmax : maxLen ≤ 9223372036854775807 := by decide
    refine ⟨ys, ⟨some a, m, by rw [hy], by omega, rfl, by omega, fun _ => ⟨a, rfl, fun j p hp => ?_⟩⟩, by omega, by rw [hy]; exact hw, ?_⟩
    · obtain ⟨hj, rfl⟩ := List.getElem?_eq_some_iff.1 hp
      obtain ⟨cs', h1, h2, _⟩ := hall j hj
      obtain ⟨_, hlen, hcell⟩ := World.cells?_some h1
      refine ⟨cs', by rw [hlen, hc], h2, fun i u hu' => ?_⟩
      obtain ⟨hi, _⟩ := List.getElem?_eq_some_iff.1 hu'
      rw [← hc, ← Go.Deep.add_add, hcell i (by omega), hu']
    · intro b hb
      obtain ⟨i, hi, rfl⟩ := List.getElem_of_mem hb
      obtain ⟨_, _, _, g⟩ := hall i hi
      exact g

/-- An argument of a type of several cells is an aggregate. -/
theorem agg_of {P : Program} {W : World} {base : Nat} {t : TypeId} {v : Value} (hd : (match P.underlying t with | some (.struct _) | some (.array _ _) => true | _ => false) = true)
    (h : Value.okWide P W .any base t v) : ∃ cs, v = .agg cs := by
  unfold Value.okWide at h
  cases hu : P.underlying t with
  | none => simp [hu] at hd
  | some d =>
    cases d <;> simp [hu] at hd h
    all_goals exact h.elim fun cs hcs => ⟨cs, hcs.1⟩
theorem Opens.trod {P : Program} {t : TypeId} {α : Type} {K : Kd α} {G : α → Prop} (h : Opens P t K G) {H : Type} {enc : TypeId × Value → H} {w : World} {v : Value} {d : DataW H} {p : List MemPlace}
    (ht : DataW.Trod enc P w 0 (fun _ => true) true t v d p) {ts : List TypeId} {ds : List (DataW H)} {j : Nat} (hsz : (DataW.weightsEach P ts ds).all (· ≤ reachBytes) = true) (hj : ts[j]? = some t) (hd : ds[j]? = some d) :
    ∃ a, K.K w a v.cells.toList ∧ G a := by
  obtain ⟨fuel, hf⟩ := ht
  exact h enc w fuel _ _ hf (fun n hn => by simpa using List.all_eq_true.1 hsz n (DataW.weights_mem_each hj hd n hn))
theorem agg_cells {cs : Array Value} {l : List Value} (h : (Value.agg cs).cells.toList = l) : Value.agg cs = .agg l.toArray := by
  rw [← h]
  rfl
end Go.Proofs.Ytgibokbkobcnaaa.Opn
