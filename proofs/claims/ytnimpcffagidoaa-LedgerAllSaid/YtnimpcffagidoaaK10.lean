/-
  The operations on own variables and slices do what the program's do.
-/
import Derived.Test.YtnimpcffagidoaaK9
namespace Go.Proofs.Ytnimpcffagidoaa.K
open Go.RowKit
set_option linter.unusedSimpArgs false
set_option linter.unusedVariables false

section
variable {B : Base} {X X' : Nat → Nat → Prop} {w w' : World} {σ σ' : Pl} {st : Nat → VO} {n : Nat} {S : VS} {us : List Value} {P : Program}
theorem load_at {t : TypeId} {dd : TypeDesc} {inf : TypeInfo} (h1 : P.underlying t = some dd) (hi : P.info? t = some inf) {b off : Nat} {vs : List Value} {ds : List D} {d : D} (hc : Cs X w σ ds vs) (hr : w.rangeAt b off vs)
    (ha : isRow dd = true → d = .ag (ds.take inf.size) ∧ inf.size ≤ ds.length) (hs : isRow dd = false → ds[0]? = some d) : ∃ u, (loadVar t ⟨b, off, none⟩).run P w = .ok u w ∧ C X w σ d u := by
  have hl := hc.len
  cases hrow : isRow dd with
  | true =>
    obtain ⟨rfl, h2⟩ := ha hrow
    refine ⟨.agg (vs.take inf.size).toArray, run_loadVar_mid (P := P) w b off t (vs.take inf.size) dd (fun j v hv => hr j v ?_) h1 (by cases dd <;> simp_all [isRow, TypeDesc.isRow]) (by simp [hi]; omega), ?_⟩
    · rw [List.getElem?_take] at hv
      split at hv
      · exact hv
      · cases hv
    · simp only [C]
      exact ⟨_, rfl, hc.take_ _⟩
  | false =>
    obtain ⟨u, hu, hcu⟩ := hc.at_ (hs hrow)
    have h2 := hr 0 u hu
    exact ⟨u, by simp [loadVar, run_isAgg_of h1, hrow]; simp at h2; simp [h2], hcu⟩
/-- a new block that nobody will write -/
theorem At.row (h : At B X w σ n S us) {ob : Obj} : At B X (w.alloc ob) σ n S us ∧ Ext X w X (w.alloc ob) := by
  have ex : Ext X w X (w.alloc ob) := ⟨by simp, fun b q hb hx => ⟨hx, World.cell?_of_block (w := w) (a := ⟨b, q, none⟩) (Below.heap_alloc w _ b hb)⟩⟩
  refine ⟨⟨⟨fun b q hb => by have := h.ti.fin b q hb; simp; omega, fun k => ?_, h.ti.apart, h.ti.own, h.ti.fr.step (m := []) ⟨rfl, rfl, rfl, by simp, fun b hb _ => Below.heap_alloc w _ b hb⟩ (by simp), h.ti.old, h.ti.lnt⟩, h.rel.step ex fun i => .inl ⟨rfl, fun _ _ => rfl⟩, h.dom⟩, ex⟩
  by_cases hn : S.st k = .no
  · rw [hn]; trivial
  · exact (h.ti.obj k).ext ex rfl (fun _ _ => rfl) fun b hb => ⟨Below.heap_alloc w _ b ((h.ti.obj k).lt hn hb), fun q hq => hq⟩
/-- a frozen slice out of a new block -/
theorem row_c {ds : List D} {vs : List Value} {e len sz : Nat} (hfin : ∀ b q, X b q → b < w.heap.size) (hc : Cs X w nowhere ds vs) (hl : ds.length = len * sz) (hn : len ≤ maxLen) (h1 : ∀ v ∈ vs, v.oneCell' = true) :
    C X (w.alloc (.cells vs.toArray e)) σ (.sl len ds) (.slice (some ⟨w.heap.size, 0, none⟩) len len) := by
  have ex : Ext X w X (w.alloc (.cells vs.toArray e)) := ⟨by simp, fun b q hb hx => ⟨hx, World.cell?_of_block (w := w) (a := ⟨b, q, none⟩) (Below.heap_alloc w _ b hb)⟩⟩
  have hvl := hc.len
  simp only [C]
  refine ⟨_, _, rfl, Nat.le_refl _, hn, fun h0 => ?_, fun h0 => ⟨_, 0, vs, rfl, Cs.ext ex _ _ (fun _ _ => rfl) hc, by simp, fun j hj hx => ?_, fun j v hv => ?_, h1⟩⟩
  · rw [h0, Nat.zero_mul] at hl
    exact List.eq_nil_of_length_eq_zero hl
  · have := hfin _ _ hx; omega
  · rw [cell_of_row _ _ _ vs.toArray e (0, 0) (heap_alloc_new w _)]
    simpa using hv
/-- cells written into an own block -/
theorem At.store (h : At B X w σ n S us) {k b : Nat} {o' : VO} {off : Nat} {ws : List Value} (hn : S.st k ≠ .no) (hb : (σ k).blk = some b) (hX : ∀ q, X b q)
    (hat : Ext X w X (w.setCells b off ws) → OAt X (w.setCells b off ws) σ k o') : At B X (w.setCells b off ws) σ n (S.setO k o') us := by
  have ex : Ext X w X (w.setCells b off ws) := ⟨by rw [setCells_size]; exact Nat.le_refl _, fun c q hc hx => ⟨hx, World.cell?_of_block (w := w) (a := ⟨c, q, none⟩) (setCells_heap _ _ _ _ _ (fun he => hx ((show c = b from he) ▸ hX q)))⟩⟩
  have hs : upd σ k (σ k) = σ := by
    funext j
    unfold upd
    split
    · rename_i hj; rw [hj]
    · rfl
  have ht := h.ti.step (k := k) (o := o') (s := σ k) ex (.inl rfl) (fun j c hj hnj hc => ⟨setCells_heap _ _ _ _ _ (fun he => by subst he; exact h.ti.apart k j _ (Ne.symm hj) hn hnj hb hc), fun q hq => hq⟩) (by rw [hs]; exact hat ex)
    (fun c _ hc => by rw [hb] at hc; injection hc with hc; subst hc; exact ⟨h.ti.own k _ hn hb, fun j hj hnj => h.ti.apart k j _ (Ne.symm hj) hn hnj hb⟩)
    (fun c q hc => by rw [setCells_size]; exact h.ti.fin c q hc) (h.ti.fr.step (m := [b]) (setCells_fr b _ off w) (fun c hc => by
      simp only [List.mem_singleton] at hc
      subst hc
      rcases h.ti.own k _ hn hb with h1 | h1
      · exact .inl h1.2
      · exact .inr h1)) h.ti.old
  rw [hs] at ht
  refine ⟨ht, h.rel.step ex fun i => .inl ⟨rfl, fun _ _ => rfl⟩, fun j hj => ?_⟩
  simp only [VS.setO] at hj ⊢
  by_cases hjk : j = k
  · subst hjk; exact h.dom j hn
  · rw [upd_ne _ _ hjk] at hj
    exact h.dom j hj
/-- the world behind an append -/
theorem At.app (h : At B X w σ n S us) {k e m : Nat} {y : Ty} {l l2 : List y.T} {v v' : Value} {row : Option Nat} {xs news : List Value} (hf : S.free k = true) (hown : w.ownsRow 0 e y.sz v l.length xs)
    (hv : ∀ b, v.ownBlock = some b → (∀ q, X b q) ∧ S.st k ≠ .no ∧ (σ k).blk = some b) (hm : m = l2.length)
    (hc : Cs X w nowhere (l.flatMap y.cells) xs) (hc2 : Cs X w nowhere (l2.flatMap y.cells) news) (ho : ∀ x ∈ xs ++ news, x.oneCell' = true)
    (h1 : w'.ownsRow 0 e y.sz v' (l.length + m) (xs ++ news)) (h2 : w.grownBy w' row) (h3 : (row = none ∧ (v' = v ∨ v'.ownBlock = some w.heap.size)) ∨ (row = v.ownBlock ∧ v'.ownBlock = v.ownBlock)) :
    ∃ X', At B X' w' (upd σ k (.arr v')) n (S.alloc k (.arr e y (l ++ l2))) us ∧ v'.oneCell' = true := by
  subst hm
  have hv' : ∀ b, v'.ownBlock = some b → v.ownBlock = some b ∨ b = w.heap.size := by
    intro b hb
    rcases h3 with ⟨_, rfl | h3⟩ | ⟨_, h3⟩
    · exact .inl hb
    · rw [h3] at hb; injection hb with hb; exact .inr hb.symm
    · rw [h3] at hb; exact .inl hb
  have hrow : ∀ b, row = some b → v.ownBlock = some b := by
    intro b hb
    rcases h3 with ⟨h3, _⟩ | ⟨h3, _⟩
    · rw [h3] at hb; cases hb
    · rw [← h3]; exact hb
  let X' : Nat → Nat → Prop := fun b q => X b q ∨ v'.ownBlock = some b
  have hkeep : ∀ b, b < w.heap.size → v.ownBlock ≠ some b → w'.heap[b]? = w.heap[b]? := fun b hb hn => h2.block b hb (fun he => hn (hrow b he.symm))
  have ex : Ext X w X' w' := by
    refine ⟨h2.size, fun b q hb hx => ⟨?_, ?_⟩⟩
    · rintro (q1 | q1)
      · exact hx q1
      · rcases hv' b q1 with q2 | q2
        · exact hx ((hv b q2).1 q)
        · omega
    · exact World.cell?_of_block (w := w) (a := ⟨b, q, none⟩) (hkeep b hb (fun hn => hx ((hv b hn).1 q)))
  have hone : v'.oneCell' = true := by
    rcases h1.2 with ⟨rfl, _⟩ | ⟨_, _, _, rfl, _⟩ <;> rfl
  have hat : OAt X' w' (upd σ k (.arr v')) k (.arr e y (l ++ l2)) := by
    refine ⟨v', xs ++ news, upd_self _ _ _, ?_, ?_, ho, fun b hb q => .inr hb⟩
    · rw [List.length_append]; exact h1
    · rw [List.flatMap_append]
      exact (Cs.ext ex _ _ (fun _ _ => rfl) hc).app (Cs.ext ex _ _ (fun _ _ => rfl) hc2)
  refine ⟨X', ⟨h.ti.step ex (.inr ⟨free_lt hf, fun j _ => free_spec h.dom hf j⟩) (fun j b hj hn hb => ⟨hkeep b ((h.ti.obj j).lt hn hb) (fun hvb => ?_), fun q hq => .inl hq⟩) hat (fun b _ hb => ?_) ?_ ?_ ?_, h.rel.mask ex k _, fun j hj => ?_⟩, hone⟩
  · obtain ⟨_, p1, p2⟩ := hv b hvb
    exact h.ti.apart k j b (Ne.symm hj) p1 hn p2 hb
  · rcases hv' b hb with q | q
    · obtain ⟨_, p1, p2⟩ := hv b q
      exact ⟨h.ti.own k b p1 p2, fun j hj hn => h.ti.apart k j b (Ne.symm hj) p1 hn p2⟩
    · subst q
      exact ⟨.inr h.ti.fr.size, fun j hj hn hb' => by have := (h.ti.obj j).lt hn hb'; omega⟩
  · rintro b q (q1 | q1)
    · exact Nat.lt_of_lt_of_le (h.ti.fin b q q1) h2.size
    · exact (h1.lt b q1).2
  · refine h.ti.fr.step (m := row.toList) ⟨h2.os, h2.tape, h2.output, h2.size, fun b hb hn => h2.block b hb (fun he => hn (by rw [← he]; simp))⟩ (fun b hb => ?_)
    have hb : row = some b := by simpa using hb
    obtain ⟨_, p1, p2⟩ := hv b (hrow b hb)
    rcases h.ti.own k b p1 p2 with q | q
    · exact .inl q.2
    · exact .inr q
  · intro b q hb
    constructor
    · rintro (q1 | q1)
      · exact (h.ti.old b q hb).1 q1
      · rcases hv' b q1 with q2 | q2
        · exact (h.ti.old b q hb).1 ((hv b q2).1 q)
        · have := h.ti.fr.size; omega
    · exact fun hx => .inl ((h.ti.old b q hb).2 hx)
  · simp only [VS.alloc] at hj ⊢
    by_cases hjk : j = k
    · exact hjk ▸ List.mem_cons_self
    · rw [upd_ne _ _ hjk] at hj
      exact List.mem_cons_of_mem _ (h.dom j hj)
theorem src_spec {y : Ty} {v : V} {l : List y.T} {u : Value} (h : S.src y v = some l) (ht : At B X w σ n S us) (hc : C X w σ v.d u) :
    ∃ A c news, u = .slice A l.length c ∧ (0 < l.length → ∃ a, A = some a ∧ ∀ j x, news[j]? = some x → w.cell? (a.add j) = some x) ∧ (∀ x ∈ news, x.oneCell' = true) ∧ Cs X w nowhere (l.flatMap y.cells) news := by
  unfold VS.src at h
  split at h
  · rename_i y' l'
    split at h
    · rename_i hy
      subst hy
      simp only [Option.some.injEq] at h
      subst h
      simp only [V.d, Ty.d, C] at hc
      obtain ⟨A, c, h1, h2, h3, h4, h5⟩ := hc
      rcases Nat.eq_zero_or_pos (List.length l') with h0 | h0
      · have : l' = [] := List.eq_nil_of_length_eq_zero h0
        subst this
        exact ⟨A, c, [], h1, fun q => absurd q (by simp), (fun x hx => by cases hx), by simp [Cs]⟩
      · obtain ⟨b, off, vs, g1, g4, g5⟩ := h5 h0
        exact ⟨A, c, vs, h1, fun _ => ⟨_, g1, fun j x hx => by rw [Addr.add_mid]; exact g5.at_ j x hx⟩, g5.one, g4⟩
    · cases h
  · simp only [Option.some.injEq] at h
    subst h
    exact ⟨none, 0, [], (C.v hc).1, fun q => absurd q (by simp), (fun x hx => by cases hx), by simp [Cs]⟩
  · rename_i k
    split at h
    · rename_i e y' l' hst
      split at h
      · rename_i hy
        subst hy
        simp only [Option.some.injEq] at h
        subst h
        have hat := ht.ti.obj k
        rw [hst] at hat
        obtain ⟨u', xs, a1, a2, a3, a4, a5⟩ := hat
        simp only [V.d, C] at hc
        rw [a1] at hc
        obtain ⟨hc, _⟩ := hc
        injection hc with hc
        subst hc
        rcases a2.2 with ⟨a6, a7⟩ | ⟨g, cap, cur, a6, _⟩
        · refine ⟨none, 0, xs, by rw [a6, a7], fun q => by omega, a4, a3⟩
        · refine ⟨_, cap, xs, a6, fun _ => ⟨_, rfl, fun j x hx => ?_⟩, a4, a3⟩
          exact a2.cells (by rw [a6]; rfl) j x hx
      · cases h
    · cases h
  · cases h
theorem take_setFrom {α : Type} : ∀ (s a : List α) (o m : Nat), o + s.length ≤ m → (setFrom a o s).take m = setFrom (a.take m) o s
  | [], a, o, m, _ => rfl
  | v :: s, a, o, m, h => by
    simp only [List.length_cons] at h
    rw [setFrom, setFrom, take_setFrom s _ (o + 1) m (by omega)]
    congr 1
    rw [List.take_set]
theorem flat_set {y : Ty} {l : List y.T} {i o : Nat} {x : y.T} {xs ws : List Value} (hi : i < l.length) (hc : Cs X w nowhere (l.flatMap y.cells) xs)
    (hx : ∀ vs, Cs X w nowhere (y.cells (l.getD i y.zero)) vs → Cs X w nowhere (y.cells x) (setFrom vs o ws)) (hw : o + ws.length ≤ y.sz) : Cs X w nowhere ((l.set i x).flatMap y.cells) (setFrom xs (i * y.sz + o) ws) := by
  have hl : l = l.take i ++ l.getD i y.zero :: l.drop (i + 1) := by
    rw [List.getD_eq_getElem?_getD, List.getElem?_eq_getElem hi]
    simp
  have hset : l.set i x = l.take i ++ x :: l.drop (i + 1) := by
    rw [List.set_eq_take_append_cons_drop, if_pos hi]
  rw [hl, List.flatMap_append, List.flatMap_cons] at hc
  rw [hset, List.flatMap_append, List.flatMap_cons]
  obtain ⟨xs1, xs2, rfl, h1, h2⟩ := hc.split
  obtain ⟨xs3, xs4, rfl, h3, h4⟩ := h2.split
  have l1 := h1.len
  have l3 := h3.len
  rw [flat_len, List.length_take, Nat.min_eq_left (by omega)] at l1
  rw [y.cells_len] at l3
  rw [setFrom_app_right _ _ _ _ (by omega), l1, Nat.add_sub_cancel_left, setFrom_app _ _ _ _ (by omega)]
  exact h1.app ((hx _ h3).app h4)
end
end Go.Proofs.Ytnimpcffagidoaa.K
