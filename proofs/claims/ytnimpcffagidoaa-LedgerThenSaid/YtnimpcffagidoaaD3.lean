/-
  The state of a walk by values: slots, the call's own variables, things that others handed in; and the operations that read, make and write the call's own variables.
-/
import Derived.Test.YtnimpcffagidoaaD2
import Derived.Great.BuildSlice
namespace Go.Proofs.Ytnimpcffagidoaa
open Go.RowKit
set_option linter.unusedSimpArgs false
set_option linter.unusedVariables false

/-- where a call began: what may be written, the world, and the blocks that were lent to it for writing -/
structure Base where
  X0 : Nat → Nat → Prop
  w0 : World
  lent : List Nat

/-- from a to w nothing has turned below a's end but in the blocks that were lent -/
structure Fr (lent : List Nat) (a w : World) : Prop where
  os : w.os = a.os
  tape : w.tape = a.tape
  output : w.output = a.output
  size : a.heap.size ≤ w.heap.size
  keep : ∀ b, b < a.heap.size → b ∉ lent → w.heap[b]? = a.heap[b]?

theorem Fr.refl (l : List Nat) (w : World) : Fr l w w := ⟨rfl, rfl, rfl, Nat.le_refl _, fun _ _ _ => rfl⟩
/-- one step: everything below stands but for blocks of the list m, each of which is lent or new -/
theorem Fr.step {l m : List Nat} {a w w' : World} (h : Fr l a w) (k : Fr m w w') (hm : ∀ b ∈ m, b ∈ l ∨ a.heap.size ≤ b) : Fr l a w' :=
  ⟨k.os.trans h.os, k.tape.trans h.tape, k.output.trans h.output, Nat.le_trans h.size k.size, fun b hb hl => (k.keep b (Nat.lt_of_lt_of_le hb h.size) (fun hbm => by
    rcases hm b hbm with h1 | h1
    · exact hl h1
    · omega)).trans (h.keep b hb hl)⟩
theorem Fr.alloc (l : List Nat) (w : World) (o : Obj) : Fr l w (w.alloc o) := ⟨rfl, rfl, rfl, by simp, fun b hb _ => Below.heap_alloc w o b hb⟩
theorem Fr.drew (l : List Nat) (w : World) : Fr l w w.drew := ⟨rfl, rfl, rfl, Nat.le_refl _, fun _ _ _ => rfl⟩

/-- a thing of the call's own: a variable; a variable that only others read and write; a slice that may be appended to (how often it was) -/
inductive LO where
  | box (cs : List D)
  | hid (cs : List D)
  | tok (e sz g : Nat)
/-- a block that was handed in for writing -/
inductive NO where
  | box (b : Nat) (cs : List D)
def NO.block : NO → Nat
  | .box b _ => b
def BoxAt (X : Nat → Nat → Prop) (w : World) (σ : List SC) (b : Nat) (cs : List D) : Prop := ∃ t vs, w.heap[b]? = some (.cells vs.toArray t (0, 0)) ∧ Cs X w σ cs vs
/-- u is nil, or a row of elements of which the cells behind the last one belong to nobody else -/
def TokAt (X : Nat → Nat → Prop) (w : World) (u : Value) (e sz : Nat) : Prop := ∃ n xs, w.ownsRow 0 e sz u n xs ∧ (∀ b, u.ownBlock = some b → ∀ o, n * sz ≤ o → X b o)
def NO.at_ (X : Nat → Nat → Prop) (w : World) : NO → Prop
  | .box b cs => BoxAt X w [] b cs ∧ ∀ o, X b o
def LO.at_ (X : Nat → Nat → Prop) (w : World) (σ : List SC) : SC → LO → Prop
  | .box b, .box cs => BoxAt X w σ b cs ∧ ∀ o, X b o
  | .box b, .hid cs => BoxAt X w [] b cs ∧ ∀ o, X b o
  | .tok g u, .tok e sz g' => g = g' ∧ TokAt X w u e sz
  | _, _ => False
def SC.block? : SC → Option Nat
  | .box b => some b
  | .tok _ u => u.ownBlock
def names (no : List NO) : List Nat := no.map NO.block
/-- all blocks that somebody may write -/
def owned (σ : List SC) (no : List NO) : List Nat := σ.filterMap SC.block? ++ names no

structure St where
  ts : List D
  lo : List LO
  no : List NO

structure Inv (B : Base) (X : Nat → Nat → Prop) (w : World) (σ : List SC) (lo : List LO) (no : List NO) : Prop where
  fin : ∀ b o, X b o → b < w.heap.size
  len : σ.length = lo.length
  los : ∀ (k : Nat) (s : SC) (l : LO), σ[k]? = some s → lo[k]? = some l → LO.at_ X w σ s l
  nos : ∀ o ∈ no, NO.at_ X w o
  nod : (owned σ no).Nodup
  own : ∀ (k b : Nat) (s : SC), σ[k]? = some s → s.block? = some b → b ∈ B.lent ∨ B.w0.heap.size ≤ b
  ownT : ∀ (k g : Nat) (u : Value) (b : Nat), σ[k]? = some (.tok g u) → u.ownBlock = some b → B.w0.heap.size ≤ b
  lnt : ∀ b ∈ names no, b ∈ B.lent ∨ B.w0.heap.size ≤ b
  lt : ∀ b ∈ owned σ no, b < w.heap.size
  fr : Fr B.lent B.w0 w
  old : ∀ b o, b < B.w0.heap.size → (X b o ↔ B.X0 b o)

section
variable {B : Base} {X X' : Nat → Nat → Prop} {w w' : World} {σ σ' : List SC} {lo : List LO} {no : List NO}
theorem BoxAt.ext {b : Nat} {cs : List D} (h : BoxAt X w σ b cs) (e : Ext X w σ X' w' σ') (hb : w'.heap[b]? = w.heap[b]?) : BoxAt X' w' σ' b cs := by
  obtain ⟨t, vs, h1, h2⟩ := h
  exact ⟨t, vs, hb.trans h1, Cs.ext e cs vs h2⟩
theorem TokAt.ext {u : Value} {e sz : Nat} (h : TokAt X w u e sz) (hX : ∀ b, u.ownBlock = some b → ∀ o, X b o → X' b o) (hb : ∀ b, u.ownBlock = some b → w'.heap[b]? = w.heap[b]?) : TokAt X' w' u e sz := by
  obtain ⟨n, xs, h1, h2⟩ := h
  refine ⟨n, xs, ⟨h1.1, ?_⟩, fun b hb' o ho => hX b hb' o (h2 b hb' o ho)⟩
  rcases h1.2 with hn | ⟨g, cap, cur, rfl, hb0, hgg, rest⟩
  · exact .inl hn
  · refine .inr ⟨g, cap, cur, rfl, hb0, ?_, rest⟩
    rw [hb g (by simp [Value.ownBlock])]
    exact hgg
theorem LO.at_ext {s : SC} {l : LO} (h : LO.at_ X w σ s l) (e : Ext X w σ X' w' σ') (hX : ∀ b, s.block? = some b → ∀ o, X b o → X' b o) (hb : ∀ b, s.block? = some b → w'.heap[b]? = w.heap[b]?) : LO.at_ X' w' σ' s l := by
  cases s with
  | box b =>
    cases l with
    | box cs => exact ⟨h.1.ext e (hb b rfl), fun o => hX b rfl o (h.2 o)⟩
    | hid cs => exact ⟨h.1.ext (e.nil []) (hb b rfl), fun o => hX b rfl o (h.2 o)⟩
    | tok e2 sz g => exact h
  | tok g u =>
    cases l with
    | box cs => exact h
    | hid cs => exact h
    | tok e2 sz g' => exact ⟨h.1, h.2.ext (fun b hb' => hX b hb') (fun b hb' => hb b hb')⟩
theorem NO.at_ext {o : NO} (h : o.at_ X w) (e : Ext X w σ X' w' σ') (hX : ∀ q, X o.block q → X' o.block q) (hb : w'.heap[o.block]? = w.heap[o.block]?) : o.at_ X' w' := by
  cases o with
  | box b cs => exact ⟨h.1.ext (e.nil []) hb, fun q => hX q (h.2 q)⟩
theorem mem_owned {k b : Nat} {s : SC} (hk : σ[k]? = some s) (hs : s.block? = some b) : b ∈ owned σ no :=
  List.mem_append_left _ (List.mem_filterMap.2 ⟨s, List.mem_of_getElem? hk, hs⟩)
theorem mem_named {o : NO} (ho : o ∈ no) : o.block ∈ owned σ no := List.mem_append_right _ (List.mem_map.2 ⟨o, ho, rfl⟩)
/-- two different things lie in different blocks -/
theorem apart_of {k k' b : Nat} {s s' : SC} (h : (owned σ no).Nodup) (hk : σ[k]? = some s) (hk' : σ[k']? = some s') (hne : k ≠ k') (hs : s.block? = some b) : s'.block? ≠ some b := by
  intro hs'
  have h1 := (List.nodup_append.1 h).1
  have key : ∀ (τ : List SC) (i j : Nat) (a c : SC), (τ.filterMap SC.block?).Nodup → i < j → τ[i]? = some a → τ[j]? = some c → a.block? = some b → c.block? = some b → False := by
    intro τ
    induction τ with
    | nil => intro i j a c _ _ hi; simp at hi
    | cons t τ ih =>
      intro i j a c hn hij hi hj ha hc
      rcases i with _ | i
      · rcases j with _ | j
        · omega
        · simp only [List.getElem?_cons_zero, Option.some.injEq] at hi
          simp only [List.getElem?_cons_succ] at hj
          subst hi
          rw [List.filterMap_cons, ha] at hn
          simp only [List.nodup_cons] at hn
          exact hn.1 (List.mem_filterMap.2 ⟨c, List.mem_of_getElem? hj, hc⟩)
      · rcases j with _ | j
        · omega
        · simp only [List.getElem?_cons_succ] at hi hj
          refine ih i j a c ?_ (by omega) hi hj ha hc
          rw [List.filterMap_cons] at hn
          split at hn
          · exact hn
          · exact (List.nodup_cons.1 hn).2
  rcases Nat.lt_or_ge k k' with hlt | hge
  · exact key σ k k' s s' h1 hlt hk hk' hs hs'
  · exact key σ k' k s' s h1 (by omega) hk' hk hs' hs
theorem apart_no {k b : Nat} {s : SC} {o : NO} (h : (owned σ no).Nodup) (hk : σ[k]? = some s) (hs : s.block? = some b) (ho : o ∈ no) : o.block ≠ b := by
  intro e
  exact (List.nodup_append.1 h).2.2 b (List.mem_filterMap.2 ⟨s, List.mem_of_getElem? hk, hs⟩) o.block (List.mem_map.2 ⟨o, ho, rfl⟩) e.symm
theorem getElem?_snoc {α : Type} {l : List α} {x y : α} {k : Nat} (h : (l ++ [x])[k]? = some y) : l[k]? = some y ∨ (k = l.length ∧ x = y) := by
  rcases Nat.lt_or_ge k l.length with hlt | hge
  · rw [List.getElem?_append_left hlt] at h; exact .inl h
  · rw [List.getElem?_append_right hge] at h
    cases hj : k - l.length with
    | zero => rw [hj] at h; simp at h; exact .inr ⟨by omega, h⟩
    | succ j => rw [hj] at h; simp at h

/-- one more thing of the call's own, in a new block (or in none) -/
theorem Inv.more (h : Inv B X w σ lo no) {s : SC} {l : LO} (hX : ∀ b o, b < w.heap.size → (X' b o ↔ X b o)) (hfin : ∀ b o, X' b o → b < w'.heap.size) (hblk : ∀ b, b < w.heap.size → w'.heap[b]? = w.heap[b]?) (hsz : w.heap.size ≤ w'.heap.size) (hfr : Fr [] w w')
    (hs : ∀ b, s.block? = some b → w.heap.size ≤ b ∧ b < w'.heap.size) (hat : Ext X w σ X' w' (σ ++ [s]) → LO.at_ X' w' (σ ++ [s]) s l) :
    Inv B X' w' (σ ++ [s]) (lo ++ [l]) no ∧ Ext X w σ X' w' (σ ++ [s]) := by
  have e : Ext X w σ X' w' (σ ++ [s]) :=
    ⟨hsz, fun b o hb hx => ⟨fun hx' => hx ((hX b o hb).1 hx'), World.cell?_of_block (w := w) (a := ⟨b, o, none⟩) (hblk b hb)⟩,
      fun k b hk => by rw [List.getElem?_append_left (List.getElem?_eq_some_iff.1 hk).1]; exact hk,
      fun k g u hk => ⟨g, u, by rw [List.getElem?_append_left (List.getElem?_eq_some_iff.1 hk).1]; exact hk, Nat.le_refl _, fun _ => rfl⟩⟩
  have hsub : ∀ b, b ∈ owned (σ ++ [s]) no → b ∈ owned σ no ∨ s.block? = some b := by
    intro b hb
    simp only [owned, List.filterMap_append, List.mem_append] at hb ⊢
    rcases hb with (hb | hb) | hb
    · exact .inl (.inl hb)
    · simp only [List.mem_filterMap, List.mem_singleton] at hb
      obtain ⟨a, rfl, ha⟩ := hb
      exact .inr ha
    · exact .inl (.inr hb)
  refine ⟨⟨hfin, by simp [h.len], ?_, ?_, ?_, ?_, ?_, h.lnt, ?_, h.fr.step hfr (by simp), ?_⟩, e⟩
  · intro k a c hk hl
    rcases getElem?_snoc hk with hk' | ⟨rfl, rfl⟩
    · have hlt := (List.getElem?_eq_some_iff.1 hk').1
      rw [List.getElem?_append_left (by rw [← h.len]; exact hlt)] at hl
      refine LO.at_ext (h.los k a c hk' hl) e (fun b hb o hx => ?_) (fun b hb => hblk b (h.lt b (mem_owned hk' hb)))
      exact (hX b o (h.lt b (mem_owned hk' hb))).2 hx
    · rw [h.len] at hl
      simp only [List.getElem?_concat_length, Option.some.injEq] at hl
      subst hl
      exact hat e
  · intro o ho
    exact NO.at_ext (h.nos o ho) e (fun q hq => (hX _ q (h.lt _ (mem_named ho))).2 hq) (hblk _ (h.lt _ (mem_named ho)))
  · have h1 := List.nodup_append.1 h.nod
    simp only [owned, List.filterMap_append]
    rw [List.nodup_append, List.nodup_append]
    have hin : ∀ a, a ∈ List.filterMap SC.block? [s] → s.block? = some a := by
      intro a ha
      simp only [List.mem_filterMap, List.mem_singleton] at ha
      obtain ⟨_, rfl, ha⟩ := ha
      exact ha
    refine ⟨⟨h1.1, ?_, fun a ha b hb => ?_⟩, h1.2.1, fun a ha b hb => ?_⟩
    · cases hsb : s.block? <;> simp [List.filterMap_cons, hsb]
    · have := h.lt a (List.mem_append_left _ ha)
      have := (hs b (hin b hb)).1
      omega
    · rcases List.mem_append.1 ha with ha | ha
      · exact h1.2.2 a ha b hb
      · have := h.lt b (List.mem_append_right _ hb)
        have := (hs a (hin a ha)).1
        omega
  · intro k b a hk hb
    rcases getElem?_snoc hk with hk' | ⟨_, rfl⟩
    · exact h.own k b a hk' hb
    · exact .inr (Nat.le_trans h.fr.size (hs b hb).1)
  · intro k g u b hk hb
    rcases getElem?_snoc hk with hk' | ⟨_, rfl⟩
    · exact h.ownT k g u b hk' hb
    · exact Nat.le_trans h.fr.size (hs b hb).1
  · intro b hb
    rcases hsub b hb with hb | hb
    · exact Nat.lt_of_lt_of_le (h.lt b hb) hsz
    · exact (hs b hb).2
  · intro b o hb
    exact (hX b o (Nat.lt_of_lt_of_le hb h.fr.size)).trans (h.old b o hb)
/-- a new block of cells becomes a variable of the call's own -/
theorem Inv.alloc (h : Inv B X w σ lo no) (t : TypeId) {cs : List D} {vs : List Value} (hc : Cs X w σ cs vs) :
    Inv B (fun b o => X b o ∨ b = w.heap.size) (w.alloc (.cells vs.toArray t)) (σ ++ [.box w.heap.size]) (lo ++ [.box cs]) no ∧ Ext X w σ (fun b o => X b o ∨ b = w.heap.size) (w.alloc (.cells vs.toArray t)) (σ ++ [.box w.heap.size]) := by
  refine h.more (fun b o hb => ⟨fun hx => hx.resolve_right (by omega), .inl⟩) ?_ (fun b hb => Below.heap_alloc w _ b hb) (by simp) (Fr.alloc [] w _) ?_ (fun e => ⟨⟨t, vs, heap_alloc_new w _, Cs.ext e _ _ hc⟩, fun o => .inr rfl⟩)
  · rintro b o (hb | rfl)
    · have := h.fin b o hb; simp; omega
    · simp
  · intro b hb
    simp only [SC.block?, Option.some.injEq] at hb
    subst hb
    simp
/-- a new row of cells: a slice that may be appended to -/
theorem Inv.row (h : Inv B X w σ lo no) (e sz n : Nat) {vs : List Value} (hl : vs.length = n * sz) (hn : n ≤ maxLen) :
    Inv B (fun b o => X b o ∨ (b = w.heap.size ∧ n * sz ≤ o)) (w.alloc (.cells vs.toArray e)) (σ ++ [.tok 0 (.slice (some ⟨w.heap.size, 0, none⟩) n n)]) (lo ++ [.tok e sz 0]) no ∧ Ext X w σ (fun b o => X b o ∨ (b = w.heap.size ∧ n * sz ≤ o)) (w.alloc (.cells vs.toArray e)) (σ ++ [.tok 0 (.slice (some ⟨w.heap.size, 0, none⟩) n n)]) := by
  refine h.more (fun b o hb => ⟨fun hx => hx.resolve_right (by omega), .inl⟩) ?_ (fun b hb => Below.heap_alloc w _ b hb) (by simp) (Fr.alloc [] w _) ?_ (fun _ => ⟨rfl, n, vs, ⟨hl, .inr ⟨_, n, vs.toArray, rfl, Nat.zero_le _, heap_alloc_new w _, Nat.le_refl _, hn, by simp [hl], by simp [← hl]⟩⟩, ?_⟩)
  · rintro b o (hb | ⟨rfl, _⟩)
    · have := h.fin b o hb; simp; omega
    · simp
  · intro b hb
    simp only [SC.block?, Value.ownBlock, Option.some.injEq] at hb
    subst hb
    simp
  · intro b hb o ho
    simp only [Value.ownBlock, Option.some.injEq] at hb
    exact .inr ⟨hb.symm, ho⟩
/-- nil, to be appended to -/
theorem Inv.nil_ (h : Inv B X w σ lo no) (e sz : Nat) : Inv B X w (σ ++ [.tok 0 (.slice none 0 0)]) (lo ++ [.tok e sz 0]) no ∧ Ext X w σ X w (σ ++ [.tok 0 (.slice none 0 0)]) :=
  h.more (fun _ _ _ => Iff.rfl) h.fin (fun _ _ => rfl) (Nat.le_refl _) (Fr.refl _ _) (fun b hb => by simp [SC.block?, Value.ownBlock] at hb) (fun _ => ⟨rfl, 0, [], World.ownsRow_nil _ _ _ _, fun b hb => by simp [Value.ownBlock] at hb⟩)
theorem Ext.drew (X : Nat → Nat → Prop) (w : World) (σ : List SC) : Ext X w σ X w.drew σ := ⟨Nat.le_refl _, fun _ _ _ h => ⟨h, rfl⟩, fun _ _ h => h, fun _ g u h => ⟨g, u, h, Nat.le_refl _, fun _ => rfl⟩⟩
theorem Inv.drew (h : Inv B X w σ lo no) : Inv B X w.drew σ lo no := ⟨h.fin, h.len, fun k b cs h1 h2 => LO.at_ext (h.los k b cs h1 h2) (Ext.drew X w σ) (fun _ _ _ hx => hx) (fun _ _ => rfl), fun o ho => NO.at_ext (h.nos o ho) (Ext.drew X w σ) (fun _ hx => hx) rfl, h.nod, h.own, h.ownT, h.lnt, h.lt, h.fr.step (Fr.drew [] w) (by simp), h.old⟩
end

theorem setCells_heap (b : Nat) : ∀ (vs : List Value) (o : Nat) (w : World) (c : Nat), c ≠ b → (w.setCells b o vs).heap[c]? = w.heap[c]?
  | [], _, _, _, _ => rfl
  | v :: r, o, w, c, h => by
    rw [World.setCells, setCells_heap b r (o + 1) _ c h, Below.heap_setCell _ _ _ _ h]
theorem setCells_size (b : Nat) : ∀ (vs : List Value) (o : Nat) (w : World), (w.setCells b o vs).heap.size = w.heap.size
  | [], _, _ => rfl
  | v :: r, o, w => by rw [World.setCells, setCells_size b r]; simp [World.setCell]
theorem setCells_fr (b : Nat) : ∀ (vs : List Value) (o : Nat) (w : World), Fr [b] w (w.setCells b o vs)
  | [], _, w => Fr.refl _ w
  | v :: r, o, w => by
    have h1 : Fr [b] w (w.setCell ⟨b, o, none⟩ v) := ⟨rfl, rfl, rfl, by simp [World.setCell], fun c hc hn => Below.heap_setCell _ _ _ _ (by simpa using hn)⟩
    exact h1.step (setCells_fr b r (o + 1) _) (fun c hc => .inl hc)
theorem setCells_at (b : Nat) (t : TypeId) (fr : Nat × Nat) : ∀ (vs : List Value) (o : Nat) (w : World) (cs : List Value), w.heap[b]? = some (.cells cs.toArray t fr) → (w.setCells b o vs).heap[b]? = some (.cells (setFrom cs o vs).toArray t fr)
  | [], _, _, _, h => h
  | v :: r, o, w, cs, h => by
    rw [World.setCells, setFrom]
    refine setCells_at b t fr r (o + 1) _ (cs.set o v) ?_
    simp [World.setCell, Array.getElem?_modify, h]
theorem run_storeVar_any {P : Program} (w : World) (b o : Nat) (ty : TypeId) (v : Value) (ht : w.there b o v.cells.toList.length) (hi : (P.info? ty).map (·.size) = some v.cells.toList.length) (h1 : ∀ x ∈ v.cells.toList, x.oneCell' = true) :
    (storeVar ty ⟨b, o, none⟩ v).run P w = .ok () (w.setCells b o v.cells.toList) := by
  have := run_storeCells_cells (P := P) b o v.cells.toList 0 w (fun j hj => by simpa using (ht j hj).1) (fun j hj => by simpa using (ht j hj).2) h1
  cases hq : P.info? ty with
  | none => simp [hq] at hi
  | some i =>
    have hs : v.cells.size = i.size := by simp [hq] at hi; omega
    simp only [Nat.add_zero] at this
    simp [storeVar, sizeOf, typeInfo, hq, hs, this]

/-- append onto a row that nobody else may append to -/
theorem run_append_tok {P : Program} (w : World) (t ty e : TypeId) (i : TypeInfo) (z : Value) (size bytes : Nat) (ht : P.underlying t = some (.slice e)) (hi : P.info? e = some i) (hz : i.zero = some z)
    (hsize : i.size = size) (hby : i.bytes = bytes) (hzs : z.cells.size = size) (hsz : 0 < size)
    (v : Value) (n : Nat) (xs : List Value) (hown : w.ownsRow 0 e size v n xs)
    (A : Option Addr) (m c : Nat) (news : List Value) (hl : news.length = m * size) (hA : 0 < m → ∃ a, A = some a ∧ ∀ j u, news[j]? = some u → w.cell? (a.add j) = some u) (h1 : ∀ u ∈ news, u.oneCell' = true)
    (h63 : n + m ≤ maxLen) (hbytes : (n + m) * bytes ≤ 140737488355328) :
    ∃ v' w' row, (Builtin.append_ #[t, t] ty #[v, .slice A m c]).run P w = .ok v' w' ∧ w'.ownsRow 0 e size v' (n + m) (xs ++ news) ∧ w.grownBy w' row ∧
      ((row = none ∧ (v' = v ∨ v'.ownBlock = some w.heap.size)) ∨ (row = v.ownBlock ∧ v'.ownBlock = v.ownBlock)) := by
  have hsmall : n + m ≤ 9223372036854775807 := by simp only [maxLen] at h63; omega
  rcases A with _ | a
  · have hm : m = 0 := by
      rcases Nat.eq_zero_or_pos m with h0 | h0
      · exact h0
      · obtain ⟨a, h, _⟩ := hA h0
        cases h
    subst hm
    have hn : news = [] := List.eq_nil_of_length_eq_zero (by simpa using hl)
    subst hn
    exact ⟨v, w, none, run_append_of_nil w 0 t ty e i size ht hi v n xs hown c, by simpa using hown, World.grownBy.refl w _, .inl ⟨rfl, .inl rfl⟩⟩
  · have hcells : ∀ j u, news[j]? = some u → w.cell? (a.add j) = some u := by
      intro j u hu
      rcases Nat.eq_zero_or_pos m with h0 | h0
      · subst h0
        have hn : news = [] := List.eq_nil_of_length_eq_zero (by simpa using hl)
        subst hn
        simp at hu
      · obtain ⟨a', h, hc⟩ := hA h0
        injection h with h
        subst h
        exact hc j u hu
    subst hsize
    subst hby
    have hlen : (xs ++ news).length = (n + m) * i.size := by rw [List.length_append, hown.1, hl, Nat.add_mul]
    have grown : ∀ (old : Nat), old < n + m →
        (w.drew.alloc (.cells (xs.toArray ++ news.toArray ++ Builtin.zeroCells z.cells (grownCap w (n + m) old e - (n + m))) e)).ownsRow 0 e i.size
          (.slice (some ⟨w.heap.size, 0, none⟩) (n + m) (grownCap w (n + m) old e)) (n + m) (xs ++ news) ∧
        w.grownBy (w.drew.alloc (.cells (xs.toArray ++ news.toArray ++ Builtin.zeroCells z.cells (grownCap w (n + m) old e - (n + m))) e)) none := by
      intro old ho
      have hge := grownCap_ge w (n + m) old e
      have hcm : grownCap w (n + m) old e ≤ maxLen := grownCap_le_maxLen w (n + m) old e h63
      refine ⟨⟨hlen, .inr ⟨w.heap.size, _, _, rfl, Nat.zero_le _, heap_alloc_new w.drew _, hge, hcm, ?_, ?_⟩⟩, ⟨rfl, rfl, rfl, by simp, fun k hk _ => Below.heap_alloc w.drew _ k hk⟩⟩
      · simp only [Array.size_append, List.size_toArray, size_zeroCells, hzs, hown.1, hl, ← Nat.add_mul]
        congr 1
        omega
      · simp only [Array.toList_append, List.append_assoc]
        rw [← List.append_assoc, ← hlen]
        exact List.take_left
    rcases hown.2 with ⟨rfl, rfl⟩ | ⟨g, cap, cur, rfl, hbg, hg, hnc, hcm, hcs, htake⟩
    · have hx : xs = [] := List.eq_nil_of_length_eq_zero (by simpa using hown.1)
      subst hx
      by_cases hm : m = 0
      · subst hm
        have hn : news = [] := List.eq_nil_of_length_eq_zero (by simpa using hl)
        subst hn
        refine ⟨.slice none 0 0, w, none, ?_, World.ownsRow_nil w 0 e i.size, World.grownBy.refl w _, .inl ⟨rfl, .inl rfl⟩⟩
        simp [Builtin.append_, run_underlying ht, sizeOf, typeInfo, hi, Builtin.lenOf, Builtin.firstCells, loadCells, loadCellsFrom]
      · have hr := run_append_nil (P := P) w t ty e i z ht hi hz a m c news hl hcells (by omega) (by omega) (by have hb := hbytes; simp only [Nat.zero_add] at hb; omega)
        have hgr := grown 0 (by omega)
        simp only [Nat.zero_add, List.nil_append, Array.empty_append] at hgr ⊢
        exact ⟨_, _, none, hr, hgr.1, hgr.2, .inl ⟨rfl, .inr rfl⟩⟩
    · by_cases hroom : n + m ≤ cap
      · obtain ⟨w', q1, q2, q3⟩ := run_append_fits (P := P) (w := w) (ty := ty) 0 t e i i.size ht hi rfl g n cap xs hown a m c news hl hcells h1 hroom
        exact ⟨_, w', some g, q1, q2, q3, .inr ⟨rfl, rfl⟩⟩
      · have holds : ∀ j u, xs[j]? = some u → w.cell? ((⟨g, 0, none⟩ : Addr).add j) = some u := hown.cells (g := g) rfl
        have hr := run_append_grow (P := P) w t ty e i z ht hi hz ⟨g, 0, none⟩ n cap xs hown.1 holds a m c news hl hcells (by omega) (by omega) (growslice_fits (by omega) hbytes)
        have hgr := grown cap (by omega)
        exact ⟨_, _, none, hr, hgr.1, hgr.2, .inl ⟨rfl, .inr rfl⟩⟩

/-- operations that make, read and write the call's own things -/
inductive MO where
  | pu (ao : AO)
  | new (zs : List D)
  | box (x : AX)
  | ld (agg : Bool) (n : Nat) (x : AX)
  | st (n : Nat) (x y : AX)
  | bs (e sz len : Nat) (init : List D) (parts : List (Nat × Nat × AX))
  | app (e sz bytes : Nat) (x y : AX)

def trM (P : Program) (o : Op) : Option MO :=
  match o with
  | .alloc t => match (P.info? t).bind (·.zero) with
    | some z => (initD z).map .new
    | none => none
  | .box _ x => (trX x).map .box
  | .load t x => match P.underlying t, P.info? t, trX x with
    | some d, some inf, some x => some (.ld (isRow d) inf.size x)
    | _, _, _ => none
  | .store t x y => match P.info? t, trX x, trX y with
    | some inf, some x, some y => some (.st inf.size x y)
    | _, _, _ => none
  | .buildSlice t len parts => match P.underlying t with
    | some (.slice e) => match P.info? e with
      | some ie => match ie.zero with
        | some z => match trParts (fun i => some (i * ie.size, ie.size)) parts.toList, initD (.agg ((Array.range (len * ie.size)).map (z.cells[· % z.cells.size]!))) with
          | some l, some i => if len * ie.size ≤ 16777216 ∧ 0 < len * ie.size then some (.bs e ie.size len i l) else if len = 0 ∧ parts.toList.length = 0 then some (.bs e ie.size 0 [] []) else none
          | _, _ => none
        | none => none
      | none => none
    | _ => none
  | .call c => match c.callee, c.args.toList, c.argTypes.toList with
    | .builtin .append, [x, y], [t, t2] => match P.underlying t, trX x, trX y with
      | some (.slice e), some x, some y => match P.info? e with
        | some i => match i.zero with
          | some z => if t = t2 ∧ z.cells.size = i.size ∧ 0 < i.size then some (.app e i.size i.bytes x y) else none
          | none => none
        | none => none
      | _, _, _ => none
    | _, _, _ => (tr P (.call c)).map .pu
  | o => (tr P o).map .pu

/-- no thing of the call's own is in it -/
def D.cl0 : D → Bool
  | .v _ | .sl none _ _ | .el _ | .any => true
  | _ => false
/-- a slice without the leave to append to it -/
def D.bare : D → D
  | .sl _ n cs => .sl none n cs
  | d => d
/-- what is appended: how many, and their cells -/
def srcD : D → Option (Nat × List D)
  | .sl _ m ys => some (m, ys)
  | .v (.slice none 0 0) => some (0, [])
  | _ => none

def MO.ev (ts : List D) (lo : List LO) : MO → Option (D × List LO × Prop)
  | .pu ao => match ao.ev ts with
    | some (d, φ) => some (d, lo, φ)
    | none => none
  | .new zs => some (.bx lo.length 0, lo ++ [.box zs], True)
  | .box x => match x.val ts with
    | some (d, φ) => some (.bx lo.length 0, lo ++ [.box d.cells], φ ∧ d.cellable = true)
    | none => none
  | .ld agg n x => match x.val ts with
    | some (.bx k o, φ) => match lo[k]? with
      | some (.box cs) => if agg then some (.ag ((cs.drop o).take n), lo, φ ∧ o + n ≤ cs.length) else match cs[o]? with
        | some d => some (d, lo, φ)
        | none => none
      | _ => none
    | some (.el cs, φ) => if agg then some (.ag (cs.take n), lo, φ ∧ n ≤ cs.length) else match cs with
      | d :: _ => some (d, lo, φ)
      | [] => none
    | _ => none
  | .st n x y => match x.val ts, y.val ts with
    | some (.bx k o, φ), some (d, ψ) => match lo[k]? with
      | some (.box cs) => some (.any, lo.set k (.box (setFrom cs o d.cells)), φ ∧ ψ ∧ d.cellable = true ∧ d.cells.length = n ∧ o + n ≤ cs.length)
      | _ => none
    | _, _ => none
  | .bs e sz len init parts => match fillD ts init parts with
    | some (cs, φ) => some (.sl (some (lo.length, 0)) len (cs.map D.bare), lo ++ [.tok e sz 0], φ ∧ cs.length = len * sz ∧ len ≤ maxLen ∧ (cs.map D.bare).all D.cl0 = true)
    | none => none
  | .app e sz bytes x y => match x.val ts, y.val ts with
    | some (.sl (some (k, g)) n cs, φ), some (d, ψ) => match lo[k]?, srcD d with
      | some (.tok e' sz' g'), some (m, ys) => some (.sl (some (k, g + 1)) (n + m) (cs ++ ys), lo.set k (.tok e sz (g + 1)), φ ∧ ψ ∧ (g' = g ∧ e' = e ∧ sz' = sz) ∧ cs.length = n * sz ∧ ys.length = m * sz ∧ n + m ≤ maxLen ∧ (n + m) * bytes ≤ 140737488355328)
      | _, _ => none
    | some (.v (.slice none 0 0), φ), some (d, ψ) => match srcD d with
      | some (m, ys) => some (.sl (some (lo.length, 1)) m ys, lo ++ [.tok e sz 1], φ ∧ ψ ∧ ys.length = m * sz ∧ m ≤ maxLen ∧ m * bytes ≤ 140737488355328)
      | none => none
    | _, _ => none

section
variable {P : Program} {B : Base} {X X' : Nat → Nat → Prop} {w : World} {σ : List SC} {lo : List LO} {no : List NO} {ts : List D} {us : List Value}
theorem C.cl0 {d : D} {u : Value} (h : C X w σ d u) (h1 : d.cl0 = true) : C X w [] d u := by
  cases d with
  | v x => simpa only [C] using h
  | sl tok n cs =>
    cases tok with
    | none =>
      simp only [C] at h ⊢
      exact ⟨h.1, fun k g hk => by cases hk⟩
    | some t => simp [D.cl0] at h1
  | el cs => simpa only [C] using h
  | any => simp only [C]
  | _ => simp [D.cl0] at h1
theorem Cs.cl0 {ds : List D} {us : List Value} (h : Cs X w σ ds us) (h1 : ds.all D.cl0 = true) : Cs X w [] ds us := by
  induction ds generalizing us with
  | nil => simpa only [Cs] using h
  | cons d ds ih =>
    simp only [Cs] at h ⊢
    obtain ⟨u, us', rfl, h2, h3⟩ := h
    simp only [List.all_cons, Bool.and_eq_true] at h1
    exact ⟨u, us', rfl, h2.cl0 h1.1, ih h3 h1.2⟩
theorem C.bare {d : D} {u : Value} (h : C X w σ d u) : C X w σ d.bare u := by
  cases d with
  | sl tok n cs =>
    simp only [C, D.bare] at h ⊢
    exact ⟨h.1, fun k g hk => by cases hk⟩
  | _ => exact h
theorem Cs.bare {ds : List D} {us : List Value} (h : Cs X w σ ds us) : Cs X w σ (ds.map D.bare) us := by
  induction ds generalizing us with
  | nil => simpa only [Cs, List.map_nil] using h
  | cons d ds ih =>
    simp only [Cs, List.map_cons] at h ⊢
    obtain ⟨u, us', rfl, h2, h3⟩ := h
    exact ⟨u, us', rfl, h2.bare, ih h3⟩
/-- what an operation yields: a value, or nothing -/
def Yields (X : Nat → Nat → Prop) (w : World) (σ : List SC) (d : D) (r : Next) : Prop := (∃ u, r = .value u ∧ C X w σ d u) ∨ (r = .skip ∧ d = .any)

theorem mev_store {cs : List D} {k b : Nat} (o : Nat) {d : D} {u : Value} (h : Inv B X w σ lo no) (hk : σ[k]? = some (.box b)) (hl : lo[k]? = some (.box cs)) (hc : C X w σ d u) (h1 : d.cellable = true) (h2 : o + d.cells.length ≤ cs.length) :
    w.there b o u.cells.toList.length ∧ Inv B X (w.setCells b o u.cells.toList) σ (lo.set k (.box (setFrom cs o d.cells))) no ∧ Ext X w σ X (w.setCells b o u.cells.toList) σ := by
  obtain ⟨⟨t, vs, hb, hvs⟩, hXb⟩ := h.los k _ _ hk hl
  obtain ⟨hcc, hone⟩ := hc.cells h1
  have e : Ext X w σ X (w.setCells b o u.cells.toList) σ :=
    ⟨by rw [setCells_size]; exact Nat.le_refl _, fun c q hc hx => ⟨hx, World.cell?_of_block (w := w) (a := ⟨c, q, none⟩) (setCells_heap _ _ _ _ _ (fun he => hx ((show c = b from he) ▸ hXb q)))⟩, fun _ _ hh => hh, fun _ g u hh => ⟨g, u, hh, Nat.le_refl _, fun _ => rfl⟩⟩
  refine ⟨?_, ⟨?_, ?_, ?_, ?_, h.nod, h.own, h.ownT, h.lnt, ?_, ?_, h.old⟩, e⟩
  · intro j hj
    have hlen := hcc.len
    have hv := hvs.len
    constructor
    · rw [cell_of_row w b (o + j) vs.toArray t (0, 0) hb]
      have : o + j < vs.length := by omega
      simp [this]
    · simp [World.frozen?, hb]
  · intro c q hc; rw [setCells_size]; exact h.fin c q hc
  · simp [h.len]
  · intro k' s' l' hk' hl'
    by_cases hkk : k' = k
    · subst hkk
      rw [hk] at hk'
      injection hk' with hk'
      subst hk'
      rw [List.getElem?_set] at hl'
      simp only [if_true] at hl'
      split at hl'
      · simp only [Option.some.injEq] at hl'
        subst hl'
        exact ⟨⟨t, _, setCells_at b t (0, 0) _ o w vs hb, Cs.setFrom_ o (Cs.ext e _ _ hcc) (Cs.ext e _ _ hvs)⟩, hXb⟩
      · cases hl'
    · rw [List.getElem?_set_ne (fun q => hkk q.symm)] at hl'
      refine LO.at_ext (h.los k' s' l' hk' hl') e (fun _ _ _ hx => hx) (fun c hc => setCells_heap _ _ _ _ _ (fun he => ?_))
      subst he
      exact apart_of h.nod hk hk' (fun q => hkk q.symm) rfl hc
  · intro q hq
    exact NO.at_ext (h.nos q hq) e (fun _ hx => hx) (setCells_heap _ _ _ _ _ (apart_no h.nod hk rfl hq))
  · intro c hc; rw [setCells_size]; exact h.lt c hc
  · exact Fr.step h.fr (m := [b]) (setCells_fr b _ o w) (fun c hc => by
      simp only [List.mem_singleton] at hc
      subst hc
      exact h.own k c _ hk rfl)

theorem mev_bs {e sz len : Nat} {cs : List D} {vs : List Value} (h : Inv B X w σ lo no) (hc : Cs X w σ cs vs) (hl : cs.length = len * sz) (hn : len ≤ maxLen) (hcl : (cs.map D.bare).all D.cl0 = true) (hone : ∀ v ∈ vs, v.oneCell' = true) :
    ∃ X' σ', C X' (w.alloc (.cells vs.toArray e)) σ' (.sl (some (lo.length, 0)) len (cs.map D.bare)) (.slice (some ⟨w.heap.size, 0, none⟩) len len) ∧ Inv B X' (w.alloc (.cells vs.toArray e)) σ' (lo ++ [.tok e sz 0]) no ∧ Ext X w σ X' (w.alloc (.cells vs.toArray e)) σ' := by
  have hvl := hc.len
  obtain ⟨k1, k2⟩ := h.row e sz len (vs := vs) (by omega) hn
  refine ⟨_, _, ?_, k1, k2⟩
  simp only [C]
  refine ⟨⟨_, _, rfl, Nat.le_refl _, hn, fun h0 => ?_, fun h0 => ⟨_, 0, vs, rfl, Cs.ext (k2.nil []) _ _ (hc.bare.cl0 hcl), by simp, fun j hj hx => ?_, fun j v hv => ?_, hone⟩⟩, fun k g hkg => ?_⟩
  · rw [h0, Nat.zero_mul] at hl
    rw [List.eq_nil_of_length_eq_zero hl]
    rfl
  · rcases hx with hx | hx
    · have := h.fin _ _ hx; omega
    · omega
  · rw [cell_of_row _ _ _ vs.toArray e (0, 0) (heap_alloc_new w _)]
    simpa using hv
  · simp only [Option.some.injEq, Prod.mk.injEq] at hkg
    obtain ⟨rfl, rfl⟩ := hkg
    exact ⟨0, _, by rw [← h.len]; simp, Nat.le_refl _, fun _ => rfl⟩

/-- the world behind an append -/
theorem mev_app {k g e sz m : Nat} {v v' : Value} {w' : World} {row : Option Nat} {n : Nat} {xs news : List Value} (h : Inv B X w σ lo no) (hk : σ[k]? = some (.tok g v)) (hl : lo[k]? = some (.tok e sz g)) (hown : w.ownsRow 0 e sz v n xs) (hX : ∀ b, v.ownBlock = some b → ∀ o, n * sz ≤ o → X b o)
    (h1 : w'.ownsRow 0 e sz v' (n + m) (xs ++ news)) (h2 : w.grownBy w' row) (h3 : (row = none ∧ (v' = v ∨ v'.ownBlock = some w.heap.size)) ∨ (row = v.ownBlock ∧ v'.ownBlock = v.ownBlock)) :
    ∃ X', Inv B X' w' (σ.set k (.tok (g + 1) v')) (lo.set k (.tok e sz (g + 1))) no ∧ Ext X w σ X' w' (σ.set k (.tok (g + 1) v')) ∧ (∀ b, v'.ownBlock = some b → ∀ o, o < (n + m) * sz → ¬ X' b o) := by
  have hlk := (List.getElem?_eq_some_iff.1 hk).1
  have hvlt : ∀ b, v.ownBlock = some b → b < w.heap.size := fun b hb => h.lt b (mem_owned hk hb)
  have hv0 : ∀ b, v.ownBlock = some b → B.w0.heap.size ≤ b := fun b hb => h.ownT k g v b hk hb
  have hv' : ∀ b, v'.ownBlock = some b → v.ownBlock = some b ∨ b = w.heap.size := by
    intro b hb
    rcases h3 with ⟨_, rfl | h3⟩ | ⟨_, h3⟩
    · exact .inl hb
    · rw [h3] at hb; injection hb with hb; exact .inr hb.symm
    · rw [h3] at hb; exact .inl hb
  have hrow : ∀ b, row = some b → v.ownBlock = some b ∧ v'.ownBlock = some b := by
    intro b hb
    rcases h3 with ⟨h3, _⟩ | ⟨h3, h4⟩
    · rw [h3] at hb; cases hb
    · rw [h3] at hb; exact ⟨hb, h4.trans hb⟩
  have hle : n * sz ≤ (n + m) * sz := Nat.mul_le_mul_right _ (by omega)
  let X' : Nat → Nat → Prop := fun b o => (X b o ∧ ¬ (v'.ownBlock = some b ∧ o < (n + m) * sz)) ∨ (v'.ownBlock = some b ∧ w.heap.size ≤ b ∧ (n + m) * sz ≤ o)
  have hkeep : ∀ b, b < w.heap.size → v.ownBlock ≠ some b → w'.heap[b]? = w.heap[b]? := fun b hb hn => h2.block b hb (fun he => hn (hrow b he.symm).1)
  have hXs : ∀ b o, b < w.heap.size → v.ownBlock ≠ some b → (X' b o ↔ X b o) := by
    intro b o hb hn
    have hn' : v'.ownBlock ≠ some b := fun he => (hv' b he).elim hn (by omega)
    exact ⟨fun hx => hx.elim (·.1) (fun q => absurd q.1 hn'), fun hx => .inl ⟨hx, fun q => hn' q.1⟩⟩
  have e : Ext X w σ X' w' (σ.set k (.tok (g + 1) v')) := by
    refine ⟨h2.size, fun b o hb hx => ⟨?_, ?_⟩, fun i b hi => ?_, fun i g' u hi => ?_⟩
    · rintro (q | q)
      · exact hx q.1
      · omega
    · by_cases hn : v.ownBlock = some b
      · rcases h3 with ⟨h3, _⟩ | ⟨h3, h4⟩
        · exact World.cell?_of_block (w := w) (a := ⟨b, o, none⟩) (h2.block b hb (by rw [h3]; simp))
        · have hlt : o < n * sz := by
            rcases Nat.lt_or_ge o (n * sz) with hlt | hge
            · exact hlt
            · exact absurd (hX b hn o hge) hx
          have hxl : o < xs.length := by rw [hown.1]; exact hlt
          have c1 := hown.cells hn o xs[o] (List.getElem?_eq_getElem hxl)
          have c2 := h1.cells (h4.trans hn) o xs[o] (by rw [List.getElem?_append_left hxl]; exact List.getElem?_eq_getElem hxl)
          rw [Addr.add_mid, Nat.zero_add] at c1 c2
          exact c2.trans c1.symm
      · exact World.cell?_of_block (w := w) (a := ⟨b, o, none⟩) (hkeep b hb hn)
    · have : i ≠ k := fun q => by rw [q, hk] at hi; cases hi
      rw [List.getElem?_set_ne (fun q => this q.symm)]; exact hi
    · by_cases hik : i = k
      · subst hik
        rw [hk] at hi
        injection hi with hi
        injection hi with hg hu
        subst hg
        exact ⟨g + 1, v', by simp [hlk], by omega, fun q => by omega⟩
      · exact ⟨g', u, by rw [List.getElem?_set_ne (fun q => hik q.symm)]; exact hi, Nat.le_refl _, fun _ => rfl⟩
  have hmem : ∀ (i b : Nat) (s : SC), (σ.set k (.tok (g + 1) v'))[i]? = some s → s.block? = some b → (i = k ∧ v'.ownBlock = some b) ∨ (i ≠ k ∧ σ[i]? = some s) := by
    intro i b s hi hs
    by_cases hik : i = k
    · subst hik
      simp only [List.getElem?_set_self hlk, Option.some.injEq] at hi
      subst hi
      exact .inl ⟨rfl, hs⟩
    · rw [List.getElem?_set_ne (fun q => hik q.symm)] at hi
      exact .inr ⟨hik, hi⟩
  have hown' : ∀ b, b ∈ owned (σ.set k (.tok (g + 1) v')) no → b ∈ owned σ no ∨ v'.ownBlock = some b := by
    intro b hb
    rcases List.mem_append.1 hb with hb | hb
    · obtain ⟨s, hs, hsb⟩ := List.mem_filterMap.1 hb
      obtain ⟨i, hi⟩ := List.mem_iff_getElem?.1 hs
      rcases hmem i b s hi hsb with ⟨_, q⟩ | ⟨_, q⟩
      · exact .inr q
      · exact .inl (mem_owned q hsb)
    · exact .inl (List.mem_append_right _ hb)
  refine ⟨X', ⟨?_, by simp [h.len], ?_, ?_, ?_, ?_, ?_, h.lnt, ?_, ?_, ?_⟩, e, fun b hb o ho hx => ?_⟩
  · rintro b o (q | q)
    · exact Nat.lt_of_lt_of_le (h.fin b o q.1) h2.size
    · exact (h1.lt b q.1).2
  · intro i s l hi hl'
    by_cases hik : i = k
    · subst hik
      rw [List.getElem?_set_self hlk, Option.some.injEq] at hi
      rw [List.getElem?_set_self (by rw [← h.len]; exact hlk), Option.some.injEq] at hl'
      subst hi hl'
      refine ⟨rfl, n + m, _, h1, fun b hb o ho => ?_⟩
      rcases hv' b hb with q | q
      · exact .inl ⟨hX b q o (by omega), fun r => by omega⟩
      · exact .inr ⟨hb, by omega, ho⟩
    · rw [List.getElem?_set_ne (fun q => hik q.symm)] at hi hl'
      have hn : ∀ b, s.block? = some b → v.ownBlock ≠ some b := fun b hb hv => apart_of h.nod hi hk hik hb hv
      exact LO.at_ext (h.los i s l hi hl') e (fun b hb o hx => (hXs b o (h.lt b (mem_owned hi hb)) (hn b hb)).2 hx) (fun b hb => hkeep b (h.lt b (mem_owned hi hb)) (hn b hb))
  · intro o ho
    have hlt := h.lt _ (mem_named ho)
    have hn : v.ownBlock ≠ some o.block := fun hv => apart_no h.nod hk hv ho rfl
    exact NO.at_ext (h.nos o ho) e (fun q hx => (hXs _ q hlt hn).2 hx) (hkeep _ hlt hn)
  · have hσ : σ = σ.take k ++ (.tok g v) :: σ.drop (k + 1) := by
      have hg : σ[k] = .tok g v := by
        have := List.getElem?_eq_getElem hlk
        rw [hk] at this
        injection this with this
        exact this.symm
      rw [← hg, List.getElem_cons_drop, List.take_append_drop]
    have hσ' : σ.set k (.tok (g + 1) v') = σ.take k ++ (.tok (g + 1) v') :: σ.drop (k + 1) := List.set_eq_take_append_cons_drop.trans (if_pos hlk)
    have hnd := h.nod
    have hfresh : w.heap.size ∉ owned σ no := fun q => by have := h.lt _ q; omega
    unfold owned at hnd hfresh ⊢
    rw [hσ, List.filterMap_append, List.filterMap_cons] at hnd hfresh
    rw [hσ', List.filterMap_append, List.filterMap_cons]
    simp only [SC.block?] at hnd hfresh ⊢
    cases hb : v.ownBlock with
    | none =>
      rw [hb] at hnd hfresh
      cases hb' : v'.ownBlock with
      | none => exact hnd
      | some c =>
        have hc : c = w.heap.size := (hv' c hb').resolve_left (by rw [hb]; simp)
        subst hc
        simp only [List.append_assoc, List.cons_append] at hnd hfresh ⊢
        rw [List.perm_middle.nodup_iff, List.nodup_cons]
        exact ⟨hfresh, hnd⟩
    | some b =>
      rw [hb] at hnd hfresh
      simp only [List.append_assoc, List.cons_append] at hnd hfresh ⊢
      rw [List.perm_middle.nodup_iff, List.nodup_cons] at hnd
      cases hb' : v'.ownBlock with
      | none => exact hnd.2
      | some c =>
        simp only [List.cons_append]
        rw [List.perm_middle.nodup_iff, List.nodup_cons]
        refine ⟨?_, hnd.2⟩
        rcases hv' c hb' with q | q
        · rw [hb] at q; injection q with q; rw [← q]; exact hnd.1
        · subst q
          intro hm
          refine hfresh ?_
          rcases List.mem_append.1 hm with hm | hm
          · exact List.mem_append_left _ hm
          · exact List.mem_append_right _ (List.mem_cons_of_mem _ hm)
  · intro i b s hi hs
    rcases hmem i b s hi hs with ⟨_, q⟩ | ⟨_, q⟩
    · rcases hv' b q with r | r
      · exact .inr (hv0 b r)
      · rw [r]; exact .inr h.fr.size
    · exact h.own i b s q hs
  · intro i g2 u b hi hs
    rcases hmem i b (.tok g2 u) hi hs with ⟨_, q⟩ | ⟨_, q⟩
    · rcases hv' b q with r | r
      · exact hv0 b r
      · rw [r]; exact h.fr.size
    · exact h.ownT i g2 u b q hs
  · intro b hb
    rcases hown' b hb with q | q
    · exact Nat.lt_of_lt_of_le (h.lt b q) h2.size
    · exact (h1.lt b q).2
  · refine h.fr.step (m := row.toList) ⟨h2.os, h2.tape, h2.output, h2.size, fun b hb hn => h2.block b hb (fun he => hn (by rw [← he]; simp))⟩ (fun b hb => .inr ?_)
    have : row = some b := by simpa using hb
    exact hv0 b (hrow b this).1
  · intro b o hb
    have hn : v.ownBlock ≠ some b := fun q => by have := hv0 b q; omega
    exact (hXs b o (Nat.lt_of_lt_of_le hb h.fr.size) hn).trans (h.old b o hb)
  · rcases hx with q | q
    · exact q.2 ⟨hb, ho⟩
    · omega
end
section
variable {P : Program} {B : Base} {X X' : Nat → Nat → Prop} {w : World} {σ : List SC} {lo : List LO} {no : List NO} {ts : List D} {us : List Value}
theorem bx_at {k o : Nat} {u : Value} {cs : List D} (h : Inv B X w σ lo no) (hu : C X w σ (.bx k o) u) (hl : lo[k]? = some (.box cs)) : ∃ b t' vs, σ[k]? = some (.box b) ∧ u = .pointer (some ⟨b, o, none⟩) ∧ w.heap[b]? = some (.cells (List.toArray vs) t' (0, 0)) ∧ Cs X w σ cs vs := by
  simp only [C] at hu
  obtain ⟨b, hk, hu⟩ := hu
  obtain ⟨⟨t', vs, hb, hvs⟩, _⟩ := h.los k _ _ hk hl
  exact ⟨b, t', vs, hk, hu, hb, hvs⟩
theorem ld_sound {agg : Bool} {n : Nat} {t : TypeId} {dd : TypeDesc} {inf : TypeInfo} {o : Operand} {x : AX} {d : D} {lo' : List LO} {φ : Prop} (h1 : P.underlying t = some dd) (hi : P.info? t = some inf) (hagg : agg = isRow dd) (hn : n = inf.size) (hx : trX o = some x)
    (he : (MO.ld agg n x).ev ts lo = some (d, lo', φ)) (hφ : φ) (h : Inv B X w σ lo no) (hc : Cs X w σ ts us) :
    ∃ b off u, Act.eval ⟨us.toArray, []⟩ o = .pointer (some ⟨b, off, none⟩) ∧ (loadVar t ⟨b, off, none⟩).run P w = .ok u w ∧ C X w σ d u ∧ lo' = lo := by
  subst hn
  simp only [MO.ev] at he
  have mid : ∀ b off (vs : List Value), w.rangeAt b off vs → inf.size ≤ vs.length → isRow dd = true → (loadVar t ⟨b, off, none⟩).run P w = .ok (.agg (vs.take inf.size).toArray) w := by
    intro b off vs hr hl hrow
    refine run_loadVar_mid (P := P) w b off t (vs.take inf.size) dd (fun j v hv => hr j v ?_) h1 (by cases dd <;> simp_all [isRow, TypeDesc.isRow]) (by simp [hi]; omega)
    rw [List.getElem?_take] at hv
    split at hv
    · exact hv
    · cases hv
  have one : ∀ b off u, w.cell? ⟨b, off, none⟩ = some u → isRow dd = false → (loadVar t ⟨b, off, none⟩).run P w = .ok u w := by
    intro b off u hcell hrow
    simp [loadVar, run_isAgg_of h1, hrow, hcell]
  split at he
  · rename_i k o' ψ hv
    split at he
    · rename_i cs hl
      have k0 : ψ → ∃ b t' vs, Act.eval ⟨us.toArray, []⟩ o = .pointer (some ⟨b, o', none⟩) ∧ w.heap[b]? = some (.cells (List.toArray vs) t' (0, 0)) ∧ Cs X w σ cs vs := by
        intro hψ
        obtain ⟨b, t', vs, _, q1, q2, q3⟩ := bx_at h (val_sound hx hv hc hψ) hl
        exact ⟨b, t', vs, q1, q2, q3⟩
      cases hrow : isRow dd
      · rw [hagg, hrow] at he
        simp only [Bool.false_eq_true, if_false] at he
        split at he
        · rename_i d1 hd
          simp only [Option.some.injEq, Prod.mk.injEq] at he
          obtain ⟨rfl, rfl, rfl⟩ := he
          obtain ⟨b, t', vs, hu, hb, hvs⟩ := k0 hφ
          obtain ⟨u, hu2, hcu⟩ := hvs.at_ hd
          exact ⟨b, o', u, hu, one b o' u (by rw [cell_of_row w b o' vs.toArray t' (0, 0) hb]; simpa using hu2) hrow, hcu, rfl⟩
        · cases he
      · rw [hagg, hrow] at he
        simp only [if_true, Option.some.injEq, Prod.mk.injEq] at he
        obtain ⟨rfl, rfl, rfl⟩ := he
        obtain ⟨b, t', vs, hu, hb, hvs⟩ := k0 hφ.1
        have hlen := hvs.len
        refine ⟨b, o', _, hu, mid b o' (vs.drop o') (fun j v hv => ?_) (by rw [List.length_drop]; omega) hrow, ?_, rfl⟩
        · rw [List.getElem?_drop] at hv
          rw [cell_of_row w b (o' + j) vs.toArray t' (0, 0) hb]; simpa using hv
        · simp only [C]
          exact ⟨_, rfl, (hvs.drop_ _).take_ _⟩
    · cases he
  · rename_i cs ψ hv
    have k0 : ψ → ∃ b off vs, Act.eval ⟨us.toArray, []⟩ o = .pointer (some ⟨b, off, none⟩) ∧ Cs X w [] cs vs ∧ w.rangeAt b off vs := by
      intro hψ
      have k0 := val_sound hx hv hc hψ
      simp only [C] at k0
      obtain ⟨b, off, vs, e1, e4, e5⟩ := k0
      exact ⟨b, off, vs, e1, e4, e5.at_⟩
    cases hrow : isRow dd
    · rw [hagg, hrow] at he
      simp only [Bool.false_eq_true, if_false] at he
      split at he
      · simp only [Option.some.injEq, Prod.mk.injEq] at he
        obtain ⟨rfl, rfl, rfl⟩ := he
        obtain ⟨b, off, vs, e1, e4, e5⟩ := k0 hφ
        simp only [Cs] at e4
        obtain ⟨u, us', rfl, h5, h6⟩ := e4
        have hc0 := e5 0 u (by simp)
        simp only [Nat.add_zero] at hc0
        exact ⟨b, off, u, e1, one b off u hc0 hrow, h5.up, rfl⟩
      · cases he
    · rw [hagg, hrow] at he
      simp only [if_true, Option.some.injEq, Prod.mk.injEq] at he
      obtain ⟨rfl, rfl, rfl⟩ := he
      obtain ⟨b, off, vs, e1, e4, e5⟩ := k0 hφ.1
      have hlen := e4.len
      refine ⟨b, off, _, e1, mid b off vs e5 (by omega) hrow, ?_, rfl⟩
      simp only [C]
      exact ⟨_, rfl, (e4.take_ _).up⟩
  · cases he

theorem src_sound {d : D} {m sz : Nat} {ys : List D} {u : Value} (hs : srcD d = some (m, ys)) (hc : C X w σ d u) (hl : ys.length = m * sz) : ∃ A c news, u = .slice A m c ∧ (List.length news = m * sz) ∧ (0 < m → ∃ a, A = some a ∧ ∀ j v, news[j]? = some v → w.cell? (a.add j) = some v) ∧ (∀ v ∈ news, v.oneCell' = true) ∧ Cs X w [] ys news := by
  unfold srcD at hs
  split at hs
  · rename_i tok n cs
    simp only [Option.some.injEq, Prod.mk.injEq] at hs
    obtain ⟨rfl, rfl⟩ := hs
    simp only [C] at hc
    obtain ⟨⟨A, c, rfl, h2, h3, h4, h5⟩, _⟩ := hc
    rcases Nat.eq_zero_or_pos n with h0 | h0
    · subst h0
      rw [h4 rfl]
      exact ⟨A, c, [], rfl, by simp, fun q => absurd q (by omega), (fun v hv => by cases hv), by simp [Cs]⟩
    · obtain ⟨b, off, vs, g1, g4, g5⟩ := h5 h0
      have hvl := g4.len
      exact ⟨A, c, vs, rfl, by omega, fun _ => ⟨_, g1, fun j v hv => by rw [Addr.add_mid]; exact g5.at_ j v hv⟩, g5.one, g4⟩
  · simp only [Option.some.injEq, Prod.mk.injEq] at hs
    obtain ⟨rfl, rfl⟩ := hs
    have := hc.v.1
    exact ⟨none, 0, [], this, by simp, fun q => absurd q (by omega), (fun v hv => by cases hv), by simp [Cs]⟩
  · cases hs

theorem app_sound {t e ty : TypeId} {i : TypeInfo} {z : Value} {x y : Operand} {ax ay : AX} {d : D} {lo' : List LO} {φ : Prop} (h1 : P.underlying t = some (.slice e)) (hi : P.info? e = some i) (hz : i.zero = some z) (hzs : z.cells.size = i.size) (hsz : 0 < i.size) (hx : trX x = some ax) (hy : trX y = some ay)
    (he : (MO.app e i.size i.bytes ax ay).ev ts lo = some (d, lo', φ)) (hφ : φ) (h : Inv B X w σ lo no) (hc : Cs X w σ ts us) :
    ∃ v' w' X' σ', (Builtin.append_ #[t, t] ty #[Act.eval ⟨us.toArray, []⟩ x, Act.eval ⟨us.toArray, []⟩ y]).run P w = .ok v' w' ∧ C X' w' σ' d v' ∧ Inv B X' w' σ' lo' no ∧ Ext X w σ X' w' σ' := by
  simp only [MO.ev] at he
  have fin : ∀ {X' : Nat → Nat → Prop} {w' : World} {σ' : List SC} {k g n : Nat} {v' : Value} {cs : List D} {vs : List Value}, w'.ownsRow 0 e i.size v' n vs → Cs X' w' [] cs vs → (∀ v ∈ vs, v.oneCell' = true) → (∀ b, v'.ownBlock = some b → ∀ o, o < n * i.size → ¬ X' b o) → σ'[k]? = some (.tok g v') → C X' w' σ' (.sl (some (k, g)) n cs) v' := by
    intro X' w' σ' k g n v' cs vs hown hcs hone hX hk
    simp only [C]
    refine ⟨?_, fun k' g' hkg => ?_⟩
    · have hvl := hcs.len
      rcases hown.2 with ⟨rfl, rfl⟩ | ⟨b, cap, cur, rfl, _, hh, hnc, hcm, hcs', htk⟩
      · have : vs = [] := List.eq_nil_of_length_eq_zero (by simpa using hown.1)
        subst this
        exact ⟨none, 0, rfl, Nat.le_refl _, by simp [maxLen], fun _ => List.eq_nil_of_length_eq_zero (by simpa using hvl.symm), fun q => absurd q (by omega)⟩
      · refine ⟨_, cap, rfl, hnc, hcm, fun h0 => ?_, fun _ => ⟨b, 0, vs, rfl, hcs, (hown.lt b rfl).2, fun j hj => ?_, fun j v hv => ?_, hone⟩⟩
        · have := hown.1
          rw [h0, Nat.zero_mul] at this
          exact List.eq_nil_of_length_eq_zero (by omega)
        · rw [Nat.zero_add]; exact hX b rfl j (by rw [← hown.1]; exact hj)
        · have := hown.cells (g := b) rfl j v hv
          rwa [Addr.add_mid] at this
    · simp only [Option.some.injEq, Prod.mk.injEq] at hkg
      obtain ⟨rfl, rfl⟩ := hkg
      exact ⟨g, v', hk, Nat.le_refl _, fun _ => rfl⟩
  split at he
  · rename_i k g n cs ψ1 d1 ψ2 hv hvy
    split at he
    · rename_i e' sz' g' m ys hl hs
      simp only [Option.some.injEq, Prod.mk.injEq] at he
      obtain ⟨rfl, rfl, rfl⟩ := he
      obtain ⟨p1, p2, ⟨rfl, rfl, rfl⟩, p4, p5, p6, p7⟩ := hφ
      have kx := val_sound hx hv hc p1
      have ky := val_sound hy hvy hc p2
      obtain ⟨A, c, news, e1, e2, e3, e4, e5⟩ := src_sound hs ky p5
      simp only [C] at kx
      obtain ⟨⟨A', c', q1, q2, q3, q4, q5⟩, q6⟩ := kx
      obtain ⟨g'', u', r1, r2, r3⟩ := q6 k g' rfl
      have hat := h.los k _ _ r1 hl
      obtain ⟨rfl, n0, xs, hown, hXb⟩ := hat
      have hu' := r3 rfl
      subst hu'
      have hn0 : n0 = n := by
        rcases hown.2 with ⟨r, r'⟩ | ⟨_, _, _, r, _⟩
        · rw [q1] at r; injection r with _ r _; omega
        · rw [q1] at r; injection r with _ r _; omega
      subst hn0
      obtain ⟨v', w', row, s1, s2, s3, s4⟩ := run_append_tok (P := P) w t ty e' i z i.size i.bytes h1 hi hz rfl rfl hzs hsz _ n0 xs hown A m c news e2 e3 e4 p6 p7
      obtain ⟨X', t1, t2, t3⟩ := mev_app h r1 hl hown hXb s2 s3 s4
      have hcx : Cs X w [] cs xs ∧ ∀ v ∈ xs, v.oneCell' = true := by
        rcases Nat.eq_zero_or_pos n0 with h0 | h0
        · subst h0
          have : xs = [] := List.eq_nil_of_length_eq_zero (by simpa using hown.1)
          subst this
          rw [q4 rfl]
          exact ⟨by simp [Cs], fun v hv => by cases hv⟩
        · obtain ⟨b, off, vs, g1, g4, g5⟩ := q5 h0
          have hvl := g4.len
          have hb : (Act.eval ⟨us.toArray, []⟩ x).ownBlock = some b := by rw [q1, g1]; rfl
          have hoff : off = 0 := by
            rcases hown.2 with ⟨r, r'⟩ | ⟨_, _, _, r, _⟩
            · omega
            · rw [q1, g1] at r
              injection r with r _ _
              injection r with r
              injection r
          subst hoff
          have : vs = xs := by
            apply List.ext_getElem
            · rw [hvl, p4, hown.1]
            · intro j j1 j2
              have a1 := g5.at_ j vs[j] (List.getElem?_eq_getElem j1)
              have a2 := hown.cells hb j xs[j] (List.getElem?_eq_getElem j2)
              rw [Addr.add_mid] at a2
              rw [a1] at a2
              injection a2
          subst this
          exact ⟨g4, g5.one⟩
      refine ⟨v', w', X', _, by rw [e1]; exact s1, ?_, t1, t2⟩
      refine fin (vs := xs ++ news) s2 (Cs.app (Cs.ext (t2.nil []) _ _ hcx.1) (Cs.ext (t2.nil []) _ _ e5)) (fun v hv => (List.mem_append.1 hv).elim (hcx.2 v) (e4 v)) t3 ?_
      rw [List.getElem?_set_self (List.getElem?_eq_some_iff.1 r1).1]
    · cases he
  · rename_i ψ1 d1 ψ2 hv hvy
    split at he
    · rename_i m ys hs
      simp only [Option.some.injEq, Prod.mk.injEq] at he
      obtain ⟨rfl, rfl, rfl⟩ := he
      obtain ⟨p1, p2, p5, p6, p7⟩ := hφ
      have kx := val_sound hx hv hc p1
      have ky := val_sound hy hvy hc p2
      obtain ⟨A, c, news, e1, e2, e3, e4, e5⟩ := src_sound hs ky p5
      obtain ⟨n1, n2⟩ := h.nil_ e i.size
      have hk : (σ ++ [SC.tok 0 (.slice none 0 0)])[lo.length]? = some (.tok 0 (.slice none 0 0)) := by rw [← h.len]; simp
      have hl : (lo ++ [LO.tok e i.size 0])[lo.length]? = some (.tok e i.size 0) := by simp
      have hown := World.ownsRow_nil w 0 e i.size
      obtain ⟨v', w', row, s1, s2, s3, s4⟩ := run_append_tok (P := P) w t ty e i z i.size i.bytes h1 hi hz rfl rfl hzs hsz _ 0 [] hown A m c news e2 e3 e4 (by omega) (by rw [Nat.zero_add]; exact p7)
      obtain ⟨X', t1, t2, t3⟩ := mev_app n1 hk hl hown (fun b hb => by simp [Value.ownBlock] at hb) s2 s3 s4
      rw [Nat.zero_add] at s2 t3
      have hset : (lo ++ [LO.tok e i.size 0]).set lo.length (.tok e i.size (0 + 1)) = lo ++ [.tok e i.size 1] := by simp
      rw [hset] at t1
      refine ⟨v', w', X', _, ?_, ?_, t1, n2.trans t2⟩
      · rw [e1, kx.v.1]; exact s1
      · refine fin (vs := news) s2 (Cs.ext ((n2.trans t2).nil []) _ _ e5) e4 t3 ?_
        rw [List.getElem?_set_self (List.getElem?_eq_some_iff.1 hk).1]
    · cases he
  · cases he

theorem mev_sound (o : Oper) {mo : MO} {d : D} {lo' : List LO} {φ : Prop} (ht : trM P o.op = some mo) (he : mo.ev ts lo = some (d, lo', φ)) (hφ : φ) (h : Inv B X w σ lo no) (hc : Cs X w σ ts us) :
    ∃ r w' X' σ', (execOp (Act.eval ⟨us.toArray, []⟩) o).run P w = .ok r w' ∧ Yields X' w' σ' d r ∧ Inv B X' w' σ' lo' no ∧ Ext X w σ X' w' σ' := by
  obtain ⟨dst, op, ty, pos, after, guard⟩ := o
  simp only at ht
  have pure_ : ∀ ao, tr P op = some ao → mo = .pu ao → ∃ r w' X' σ', (execOp (Act.eval ⟨us.toArray, []⟩) ⟨dst, op, ty, pos, after, guard⟩).run P w = .ok r w' ∧ Yields X' w' σ' d r ∧ Inv B X' w' σ' lo' no ∧ Ext X w σ X' w' σ' := by
    rintro ao h1 rfl
    simp only [MO.ev] at he
    split at he
    · rename_i d1 φ1 hev
      simp only [Option.some.injEq, Prod.mk.injEq] at he
      obtain ⟨rfl, rfl, rfl⟩ := he
      obtain ⟨u, h2, h3⟩ := ev_sound (w := w) (X := X) (σ := σ) ⟨dst, op, ty, pos, after, guard⟩ h1 hev hφ hc
      exact ⟨_, w, X, σ, h2, .inl ⟨u, rfl, h3⟩, h, Ext.refl _ _ _⟩
    · cases he
  cases op with
  | alloc t =>
    simp only [trM] at ht
    split at ht
    · rename_i z hz
      simp only [Option.map_eq_some_iff] at ht
      obtain ⟨i, hi0, rfl⟩ := ht
      simp only [MO.ev, Option.some.injEq, Prod.mk.injEq] at he
      obtain ⟨rfl, rfl, rfl⟩ := he
      obtain ⟨k1, k2⟩ := h.alloc t (initD_sound hi0).1
      refine ⟨.value (.pointer (some ⟨w.heap.size, 0, none⟩)), _, _, _, ?_, .inl ⟨_, rfl, ?_⟩, k1, k2⟩
      · simp only [Option.bind_eq_some_iff] at hz
        obtain ⟨inf, hi, hz⟩ := hz
        simp only [execOp, Instr.alloc, zeroValue, typeInfo, newVar, newRow]
        simp [hi, hz, newObj]
        rfl
      · simp only [C]
        refine ⟨w.heap.size, ?_, rfl⟩
        rw [← h.len]
        simp
    · cases ht
  | box t x =>
    simp only [trM, Option.map_eq_some_iff] at ht
    obtain ⟨ax, hx, rfl⟩ := ht
    simp only [MO.ev] at he
    split at he
    · rename_i d1 ψ hv
      simp only [Option.some.injEq, Prod.mk.injEq] at he
      obtain ⟨rfl, rfl, rfl⟩ := he
      have k0 := val_sound hx hv hc hφ.1
      obtain ⟨k1, k2⟩ := h.alloc t (k0.cells hφ.2).1
      refine ⟨.value (.pointer (some ⟨w.heap.size, 0, none⟩)), _, _, _, ?_, .inl ⟨_, rfl, ?_⟩, k1, k2⟩
      · simp only [execOp, Instr.box, newVar, newRow]
        simp [newObj]
        rfl
      · simp only [C]
        refine ⟨w.heap.size, ?_, rfl⟩
        rw [← h.len]
        simp
    · cases he
  | load t x =>
    simp only [trM] at ht
    split at ht
    · rename_i dd inf ax h1 hi hx
      simp only [Option.some.injEq] at ht
      subst ht
      obtain ⟨b, off, u, q1, q2, q3, rfl⟩ := ld_sound h1 hi rfl rfl hx he hφ h hc
      exact ⟨.value u, w, X, σ, by simp [execOp, q1, Instr.loadAt, Instr.sureAddr, q2], .inl ⟨u, rfl, q3⟩, h, Ext.refl _ _ _⟩
    · cases ht
  | store t x y =>
    simp only [trM] at ht
    split at ht
    · rename_i inf ax ay hi hx hy
      simp only [Option.some.injEq] at ht
      subst ht
      simp only [MO.ev] at he
      split at he
      · rename_i k o ψ1 d1 ψ2 hv hy2
        split at he
        · rename_i cs hl
          simp only [Option.some.injEq, Prod.mk.injEq] at he
          obtain ⟨rfl, rfl, rfl⟩ := he
          obtain ⟨p1, p2, p3, p4, p5⟩ := hφ
          obtain ⟨b, t', vs, hk, hu, hb, hvs⟩ := bx_at h (val_sound hx hv hc p1) hl
          have k1 := val_sound hy hy2 hc p2
          obtain ⟨q1, q2, q3⟩ := mev_store o h hk hl k1 p3 (by omega)
          obtain ⟨hcc, hone⟩ := k1.cells p3
          have hlen := hcc.len
          have hrun := run_storeVar_any (P := P) w b o t _ q1 (by simp only [hi, Option.map_some]; rw [hlen, p4]) hone
          exact ⟨.skip, _, X, σ, by simp [execOp, hu, Instr.storeAt, Instr.sureAddr, hrun], .inr ⟨rfl, rfl⟩, q2, q3⟩
        · cases he
      · cases he
    · cases ht
  | buildSlice t len parts =>
    simp only [trM] at ht
    split at ht
    · rename_i e hu
      split at ht
      · rename_i ie hie
        split at ht
        · rename_i z hz
          split at ht
          · rename_i l i0 hl hi0
            split at ht
            · rename_i hcond
              simp only [Option.some.injEq] at ht
              subst ht
              simp only [MO.ev] at he
              split at he
              · rename_i cs ψ hf
                simp only [Option.some.injEq, Prod.mk.injEq] at he
                obtain ⟨rfl, rfl, rfl⟩ := he
                obtain ⟨p1, p2, p3, p4⟩ := hφ
                obtain ⟨j1, j2⟩ := initD_sound (X := X) (w := w) (σ := σ) hi0
                obtain ⟨xs, q1, q2, q3, q4⟩ := fill_sound hl hf p1 hc j1 j2
                obtain ⟨X', σ', r1, r2, r3⟩ := mev_bs (e := e) h q2 p2 p3 p4 q3
                refine ⟨_, _, X', σ', ?_, .inl ⟨_, rfl, r1⟩, r2, r3⟩
                have hrun := run_buildSlice (P := P) w t e len (parts.map fun (i, x) => (i, Act.eval ⟨us.toArray, []⟩ x)) xs.toArray ie z hu hie hz (by omega) (by omega) (by
                  rw [Array.toList_map]
                  rw [Array.toArray_toList] at q1
                  exact q1)
                simp only [execOp, Sem.run_bind, hrun, Result.andThen_ok, Sem.run_pure]
              · cases he
            · split at ht
              · rename_i hcond
                obtain ⟨rfl, hpl⟩ := hcond
                simp only [Option.some.injEq] at ht
                subst ht
                simp only [MO.ev, fillD, Option.some.injEq, Prod.mk.injEq] at he
                obtain ⟨rfl, rfl, rfl⟩ := he
                obtain ⟨X', σ', r1, r2, r3⟩ := mev_bs (e := e) (sz := ie.size) (len := 0) (cs := []) (vs := []) h (by simp [Cs]) (by simp) (by simp [maxLen]) rfl (fun v hv => by cases hv)
                refine ⟨_, _, X', σ', ?_, .inl ⟨_, rfl, r1⟩, r2, r3⟩
                have hp0 : parts = #[] := by
                  apply Array.ext'
                  simpa using List.eq_nil_of_length_eq_zero hpl
                subst hp0
                have ha : ((Array.range 0).map fun _ : Nat => (default : Value)) = #[] := by apply Array.ext'; simp
                simp [execOp, Instr.buildSlice, run_underlying hu, sizeOf, typeInfo, hie, Instr.fill, newRow, newObj, ha]
                rfl
              · cases ht
          · cases ht
        · cases ht
      · cases ht
    · cases ht
  | call c =>
    obtain ⟨cal, args, tys⟩ := c
    obtain ⟨args⟩ := args
    obtain ⟨tys⟩ := tys
    simp only [trM] at ht
    split at ht
    · rename_i x y t t2
      split at ht
      · rename_i e ax ay h1 hx hy
        split at ht
        · rename_i i hi
          split at ht
          · rename_i z hz
            split at ht
            · rename_i hcond
              obtain ⟨rfl, hzs, hsz⟩ := hcond
              simp only [Option.some.injEq] at ht
              subst ht
              obtain ⟨v', w', X', σ', q1, q2, q3, q4⟩ := app_sound (ty := ty) h1 hi hz hzs hsz hx hy he hφ h hc
              refine ⟨.value v', w', X', σ', ?_, .inl ⟨v', rfl, q2⟩, q3, q4⟩
              simp [execOp, resolve, invoke, builtin, q1]
            · cases ht
          · cases ht
        · cases ht
      · cases ht
    · simp only [Option.map_eq_some_iff] at ht
      obtain ⟨ao, h1, h2⟩ := ht
      exact pure_ ao h1 h2.symm
  | _ =>
    simp only [trM, Option.map_eq_some_iff] at ht
    obtain ⟨ao, h1, h2⟩ := ht
    exact pure_ ao h1 h2.symm
end
end Go.Proofs.Ytnimpcffagidoaa
