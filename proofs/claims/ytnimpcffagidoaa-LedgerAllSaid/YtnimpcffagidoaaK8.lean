/-
  The state of a run: own variables and slices; how they are made.
-/
import Derived.Test.YtnimpcffagidoaaK7
namespace Go.Proofs.Ytnimpcffagidoaa.K
open Go.RowKit
set_option linter.unusedSimpArgs false
set_option linter.unusedVariables false

/-- where a call began: what may be written, the world, the blocks that were lent to it for writing, and where the lent things lie -/
structure Base where
  X0 : Nat → Nat → Prop
  w0 : World
  lent : List Nat
  pl : Pl

/-- from a to w nothing has turned below a's end but in the blocks that were lent -/
structure Fr (lent : List Nat) (a w : World) : Prop where
  os : w.os = a.os
  tape : w.tape = a.tape
  output : w.output = a.output
  size : a.heap.size ≤ w.heap.size
  keep : ∀ b, b < a.heap.size → b ∉ lent → w.heap[b]? = a.heap[b]?

theorem Fr.refl (l : List Nat) (w : World) : Fr l w w := ⟨rfl, rfl, rfl, Nat.le_refl _, fun _ _ _ => rfl⟩
/-- one step: everything below stands but for blocks of the list m, each of which is lent or new -/
theorem Fr.step {l m : List Nat} {a w w' : World} (h : Fr l a w) (k : Fr m w w') (hm : ∀ b ∈ m, b ∈ l ∨ a.heap.size ≤ b) : Fr l a w' :=
  ⟨k.os.trans h.os, k.tape.trans h.tape, k.output.trans h.output, Nat.le_trans h.size k.size, fun b hb hl => (k.keep b (Nat.lt_of_lt_of_le hb h.size) (fun hbm => by
    rcases hm b hbm with h1 | h1
    · exact hl h1
    · omega)).trans (h.keep b hb hl)⟩
theorem Fr.alloc (l : List Nat) (w : World) (o : Obj) : Fr l w (w.alloc o) := ⟨rfl, rfl, rfl, by simp, fun b hb _ => Below.heap_alloc w o b hb⟩
theorem Fr.drew (l : List Nat) (w : World) : Fr l w w.drew := ⟨rfl, rfl, rfl, Nat.le_refl _, fun _ _ _ => rfl⟩

theorem setCells_heap (b : Nat) : ∀ (vs : List Value) (o : Nat) (w : World) (c : Nat), c ≠ b → (w.setCells b o vs).heap[c]? = w.heap[c]?
  | [], _, _, _, _ => rfl
  | v :: r, o, w, c, h => by
    rw [World.setCells, setCells_heap b r (o + 1) _ c h, Below.heap_setCell _ _ _ _ h]
theorem setCells_size (b : Nat) : ∀ (vs : List Value) (o : Nat) (w : World), (w.setCells b o vs).heap.size = w.heap.size
  | [], _, _ => rfl
  | v :: r, o, w => by rw [World.setCells, setCells_size b r]; simp [World.setCell]
theorem setCells_fr (b : Nat) : ∀ (vs : List Value) (o : Nat) (w : World), Fr [b] w (w.setCells b o vs)
  | [], _, w => Fr.refl _ w
  | v :: r, o, w => by
    have h1 : Fr [b] w (w.setCell ⟨b, o, none⟩ v) := ⟨rfl, rfl, rfl, by simp [World.setCell], fun c hc hn => Below.heap_setCell _ _ _ _ (by simpa using hn)⟩
    exact h1.step (setCells_fr b r (o + 1) _) (fun c hc => .inl hc)
theorem setCells_at (b : Nat) (t : TypeId) (fr : Nat × Nat) : ∀ (vs : List Value) (o : Nat) (w : World) (cs : List Value), w.heap[b]? = some (.cells cs.toArray t fr) → (w.setCells b o vs).heap[b]? = some (.cells (setFrom cs o vs).toArray t fr)
  | [], _, _, _, h => h
  | v :: r, o, w, cs, h => by
    rw [World.setCells, setFrom]
    refine setCells_at b t fr r (o + 1) _ (cs.set o v) ?_
    simp [World.setCell, Array.getElem?_modify, h]
theorem run_storeVar_any {P : Program} (w : World) (b o : Nat) (ty : TypeId) (v : Value) (ht : w.there b o v.cells.toList.length) (hi : (P.info? ty).map (·.size) = some v.cells.toList.length) (h1 : ∀ x ∈ v.cells.toList, x.oneCell' = true) :
    (storeVar ty ⟨b, o, none⟩ v).run P w = .ok () (w.setCells b o v.cells.toList) := by
  have := run_storeCells_cells (P := P) b o v.cells.toList 0 w (fun j hj => by simpa using (ht j hj).1) (fun j hj => by simpa using (ht j hj).2) h1
  cases hq : P.info? ty with
  | none => simp [hq] at hi
  | some i =>
    have hs : v.cells.size = i.size := by simp [hq] at hi; omega
    simp only [Nat.add_zero] at this
    simp [storeVar, sizeOf, typeInfo, hq, hs, this]

/-- append onto a row that nobody else may append to -/
theorem run_append_tok {P : Program} (w : World) (t ty e : TypeId) (i : TypeInfo) (z : Value) (size bytes : Nat) (ht : P.underlying t = some (.slice e)) (hi : P.info? e = some i) (hz : i.zero = some z)
    (hsize : i.size = size) (hby : i.bytes = bytes) (hzs : z.cells.size = size) (hsz : 0 < size)
    (v : Value) (n : Nat) (xs : List Value) (hown : w.ownsRow 0 e size v n xs)
    (A : Option Addr) (m c : Nat) (news : List Value) (hl : news.length = m * size) (hA : 0 < m → ∃ a, A = some a ∧ ∀ j u, news[j]? = some u → w.cell? (a.add j) = some u) (h1 : ∀ u ∈ news, u.oneCell' = true)
    (h63 : n + m ≤ maxLen) (hbytes : (n + m) * bytes ≤ 140737488355328) :
    ∃ v' w' row, (Builtin.append_ #[t, t] ty #[v, .slice A m c]).run P w = .ok v' w' ∧ w'.ownsRow 0 e size v' (n + m) (xs ++ news) ∧ w.grownBy w' row ∧
      ((row = none ∧ (v' = v ∨ v'.ownBlock = some w.heap.size)) ∨ (row = v.ownBlock ∧ v'.ownBlock = v.ownBlock)) := by
  have hsmall : n + m ≤ 9223372036854775807 := by simp only [maxLen] at h63; omega
  rcases A with _ | a
  · have hm : m = 0 := by
      rcases Nat.eq_zero_or_pos m with h0 | h0
      · exact h0
      · obtain ⟨a, h, _⟩ := hA h0
        cases h
    subst hm
    have hn : news = [] := List.eq_nil_of_length_eq_zero (by simpa using hl)
    subst hn
    exact ⟨v, w, none, run_append_of_nil w 0 t ty e i size ht hi v n xs hown c, by simpa using hown, World.grownBy.refl w _, .inl ⟨rfl, .inl rfl⟩⟩
  · have hcells : ∀ j u, news[j]? = some u → w.cell? (a.add j) = some u := by
      intro j u hu
      rcases Nat.eq_zero_or_pos m with h0 | h0
      · subst h0
        have hn : news = [] := List.eq_nil_of_length_eq_zero (by simpa using hl)
        subst hn
        simp at hu
      · obtain ⟨a', h, hc⟩ := hA h0
        injection h with h
        subst h
        exact hc j u hu
    subst hsize
    subst hby
    have hlen : (xs ++ news).length = (n + m) * i.size := by rw [List.length_append, hown.1, hl, Nat.add_mul]
    have grown : ∀ (old : Nat), old < n + m →
        (w.drew.alloc (.cells (xs.toArray ++ news.toArray ++ Builtin.zeroCells z.cells (grownCap w (n + m) old e - (n + m))) e)).ownsRow 0 e i.size
          (.slice (some ⟨w.heap.size, 0, none⟩) (n + m) (grownCap w (n + m) old e)) (n + m) (xs ++ news) ∧
        w.grownBy (w.drew.alloc (.cells (xs.toArray ++ news.toArray ++ Builtin.zeroCells z.cells (grownCap w (n + m) old e - (n + m))) e)) none := by
      intro old ho
      have hge := grownCap_ge w (n + m) old e
      have hcm : grownCap w (n + m) old e ≤ maxLen := grownCap_le_maxLen w (n + m) old e h63
      refine ⟨⟨hlen, .inr ⟨w.heap.size, _, _, rfl, Nat.zero_le _, heap_alloc_new w.drew _, hge, hcm, ?_, ?_⟩⟩, ⟨rfl, rfl, rfl, by simp, fun k hk _ => Below.heap_alloc w.drew _ k hk⟩⟩
      · simp only [Array.size_append, List.size_toArray, size_zeroCells, hzs, hown.1, hl, ← Nat.add_mul]
        congr 1
        omega
      · simp only [Array.toList_append, List.append_assoc]
        rw [← List.append_assoc, ← hlen]
        exact List.take_left
    rcases hown.2 with ⟨rfl, rfl⟩ | ⟨g, cap, cur, rfl, hbg, hg, hnc, hcm, hcs, htake⟩
    · have hx : xs = [] := List.eq_nil_of_length_eq_zero (by simpa using hown.1)
      subst hx
      by_cases hm : m = 0
      · subst hm
        have hn : news = [] := List.eq_nil_of_length_eq_zero (by simpa using hl)
        subst hn
        refine ⟨.slice none 0 0, w, none, ?_, World.ownsRow_nil w 0 e i.size, World.grownBy.refl w _, .inl ⟨rfl, .inl rfl⟩⟩
        simp [Builtin.append_, run_underlying ht, sizeOf, typeInfo, hi, Builtin.lenOf, Builtin.firstCells, loadCells, loadCellsFrom]
      · have hr := run_append_nil (P := P) w t ty e i z ht hi hz a m c news hl hcells (by omega) (by omega) (by have hb := hbytes; simp only [Nat.zero_add] at hb; omega)
        have hgr := grown 0 (by omega)
        simp only [Nat.zero_add, List.nil_append, Array.empty_append] at hgr ⊢
        exact ⟨_, _, none, hr, hgr.1, hgr.2, .inl ⟨rfl, .inr rfl⟩⟩
    · by_cases hroom : n + m ≤ cap
      · obtain ⟨w', q1, q2, q3⟩ := run_append_fits (P := P) (w := w) (ty := ty) 0 t e i i.size ht hi rfl g n cap xs hown a m c news hl hcells h1 hroom
        exact ⟨_, w', some g, q1, q2, q3, .inr ⟨rfl, rfl⟩⟩
      · have holds : ∀ j u, xs[j]? = some u → w.cell? ((⟨g, 0, none⟩ : Addr).add j) = some u := hown.cells (g := g) rfl
        have hr := run_append_grow (P := P) w t ty e i z ht hi hz ⟨g, 0, none⟩ n cap xs hown.1 holds a m c news hl hcells (by omega) (by omega) (growslice_fits (by omega) hbytes)
        have hgr := grown cap (by omega)
        exact ⟨_, _, none, hr, hgr.1, hgr.2, .inl ⟨rfl, .inr rfl⟩⟩

/-- operations that make, read and write the call's own things -/
inductive MO where
  | pu (ao : AO)
  | new (zs : List D)
  | box (x : AX)
  | ld (agg : Bool) (n : Nat) (x : AX)
  | st (n : Nat) (x y : AX)
  | bs (e sz len : Nat) (init : List D) (parts : List (Nat × Nat × AX))
  | app (e sz bytes : Nat) (x y : AX)

def trM (P : Program) (o : Op) : Option MO :=
  match o with
  | .alloc t => match (P.info? t).bind (·.zero) with
    | some z => (initD z).map .new
    | none => none
  | .box _ x => (trX x).map .box
  | .load t x => match P.underlying t, P.info? t, trX x with
    | some d, some inf, some x => some (.ld (isRow d) inf.size x)
    | _, _, _ => none
  | .store t x y => match P.info? t, trX x, trX y with
    | some inf, some x, some y => some (.st inf.size x y)
    | _, _, _ => none
  | .buildSlice t len parts => match P.underlying t with
    | some (.slice e) => match P.info? e with
      | some ie => match ie.zero with
        | some z => match trParts (fun i => some (i * ie.size, ie.size)) parts.toList, initD (.agg ((Array.range (len * ie.size)).map (z.cells[· % z.cells.size]!))) with
          | some l, some i => if len * ie.size ≤ 16777216 ∧ 0 < len * ie.size then some (.bs e ie.size len i l) else if len = 0 ∧ parts.toList.length = 0 then some (.bs e ie.size 0 [] []) else none
          | _, _ => none
        | none => none
      | none => none
    | _ => none
  | .call c => match c.callee, c.args.toList, c.argTypes.toList with
    | .builtin .append, [x, y], [t, t2] => match P.underlying t, trX x, trX y with
      | some (.slice e), some x, some y => match P.info? e with
        | some i => match i.zero with
          | some z => if t = t2 ∧ z.cells.size = i.size ∧ 0 < i.size then some (.app e i.size i.bytes x y) else none
          | none => none
        | none => none
      | _, _, _ => none
    | _, _, _ => (tr P (.call c)).map .pu
  | o => (tr P o).map .pu


def SC.blk : SC → Option Nat
  | .no => none
  | .box b => some b
  | .arr u => u.ownBlock
structure TI (B : Base) (X : Nat → Nat → Prop) (w : World) (σ : Pl) (st : Nat → VO) : Prop where
  fin : ∀ b q, X b q → b < w.heap.size
  obj : ∀ k, OAt X w σ k (st k)
  apart : ∀ i j b, i ≠ j → st i ≠ .no → st j ≠ .no → (σ i).blk = some b → (σ j).blk ≠ some b
  own : ∀ k b, st k ≠ .no → (σ k).blk = some b → (lentK ≤ k ∧ b ∈ B.lent) ∨ B.w0.heap.size ≤ b
  fr : Fr B.lent B.w0 w
  old : ∀ b q, b < B.w0.heap.size → (X b q ↔ B.X0 b q)
  lnt : ∀ k, lentK ≤ k → σ k = B.pl k
/-- a state stands for a world and the slots' values -/
structure At (B : Base) (X : Nat → Nat → Prop) (w : World) (σ : Pl) (n : Nat) (S : VS) (us : List Value) : Prop where
  ti : TI B X w σ S.st
  rel : Rel X w σ n S.ts us
  dom : ∀ j, S.st j ≠ .no → j ∈ S.dom

section
variable {B : Base} {X X' : Nat → Nat → Prop} {w w' : World} {σ σ' : Pl} {st : Nat → VO} {n : Nat} {S : VS} {us : List Value}
theorem refss_app (a b : List D) : D.refss (a ++ b) = D.refss a ++ D.refss b := by
  induction a with
  | nil => rfl
  | cons d a ih => simp only [List.cons_append, D.refss, ih, List.append_assoc]
theorem Ty.refs_flat (y : Ty) (l : List y.T) : D.refss (l.flatMap y.cells) = [] := by
  induction l with
  | nil => rfl
  | cons x l ih => rw [List.flatMap_cons, refss_app, y.refs_cells, ih]; rfl
theorem V.refs_dcells (v : V) : D.refss v.d.cells = v.refs := by
  rw [← V.cells_ds, V.refss_d]
  cases v with
  | t y x =>
    have := y.refs_cells x
    rw [← Ty.vs_ds, V.refss_d] at this
    simpa only [V.cells, V.refs] using this
  | ag vs => rfl
  | _ => simp [V.cells, V.refss, V.refs]
theorem OAt.lt {k b : Nat} {o : VO} (h : OAt X w σ k o) (hn : o ≠ .no) (hb : (σ k).blk = some b) : b < w.heap.size := by
  cases o with
  | no => exact absurd rfl hn
  | box v =>
    obtain ⟨b', ty, vs, h1, h2, _⟩ := h
    rw [h1] at hb
    injection hb with hb
    subst hb
    exact (Array.getElem?_eq_some_iff.1 h2).1
  | arr e y l =>
    obtain ⟨u, xs, h1, h2, _⟩ := h
    rw [h1] at hb
    exact (h2.lt b hb).2
theorem OAt.ext {k : Nat} {o : VO} (h : OAt X w σ k o) (e : Ext X w X' w') (hk : σ' k = σ k) (hr : ∀ r ∈ o.refs, σ' r = σ r) (hb : ∀ b, (σ k).blk = some b → w'.heap[b]? = w.heap[b]? ∧ ∀ q, X b q → X' b q) : OAt X' w' σ' k o := by
  cases o with
  | no => trivial
  | box v =>
    obtain ⟨b, ty, vs, h1, h2, h3, h4⟩ := h
    obtain ⟨q1, q2⟩ := hb b (by rw [h1]; rfl)
    exact ⟨b, ty, vs, hk.trans h1, q1.trans h2, Cs.ext e _ _ (fun r hr' => hr r (by rw [V.refs_dcells] at hr'; exact hr')) h3, fun o => q2 o (h4 o)⟩
  | arr e' y l =>
    obtain ⟨u, xs, h1, h2, h3, h4, h5⟩ := h
    refine ⟨u, xs, hk.trans h1, ⟨h2.1, ?_⟩, Cs.ext e _ _ (fun r hr' => by simp [y.refs_flat] at hr') h3, h4, fun b hb' o => (hb b (by rw [h1]; exact hb')).2 o (h5 b hb' o)⟩
    rcases h2.2 with hn | ⟨g, cap, cur, rfl, hb0, hg, rest⟩
    · exact .inl hn
    · exact .inr ⟨g, cap, cur, rfl, hb0, (hb g (by rw [h1]; rfl)).1.trans hg, rest⟩
theorem upd_self {α : Type} (f : Nat → α) (k : Nat) (x : α) : upd f k x k = x := if_pos rfl
theorem upd_ne {α : Type} (f : Nat → α) {k j : Nat} (x : α) (h : j ≠ k) : upd f k x j = f j := if_neg h
/-- one own thing is made or turned -/
theorem TI.step (h : TI B X w σ st) {k : Nat} {o : VO} {s : SC} (e : Ext X w X' w') (hs : s = σ k ∨ (k < lentK ∧ ∀ j, j ≠ k → k ∉ (st j).refs))
    (hblk : ∀ j b, j ≠ k → st j ≠ .no → (σ j).blk = some b → w'.heap[b]? = w.heap[b]? ∧ ∀ q, X b q → X' b q)
    (hat : OAt X' w' (upd σ k s) k o)
    (hnew : ∀ b, o ≠ .no → s.blk = some b → ((lentK ≤ k ∧ b ∈ B.lent) ∨ B.w0.heap.size ≤ b) ∧ ∀ j, j ≠ k → st j ≠ .no → (σ j).blk ≠ some b)
    (hfin : ∀ b q, X' b q → b < w'.heap.size) (hfr : Fr B.lent B.w0 w') (hold : ∀ b q, b < B.w0.heap.size → (X' b q ↔ B.X0 b q)) : TI B X' w' (upd σ k s) (upd st k o) := by
  refine ⟨hfin, fun j => ?_, fun i j b hij hi hj hb => ?_, fun j b hj hb => ?_, hfr, hold, fun j hj => ?_⟩
  · by_cases hjk : j = k
    · subst hjk
      rw [upd_self]
      exact hat
    · rw [upd_ne _ _ hjk]
      by_cases hn : st j = .no
      · rw [hn]; trivial
      · refine (h.obj j).ext e (upd_ne _ _ hjk) (fun r hr => ?_) (fun b hb => hblk j b hjk hn hb)
        by_cases hrk : r = k
        · subst hrk
          rcases hs with hs | hs
          · rw [upd_self, hs]
          · exact absurd hr (hs.2 j hjk)
        · exact upd_ne _ _ hrk
  · by_cases hik : i = k
    · subst hik
      rw [upd_self] at hi hb
      rw [upd_ne _ _ (Ne.symm hij)] at hj ⊢
      exact (hnew b hi hb).2 j (Ne.symm hij) hj
    · rw [upd_ne _ _ hik] at hi hb
      by_cases hjk : j = k
      · subst hjk
        rw [upd_self] at hj ⊢
        intro hb'
        exact (hnew b hj hb').2 i hik hi hb
      · rw [upd_ne _ _ hjk] at hj ⊢
        exact h.apart i j b hij hi hj hb
  · by_cases hjk : j = k
    · subst hjk
      rw [upd_self] at hj hb
      exact (hnew b hj hb).1
    · rw [upd_ne _ _ hjk] at hj hb
      exact h.own j b hj hb
  · by_cases hjk : j = k
    · subst hjk
      rcases hs with hs | hs
      · rw [upd_self, hs]; exact h.lnt j hj
      · omega
    · rw [upd_ne _ _ hjk]; exact h.lnt j hj
theorem Rel.step {e e' : Env} (h : Rel X w σ n e us) (ex : Ext X w X' w') (he : ∀ i, (e' i = e i ∧ ∀ r ∈ (e i).refs, σ' r = σ r) ∨ e' i = .un) : Rel X' w' σ' n e' us := by
  refine ⟨h.len, fun i u hu => ?_, fun i hi => ?_⟩
  · rcases he i with ⟨h1, h2⟩ | h1
    · rw [h1]
      exact C.ext ex _ _ (fun r hr => h2 r (by rw [V.refs_d] at hr; exact hr)) (h.at_ i u hu)
    · rw [h1]
      exact C.any_ u
  · rcases he i with ⟨h1, _⟩ | h1
    · rw [h1]; exact h.out i hi
    · exact h1
theorem mask_is (k : Nat) (v : V) : (v.mask k = v ∧ k ∉ v.refs) ∨ v.mask k = .un := by
  unfold V.mask
  split
  · exact .inr rfl
  · rename_i hc
    exact .inl ⟨rfl, fun hm => hc (by simpa using hm)⟩
theorem Rel.mask (h : Rel X w σ n S.ts us) (ex : Ext X w X' w') (k : Nat) (s : SC) : Rel X' w' (upd σ k s) n (fun i => (S.ts i).mask k) us :=
  h.step ex fun i => (mask_is k (S.ts i)).imp (fun q => ⟨q.1, fun r hr => upd_ne _ _ (fun hrk => q.2 (hrk ▸ hr))⟩) id
theorem free_spec {k : Nat} (hd : ∀ j, S.st j ≠ .no → j ∈ S.dom) (h : S.free k = true) (j : Nat) : k ∉ (S.st j).refs := by
  unfold VS.free at h
  simp only [Bool.and_eq_true] at h
  by_cases hn : S.st j = .no
  · rw [hn]; simp [VO.refs]
  · have := List.all_eq_true.1 h.2 j (hd j hn)
    simpa using this
theorem free_lt {k : Nat} (h : S.free k = true) : k < lentK := by
  unfold VS.free at h
  simp only [Bool.and_eq_true, decide_eq_true_eq] at h
  exact h.1
/-- a new block -/
theorem At.alloc (h : At B X w σ n S us) {k : Nat} (hf : S.free k = true) {o : VO} {s : SC} {ob : Obj} (hs : s.blk = some w.heap.size)
    (hat : OAt (fun b q => X b q ∨ b = w.heap.size) (w.alloc ob) (upd σ k s) k o) : At B (fun b q => X b q ∨ b = w.heap.size) (w.alloc ob) (upd σ k s) n (S.alloc k o) us ∧ Ext X w (fun b q => X b q ∨ b = w.heap.size) (w.alloc ob) := by
  have ex : Ext X w (fun b q => X b q ∨ b = w.heap.size) (w.alloc ob) := ⟨by simp, fun b q hb hx => ⟨fun hx' => hx'.elim hx (by omega), World.cell?_of_block (w := w) (a := ⟨b, q, none⟩) (Below.heap_alloc w _ b hb)⟩⟩
  have hlt : ∀ j b, S.st j ≠ .no → (σ j).blk = some b → b < w.heap.size := fun j b hj hb => (h.ti.obj j).lt hj hb
  refine ⟨⟨h.ti.step ex (.inr ⟨free_lt hf, fun j _ => free_spec h.dom hf j⟩) (fun j b _ hj hb => ⟨Below.heap_alloc w _ b (hlt j b hj hb), fun q hq => .inl hq⟩) hat ?_ ?_ ?_ ?_, h.rel.mask ex k s, fun j hj => ?_⟩, ex⟩
  · intro b _ hb
    rw [hs] at hb
    injection hb with hb
    subst hb
    exact ⟨.inr h.ti.fr.size, fun j _ hj hb' => by have := hlt j _ hj hb'; omega⟩
  · rintro b q (hb | rfl)
    · have := h.ti.fin b q hb; simp; omega
    · simp
  · exact h.ti.fr.step (m := []) ⟨rfl, rfl, rfl, by simp, fun b hb _ => Below.heap_alloc w _ b hb⟩ (by simp)
  · intro b q hb
    have := h.ti.fr.size
    exact ⟨fun hx => hx.elim (fun hx => (h.ti.old b q hb).1 hx) (by omega), fun hx => .inl ((h.ti.old b q hb).2 hx)⟩
  · simp only [VS.alloc] at hj ⊢
    by_cases hjk : j = k
    · exact hjk ▸ List.mem_cons_self
    · rw [upd_ne _ _ hjk] at hj
      exact List.mem_cons_of_mem _ (h.dom j hj)
end
end Go.Proofs.Ytnimpcffagidoaa.K
