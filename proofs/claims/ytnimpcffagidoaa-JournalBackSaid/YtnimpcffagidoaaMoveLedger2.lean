/-
  The generator of ledgers.
-/
import Derived.Test.YtnimpcffagidoaaMoveLedger
import Derived.Test.YtnimpcffagidoaaKA
import Derived.LoopN
import Derived.Deep.DeepCutAuto
namespace Go.Proofs.Ytnimpcffagidoaa
open Go.RowKit
set_option linter.unusedSimpArgs false
set_option linter.unusedVariables false

def zeroDec : Dec := ⟨0, 0, 0, 0, 0⟩
/-- decisions as the generator makes them, one after the other, behind a -/
def Gen : Dec → List Dec → Prop
  | _, [] => True
  | a, d :: l => Follows a d ∧ Gen d l
def lastD (a : Dec) (l : List Dec) : Dec := l.getLastD a
theorem lastD_cons (a d : Dec) (l : List Dec) : lastD a (d :: l) = lastD d l := by
  unfold lastD
  rw [List.getLastD_cons]
theorem lastD_snoc (a d : Dec) (l : List Dec) : lastD a (l ++ [d]) = d := by simp [lastD]
theorem Gen.snoc {a d : Dec} {l : List Dec} (h : Gen a l) (hd : Follows (lastD a l) d) : Gen a (l ++ [d]) := by
  induction l generalizing a with
  | nil => exact ⟨hd, trivial⟩
  | cons b l ih => exact ⟨h.1, ih h.2 (by rw [lastD_cons] at hd; exact hd)⟩
def decCells (l : List Dec) : List Value := l.flatMap Dec.cells
theorem decCells_len (l : List Dec) : (decCells l).length = l.length * 5 := by
  induction l with
  | nil => rfl
  | cons d l ih => simp [decCells, Dec.cells] at ih ⊢; omega
theorem decCells_snoc (l : List Dec) (d : Dec) : decCells (l ++ [d]) = decCells l ++ d.cells := by simp [decCells]
theorem Gen.last_bd {a : Dec} {l : List Dec} (h : Gen a l) (n : Int) (ha : 0 ≤ a.day ∧ a.day ≤ n ∧ 0 ≤ a.known ∧ a.known ≤ n) : 0 ≤ (lastD a l).day ∧ (lastD a l).day ≤ n + 2 * l.length ∧ 0 ≤ (lastD a l).known ∧ (lastD a l).known ≤ n + 2 * l.length := by
  induction l generalizing a n with
  | nil => simpa [lastD] using ha
  | cons b l ih =>
    rw [lastD_cons]
    have hf := h.1
    unfold Follows at hf
    have := ih h.2 (n + 2) ⟨by omega, by omega, by omega, by omega⟩
    simp only [List.length_cons]
    omega
theorem decCells_at {ds : List Dec} {k : Nat} {d : Dec} (h : ds[k]? = some d) (j : Nat) (hj : j < 5) : (decCells ds)[k * 5 + j]? = d.cells[j]? := by
  induction ds generalizing k with
  | nil => simp at h
  | cons x l ih =>
    have e : decCells (x :: l) = x.cells ++ decCells l := by simp [decCells]
    rw [e]
    have hx : x.cells.length = 5 := rfl
    rcases k with _ | k
    · simp only [List.getElem?_cons_zero, Option.some.injEq] at h
      subst h
      rw [Nat.zero_mul, Nat.zero_add, List.getElem?_append_left (by omega)]
    · rw [List.getElem?_cons_succ] at h
      rw [List.getElem?_append_right (by omega), hx, show (k + 1) * 5 + j - 5 = k * 5 + j from by omega]
      exact ih h
/-- a ledger's decisions, read in order -/
abbrev Led (w : World) (sv : Value) (ds : List Dec) : Prop := Sl w sv 5 ds.length (decCells ds)
theorem sl_dec {w : World} {sv : Value} {ds : List Dec} {k : Nat} {d : Dec} (h : Sl w sv 5 ds.length (decCells ds)) (hk : ds[k]? = some d) :
    ∃ b off c, sv = .slice (some ⟨b, off, none⟩) ds.length c ∧ b < w.heap.size ∧ ds.length ≤ c ∧ c ≤ maxLen ∧ w.cell? ⟨b, off + k * 5, none⟩ = some (.int .i64 d.day) ∧ w.cell? ⟨b, off + k * 5 + 1, none⟩ = some (.int .i64 d.known) ∧
      w.cell? ⟨b, off + k * 5 + 2, none⟩ = some (.int .i64 d.kind) ∧ w.cell? ⟨b, off + k * 5 + 3, none⟩ = some (.int .i64 d.subject) ∧ w.cell? ⟨b, off + k * 5 + 4, none⟩ = some (.int .i64 d.value) := by
  obtain ⟨_, A, c, rfl, h1, h2, h3⟩ := h
  have hl : k < ds.length := (List.getElem?_eq_some_iff.1 hk).1
  obtain ⟨b, off, rfl, hb, hc⟩ := h3 (by omega)
  refine ⟨b, off, c, rfl, hb, h1, h2, ?_, ?_, ?_, ?_, ?_⟩
  · have := hc (k * 5 + 0) (.int .i64 d.day) (by rw [decCells_at hk 0 (by decide)]; rfl)
    simpa using this
  · have := hc (k * 5 + 1) (.int .i64 d.known) (by rw [decCells_at hk 1 (by decide)]; rfl)
    simpa [Nat.add_assoc] using this
  · have := hc (k * 5 + 2) (.int .i64 d.kind) (by rw [decCells_at hk 2 (by decide)]; rfl)
    simpa [Nat.add_assoc] using this
  · have := hc (k * 5 + 3) (.int .i64 d.subject) (by rw [decCells_at hk 3 (by decide)]; rfl)
    simpa [Nat.add_assoc] using this
  · have := hc (k * 5 + 4) (.int .i64 d.value) (by rw [decCells_at hk 4 (by decide)]; rfl)
    simpa [Nat.add_assoc] using this
theorem Sl.take {w : World} {A : Option Addr} {n c size : Nat} {xs : List Value} (h : Sl w (.slice A n c) size n xs) (k : Nat) (hk : k ≤ n) : Sl w (.slice A k c) size k (xs.take (k * size)) := by
  obtain ⟨h1, A', c', hv, h2, h3, h4⟩ := h
  injection hv with e1 _ e2
  subst e1 e2
  have hm : k * size ≤ n * size := Nat.mul_le_mul_right _ hk
  refine ⟨by rw [List.length_take, h1, Nat.min_eq_left hm], _, _, rfl, by omega, h3, fun hp => ?_⟩
  obtain ⟨b, off, e, hb, hc⟩ := h4 (by omega)
  refine ⟨b, off, e, hb, fun j u hu => hc j u ?_⟩
  have hj : j < k * size := by
    have := (List.getElem?_eq_some_iff.1 hu).1
    simp at this
    omega
  rwa [List.getElem?_take_of_lt hj] at hu
theorem decCells_take (ds : List Dec) (k : Nat) : decCells (ds.take k) = (decCells ds).take (k * 5) := by
  induction ds generalizing k with
  | nil => simp [decCells]
  | cons d l ih =>
    rcases k with _ | k
    · simp [decCells]
    · have e : decCells (d :: l) = d.cells ++ decCells l := by simp [decCells]
      have e2 : decCells (d :: l.take k) = d.cells ++ decCells (l.take k) := by simp [decCells]
      have hx : d.cells.length = 5 := rfl
      rw [List.take_succ_cons, e, e2, ih, show (k + 1) * 5 = 5 + k * 5 from by omega, List.take_append, hx, List.take_of_length_le (l := d.cells) (by omega), show 5 + k * 5 - 5 = k * 5 from by omega]
theorem Led.take {w : World} {A : Option Addr} {c : Nat} {ds : List Dec} (h : Led w (.slice A ds.length c) ds) (k : Nat) (hk : k ≤ ds.length) : Led w (.slice A k c) (ds.take k) := by
  have hl : (ds.take k).length = k := by rw [List.length_take, Nat.min_eq_left hk]
  show Sl w (.slice A k c) 5 (ds.take k).length _
  rw [hl, decCells_take]
  exact Sl.take h k hk
theorem elemDec : ElemOk Try.prog 29 40 5 40 :=
  ElemOk.of (.agg #[.int .i64 0, .int .i64 0, .int .i64 0, .int .i64 0, .int .i64 0]) (by kernel_rfl) (by kernel_rfl) rfl (by decide)

/-- the loop of the generator: what holds when k decisions are still to come -/
structure LedgerAt (w0 w : World) (B g b most : Nat) (k : Nat) (sv : Value) (ds : List Dec) : Prop where
  len : ds.length + k ≤ most
  gen : Gen zeroDec ds
  res : Blk w b 31 #[.slice none 0 0]
  led : Blk w (b + 1) 31 #[sv]
  las : Blk w (b + 1 + 1) 40 (lastD zeroDec ds).cells.toArray
  own : w.ownsRow (b + 3) 40 5 sv ds.length (decCells ds)
  grown : w0.grownBy w (some g)
  dice : DiceOk B w g

def LedgerMade (w : World) (B g most : Nat) (e : Ending) (w' : World) : Prop :=
  ∃ (ds : List Dec) (sv : Value), ds.length ≤ most ∧ Gen zeroDec ds ∧ e = .returned (.agg #[sv]) ∧ Sl w' sv 5 ds.length (decCells ds) ∧ (∀ b, sv.ownBlock = some b → w.heap.size ≤ b) ∧ w.grownBy w' (some g) ∧ DiceOk B w' g

set_option maxHeartbeats 1000000 in
theorem ledger_any (B g most : Nat) (w : World) (hd : DiceOk B w g) (hm : most ≤ 1000) :
    Calls Try.prog 16 #[.pointer (some ⟨g, 0, none⟩), .int .i64 most] w (LedgerMade w B g most) := by
  have hBw := hd.2.1
  have hgB := hd.1
  have hd0 : DiceOk B (((w.alloc (.cells #[.slice none 0 0] 31)).alloc (.cells #[.slice none 0 0] 31)).alloc (.cells #[.int .i64 0, .int .i64 0, .int .i64 0, .int .i64 0, .int .i64 0] 40)) g := ((hd.alloc _).alloc _).alloc _
  have HD := Lib.hid hd
  clear hd
  go_enter Try.func16, Try.ntmps16
  go_wp2_with fail
  refine (next_any B g _ _ hd0 (by omega) (by omega)).mono ?_
  rintro e w1 ⟨v, hv0, hv1, rfl, hg1, hd1⟩
  obtain ⟨k0, rfl⟩ := Int.eq_ofNat_of_zero_le hv0
  have H0 : LedgerAt w w1 B g w.heap.size most k0 (.slice none 0 0) [] := by
    refine ⟨by simp; omega, trivial, ?_, ?_, ?_, World.ownsRow_nil _ _ _ _, only_trans (only_alloc (only_alloc (only_alloc (World.grownBy.refl _ _) _) _) _) hg1, hd1⟩
    · exact (((Blk.new w _ _).alloc _).alloc _).grown hg1 (fun e => by injection e; omega)
    · have h2 := (Blk.new (w.alloc (.cells #[.slice none 0 0] 31)) 31 #[.slice none 0 0]).alloc (.cells #[.int .i64 0, .int .i64 0, .int .i64 0, .int .i64 0, .int .i64 0] 40)
      simp only [World.size_alloc] at h2
      exact h2.grown hg1 (fun e => by injection e; omega)
    · have h2 := Blk.new ((w.alloc (.cells #[.slice none 0 0] 31)).alloc (.cells #[.slice none 0 0] 31)) 40 #[.int .i64 0, .int .i64 0, .int .i64 0, .int .i64 0, .int .i64 0]
      simp only [World.size_alloc] at h2
      exact h2.grown hg1 (fun e => by injection e; omega)
  clear hd0 hd1 hg1 hv0 hv1
  generalize hbx : w.heap.size = bx at *
  have HBX := Lib.hid hbx
  clear hbx
  go_wp2_with fail
  go_loopw [7] (fun kv wr => ∃ (k : Nat) (sv : Value) (ds : List Dec), kv = .int .i64 k ∧ LedgerAt w wr B g bx most k sv ds) (fun kv _ => (intOf kv).toNat)
  case atStart => exact ⟨k0, _, _, rfl, H0⟩
  case round =>
    obtain ⟨k, sv, ds, rfl, hr⟩ := hrel
    clear H0
    obtain ⟨A, c, rfl⟩ := own_slice hr.own
    rcases k with _ | k
    · have c0 := hr.led.cell 0
      have c1 := hr.res.cell 0
      have f1 := hr.res.frozen 0
      have hlen := hr.len
      go_wp2_with fail
      have hset := hr.res.set_ 0 (.slice A ds.length c)
      have hgf := only_setCell hr.grown (p := ⟨bx, 0, none⟩) (.inr (by rw [HBX.out]; exact Nat.le_refl _)) (.slice A ds.length c)
      have hdf := hr.dice.setCell (p := ⟨bx, 0, none⟩) hBw (.slice A ds.length c)
      have hsl : Sl (wr.setCell ⟨bx, 0, none⟩ (.slice A ds.length c)) (.slice A ds.length c) 5 ds.length (decCells ds) := by
        refine (Sl.of_own hr.own).grown (row := some bx) (only_setCell (World.grownBy.refl _ _) (.inl rfl) _) (fun b hb e => ?_)
        have := (hr.own.lt b hb).1
        injection e with e
        omega
      have hown := hr.own
      generalize wr.setCell ⟨bx, 0, none⟩ (.slice A ds.length c) = W5 at *
      have q0 := hset.cell 0
      refine bodyPost_ret (by simp [results, Try.results16, go_sem, q0]; rfl) rfl ?_
      exact ⟨ds, _, by omega, hr.gen, rfl, hsl, fun b hb => by have := (hown.lt b hb).1; rw [HBX.out]; omega, hgf, hdf⟩
    · have hbd := hr.gen.last_bd 0 (by simp [zeroDec])
      have hlen := hr.len
      generalize hl : lastD zeroDec ds = ld at *
      have HL := Lib.hid hl
      obtain ⟨a1, a2, a3, a4, a5⟩ := ld
      simp only [] at hbd
      have hlas := hr.las
      rw [hl] at hlas
      clear hl
      have c0 := hlas.cell 0
      have c1 := hlas.cell 1
      have c2 := hlas.cell 2
      have c3 := hlas.cell 3
      have c4 := hlas.cell 4
      simp only [Dec.cells, List.getElem?_toArray, List.getElem?_cons_zero, List.getElem?_cons_succ] at c0 c1 c2 c3 c4
      go_wp2_with fail
      refine (decision_any B g ⟨a1, a2, a3, a4, a5⟩ wr hr.dice ⟨by show 0 ≤ a1; omega, by show a1 ≤ _; omega, by show 0 ≤ a2; omega, by show a2 ≤ _; omega⟩).mono ?_
      rintro e w2 ⟨v, ⟨⟨d1, d2, d3, d4, d5⟩, hf, rfl⟩, rfl, hg2, hd2⟩
      clear c0 c1 c2 c3 c4
      have hlas2 := hlas.grown hg2 (fun e => by injection e; omega)
      have hled2 := hr.led.grown hg2 (fun e => by injection e; omega)
      have hres2 := hr.res.grown hg2 (fun e => by injection e; omega)
      have hown2 : w2.ownsRow (bx + 3) 40 5 (.slice A ds.length c) ds.length (decCells ds) := own_grown hr.own hg2 (fun b hb e => by
        have := (hr.own.lt b hb).1
        injection e with e
        omega)
      have hgr2 := only_trans hr.grown hg2
      have hgen := hr.gen
      clear hlas hr hg2
      have z0 := hlas2.cell 0
      have z1 := hlas2.cell 1
      have z2 := hlas2.cell 2
      have z3 := hlas2.cell 3
      have z4 := hlas2.cell 4
      simp only [Dec.cells, List.getElem?_toArray, List.getElem?_cons_zero, List.getElem?_cons_succ] at z0 z1 z2 z3 z4
      have y0 := hlas2.frozen 0
      have y1 := hlas2.frozen 1
      have y2 := hlas2.frozen 2
      have y3 := hlas2.frozen 3
      have y4 := hlas2.frozen 4
      unfold Dec.val
      go_upto_region 7 with fail
      have hlas3 := store5 hlas2 (.int .i64 d1) (.int .i64 d2) (.int .i64 d3) (.int .i64 d4) (.int .i64 d5)
      have hgr3 := grown5 (g := bx + 1 + 1) hgr2 (by rw [HBX.out]; omega) (.int .i64 d1) (.int .i64 d2) (.int .i64 d3) (.int .i64 d4) (.int .i64 d5)
      have hd3 := dice5 (g := bx + 1 + 1) hd2 (by omega) (.int .i64 d1) (.int .i64 d2) (.int .i64 d3) (.int .i64 d4) (.int .i64 d5)
      have ho3 := grown5 (a := w2) (w := w2) (g := bx + 1 + 1) (k := bx + 1 + 1) (World.grownBy.refl _ _)
      have hon := only5 w2 (bx + 1 + 1) (.int .i64 d1) (.int .i64 d2) (.int .i64 d3) (.int .i64 d4) (.int .i64 d5)
      have hled3 := hled2.grown hon (fun e => by injection e; omega)
      have hres3 := hres2.grown hon (fun e => by injection e; omega)
      have hown3 := own_grown hown2 hon (fun b hb e => by
        have := (hown2.lt b hb).1
        injection e with e
        omega)
      have hz3 := hlas3.lt
      generalize ((((w2.setCell ⟨bx + 1 + 1, 0, none⟩ (.int .i64 d1)).setCell ⟨bx + 1 + 1, 1, none⟩ (.int .i64 d2)).setCell ⟨bx + 1 + 1, 2, none⟩ (.int .i64 d3)).setCell ⟨bx + 1 + 1, 3, none⟩ (.int .i64 d4)).setCell ⟨bx + 1 + 1, 4, none⟩ (.int .i64 d5) = W3 at *
      clear z0 z1 z2 z3 z4 y0 y1 y2 y3 y4 ho3 hlas2 hled2 hres2 hown2 hgr2 hd2
      have z0 := hlas3.cell 0
      have z1 := hlas3.cell 1
      have z2 := hlas3.cell 2
      have z3 := hlas3.cell 3
      have z4 := hlas3.cell 4
      simp only [List.getElem?_toArray, List.getElem?_cons_zero, List.getElem?_cons_succ] at z0 z1 z2 z3 z4
      have c0 := hled3.cell 0
      simp only [List.getElem?_toArray, List.getElem?_cons_zero] at c0
      have hsrc := Sl.made W3 40 1 5 #[.int .i64 d1, .int .i64 d2, .int .i64 d3, .int .i64 d4, .int .i64 d5] rfl (by simp [maxLen])
      go_wp2_with (at_builtin; refine wpList_app elemDec rfl _ _ rfl (bx + 3) (.slice A ds.length c) ds.length (decCells ds) rfl (own_grown hown3 (only_alloc (World.grownBy.refl _ none) _) (fun _ _ e => by cases e)) _ _ _ _ rfl hsrc (by simp [Value.oneCell']) (by omega) (by omega) (by simp; omega) ?_; intro v' w4 hown4 hg4 hat4; obtain ⟨A', c', rfl⟩ := own_slice hown4; have hled4 := (hled3.alloc (.cells #[.int .i64 d1, .int .i64 d2, .int .i64 d3, .int .i64 d4, .int .i64 d5] 40)).grown hg4 (fun e => by have := (hown3.lt _ e.symm).1; omega); have z5 := hled4.cell 0; have y5 := hled4.frozen 0; simp only [List.getElem?_toArray, List.getElem?_cons_zero] at z5)
      go_roundw
      case measure => simp [intOf]
      case rel =>
        have hal := only_alloc (World.grownBy.refl W3 none) (.cells #[.int .i64 d1, .int .i64 d2, .int .i64 d3, .int .i64 d4, .int .i64 d5] 40)
        have hob : ∀ b, (Value.slice A ds.length c).ownBlock = some b → bx + 3 ≤ b := fun b hb => (hown3.lt b hb).1
        have hob' : ∀ b, (Value.slice A' (ds.length + 1) c').ownBlock = some b → bx + 3 ≤ b := fun b hb => (hown4.lt b hb).1
        have hw4 : ∀ i, i < bx + 3 → w4.heap[i]? = W3.heap[i]? := fun i hi => by
          have h1 := hg4.block i (by simp; omega) (fun e => by have := hob i e.symm; omega)
          exact h1.trans (hal.block i (by omega) (by simp))
        have hz4 : W3.heap.size ≤ w4.heap.size := by have := hg4.size; simp at this; omega
        have hs5 : ∀ i, i ≠ bx + 1 → (w4.setCell ⟨bx + 1, 0, none⟩ (.slice A' (ds.length + 1) c')).heap[i]? = w4.heap[i]? := fun i hi => Below.heap_setCell _ _ _ i hi
        refine ⟨k, .slice A' (ds.length + 1) c', ds ++ [⟨d1, d2, d3, d4, d5⟩], rfl, ?_⟩
        refine ⟨by simp; omega, hgen.snoc (by rw [HL.out]; exact hf), ?_, ?_, ?_, ?_, ?_, ?_⟩
        · exact ((hs5 bx (by omega)).trans (hw4 bx (by omega))).trans hres3
        · exact hled4.set_ 0 (.slice A' (ds.length + 1) c')
        · rw [lastD_snoc]
          exact ((hs5 (bx + 1 + 1) (by omega)).trans (hw4 (bx + 1 + 1) (by omega))).trans hlas3
        · rw [decCells_snoc, List.length_append]
          exact own_grown hown4 (only_setCell (World.grownBy.refl _ (some (bx + 1))) (.inl rfl) _) (fun b hb e => by have := hob' b hb; injection e with e; omega)
        · refine only_setCell ?_ (.inr (by rw [HBX.out]; show bx ≤ bx + 1; omega)) _
          refine ⟨hg4.os.trans (hal.os.trans hgr3.os), hg4.tape.trans (hal.tape.trans hgr3.tape), hg4.output.trans (hal.output.trans hgr3.output), Nat.le_trans hgr3.size hz4, fun i hi hne => ?_⟩
          exact (hw4 i (by rw [HBX.out] at hi; omega)).trans (hgr3.block i hi hne)
        · refine (hd3.keep (fun i hi => ?_) hz4).setCell (by show B ≤ bx + 1; omega) _
          exact hw4 i (by omega)
end Go.Proofs.Ytnimpcffagidoaa
