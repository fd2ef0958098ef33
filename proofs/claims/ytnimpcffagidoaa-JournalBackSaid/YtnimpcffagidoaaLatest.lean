/-
  Latest of the program.
-/
import Derived.Test.YtnimpcffagidoaaBackward
namespace Go.Proofs.Ytnimpcffagidoaa
open Go.RowKit Go.Shelf

attribute [local go_sem] Oper.semAt_some

theorem blk_own {β : Type} (B : Nat) (t : TypeId) (f : β → Array Value) : Go.Own (fun s W => Blk W B t (f s)) := fun s X Y row hs hg hrow =>
  hs.grown hg (fun e' => by obtain ⟨o, ho, hc⟩ := hrow B e'.symm; rw [show X.heap[B]? = _ from hs] at ho; cases ho; cases hc)

/-- is this a decision of that kind on that subject? -/
def isOn (kind subject : Int) (d : Dec) : Bool := decide (d.kind = kind) && decide (d.subject = subject)
/-- the last one of them up to a day -/
def latestR (ds : List Dec) (kind subject day : Int) : Option Dec := (ds.take (cnt ds day)).reverse.find? (isOn kind subject)

theorem backs_map (ds : List Dec) (k : Nat) (hk : k ≤ ds.length) : (backs ds k).map (·.2) = ds.reverse.take k := by
  apply List.ext_getElem
  · simp [backs, hk]
  · intro i h1 h2
    have hi : i < k := by simpa [backs] using h1
    have h3 : ds.length - 1 - i < ds.length := by omega
    simp [backs, h3]
theorem find_none (ds : List Dec) (f : Dec → Bool) (h : ∀ p ∈ backs ds ds.length, f p.2 = false) : ds.reverse.find? f = none := by
  have e := backs_map ds ds.length (Nat.le_refl _)
  rw [List.take_of_length_le (by simp)] at e
  rw [← e, List.find?_eq_none]
  intro x hx
  obtain ⟨p, hp, rfl⟩ := List.mem_map.1 hx
  simp [h p hp]
theorem find_some (ds : List Dec) (f : Dec → Bool) (k : Nat) (hk : k ≤ ds.length) (ini : List (Nat × Dec)) (l : Nat × Dec) (h : backs ds k = ini ++ [l]) (hi : ∀ p ∈ ini, f p.2 = false) (hl : f l.2 = true) : ds.reverse.find? f = some l.2 := by
  have e := backs_map ds k hk
  rw [h] at e
  rw [← List.take_append_drop k ds.reverse, ← e, List.map_append, List.append_assoc, List.find?_append, List.find?_eq_none.2, Option.none_or]
  · simp [hl]
  · intro x hx
    obtain ⟨p, hp, rfl⟩ := List.mem_map.1 hx
    simp [hi p hp]

theorem finish (t : Array Value) (w : World) (S D : Nat) (Z : World) (d : Dec) (b : Bool) (hS : S = w.heap.size) (hK : Z.heap[D]? = some (.deferred (some []))) (hD : S ≤ D)
    (m1 : Blk Z (S + 1 + 1 + 1) 40 #[.int .i64 d.day, .int .i64 d.known, .int .i64 d.kind, .int .i64 d.subject, .int .i64 d.value]) (m2 : Blk Z (S + 1 + 1 + 1 + 1) 4 #[.bool b]) (m3 : Below S w Z)
    (h8 : t[8]? = some (.pointer (some ⟨S + 1 + 1 + 1, 0, none⟩))) (h9 : t[9]? = some (.pointer (some ⟨S + 1 + 1 + 1 + 1, 0, none⟩))) :
    bodyPostM Fence.wide 8 Try.prog Try.f27 (fun r w' => r = .returned (.tuple #[d.val, .bool b]) ∧ Below w.heap.size w w') .ret { tmps := t, defers := [{ target := .collected D, args := #[] }] } Z := by
  refine ⟨by simp, .inl ⟨_, _, rfl, run_takeDeferred hK, ?_⟩⟩
  have hne8 : some (S + 1 + 1 + 1) ≠ some D := fun e => by
    injection e with e; subst e; unfold Blk at m1; rw [m1] at hK; cases hK
  have hne9 : some (S + 1 + 1 + 1 + 1) ≠ some D := fun e => by
    injection e with e; subst e; unfold Blk at m2; rw [m2] at hK; cases hK
  have n1 := m1.grown (grownBy_putObj' Z D (.deferred none)) hne8
  have n2 := m2.grown (grownBy_putObj' Z D (.deferred none)) hne9
  have q0 := n1.cell 0
  have q1 := n1.cell 1
  have q2 := n1.cell 2
  have q3 := n1.cell 3
  have q4 := n1.cell 4
  have q5 := n2.cell 0
  simp only [List.getElem?_toArray, List.getElem?_cons_zero, List.getElem?_cons_succ] at q0 q1 q2 q3 q4 q5
  refine ⟨.tuple #[d.val, .bool b], ?_, rfl, ?_⟩
  · simp [results, Try.f27, go_sem, q0, q1, q2, q3, q4, q5, h8, h9, Dec.val]
  · rw [← hS]
    exact m3.trans ((Below.refl S Z).grown (grownBy_putObj' Z D (.deferred none)) (by have := m3.size; omega) (fun k e => by cases e; omega))
set_option maxRecDepth 100000 in
set_option maxHeartbeats 1000000 in
theorem latest_any (A : Option Addr) (c : Nat) (ds : List Dec) (kind subject day : Int) (w : World) (h : Led w (.slice A ds.length c) ds) (hs : Days ds) (hn : ds.length ≤ 100000) :
    Calls Try.prog 27 #[.agg #[.slice A ds.length c], .int .i64 kind, .int .i64 subject, .int .i64 day] w fun r w' =>
      r = .returned (.tuple #[((latestR ds kind subject day).getD zeroDec).val, .bool (latestR ds kind subject day).isSome]) ∧ Below w.heap.size w w' := by
  have hcl := cnt_le ds day
  have htl : (ds.take (cnt ds day)).length = cnt ds day := by rw [List.length_take, Nat.min_eq_left hcl]
  refine (callsIn_wide (n := 8)).1 ?_
  refine callsIn_of_wp_marks Try.func27 rfl trivial ?_ rfl
  simp only [Try.ntmps27, List.size_toArray, List.length_cons, List.length_nil, Nat.reduceAdd, Nat.reduceSub, Array.replicate_succ, Array.replicate_zero, List.push_toArray, List.append_toArray, List.nil_append, List.cons_append]
  gi_wp2_with fail
  refine ⟨trivial, ?_⟩
  obtain ⟨S, hS⟩ : ∃ S, S = w.heap.size := ⟨_, rfl⟩
  obtain ⟨Wa, ha⟩ : ∃ Wa, Wa = w.alloc (.cells #[.slice A ds.length c] 31) := ⟨_, rfl⟩
  obtain ⟨Wb, hb⟩ : ∃ Wb, Wb = Wa.alloc (.cells #[.int .i64 kind] 3) := ⟨_, rfl⟩
  obtain ⟨Wc, hc⟩ : ∃ Wc, Wc = Wb.alloc (.cells #[.int .i64 subject] 3) := ⟨_, rfl⟩
  obtain ⟨Wd, hd⟩ : ∃ Wd, Wd = Wc.alloc (.cells #[.int .i64 0, .int .i64 0, .int .i64 0, .int .i64 0, .int .i64 0] 40) := ⟨_, rfl⟩
  obtain ⟨We, he⟩ : ∃ We, We = Wd.alloc (.cells #[.bool false] 4) := ⟨_, rfl⟩
  rw [← ha, ← hb, ← hc, ← hd, ← he, ← hS]
  have sa : Wa.heap.size = S + 1 := by rw [ha, World.size_alloc, hS]
  have sb : Wb.heap.size = S + 1 + 1 := by rw [hb, World.size_alloc, sa]
  have sc : Wc.heap.size = S + 1 + 1 + 1 := by rw [hc, World.size_alloc, sb]
  have sd : Wd.heap.size = S + 1 + 1 + 1 + 1 := by rw [hd, World.size_alloc, sc]
  have se : We.heap.size = S + 1 + 1 + 1 + 1 + 1 := by rw [he, World.size_alloc, sd]
  have h5 : Led We (.slice A ds.length c) ds := by
    rw [he, hd, hc, hb, ha]; exact ((((h.alloc _).alloc _).alloc _).alloc _).alloc _
  have b5 : Below S w We := by
    rw [he, hd, hc, hb, ha, hS]
    have e1 := (Below.refl w.heap.size w).alloc (Nat.le_refl _) (.cells #[.slice A ds.length c] 31)
    have e2 := e1.alloc e1.size (.cells #[.int .i64 kind] 3)
    have e3 := e2.alloc e2.size (.cells #[.int .i64 subject] 3)
    have e4 := e3.alloc e3.size (.cells #[.int .i64 0, .int .i64 0, .int .i64 0, .int .i64 0, .int .i64 0] 40)
    exact e4.alloc e4.size _
  have kb : Blk We (S + 1) 3 #[.int .i64 kind] := by
    rw [he, hd, hc]; refine Blk.alloc (Blk.alloc (Blk.alloc ?_ _) _) _; rw [hb, ← sa]; exact Blk.new _ _ _
  have kc : Blk We (S + 1 + 1) 3 #[.int .i64 subject] := by
    rw [he, hd]; refine Blk.alloc (Blk.alloc ?_ _) _; rw [hc, ← sb]; exact Blk.new _ _ _
  have kd : Blk We (S + 1 + 1 + 1) 40 #[.int .i64 0, .int .i64 0, .int .i64 0, .int .i64 0, .int .i64 0] := by
    rw [he]; refine Blk.alloc ?_ _; rw [hd, ← sc]; exact Blk.new _ _ _
  have ke : Blk We (S + 1 + 1 + 1 + 1) 4 #[.bool false] := by
    rw [he, ← sd]; exact Blk.new _ _ _
  clear ha hb hc hd he sa sb sc sd h
  refine (callsIn_wide.2 (until_any A c ds day We h5 hs hn)).mono ?_
  rintro r w1 ⟨rfl, hb1⟩
  have hL1 := Led.take (h5.ext hb1) (cnt ds day) hcl
  have hsz := hb1.size
  have b6 := below_step b5 hb1 (by omega)
  have kb1 := kb.ext hb1
  have kc1 := kc.ext hb1
  have kd1 := kd.ext hb1
  have ke1 := ke.ext hb1
  clear h5 hs b5 hb1 kb kc kd ke
  have hlr : latestR ds kind subject day = (ds.take (cnt ds day)).reverse.find? (isOn kind subject) := rfl
  generalize cnt ds day = q at *
  generalize ds.take q = dq at *
  subst htl
  have HS := Lib.hid hS
  clear hS
  gi_wp2_with (refine ⟨trivial, ?_⟩; gi_at_call 61; refine (back_in Fence.wide 7 trivial rfl _ _ _ _).mono ?_; rintro e w' ⟨rfl, rfl⟩)
  obtain ⟨S2, hS2⟩ : ∃ S2, S2 = w1.heap.size := ⟨_, rfl⟩
  obtain ⟨W, hW⟩ : ∃ W, W = w1.alloc (.cells #[.slice A dq.length c] 29) := ⟨_, rfl⟩
  rw [← hW, ← hS2]
  have hsW : W.heap.size = S2 + 1 := by rw [hW, World.size_alloc, hS2]
  have hLW : Led W (.slice A dq.length c) dq := by rw [hW]; exact hL1.alloc _
  have kn : Blk W S2 29 #[.slice A dq.length c] := by rw [hW, hS2]; exact Blk.new _ _ _
  have kb : Blk W (S + 1) 3 #[.int .i64 kind] := by rw [hW]; exact kb1.alloc _
  have kc : Blk W (S + 1 + 1) 3 #[.int .i64 subject] := by rw [hW]; exact kc1.alloc _
  have kd : Blk W (S + 1 + 1 + 1) 40 #[.int .i64 0, .int .i64 0, .int .i64 0, .int .i64 0, .int .i64 0] := by rw [hW]; exact kd1.alloc _
  have ke : Blk W (S + 1 + 1 + 1 + 1) 4 #[.bool false] := by rw [hW]; exact ke1.alloc _
  have bW : Below S w W := by rw [hW]; exact b6.alloc (by have := b6.size; have := HS.out; omega) _
  have hln : dq.length ≤ 100000 := by omega
  have hge : S + 1 + 1 + 1 + 1 < S2 := by rw [hS2]; exact ke1.lt
  clear hW b6 kb1 kc1 kd1 ke1 hL1 hsz se hcl hS2
  refine wpIn_rangeFunc_ownH rfl (by decide) (gf := 69) (lb := #[.pointer (some ⟨S2, 0, none⟩)]) rfl trivial (enters_of Try.func69 (by kernel_rfl) rfl)
    (back_stops Fence.wide _ trivial rfl (by decide) S2 c A dq hln W (by omega) (kn.cell 0) hLW) belowK_t (belowK_b (Nat.le_refl _)) (Below.refl _ _) (fun _ => rfl)
    (fun pre X => (∀ p ∈ pre, isOn kind subject p.2 = false) ∧ Below W.heap.size W X)
    (fun cd pre X => ∃ (ini : List (Nat × Dec)) (l : Nat × Dec), cd = .ret ∧ pre = ini ++ [l] ∧ (∀ p ∈ ini, isOn kind subject p.2 = false) ∧ isOn kind subject l.2 = true ∧ Blk X (S + 1 + 1 + 1) 40 l.2.cells.toArray ∧ Blk X (S + 1 + 1 + 1 + 1) 4 #[.bool true] ∧ Below S w X)
    (OwnFrom.and (ownFrom_pure _ _) (ownFrom_below (Nat.le_refl _) (Nat.le_refl _)))
    (fun cd s X Y row hs hg hr => by
      obtain ⟨ini, l, e1, e2, e3, e4, e5, e6, e7⟩ := hs
      exact ⟨ini, l, e1, e2, e3, e4, blk_own _ _ (fun (_ : Unit) => _) () X Y row e5 hg (fun r e => (hr r e).2), blk_own _ _ (fun (_ : Unit) => _) () X Y row e6 hg (fun r e => (hr r e).2), ownFrom_below (n₀ := S) (w₀ := w) (B := W.heap.size) (by have := HS.out; omega) (by omega) () X Y row e7 hg hr⟩)
    ⟨by simp, Below.refl _ _⟩
    (fun x a' X => ∃ Bx, W.heap.size ≤ Bx ∧ Blk X Bx 40 x.2.cells.toArray ∧ a' = { tmps := #[.agg #[.slice A ds.length c], .int .i64 kind, .int .i64 subject, .int .i64 day, .pointer (some ⟨S, 0, none⟩), .pointer (some ⟨S + 1, 0, none⟩), .pointer (some ⟨S + 1 + 1, 0, none⟩), undef, .pointer (some ⟨S + 1 + 1 + 1, 0, none⟩), .pointer (some ⟨S + 1 + 1 + 1 + 1, 0, none⟩), undef, .pointer (some ⟨Bx, 0, none⟩), .agg #[.slice A ds.length c], .int .i64 day, .slice A dq.length c, .func (.func 69) #[] #[.pointer (some ⟨S2, 0, none⟩)], .int .i64 (x.1 : Int), x.2.val, undef, undef, undef, undef, undef, undef, undef, undef, undef, undef, undef, undef], defers := [] })
    (fun x a' _ X Y row hs hg hr => by obtain ⟨Bx, e1, e2, e3⟩ := hs; exact ⟨Bx, e1, blk_own Bx _ (fun (_ : Unit) => _) () X Y row e2 hg (fun r e => (hr r e).2), e3⟩)
    ?assign ?body ?done ?stop
  case assign =>
    rintro l pre ⟨x1, d1, d2, d3, d4, d5⟩ X K ⟨hp, hB⟩ hK
    simp only [Dec.val, Dec.cells] at hK ⊢
    gi_wp2
    exact hK _ _ ((KeepsOthers.alloc _ _).from _) ((Below.refl _ X).alloc hB.size _) ⟨hp, hB.alloc hB.size _⟩ ⟨X.heap.size, hB.size, Blk.new X _ _, rfl⟩
  case body =>
    rintro l pre ⟨x1, d1, d2, d3, d4, d5⟩ a' X hl ⟨r, hr⟩ ⟨hp, hB⟩ ⟨Bx, hBx, bX, rfl⟩ hlt
    simp only [Dec.val, Dec.cells] at bX ⊢
    have q2 := bX.cell 2
    have q3 := bX.cell 3
    have q0 := bX.cell 0
    have q1 := bX.cell 1
    have q4 := bX.cell 4
    have c5 := (kb.ext hB).cell 0
    have c6 := (kc.ext hB).cell 0
    have c8 := (kd.ext hB).frozen
    have c9 := (ke.ext hB).frozen
    have f80 := c8 0
    have f81 := c8 1
    have f82 := c8 2
    have f83 := c8 3
    have f84 := c8 4
    have f90 := c9 0
    have g8 := (kd.ext hB).cell
    have g80 := g8 0
    have g81 := g8 1
    have g82 := g8 2
    have g83 := g8 3
    have g84 := g8 4
    have g9 := (ke.ext hB).cell 0
    clear c8 c9 g8
    simp only [List.getElem?_toArray, List.getElem?_cons_zero, List.getElem?_cons_succ] at q0 q1 q2 q3 q4 c5 c6 g80 g81 g82 g83 g84 g9
    have HP := Lib.hid hp
    clear hp
    by_cases hk : d3 = kind
    · by_cases hs : d4 = subject
      · subst hk hs
        have n8 := kd.ext hB
        have n9 := ke.ext hB
        have nB := bW.trans (hB.mono (by have := bW.size; have := HS.out; omega))
        have k1 := ((((KeepsOthers.setCell X ⟨S + 1 + 1 + 1, 0, none⟩ (.int .i64 d1)).trans (KeepsOthers.setCell _ ⟨S + 1 + 1 + 1, 1, none⟩ (.int .i64 d2))).trans (KeepsOthers.setCell _ ⟨S + 1 + 1 + 1, 2, none⟩ (.int .i64 d3))).trans (KeepsOthers.setCell _ ⟨S + 1 + 1 + 1, 3, none⟩ (.int .i64 d4))).trans (KeepsOthers.setCell _ ⟨S + 1 + 1 + 1, 4, none⟩ (.int .i64 d5))
        have k2 := k1.trans (KeepsOthers.setCell _ ⟨S + 1 + 1 + 1 + 1, 0, none⟩ (.bool true))
        clear k1
        gi_wp2
        refine ⟨k2.from _, pre, (x1, ⟨d1, d2, d3, d4, d5⟩), rfl, rfl, HP.out, by simp [isOn], ?_, ?_, ?_⟩
        · have m1 := (((((n8.set_ 0 (.int .i64 d1)).set_ 1 (.int .i64 d2)).set_ 2 (.int .i64 d3)).set_ 3 (.int .i64 d4)).set_ 4 (.int .i64 d5)).far (p := ⟨S + 1 + 1 + 1 + 1, 0, none⟩) (by show S + 1 + 1 + 1 ≠ S + 1 + 1 + 1 + 1; omega) (.bool true)
          exact m1
        · have m1 := ((((n9.far (p := ⟨S + 1 + 1 + 1, 0, none⟩) (by show S + 1 + 1 + 1 + 1 ≠ S + 1 + 1 + 1; omega) (.int .i64 d1)).far (p := ⟨S + 1 + 1 + 1, 1, none⟩) (by show S + 1 + 1 + 1 + 1 ≠ S + 1 + 1 + 1; omega) (.int .i64 d2)).far (p := ⟨S + 1 + 1 + 1, 2, none⟩) (by show S + 1 + 1 + 1 + 1 ≠ S + 1 + 1 + 1; omega) (.int .i64 d3)).far (p := ⟨S + 1 + 1 + 1, 3, none⟩) (by show S + 1 + 1 + 1 + 1 ≠ S + 1 + 1 + 1; omega) (.int .i64 d4)).far (p := ⟨S + 1 + 1 + 1, 4, none⟩) (by show S + 1 + 1 + 1 + 1 ≠ S + 1 + 1 + 1; omega) (.int .i64 d5)
          exact m1.set_ 0 (.bool true)
        · have m1 := ((((nB.setCell (p := ⟨S + 1 + 1 + 1, 0, none⟩) (by show S ≤ S + 1 + 1 + 1; omega) (.int .i64 d1)).setCell (p := ⟨S + 1 + 1 + 1, 1, none⟩) (by show S ≤ S + 1 + 1 + 1; omega) (.int .i64 d2)).setCell (p := ⟨S + 1 + 1 + 1, 2, none⟩) (by show S ≤ S + 1 + 1 + 1; omega) (.int .i64 d3)).setCell (p := ⟨S + 1 + 1 + 1, 3, none⟩) (by show S ≤ S + 1 + 1 + 1; omega) (.int .i64 d4)).setCell (p := ⟨S + 1 + 1 + 1, 4, none⟩) (by show S ≤ S + 1 + 1 + 1; omega) (.int .i64 d5)
          exact m1.setCell (p := ⟨S + 1 + 1 + 1 + 1, 0, none⟩) (by show S ≤ S + 1 + 1 + 1 + 1; omega) (.bool true)
      · gi_wp2
        exact ⟨KeepsFrom.refl _ _, Below.refl _ _, fun p hp => (List.mem_append.1 hp).elim (HP.out p) (fun e => by simp at e; subst e; simp [isOn, hs]), hB⟩
    · gi_wp2
      exact ⟨KeepsFrom.refl _ _, Below.refl _ _, fun p hp => (List.mem_append.1 hp).elim (HP.out p) (fun e => by simp at e; subst e; simp [isOn, hk]), hB⟩
  case done =>
    rintro D ys X hD rfl ⟨hp, hB⟩ hK
    have hnone := find_none dq _ hp
    have n8 := kd.ext hB
    have n9 := ke.ext hB
    have nB := bW.trans (hB.mono (by have := bW.size; have := HS.out; omega))
    have c8 := n8.frozen
    have c9 := n9.frozen
    have f80 := c8 0
    have f81 := c8 1
    have f82 := c8 2
    have f83 := c8 3
    have f84 := c8 4
    have f90 := c9 0
    have g8 := n8.cell
    have g80 := g8 0
    have g81 := g8 1
    have g82 := g8 2
    have g83 := g8 3
    have g84 := g8 4
    have g9 := n9.cell 0
    clear c8 c9 g8
    simp only [List.getElem?_toArray, List.getElem?_cons_zero, List.getElem?_cons_succ] at g80 g81 g82 g83 g84 g9
    have HN := Lib.hid hnone
    clear hnone hp
    have k1 := ((((KeepsOthers.setCell X ⟨S + 1 + 1 + 1, 0, none⟩ (.int .i64 0)).trans (KeepsOthers.setCell _ ⟨S + 1 + 1 + 1, 1, none⟩ (.int .i64 0))).trans (KeepsOthers.setCell _ ⟨S + 1 + 1 + 1, 2, none⟩ (.int .i64 0))).trans (KeepsOthers.setCell _ ⟨S + 1 + 1 + 1, 3, none⟩ (.int .i64 0))).trans (KeepsOthers.setCell _ ⟨S + 1 + 1 + 1, 4, none⟩ (.int .i64 0))
    have k2 := k1.trans (KeepsOthers.setCell _ ⟨S + 1 + 1 + 1 + 1, 0, none⟩ (.bool false))
    have hK' := k2.same D _ hK rfl
    have m1 := (((((n8.set_ 0 (.int .i64 0)).set_ 1 (.int .i64 0)).set_ 2 (.int .i64 0)).set_ 3 (.int .i64 0)).set_ 4 (.int .i64 0)).far (p := ⟨S + 1 + 1 + 1 + 1, 0, none⟩) (by show S + 1 + 1 + 1 ≠ S + 1 + 1 + 1 + 1; omega) (.bool false)
    have m2 := (((((n9.far (p := ⟨S + 1 + 1 + 1, 0, none⟩) (by show S + 1 + 1 + 1 + 1 ≠ S + 1 + 1 + 1; omega) (.int .i64 0)).far (p := ⟨S + 1 + 1 + 1, 1, none⟩) (by show S + 1 + 1 + 1 + 1 ≠ S + 1 + 1 + 1; omega) (.int .i64 0)).far (p := ⟨S + 1 + 1 + 1, 2, none⟩) (by show S + 1 + 1 + 1 + 1 ≠ S + 1 + 1 + 1; omega) (.int .i64 0)).far (p := ⟨S + 1 + 1 + 1, 3, none⟩) (by show S + 1 + 1 + 1 + 1 ≠ S + 1 + 1 + 1; omega) (.int .i64 0)).far (p := ⟨S + 1 + 1 + 1, 4, none⟩) (by show S + 1 + 1 + 1 + 1 ≠ S + 1 + 1 + 1; omega) (.int .i64 0)).set_ 0 (.bool false)
    have m3 := (((((nB.setCell (p := ⟨S + 1 + 1 + 1, 0, none⟩) (by show S ≤ S + 1 + 1 + 1; omega) (.int .i64 0)).setCell (p := ⟨S + 1 + 1 + 1, 1, none⟩) (by show S ≤ S + 1 + 1 + 1; omega) (.int .i64 0)).setCell (p := ⟨S + 1 + 1 + 1, 2, none⟩) (by show S ≤ S + 1 + 1 + 1; omega) (.int .i64 0)).setCell (p := ⟨S + 1 + 1 + 1, 3, none⟩) (by show S ≤ S + 1 + 1 + 1; omega) (.int .i64 0)).setCell (p := ⟨S + 1 + 1 + 1, 4, none⟩) (by show S ≤ S + 1 + 1 + 1; omega) (.int .i64 0)).setCell (p := ⟨S + 1 + 1 + 1 + 1, 0, none⟩) (by show S ≤ S + 1 + 1 + 1 + 1; omega) (.bool false)
    clear k1 k2 n8 n9 nB hB
    gi_wp2
    generalize ((((((X.setCell ⟨S + 1 + 1 + 1, 0, none⟩ (.int .i64 0)).setCell ⟨S + 1 + 1 + 1, 1, none⟩ (.int .i64 0)).setCell ⟨S + 1 + 1 + 1, 2, none⟩ (.int .i64 0)).setCell ⟨S + 1 + 1 + 1, 3, none⟩ (.int .i64 0)).setCell ⟨S + 1 + 1 + 1, 4, none⟩ (.int .i64 0)).setCell ⟨S + 1 + 1 + 1 + 1, 0, none⟩ (.bool false)) = Z at *
    clear f80 f81 f82 f83 f84 f90 g80 g81 g82 g83 g84 g9 hK
    rw [hlr, HN.out]
    exact finish _ _ S _ _ zeroDec false HS.out hK' (by omega) m1 m2 m3 rfl rfl
  case stop =>
    rintro D cd pre X hD ⟨k, hk, hpre⟩ ⟨ini, l, rfl, e2, e3, e4, e5, e6, e7⟩ hK
    have hfin := find_some dq _ k hk ini l (hpre ▸ e2) e3 e4
    have HN := Lib.hid hfin
    clear hfin
    gi_wp2
    rw [hlr, HN.out]
    exact finish _ _ S _ _ l.2 true HS.out hK (by omega) e5 e6 e7 rfl rfl
end Go.Proofs.Ytnimpcffagidoaa
