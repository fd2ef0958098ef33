/-
  Then of the program.
-/
import Derived.Test.YtnimpcffagidoaaClone
namespace Go.Proofs.Ytnimpcffagidoaa
open Go.RowKit
set_option linter.unusedSimpArgs false
set_option linter.unusedVariables false

theorem own_more {w : World} {B B' : Nat} {e : TypeId} {size n : Nat} {v : Value} {xs : List Value} (h : w.ownsRow B e size v n xs) (hB : B' ≤ B) : w.ownsRow B' e size v n xs := by
  refine ⟨h.1, ?_⟩
  rcases h.2 with ⟨rfl, rfl⟩ | ⟨g, cap, cur, rfl, h1, h2⟩
  · exact .inl ⟨rfl, rfl⟩
  · exact .inr ⟨g, cap, cur, rfl, by omega, h2⟩
theorem own_ext {w w' : World} {B : Nat} {e : TypeId} {size n : Nat} {v : Value} {xs : List Value} (h : w.ownsRow B e size v n xs) (hb : Below w.heap.size w w') : w'.ownsRow B e size v n xs :=
  own_grown h (only_of_below hb none) (fun _ _ e => by cases e)

set_option maxHeartbeats 400000 in
theorem then_any (A : Option Addr) (c : Nat) (ds : List Dec) (day : Int) (w : World) (h : Led w (.slice A ds.length c) ds) (hs : Days ds) (hn : ds.length ≤ 100000) :
    Calls Try.prog 34 #[.agg #[.slice A ds.length c], .int .i64 day] w fun r w' => ∃ sv, r = .returned (.agg #[sv]) ∧ Own w' w.heap.size sv (ds.take (cnt ds day)) ∧ Below w.heap.size w w' := by
  have hcl := cnt_le ds day
  have htl : (ds.take (cnt ds day)).length = cnt ds day := by rw [List.length_take, Nat.min_eq_left hcl]
  have HL := Lib.hid ((h.alloc (.cells #[.slice A ds.length c] 31)).alloc (.cells #[.slice none 0 0] 31))
  have HS := Lib.hid hs
  have HT := Lib.hid htl
  clear h hs htl
  go_enter Try.func34, Try.ntmps34
  go_wp2_with fail
  have hr0 := Blk.new (w.alloc (.cells #[.slice A ds.length c] 31)) 31 #[.slice none 0 0]
  have hb0 : Below w.heap.size w ((w.alloc (.cells #[.slice A ds.length c] 31)).alloc (.cells #[.slice none 0 0] 31)) := ((Below.refl _ _).alloc (Nat.le_refl _) _).alloc (by simp) _
  simp only [World.size_alloc] at hr0
  refine (until_any A c ds day _ HL.out HS.out hn).mono ?_
  rintro r w1 ⟨rfl, hb1⟩
  have HL1 := Lib.hid (Led.take (HL.out.ext hb1) (cnt ds day) hcl)
  have hr1 := hr0.ext hb1
  have hbw1 := below_step hb0 hb1 hb0.size
  clear hr0 hb0 hb1
  go_wp2_with fail
  have hcl1 := clone_any A c (ds.take (cnt ds day)) w1 (by rw [HT.out]; exact HL1.out) (by rw [HT.out]; omega)
  rw [HT.out] at hcl1
  refine hcl1.mono ?_
  rintro r w2 ⟨sv, rfl, hown, hb2⟩
  clear hcl1
  have hr2 := hr1.ext hb2
  have hbw2 := below_step hbw1 hb2 hbw1.size
  unfold Own at hown
  rw [HT.out] at hown
  have hown2 := own_more hown hbw1.size
  obtain ⟨A2, c2, rfl⟩ := own_slice hown
  have z0 := hr2.cell 0
  have f0 := hr2.frozen 0
  simp only [List.getElem?_toArray, List.getElem?_cons_zero] at z0
  have hlt := hr1.lt
  have HO := Lib.hid hown
  have HO2 := Lib.hid hown2
  clear hown hown2
  go_wp2_with fail
  have hfin := hr2.set_ 0 (.slice A2 (cnt ds day) c2)
  have hgf := only_setCell (World.grownBy.refl w2 (some (w.heap.size + 1))) (p := ⟨w.heap.size + 1, 0, none⟩) (.inl rfl) (.slice A2 (cnt ds day) c2)
  have hown3 := own_grown HO2.out hgf (fun b hb e => by
    have := (HO.out.lt b hb).1
    injection e with e
    omega)
  have hbw3 := hbw2.setCell (p := ⟨w.heap.size + 1, 0, none⟩) (by show w.heap.size ≤ w.heap.size + 1; omega) (.slice A2 (cnt ds day) c2)
  generalize w2.setCell ⟨w.heap.size + 1, 0, none⟩ (.slice A2 (cnt ds day) c2) = W5 at *
  have q0 := hfin.cell 0
  refine bodyPost_ret (by simp [results, Try.results34, go_sem, q0]; rfl) rfl ?_
  refine ⟨_, rfl, ?_, hbw3⟩
  unfold Own
  rw [HT.out]
  exact hown3
end Go.Proofs.Ytnimpcffagidoaa
