/-
  The first difference of two ledgers; equality.
-/
import Derived.Test.YtnimpcffagidoaaMoveLedger2
import Derived.Deep.QuietTactic
import Derived.BigQuiet
namespace Go.Proofs.Ytnimpcffagidoaa
open Go.RowKit
set_option linter.unusedSimpArgs false
set_option linter.unusedVariables false

theorem take_snoc2 {α : Type} {l : List α} {k : Nat} {d : α} (h : l[k]? = some d) : l.take (k + 1) = l.take k ++ [d] := by
  rw [List.take_add_one, h]; rfl
instance : DecidableEq Dec := fun a b => decidable_of_iff (a.day = b.day ∧ a.known = b.known ∧ a.kind = b.kind ∧ a.subject = b.subject ∧ a.value = b.value) (by cases a; cases b; simp)

theorem neq_dec (d d' : Dec) (w : World) : (binOp .neq 40 (.agg #[.int .i64 d.day, .int .i64 d.known, .int .i64 d.kind, .int .i64 d.subject, .int .i64 d.value]) (.agg #[.int .i64 d'.day, .int .i64 d'.known, .int .i64 d'.kind, .int .i64 d'.subject, .int .i64 d'.value])).run Try.prog w = .ok (.bool (!decide (d = d'))) w := by
  obtain ⟨a, b, c, d, e⟩ := d
  obtain ⟨a', b', c', d', e'⟩ := d'
  by_cases h1 : a = a'
  · subst h1
    by_cases h2 : b = b'
    · subst h2
      by_cases h3 : c = c'
      · subst h3
        by_cases h4 : d = d'
        · subst h4
          by_cases h5 : e = e'
          · subst h5; simp [go_sem]
          · simp [go_sem, h5]
        · simp [go_sem, h4]
      · simp [go_sem, h3]
    · simp [go_sem, h2]
  · simp [go_sem, h1]
/-- the answer of Differ: the first place where the lists part -/
def DiffIs (xs ys : List Dec) (i : Nat) (b : Bool) : Prop := (b = true ∧ xs.take i = ys.take i ∧ xs[i]? ≠ ys[i]?) ∨ (b = false ∧ i = 0 ∧ xs = ys)

set_option maxHeartbeats 400000 in
theorem rdiffer_any (sa sb : Value) (xs ys : List Dec) (w : World) (ha : Led w sa xs) (hb : Led w sb ys) (hn : xs.length ≤ 100000 ∧ ys.length ≤ 100000) :
    Calls Try.prog 39 #[.agg #[sa], .agg #[sb]] w fun r w' => (∃ i b, DiffIs xs ys i b ∧ r = .returned (.tuple #[.int .i64 (i : Nat), .bool b])) ∧ Below w.heap.size w w' := by
  obtain ⟨hn1, hn2⟩ := hn
  obtain ⟨_, A, c, hsa, _⟩ := id ha
  obtain ⟨_, A', c', hsb, _⟩ := id hb
  have HA := Lib.hid ha
  have HB := Lib.hid hb
  subst hsa hsb
  clear ha hb
  go_enter Try.func39, Try.ntmps39
  go_wp2_with fail
  have hb0 : Below w.heap.size w ((w.alloc (.cells #[.slice A xs.length c] 31)).alloc (.cells #[.slice A' ys.length c'] 31)) := ((Below.refl _ _).alloc (Nat.le_refl _) _).alloc (by simp) _
  have hx0 : Blk ((w.alloc (.cells #[.slice A xs.length c] 31)).alloc (.cells #[.slice A' ys.length c'] 31)) w.heap.size 31 #[.slice A xs.length c] := (Blk.new w _ _).alloc _
  have hy0 : Blk ((w.alloc (.cells #[.slice A xs.length c] 31)).alloc (.cells #[.slice A' ys.length c'] 31)) (w.heap.size + 1) 31 #[.slice A' ys.length c'] := by
    have := Blk.new (w.alloc (.cells #[.slice A xs.length c] 31)) 31 #[.slice A' ys.length c']
    simpa using this
  generalize ((w.alloc (.cells #[.slice A xs.length c] 31)).alloc (.cells #[.slice A' ys.length c'] 31)) = W at *
  have HA' := Lib.hid (HA.out.ext hb0)
  have HB' := Lib.hid (HB.out.ext hb0)
  have hX := hx0.cell 0
  have hY := hy0.cell 0
  simp only [List.getElem?_toArray, List.getElem?_cons_zero] at hX hY
  generalize hbx : w.heap.size = bx at *
  have HBX := Lib.hid hbx
  clear hbx
  go_loopw [6] (fun iv wr => ∃ k m : Nat, k ≤ xs.length ∧ k ≤ ys.length ∧ iv = .int .i64 k ∧ xs.take k = ys.take k ∧ wr = W.drewN m) (fun iv _ => xs.length + 1 - (intOf iv).toNat)
  case atStart => exact ⟨0, 0, Nat.zero_le _, Nat.zero_le _, rfl, rfl, rfl⟩
  case round =>
    obtain ⟨k, m, hk1, hk2, rfl, ht, rfl⟩ := hrel
    have HT := Lib.hid ht
    clear ht
    by_cases h1 : k < xs.length
    · by_cases h2 : k < ys.length
      · obtain ⟨d, hd⟩ : ∃ d, xs[k]? = some d := ⟨_, List.getElem?_eq_getElem h1⟩
        obtain ⟨d', hd'⟩ : ∃ d, ys[k]? = some d := ⟨_, List.getElem?_eq_getElem h2⟩
        obtain ⟨b, off, c2, hsv, hbl, _, _, c0, c1, c2, c3, c4⟩ := sl_dec HA'.out hd
        injection hsv with e1 _ e2
        subst e1 e2
        obtain ⟨b', off', c2', hsv', hbl', _, _, z0, z1, z2, z3, z4⟩ := sl_dec HB'.out hd'
        injection hsv' with e1 _ e2
        subst e1 e2
        have hne := neq_dec d d'
        have ht1 : decide (xs.length ≤ k) = false := by simp; omega
        have ht2 : decide (ys.length ≤ k) = false := by simp; omega
        have HD := Lib.hid hd
        have HD' := Lib.hid hd'
        clear hd hd'
        by_cases hdd : d = d'
        · have hq : (decide (d = d')) = true := by simp [hdd]
          have HE := Lib.hid hdd
          rw [hq] at hne
          clear hdd hq
          go_wp2_with fail
          go_quiet (fail)
          go_wp2_with fail
          go_roundw
          case rel => exact ⟨k + 1, _, by omega, by omega, by go_num, by rw [take_snoc2 HD.out, take_snoc2 HD'.out, HT.out, HE.out], rfl⟩
          case measure => simp [intOf]; omega
        · have hq : (decide (d = d')) = false := by simp [hdd]
          have HE := Lib.hid hdd
          rw [hq] at hne
          clear hdd hq
          go_wp2_with fail
          go_quiet (fail)
          go_wp2_with fail
          go_ret2
          rw [HBX.out]
          refine ⟨⟨k, true, .inl ⟨rfl, HT.out, ?_⟩, rfl⟩, below_drewN (below_drewN hb0 _) _⟩
          rw [HD.out, HD'.out]
          intro e
          injection e with e
          exact HE.out e
      · have ht1 : decide (xs.length ≤ k) = false := by simp; omega
        have ht2 : decide (ys.length ≤ k) = true := by simp; omega
        go_wp2_with fail
        go_quiet (fail)
        go_wp2_with fail
        go_ret2
        rw [HBX.out]
        refine ⟨⟨k, true, .inl ⟨rfl, HT.out, ?_⟩, rfl⟩, below_drewN (below_drewN hb0 _) _⟩
        rw [List.getElem?_eq_none (l := ys) (by omega), List.getElem?_eq_getElem h1]
        simp
    · by_cases h2 : k < ys.length
      · have ht1 : decide (xs.length ≤ k) = true := by simp; omega
        go_wp2_with fail
        go_quiet (fail)
        go_wp2_with fail
        go_ret2
        rw [HBX.out]
        refine ⟨⟨k, true, .inl ⟨rfl, HT.out, ?_⟩, rfl⟩, below_drewN (below_drewN hb0 _) _⟩
        rw [List.getElem?_eq_none (l := xs) (by omega), List.getElem?_eq_getElem h2]
        simp
      · go_wp2_with fail
        go_ret2
        rw [HBX.out]
        refine ⟨⟨0, false, .inr ⟨rfl, rfl, ?_⟩, rfl⟩, below_drewN hb0 _⟩
        have e := HT.out
        rwa [List.take_of_length_le (by omega), List.take_of_length_le (by omega)] at e
end Go.Proofs.Ytnimpcffagidoaa
