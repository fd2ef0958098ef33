/-
  until of the program: the decisions up to a day, found by a binary search.
-/
import Derived.Test.YtnimpcffagidoaaMoveLedger2
import Derived.Deep.QuietTactic
import Derived.BigQuiet
namespace Go.Proofs.Ytnimpcffagidoaa
open Go.RowKit
set_option linter.unusedSimpArgs false
set_option linter.unusedVariables false

theorem led_slice' {w : World} {sv : Value} {ds : List Dec} (h : Led w sv ds) : ∃ A c, sv = .slice A ds.length c ∧ ds.length ≤ c ∧ c ≤ maxLen := by
  obtain ⟨_, A, c, h1, h2, h3, _⟩ := h
  exact ⟨A, c, h1, h2, h3⟩
/-- days never fall -/
def Days (ds : List Dec) : Prop := ∀ (i j : Nat) (x y : Dec), i ≤ j → ds[i]? = some x → ds[j]? = some y → x.day ≤ y.day

set_option maxHeartbeats 400000 in
theorem until1_any (A : Option Addr) (c bl bd : Nat) (ds : List Dec) (day : Int) (k : Nat) (d : Dec) (W : World) (m : Nat) (h : Led W (.slice A ds.length c) ds) (hk : ds[k]? = some d) (hn : ds.length ≤ 100000)
    (hl : W.cell? ⟨bl, 0, none⟩ = some (.slice A ds.length c)) (hd : W.cell? ⟨bd, 0, none⟩ = some (.int .i64 day)) :
    Calls Try.prog 71 #[.int .i64 k, .pointer (some ⟨bl, 0, none⟩), .pointer (some ⟨bd, 0, none⟩)] (W.drewN m) fun r w' => r = .returned (.bool (decide (day < d.day))) ∧ ∃ m', w' = W.drewN m' := by
  have hlt : k < ds.length := (List.getElem?_eq_some_iff.1 hk).1
  obtain ⟨b, off, c', hsv, hbl, _, _, c0, c1, c2, c3, c4⟩ := sl_dec h hk
  injection hsv with h1 _ h2
  subst h1 h2
  clear h hk
  go_enter Try.func71, Try.ntmps71
  go_wp2_with fail
  go_quiet (fail)
  go_wp2_with fail
  go_ret
  exact ⟨rfl, _, World.drewN_drewN _ _ _⟩

theorem shr1 (i j : Nat) (h : i + j < 9223372036854775808) : (((i : Int) + (j : Int)) / 2) = (((i + j) / 2 : Nat) : Int) := by omega

/-- how many decisions there are up to a day -/
def cnt (ds : List Dec) (day : Int) : Nat := (ds.takeWhile fun d => decide (d.day ≤ day)).length
theorem cnt_le (ds : List Dec) (day : Int) : cnt ds day ≤ ds.length := by
  unfold cnt
  have := (List.takeWhile_sublist (p := fun d : Dec => decide (d.day ≤ day)) (l := ds)).length_le
  exact this
theorem cnt_is (ds : List Dec) (day : Int) (m : Nat) (hm : m ≤ ds.length) (h1 : ∀ x d, x < m → ds[x]? = some d → d.day ≤ day) (h2 : ∀ d, ds[m]? = some d → day < d.day) : cnt ds day = m := by
  induction ds generalizing m with
  | nil => simp at hm; subst hm; rfl
  | cons a l ih =>
    unfold cnt at *
    rcases m with _ | m
    · have := h2 a rfl
      rw [List.takeWhile_cons_of_neg (by simp; omega)]
      rfl
    · have := h1 0 a (by omega) rfl
      rw [List.takeWhile_cons_of_pos (by simpa using this), List.length_cons, ih m (by simpa using hm) (fun x d hx hd => h1 (x + 1) d (by omega) (by simpa using hd)) (fun d hd => h2 d (by simpa using hd))]

set_option maxHeartbeats 800000 in
theorem search_any (A : Option Addr) (c bl bd : Nat) (ds : List Dec) (day : Int) (W : World) (h : Led W (.slice A ds.length c) ds) (hs : Days ds) (hn : ds.length ≤ 100000)
    (hl : W.cell? ⟨bl, 0, none⟩ = some (.slice A ds.length c)) (hd : W.cell? ⟨bd, 0, none⟩ = some (.int .i64 day)) :
    Calls Try.prog 70 #[.int .i64 ds.length, .func (Fn.func 71) #[] #[.pointer (some ⟨bl, 0, none⟩), .pointer (some ⟨bd, 0, none⟩)]] W fun r w' => r = .returned (.int .i64 (cnt ds day)) ∧ ∃ m', w' = W.drewN m' := by
  have HLD := Lib.hid h
  have HS := Lib.hid hs
  have HL := Lib.hid hl
  have HD := Lib.hid hd
  clear h hs hl hd
  go_enter Try.func70, Try.ntmps70
  go_wp2_with fail
  go_loopw [5, 6] (fun iv jv wr => ∃ i j m : Nat, iv = .int .i64 i ∧ jv = .int .i64 j ∧ i ≤ j ∧ j ≤ ds.length ∧ wr = W.drewN m ∧ Hid (∀ x d, x < i → ds[x]? = some d → d.day ≤ day) ∧ Hid (∀ x d, j ≤ x → ds[x]? = some d → day < d.day)) (fun iv jv _ => (intOf jv - intOf iv).toNat)
  case atStart => exact ⟨0, ds.length, 0, rfl, rfl, Nat.zero_le _, Nat.le_refl _, rfl, fun x d hx => absurd hx (by omega), fun x d hx hd => by rw [List.getElem?_eq_none hx] at hd; cases hd⟩
  case round =>
    obtain ⟨i, j, m, rfl, rfl, hij, hj, rfl, H1, H2⟩ := hrel
    by_cases hlt : i < j
    · obtain ⟨d, hd⟩ : ∃ d, ds[(i + j) / 2]? = some d := ⟨_, List.getElem?_eq_getElem (by omega)⟩
      have hm1 : i ≤ (i + j) / 2 := by omega
      have hm2 : (i + j) / 2 < j := by omega
      obtain ⟨q, hq⟩ : ∃ q, q = (i + j) / 2 := ⟨_, rfl⟩
      have hsh : ((i : Int) + (j : Int)) / 2 = (q : Int) := by omega
      rw [← hq] at hd hm1 hm2
      have HDD := Lib.hid hd
      clear hd hq
      go_wp2_with fail
      refine (until1_any A c bl bd ds day q d W m HLD.out HDD.out hn HL.out HD.out).mono ?_
      rintro r w1 ⟨rfl, m', rfl⟩
      by_cases hdy : day < d.day
      · rw [decide_eq_true hdy]
        have HY := Lib.hid hdy
        clear hdy
        go_wp2_with fail
        go_roundw
        case rel => exact ⟨i, q, m', rfl, rfl, hm1, by omega, rfl, H1, fun x d' hx hd' => by have := HS.out q x d d' hx HDD.out hd'; have := HY.out; omega⟩
        case measure => simp [intOf]; omega
      · rw [decide_eq_false hdy]
        have HY := Lib.hid hdy
        clear hdy
        go_wp2_with fail
        go_roundw
        case rel => exact ⟨q + 1, j, m', by go_num, rfl, by omega, hj, rfl, fun x d' hx hd' => by have := HS.out x q d' d (by omega) hd' HDD.out; have := HY.out; omega, H2⟩
        case measure => simp [intOf]; omega
    · go_wp2_with fail
      go_ret
      obtain rfl : i = j := by omega
      exact ⟨ret_int (by rw [cnt_is ds day i hj H1.out (fun d hd => H2.out i d (Nat.le_refl _) hd)]), _, rfl⟩

set_option maxHeartbeats 400000 in
theorem until_any (A : Option Addr) (c : Nat) (ds : List Dec) (day : Int) (w : World) (h : Led w (.slice A ds.length c) ds) (hs : Days ds) (hn : ds.length ≤ 100000) :
    Calls Try.prog 62 #[.agg #[.slice A ds.length c], .int .i64 day] w fun r w' => r = .returned (.slice A (cnt ds day) c) ∧ Below w.heap.size w w' := by
  obtain ⟨A', c', hsv, hlc, hcm⟩ := led_slice' h
  injection hsv with e1 _ e2
  subst e1 e2
  have hcl := cnt_le ds day
  have h1 := (h.alloc (.cells #[.slice A ds.length c] 31)).alloc (.cells #[.int .i64 day] 3)
  have hb1 : Below w.heap.size w ((w.alloc (.cells #[.slice A ds.length c] 31)).alloc (.cells #[.int .i64 day] 3)) := ((Below.refl _ _).alloc (Nat.le_refl _) _).alloc (by simp) _
  have hk1 := (Blk.new w 31 #[.slice A ds.length c]).alloc (.cells #[.int .i64 day] 3)
  have hk2 := Blk.new (w.alloc (.cells #[.slice A ds.length c] 31)) 3 #[.int .i64 day]
  simp only [World.size_alloc] at hk2
  have z1 := hk1.cell 0
  have z2 := hk2.cell 0
  simp only [List.getElem?_toArray, List.getElem?_cons_zero] at z1 z2
  have H1 := Lib.hid h1
  have HS := Lib.hid hs
  have HB := Lib.hid hb1
  clear h h1 hs hb1
  go_enter Try.func62, Try.ntmps62
  go_wp2_with fail
  refine (search_any A c w.heap.size (w.heap.size + 1) ds day _ H1.out HS.out hn z1 z2).mono ?_
  rintro r w1 ⟨rfl, m, rfl⟩
  have hq1 : ((cnt ds day : Nat) : Int) ≤ (c : Int) := by omega
  generalize hqq : cnt ds day = q at *
  have HQ := Lib.hid hqq
  clear hqq
  go_wp2_with fail
  go_ret
  rw [HQ.out]
  exact ⟨rfl, below_drewN HB.out _⟩
end Go.Proofs.Ytnimpcffagidoaa
