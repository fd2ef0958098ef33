/-
 One line's meaning: the three kinds, one after the other.
-/
import Derived.Test.YtkkoedniahnneaaDoorA10
set_option linter.unusedSimpArgs false
set_option linter.unusedVariables false
namespace Go.Proofs.YtkkoedniahnneaaDoor.K
open Go.RowKit
attribute [local go_sem ↓] Go.wp_at_zero Go.wp_at_succ
abbrev knd (i b : Nat) : Value := .func (.func i) #[.pointer (some ⟨b, 0, none⟩)] #[]
set_option maxHeartbeats 1000000 in
theorem p1_empty (b p9 p10 : Nat) (s : ByteArray) (k : Int) (w : World) (h : s.size ≤ 4000000000) (h9 : w.cell? ⟨p9, 0, none⟩ = some (.string s)) (h10 : w.cell? ⟨p10, 0, none⟩ = some (.int .i64 k)) :
  Calls Tryd.prog 69 #[knd 64 b, .pointer (some ⟨p9, 0, none⟩), .pointer (some ⟨p10, 0, none⟩)] w fun e w' => e = .returned (.bool (empS s)) ∧ w' = w := by
 go_enter Tryd.func69, Tryd.ntmps69
 go_wp2_with (go_at_call 64; refine (empty_any b s k _ h).mono ?_; rintro e w1 ⟨rfl, hw⟩; obtain rfl := hw.symm)
 go_ret
 exact ⟨rfl, rfl⟩
set_option maxHeartbeats 1000000 in
theorem p1_begin (b p9 p10 : Nat) (s : ByteArray) (k : Int) (w : World) (h : s.size ≤ 4000000000) (h9 : w.cell? ⟨p9, 0, none⟩ = some (.string s)) (h10 : w.cell? ⟨p10, 0, none⟩ = some (.int .i64 k)) {L o : Value} {at' : Int} {sec : ByteArray} (hb : PB w b L at' sec o) :
  Calls Tryd.prog 69 #[knd 65 b, .pointer (some ⟨p9, 0, none⟩), .pointer (some ⟨p10, 0, none⟩)] w fun e w' => e = .returned (.bool (brkS s && wrdB (secS s))) ∧ PB w' b L at' (bif brkS s && wrdB (secS s) then secS s else sec) o ∧ w.grownBy w' (some b) := by
 have HB := Lib.hid hb
 clear hb
 go_enter Tryd.func69, Tryd.ntmps69
 go_wp2_with (go_at_call 65; refine (begin_any b s k _ h HB.out).mono ?_; rintro e w1 ⟨rfl, hp, hg⟩)
 go_ret
 exact ⟨rfl, hp, hg⟩
set_option maxHeartbeats 1000000 in
theorem p1_setting (b p9 p10 : Nat) (s : ByteArray) (k : Int) (w : World) (h : s.size ≤ 4000000000) (h9 : w.cell? ⟨p9, 0, none⟩ = some (.string s)) (h10 : w.cell? ⟨p10, 0, none⟩ = some (.int .i64 k)) {L o : Value} {at' : Int} {sec : ByteArray} {n : Nat} {xs : List Value} (hb : PB w b L at' sec o)
  (ho : w.ownsRow (b + 1) 45 4 o n xs) (hn : n ≤ 100000) :
  Calls Tryd.prog 69 #[knd 66 b, .pointer (some ⟨p9, 0, none⟩), .pointer (some ⟨p10, 0, none⟩)] w fun e w' => e = .returned (.bool (setOk s)) ∧
   ∃ o', PB w' b L at' sec o' ∧ w'.ownsRow (b + 1) 45 4 o' (n + bif setOk s then 1 else 0) (xs ++ setCs s sec k) ∧ FrP b o w w' ∧ (o'.ownBlock = o.ownBlock ∨ ∃ g, o'.ownBlock = some g ∧ w.heap.size ≤ g) := by
 have HB := Lib.hid hb
 have HO := Lib.hid ho
 clear hb ho
 go_enter Tryd.func69, Tryd.ntmps69
 go_wp2_with (go_at_call 66; refine (setting_any b s k _ h HB.out HO.out hn).mono ?_; rintro e w1 ⟨rfl, hp⟩)
 go_ret
 exact ⟨rfl, hp⟩
def bgP (s : ByteArray) : Bool := brkS s && wrdB (secS s)
def okP (s : ByteArray) : Bool := empS s || (bgP s || setOk s)
def secP (s sec : ByteArray) : ByteArray := bif empS s then sec else bif bgP s then secS s else sec
def csP (s sec : ByteArray) (k : Int) : List Value := bif empS s then [] else bif bgP s then [] else setCs s sec k
def nP (s : ByteArray) : Nat := bif empS s then 0 else bif bgP s then 0 else bif setOk s then 1 else 0
def ixP (s : ByteArray) : Int := bif empS s then 0 else bif bgP s then 1 else bif setOk s then 2 else -1
set_option maxHeartbeats 2000000 in
theorem kinds_any (b kb p9 p10 : Nat) (s : ByteArray) (k : Int) (w : World) (h : s.size ≤ 4000000000) (h9 : w.cell? ⟨p9, 0, none⟩ = some (.string s)) (h10 : w.cell? ⟨p10, 0, none⟩ = some (.int .i64 k)) {L o : Value} {at' : Int} {sec : ByteArray} {n : Nat} {xs : List Value} (hb : PB w b L at' sec o)
  (ho : w.ownsRow (b + 1) 45 4 o n xs) (hn : n ≤ 100000) (hk : Go.Proofs.YtkkoedniahnneaaDoor.Blk w kb 92 #[knd 64 b, knd 65 b, knd 66 b]) (hkb : kb ≠ b) (h9b : p9 ≠ b) (h10b : p10 ≠ b) :
  Calls Tryd.prog 113 #[.slice (some ⟨kb, 0, none⟩) 3 3, .func (.func 69) #[] #[.pointer (some ⟨p9, 0, none⟩), .pointer (some ⟨p10, 0, none⟩)]] w fun e w' => e = .returned (.int .i64 (ixP s)) ∧
   ∃ o', PB w' b L at' (secP s sec) o' ∧ w'.ownsRow (b + 1) 45 4 o' (n + nP s) (xs ++ csP s sec k) ∧ FrP b o w w' ∧ (o'.ownBlock = o.ownBlock ∨ ∃ g, o'.ownBlock = some g ∧ w.heap.size ≤ g) := by
 have HB := Lib.hid hb
 have HO := Lib.hid ho
 have HK := Lib.hid hk
 have q0 := hk.cell 0
 have q1 := hk.cell 1
 have q2 := hk.cell 2
 simp only [List.getElem?_toArray, List.getElem?_cons_zero, List.getElem?_cons_succ] at q0 q1 q2
 clear hb ho hk
 go_enter Tryd.func113, Tryd.ntmps113
 go_wp2_with fail
 go_loopw [5, 8] (fun _ iv wr => (iv = .int .i64 0 ∧ wr = w) ∨ (iv = .int .i64 1 ∧ empS s = false ∧ wr = w) ∨ (iv = .int .i64 2 ∧ empS s = false ∧ bgP s = false ∧ PB wr b L at' sec o ∧ w.grownBy wr (some b)) ∨
  (iv = .int .i64 3 ∧ empS s = false ∧ bgP s = false ∧ setOk s = false ∧ ∃ o', PB wr b L at' sec o' ∧ wr.ownsRow (b + 1) 45 4 o' n xs ∧ FrP b o w wr ∧ (o'.ownBlock = o.ownBlock ∨ ∃ g, o'.ownBlock = some g ∧ w.heap.size ≤ g))) (fun _ iv _ => 3 - (intOf iv).toNat)
 case atStart => exact .inl ⟨rfl, rfl⟩
 case round =>
  rcases hrel with ⟨rfl, rfl⟩ | ⟨rfl, he, rfl⟩ | ⟨rfl, he, hbg, hp, hg⟩ | ⟨rfl, he, hbg, hs, o', hp, ho, hf, hx⟩
  ·cases he : empS s with
   | false =>
    have HE := Lib.hid he
    clear he
    go_wp2_with (go_at_call 69; refine (p1_empty b p9 p10 s k _ h (by assumption) (by assumption)).mono ?_; rw [HE.out]; rintro e w1 ⟨rfl, hw⟩; obtain rfl := hw.symm)
    refine ⟨.inr (.inl ⟨rfl, trivial, trivial⟩), by simp [intOf]⟩
   | true =>
    have HE := Lib.hid he
    clear he
    go_wp2_with (go_at_call 69; refine (p1_empty b p9 p10 s k _ h (by assumption) (by assumption)).mono ?_; rw [HE.out]; rintro e w1 ⟨rfl, hw⟩; obtain rfl := hw.symm)
    go_ret
    unfold ixP secP csP nP
    rw [HE.out]
    exact ⟨rfl, o, HB.out, by simpa using HO.out, .bel (Below.refl _ _), .inl rfl⟩
  ·have HE := Lib.hid he
   clear he
   cases hbg : bgP s with
   | false =>
    have HG := Lib.hid hbg
    have hq : (brkS s && wrdB (secS s)) = false := hbg
    have HQ := Lib.hid hq
    clear hbg hq
    go_wp2_with (go_at_call 69; refine (p1_begin b p9 p10 s k _ h (by assumption) (by assumption) HB.out).mono ?_; rw [HQ.out]; rintro e w1 ⟨rfl, hp, hg⟩; have HP := Lib.hid hp; have HG1 := Lib.hid hg; clear hp hg)
    refine ⟨.inr (.inr (.inl ⟨rfl, HE.out, trivial, HP.out, HG1.out⟩)), by simp [intOf]⟩
   | true =>
    have HG := Lib.hid hbg
    have hq : (brkS s && wrdB (secS s)) = true := hbg
    have HQ := Lib.hid hq
    clear hbg hq
    go_wp2_with (go_at_call 69; refine (p1_begin b p9 p10 s k _ h (by assumption) (by assumption) HB.out).mono ?_; rw [HQ.out]; rintro e w1 ⟨rfl, hp, hg⟩; have HP := Lib.hid hp; have HG1 := Lib.hid hg; clear hp hg)
    go_ret
    unfold ixP secP csP nP
    rw [HE.out, HG.out]
    exact ⟨rfl, o, HP.out, by simpa using own_grown HO.out HG1.out (fun g e e2 => by have := (HO.out.lt _ e).1; cases e2; omega), .grb HG1.out, .inl rfl⟩
  ·have HE := Lib.hid he
   have HG := Lib.hid hbg
   have hq0 := hg.cell q0 (by simpa using hkb)
   have hq2 := hg.cell q2 (by simpa using hkb)
   have h9' := hg.cell h9 (by simpa using h9b)
   have h10' := hg.cell h10 (by simpa using h10b)
   have HO2 := Lib.hid (own_grown HO.out hg (fun g e e2 => by have := (HO.out.lt _ e).1; cases e2; omega))
   have HP := Lib.hid hp
   have HG1 := Lib.hid hg
   clear he hbg hp hg
   cases hs : setOk s with
   | false =>
    have HS := Lib.hid hs
    clear hs
    go_wp2_with (go_at_call 69; refine (p1_setting b p9 p10 s k _ h (by assumption) (by assumption) HP.out HO2.out hn).mono ?_; rw [HS.out]; rintro e w1 ⟨rfl, hp⟩; have HP2 := Lib.hid hp; clear hp)
    obtain ⟨o', a1, a2, a3, a4⟩ := HP2.out
    have a5 : setCs s sec k = [] := by unfold setCs; rw [HS.out]; rfl
    rw [a5, List.append_nil] at a2
    exact ⟨.inr (.inr (.inr ⟨rfl, HE.out, HG.out, trivial, o', a1, a2, (FrP.grb HG1.out).trans a3, a4.imp id (fun ⟨g, e, h⟩ => ⟨g, e, Nat.le_trans HG1.out.size h⟩)⟩)), by simp [intOf]⟩
   | true =>
    have HS := Lib.hid hs
    clear hs
    go_wp2_with (go_at_call 69; refine (p1_setting b p9 p10 s k _ h (by assumption) (by assumption) HP.out HO2.out hn).mono ?_; rw [HS.out]; rintro e w1 ⟨rfl, hp⟩; have HP2 := Lib.hid hp; clear hp)
    go_ret
    obtain ⟨o', a1, a2, a3, a4⟩ := HP2.out
    unfold ixP secP csP nP
    rw [HE.out, HG.out, HS.out]
    exact ⟨rfl, o', a1, a2, (FrP.grb HG1.out).trans a3, a4.imp id (fun ⟨g, e, h⟩ => ⟨g, e, Nat.le_trans HG1.out.size h⟩)⟩
  ·have H := Lib.hid (And.intro he (And.intro hbg (And.intro hs (And.intro hp (And.intro ho (And.intro hf hx))))))
   clear he hbg hs hp ho hf hx
   go_wp2_with fail
   go_ret
   obtain ⟨he, hbg, hs, hp, ho, hf, hx⟩ := H.out
   unfold ixP secP csP nP
   rw [he, hbg, hs]
   have a5 : setCs s sec k = [] := by unfold setCs; rw [hs]; rfl
   exact ⟨rfl, o', hp, by rw [a5]; simpa using ho, hf, hx⟩
set_option maxHeartbeats 2000000 in
theorem any_any (b kb p9 p10 : Nat) (s : ByteArray) (k : Int) (w : World) (h : s.size ≤ 4000000000) (h9 : w.cell? ⟨p9, 0, none⟩ = some (.string s)) (h10 : w.cell? ⟨p10, 0, none⟩ = some (.int .i64 k)) {L o : Value} {at' : Int} {sec : ByteArray} {n : Nat} {xs : List Value} (hb : PB w b L at' sec o)
  (ho : w.ownsRow (b + 1) 45 4 o n xs) (hn : n ≤ 100000) (hk : Go.Proofs.YtkkoedniahnneaaDoor.Blk w kb 92 #[knd 64 b, knd 65 b, knd 66 b]) (hkb : kb ≠ b) (h9b : p9 ≠ b) (h10b : p10 ≠ b) :
  Calls Tryd.prog 68 #[.slice (some ⟨kb, 0, none⟩) 3 3, .func (.func 69) #[] #[.pointer (some ⟨p9, 0, none⟩), .pointer (some ⟨p10, 0, none⟩)]] w fun e w' => e = .returned (.bool (okP s)) ∧
   ∃ o', PB w' b L at' (secP s sec) o' ∧ w'.ownsRow (b + 1) 45 4 o' (n + nP s) (xs ++ csP s sec k) ∧ FrP b o w w' ∧ (o'.ownBlock = o.ownBlock ∨ ∃ g, o'.ownBlock = some g ∧ w.heap.size ≤ g) := by
 have HB := Lib.hid hb
 have HO := Lib.hid ho
 have HK := Lib.hid hk
 have hix : decide (0 ≤ ixP s) = okP s := by
  unfold ixP okP
  cases empS s <;> cases bgP s <;> cases setOk s <;> rfl
 clear hb ho hk
 go_enter Tryd.func68, Tryd.ntmps68
 go_wp2_with (go_at_call 113; refine (kinds_any b kb p9 p10 s k _ h (by assumption) (by assumption) HB.out HO.out hn HK.out hkb h9b h10b).mono ?_; rintro e w1 ⟨rfl, hp⟩; have HP := Lib.hid hp; clear hp)
 go_ret
 exact ⟨by first | rfl | (rw [← hix]; rfl), HP.out⟩
end Go.Proofs.YtkkoedniahnneaaDoor.K
