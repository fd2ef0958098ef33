import Derived.Test.YtkngeegkjhipeaaGreatN36
set_option linter.unusedSimpArgs false
set_option linter.unusedVariables false
namespace Go.Proofs.YtkngeegkjhipeaaGreat.K
open Go.RowKit
noncomputable section
theorem QIJ {α : Type} (l : List α) : ilt (l.length : Int) (llen l) = false := decide_eq_false (by simp only [llen]; omega)
theorem QPx {α : Type} {l : List α} {k : Nat} (h : k < l.length) : ilt (k : Int) (llen l) = true := decide_eq_true (by simp only [llen]; omega)
def dualT (_l : List Int) (_a : Int) : Bool := true
def algN (e : Qad) (a : Int) (k : Nat) : Bool := ((eIds e).drop k).any fun x => ieq x.1.1 a
def QDe (_l : List Int) (t : Int) : Bool := decide (0 ≤ t ∧ t ≤ 255)
noncomputable def QQZ : List DO := dT Tryz.f6 18
def Qnt : Fg := ⟨[(1, some (.int .u8)), (6, none), (7, none), (8, none), (10, some tI), (11, some tI)], [(6, some Qai), (7, some Qai), (8, some Qam), (27, none), (5027, none), (10027, none), (15027, none)]⟩
noncomputable def QoC : TC := (.sq (.sq (.reg (rT Tryz.f6 10)) (.cd (.t 65) .sk (.fg ⟨[(1, some (.int .u8)), (6, none), (7, none), (8, none), (10, some tI)], [(6, some Qai), (7, some Qai), (8, some Qam), (27, none), (5027, none), (10027, none), (15027, none)]⟩ (.ex 0)))) (.sq (.bk 1 (.sq (.reg (rT Tryz.f6 11)) (.cd (.t 76) (.sq (.reg (rT Tryz.f6 12)) (.fg ⟨[(4, some .bool)], []⟩ .rt)) .sk))) (.reg (rT Tryz.f6 13))))
noncomputable def tc_f6 : TC := (.sq (.reg (rT Tryz.f6 0)) (.sq (.sq (.reg (rT Tryz.f6 1)) (.cd (.t 21) (.sq (.reg (rT Tryz.f6 2)) .rt) .sk)) (.sq (.reg (rT Tryz.f6 3)) (.sq (.reg (rT Tryz.f6 4)) (.sq (.reg (rT Tryz.f6 5)) (.sq (.sq (.reg (rT Tryz.f6 6)) (.cd (.t 53) (.sq (.reg (rT Tryz.f6 7)) .rt) .sk)) (.sq (.reg (rT Tryz.f6 8)) (.sq (.sq (.reg (rT Tryz.f6 9)) (.bk 0 (.lp 0 Qnt QoC))) (.sq (.reg (rT Tryz.f6 14)) (.sq (.sq (.reg (rT Tryz.f6 15)) (.cd (.t 93) (.sq (.reg (rT Tryz.f6 16)) .rt) .sk)) (.sq (.reg (rT Tryz.f6 17)) (.sq (.dr QQZ [(0, [14, 95, 108, 5095, 10095, 15095]), (1, [14, 95, 108, 5095, 10095, 15095]), (2, []), (3, []), (4, []), (5, []), (6, []), (7, []), (8, []), (9, []), (10, []), (11, []), (12, [14, 95, 108, 5095, 5108, 10095, 10108, 15095, 15108]), (13, [14, 95, 108, 5095, 10095, 15095]), (14, [14, 95, 108, 5095, 10095, 15095])] (.of [0, 1, 2, 3, 4, 5, 6, 7, 8, 9, 10, 11, 12, 13, 14])) (.sq (.reg (rT Tryz.f6 19)) (.sq (.reg (rT Tryz.f6 20)) (.sq (.sq (.reg (rT Tryz.f6 21)) (.cd (.t 129) (.sq (.reg (rT Tryz.f6 22)) .rt) .sk)) (.sq (.reg (rT Tryz.f6 23)) .rt))))))))))))))))
def rv_f6 : List (RV × Option Ty) := [((.t 4), some .bool)]
abbrev Quz : Sh := ⟨[(1, .ty (.int .u8)), (6, .ptr 6 0), (7, .ptr 7 0), (8, .ptr 8 0), (10, .ty tI), (11, .ty tI)], [(6, .box Qai), (7, .box Qai), (8, .box Qam), (27, .no), (5027, .no), (10027, .no), (15027, .no)]⟩
def Quc (x1 x10 x11 : Int) (y6 y7 : Qad) (y8 : Keep) : VS := Quz.st (x1, (), (), (), x10, x11, ()) (y6, y7, y8, (), (), (), (), ())
abbrev Quy : Sh := ⟨[(4, .ty .bool)], []⟩
def Qek (x4 : Bool) : VS := Quy.st (x4, ()) ()
abbrev Qyx : Sh := ⟨[(1, .ty (.int .u8)), (6, .ptr 6 0), (7, .ptr 7 0), (8, .ptr 8 0), (10, .ty tI)], [(6, .box Qai), (7, .box Qai), (8, .box Qam), (27, .no), (5027, .no), (10027, .no), (15027, .no)]⟩
def QfW (x1 x10 : Int) (y6 y7 : Qad) (y8 : Keep) : VS := Qyx.st (x1, (), (), (), x10, ()) (y6, y7, y8, (), (), (), (), ())
def L_f6_0 : VS → Option (Bool × List (Bool × Exit × VS)) := mkL Quz (fun x y => (decide (0 ≤ x.2.2.2.2.2.1 ∧ x.2.2.2.2.2.1 ≤ (eIds y.2.1).length ∧ (eIds y.2.1).length ≤ 100000))) (fun x y => [((algN y.2.1 x.2.2.2.2.1 x.2.2.2.2.2.1.toNat), .ret, Qek (Qbv)), (true, .exit 0, QfW (x.1) (x.2.2.2.2.1) (y.1) (y.2.1) (y.2.2.1))])
def g_f6 : G := ⟨TYs, [], 151, EL [(7, sp_f7), (8, sp_f8), (9, sp_f9), (10, QLj), (14, QAY), (21, Qq9), (29, QLc)], keeps, (Ls [L_f6_0]), IL [], RL []⟩
def QM1 (x1 x10 x11 : Int) (y6 y7 : Qad) (y8 : Keep) : Option (Exit × VS) := br (ilt x11 (llen y7.2.2.2.2.2.1)) (br (cIx y7.2.2.2.2.2.1 x11) (br (ieq (((lgt Qak y7.2.2.2.2.2.1 (Int.toNat x11)).1).1) x10) (some (.ret, Qek Qbv)) (some (.normal, Quc x1 x10 (iadd .i64 x11 1) y6 y7 y8))) none) (some (.exit 0, QfW x1 x10 y6 y7 y8))
noncomputable def Qqd (x1 x10 x11 : Int) (y6 y7 : Qad) (y8 : Keep) : Option (Exit × VS) := loopF (Qaj g_f6 Qnt QoC) (Quc x1 x10 x11 y6 y7 y8)
noncomputable def Qwt (x1 x10 x11 : Int) (y6 y7 : Qad) (y8 : Keep) : Option (Exit × VS) := br (ilt x11 (llen y7.2.2.2.2.2.1)) (br (cIx y7.2.2.2.2.2.1 x11) (br (ieq (((lgt Qak y7.2.2.2.2.2.1 (Int.toNat x11)).1).1) x10) (some (.ret, Qek Qbv)) (Qqd x1 x10 (iadd .i64 x11 1) y6 y7 y8)) none) (some (.exit 0, QfW x1 x10 y6 y7 y8))
def Qqj (x1 x10 x11 : Int) (y6 y7 : Qad) (y8 : Keep) : Option (Exit × VS) := br (algN y7 x10 x11.toNat) (some (.ret, Qek (Qbv))) <| some (.exit 0, QfW (x1) (x10) (y6) (y7) (y8))
theorem QRa (x1 x10 x11 : Int) (y6 y7 : Qad) (y8 : Keep) : Qaj g_f6 Qnt QoC (Quc x1 x10 x11 y6 y7 y8) = QM1 x1 x10 x11 y6 y7 y8 := by kernel_rfl
theorem QEf (x1 x10 x11 : Int) (y6 y7 : Qad) (y8 : Keep) : Qqd x1 x10 x11 y6 y7 y8 = Qwt x1 x10 x11 y6 y7 y8 := (Qaq _ _).trans (by
 rw [QRa]
 simp only [QM1, Qwt, QaE, nxt_n, nxt_r, nxt_e, nxt_0]
 rfl)
def Qwl (p0 : List Int) (p1 : Int) : Option (V × List VO) :=
 let a1 := (copyE (((prV (roll p0)).2).1, ((((prV (roll p0)).2).2).1, (((((prV (roll p0)).2).2).2).1, ((((((prV (roll p0)).2).2).2).2).1, (((((((prV (roll p0)).2).2).2).2).2).1, ((((((((prV (roll p0)).2).2).2).2).2).2).1, (((((((((prV (roll p0)).2).2).2).2).2).2).2).1, ((((((((((prV (roll p0)).2).2).2).2).2).2).2).2).1, (((((((((((prV (roll p0)).2).2).2).2).2).2).2).2).2).1, ()))))))))))
 let a2 := (QaU (((prV (roll p0)).1).1, ((((prV (roll p0)).1).2).1, (((((prV (roll p0)).1).2).2).1, ((((((prV (roll p0)).1).2).2).2).1, (((((((prV (roll p0)).1).2).2).2).2).1, ((((((((prV (roll p0)).1).2).2).2).2).2).1, (((((((((prV (roll p0)).1).2).2).2).2).2).2).1, ((((((((((prV (roll p0)).1).2).2).2).2).2).2).2).1, (((((((((((prV (roll p0)).1).2).2).2).2).2).2).2).2).1, ()))))))))) (a1.1, ((a1.2).1, (((a1.2).2).1, ((((a1.2).2).2).1, (((((a1.2).2).2).2).1, ((((((((a1.2).2).2).2).2).1) ++ ([(((lgt tI ([5, 6, 7]) (Int.toNat (irem (icv .i64 p1) 3))), ((lgt tI ([2048, 2048, 256]) (Int.toNat (irem (icv .i64 (p1)) 3))), ())), (300, (([] : List Qaa), ())))])), (((((((a1.2).2).2).2).2).2).1, ((((((((a1.2).2).2).2).2).2).2).1, (((((((((a1.2).2).2).2).2).2).2).2).1, ()))))))))) 15)
 br (ieq (a2.2) 29) (br (and (ieq ((a2.1).1) 0) (and (ieq (((a2.1).2).1) 0) true)) (some (.t .bool Qbv, [])) (some (.t .bool false, []))) (some (.t .bool false, []))
def Qr2 (p0 : List Int) (p1 : Int) : Option (V × List VO) :=
 let a1 := (((prV (roll p0)).2).1, ((((prV (roll p0)).2).2).1, (((((prV (roll p0)).2).2).2).1, ((((((prV (roll p0)).2).2).2).2).1, (((((((prV (roll p0)).2).2).2).2).2).1, ((((((((prV (roll p0)).2).2).2).2).2).2).1, (((((((((prV (roll p0)).2).2).2).2).2).2).2).1, ((((((((((prV (roll p0)).2).2).2).2).2).2).2).2).1, (((((((((((prV (roll p0)).2).2).2).2).2).2).2).2).2).1, ())))))))))
 let a2 := (((prV (roll p0)).1).1, ((((prV (roll p0)).1).2).1, (((((prV (roll p0)).1).2).2).1, ((((((prV (roll p0)).1).2).2).2).1, (((((((prV (roll p0)).1).2).2).2).2).1, ((((((((prV (roll p0)).1).2).2).2).2).2).1, (((((((((prV (roll p0)).1).2).2).2).2).2).2).1, ((((((((((prV (roll p0)).1).2).2).2).2).2).2).2).1, (((((((((((prV (roll p0)).1).2).2).2).2).2).2).2).2).1, ())))))))))
 let a6 := (lgt tI ([5, 6, 7]) (Int.toNat (irem (icv .i64 p1) 3)))
 let a8 := irem (icv .i64 (p1)) 3
 let a3 := ((((((((copyE a1).2).2).2).2).2).1) ++ ([((a6, ((lgt tI ([2048, 2048, 256]) (Int.toNat a8)), ())), (300, (([] : List Qaa), ())))]))
 let a4 := ((copyE a1).1, (((copyE a1).2).1, ((((copyE a1).2).2).1, (((((copyE a1).2).2).2).1, ((((((copyE a1).2).2).2).2).1, (a3, ((((((((copyE a1).2).2).2).2).2).2).1, (((((((((copyE a1).2).2).2).2).2).2).2).1, ((((((((((copyE a1).2).2).2).2).2).2).2).2).1, ())))))))))
 let a5 := ((((QaU a2 a1 15).1).2).1)
 let a7 := ((QaS a1 a5).1)
 br (cNz 3) (br (cIx ([5, 6, 7]) (irem (icv .i64 p1) 3)) (br (decide (0 ≤ (0 : Int) ∧ (0 : Int) ≤ (eIds a1).length ∧ (eIds a1).length ≤ 100000)) (br (algN a1 a6 (0 : Int).toNat) (some (.t .bool (Qbv), [])) (br (idnOk a1 a5) (br (ilt a7 0) (some (.t .bool false, [])) (br (ige a7 (llen ((((((a1.2).2).2).2).2).1))) (some (.t .bool false, [])) (br (Qbw a1) (br (cNz 3) (br (cIx ([2048, 2048, 256]) a8) (br (cApp (((((((copyE a1).2).2).2).2).2).1) ([((a6, ((lgt tI ([2048, 2048, 256]) (Int.toNat a8)), ())), (300, (([] : List Qaa), ())))]) 48) (br (QeV a2 a4 15) (br (idnOk a4 a5) (br (!((QaS a4 a5).2)) (some (.t .bool false, [])) (br (ine ((QaS a4 a5).1) a7) (some (.t .bool false, [])) (br (ieq ((QaU a2 a4 15).2) 0) (br (ieq (((QaU a2 a4 15).1).1) (((QaU a2 a1 15).1).1)) (some (.t .bool Qbv, [])) (Qwl p0 p1)) (Qwl p0 p1)))) none) none) none) none) none) none))) none)) none) none) none
def r_f6 (p0 : List Int) (p1 : Int) : Option (V × List VO) :=
 let a1 := prV (roll p0)
 let a2 := ((a1.1).1, (((a1.1).2).1, ((((a1.1).2).2).1, (((((a1.1).2).2).2).1, ((((((a1.1).2).2).2).2).1, (((((((a1.1).2).2).2).2).2).1, ((((((((a1.1).2).2).2).2).2).2).1, (((((((((a1.1).2).2).2).2).2).2).2).1, ((((((((((a1.1).2).2).2).2).2).2).2).2).1, ())))))))))
 let a3 := ((a1.2).1, (((a1.2).2).1, ((((a1.2).2).2).1, (((((a1.2).2).2).2).1, ((((((a1.2).2).2).2).2).1, (((((((a1.2).2).2).2).2).2).1, ((((((((a1.2).2).2).2).2).2).2).1, (((((((((a1.2).2).2).2).2).2).2).2).1, ((((((((((a1.2).2).2).2).2).2).2).2).2).1, ())))))))))
 br (!(light p0)) (some (.t .bool Qbv, [])) (br (dOk (roll p0)) (br (QeV a2 a3 15) (br (ine ((QaU a2 a3 15).2) 0) (some (.t .bool Qbv, [])) (br (ieq (llen (((((((a1.2).2).2).2).2).2).1)) 4) (some (.t .bool Qbv, [])) (br (ieq ((((a1.1).2).2).1) 4) (br (ieq ((((a1.2).2).2).1) 4) (some (.t .bool Qbv, [])) (Qr2 p0 p1)) (Qr2 p0 p1)))) none) none)
theorem e_f6 (p0 : List Int) (p1 : Int) : runF g_f6 tc_f6 rv_f6 false [.t (.sl tI) p0, .t (.int .u8) p1] [] = r_f6 p0 p1 := by kernel_rfl
theorem gk_f6 : GOk Tryz.prog g_f6 := Qan _ (gA (gC en_f7 ms_f7 (gC en_f8 ms_f8 (gC en_f9 ms_f9 (gC en_f10 ms_f10 (gC QMX QMF (gC QxH Qww (gC en_f29 ms_f29 gN))))))))
theorem l_f6_0 (x1 x10 x11 : Int) (y6 y7 : Qad) (y8 : Keep) (h : (decide (0 ≤ x11 ∧ x11 ≤ (eIds y7).length ∧ (eIds y7).length ≤ 100000)) = true) : Qqd x1 x10 x11 y6 y7 y8 = Qqj x1 x10 x11 y6 y7 y8 := by
 obtain ⟨h0, h1, h3⟩ := of_decide_eq_true h
 obtain ⟨k, rfl⟩ := Int.eq_ofNat_of_zero_le h0
 refine Qav (eIds y7) (fun k => Qqd x1 x10 (k : Int) y6 y7 y8 = Qqj x1 x10 (k : Int) y6 y7 y8) ?_ ?_ k (by omega)
 ·rw [QEf]
  simp only [Qwt, Qqj, QIJ (eIds y7), Qae, Int.toNat_natCast, algN, List.drop_length, List.any_nil]
 ·intro k hk ih
  rw [QEf]
  have e1 : algN y7 x10 k = (ieq (eIds y7)[k].1.1 x10 || algN y7 x10 (k + 1)) := by
   unfold algN
   rw [List.drop_eq_getElem_cons hk, List.any_cons]
  simp only [Qwt, Qqj, QPx (l := eIds y7) hk, Qay, hk, decide_true, Qac, Int.toNat_natCast, add1 (show k < 4611686018427387904 by omega), QaG (y := Qak) hk, e1, ih]
  cases ieq (eIds y7)[k].1.1 x10 <;> rfl
theorem QOk : ∀ S l p, g_f6.L 0 (fgt Qnt S) = some (true, l) → pickA l = some p → loopF (Qaj g_f6 Qnt QoC) S = some p :=
 QaF (s := Quz) ⟨by decide, by decide⟩ (by kernel_rfl) fun x y hok p hp => by
 simp only [Qas, Qap] at hp
 exact (l_f6_0 x.1 x.2.2.2.2.1 x.2.2.2.2.2.1 y.1 y.2.1 y.2.2.1 (by simpa using hok)).trans hp
theorem lk_f6 : tc_f6.lok g_f6 := by
 repeat (first | exact trivial | exact QOk | refine ⟨?_, ?_⟩)
theorem aEta (e : Qad) (x : Qal) : (e.1, (e.2.1, (e.2.2.1, (e.2.2.2.1, (e.2.2.2.2.1, (e.2.2.2.2.2.1 ++ [x], (e.2.2.2.2.2.2.1, (e.2.2.2.2.2.2.2.1, (e.2.2.2.2.2.2.2.2.1, ()))))))))) = addI e x := rfl
theorem Qzf {e : Qad} (h : QaO e = true) : (eIds e).length ≤ 4 := by
 simp only [QaO, Bool.and_eq_true, Bool.not_eq_true'] at h
 have := of_decide_eq_false h.2.2.2.2.2.1
 simp only [llen] at this
 omega
theorem QRd {e : Qad} {x : Qal} (h : Qbw e = true) (hl : (eIds e).length < 4) (hx : idLen x = true) : Qbw (addI e x) = true := by
 obtain ⟨h1, h2, h3, h4, h5, h6⟩ := Qbk h
 show (nameG e.1 && decide ((Qao e).length ≤ 100000 ∧ (eIds e ++ [x]).length ≤ 100000 ∧ (eAnch e).length ≤ 100000 ∧ (eHash e).length ≤ 100000) && (eIds e ++ [x]).all idLen) = true
 rw [h1, List.all_append, h6, List.all_cons, hx, decide_eq_true ⟨h2, by rw [List.length_append, List.length_singleton]; omega, h4, h5⟩]
 rfl
attribute [local irreducible] prV prN oddV oddN Qby withF suiV suiN
set_option maxRecDepth 100000 in
theorem s_f6 (l : List Int) (t : Int) (h : QDe l t = true) : r_f6 l t = some (.t .bool (dualT l t), []) := by
 cases hl : light l with
 | false => simp only [r_f6, Qr2, Qwl, hl, Bool.not_false, Qac]; rfl
 | true =>
  have hd := QJF hl
  have hCs : endSm (prV (roll l)).1 = true := prVC hd
  have hSs : endSm (prV (roll l)).2 = true := prVS hd
  have hCv : QaO (prV (roll l)).1 = true := prV1 hd
  have hSv : QaO (prV (roll l)).2 = true := prV2 hd
  obtain ⟨C, hC⟩ : ∃ C, C = (prV (roll l)).1 := ⟨_, rfl⟩
  obtain ⟨S, hS⟩ : ∃ S, S = (prV (roll l)).2 := ⟨_, rfl⟩
  rw [← hC] at hCs hCv
  rw [← hS] at hSs hSv
  obtain ⟨q1, q2, q3⟩ := QLk hCs
  obtain ⟨t1, t2, t3⟩ := QLk hSs
  have hr : Qcx C S = true := Bool.and_eq_true_iff.2 ⟨hCv, hSv⟩
  have h := of_decide_eq_true h
  have c1 : QeV C S 15 = true := Bool.and_eq_true_iff.2 ⟨q1, t1⟩
  have hmain : QaU C S 15 = QaU C S 15 → ieq (llen S.2.2.2.2.2.1) 4 = false → ine (QaU C S 15).2 0 = false → Qr2 l t = some (.t .bool (dualT l t), []) := by
   intro _ hl4 hz
   have hl5 : (eIds S).length < 4 := by
    have h1 := Qzf hSv
    have h2 : ¬ ((eIds S).length : Int) = 4 := by simpa [ieq, llen] using hl4
    omega
   rcases Qj1 (c := C) (s := S) (d := 15) hr (by omega) with ⟨e, _, _⟩ | ⟨e, _⟩ | ⟨e, _⟩ | ⟨k, hk, hf, hv, hp, _, e⟩
   ·rw [e] at hz; cases hz
   ·rw [e] at hz; cases hz
   ·rw [e] at hz; cases hz
   ·have ht : ∃ i : Nat, irem (icv .i64 t) 3 = (i : Int) ∧ i < 3 := by
     have e1 : icv .i64 t = t := Go.IntWalk.i64_in _ (by omega)
     refine ⟨t.toNat % 3, ?_, Nat.mod_lt _ (by omega)⟩
     rw [e1]
     show Int.tmod t 3 = _
     rw [Int.tmod_eq_emod_of_nonneg h.1]
     omega
    obtain ⟨i, hi, hi3⟩ := ht
    have g1 : cIx (α := tI.T) [5, 6, 7] (i : Int) = true := by rw [Qay]; exact decide_eq_true hi3
    have g2 : cIx (α := tI.T) [2048, 2048, 256] (i : Int) = true := by rw [Qay]; exact decide_eq_true hi3
    have hX : idOk ((lgt tI [5, 6, 7] i, (lgt tI [2048, 2048, 256] i, ())), (300, (([] : List Qaa), ()))) = true := by
     have : i = 0 ∨ i = 1 ∨ i = 2 := by omega
     have w0 : idOk ((5, (2048, ())), (300, (([] : List Qaa), ()))) = true := by kernel_rfl
     have w1 : idOk ((6, (2048, ())), (300, (([] : List Qaa), ()))) = true := by kernel_rfl
     have w2 : idOk ((7, (256, ())), (300, (([] : List Qaa), ()))) = true := by kernel_rfl
     rcases this with rfl | rfl | rfl
     ·exact w0
     ·exact w1
     ·exact w2
    have hXl : idLen ((lgt tI [5, 6, 7] i, (lgt tI [2048, 2048, 256] i, ())), (300, (([] : List Qaa), ()))) = true := rfl
    have c3 : ∀ x, idnOk S x = true := fun x => decide_eq_true (Qbk t1).2.2.1
    have c7 : decide ((0 : Int) ≤ 0 ∧ (0 : Int) ≤ (eIds S).length ∧ (eIds S).length ≤ 100000) = true := decide_eq_true ⟨Int.le_refl _, by omega, by omega⟩
    have c8 : ∀ x : Qal, cApp S.2.2.2.2.2.1 [x] 48 = true := fun x => cAppN (by omega) (by simp only [List.length_singleton]; show (eIds S).length + 1 ≤ _; omega)
    have hd := QJj (x := ((lgt tI [5, 6, 7] i, (lgt tI [2048, 2048, 256] i, ())), (300, (([] : List Qaa), ())))) (d := 15) hCv hSv hl5 hX (by omega) hv hk hp
    generalize (outL S (Qao C)).getD k 0 = x at hp e
    obtain ⟨a1, a2, a3, a4, a5, a6⟩ := and5 hp
    obtain ⟨j, hj, hjl, ha⟩ := QEK a6
    have g3 : ilt (j : Int) 0 = false := decide_eq_false (by omega)
    have g4 : ige (j : Int) (llen S.2.2.2.2.2.1) = false := decide_eq_false (by show ¬ (j : Int) ≥ ((eIds S).length : Int); omega)
    have o1 := QRd t1 hl5 hXl
    have c9 : QeV C (addI S ((lgt tI [5, 6, 7] i, (lgt tI [2048, 2048, 256] i, ())), (300, (([] : List Qaa), ())))) 15 = true := Bool.and_eq_true_iff.2 ⟨q1, o1⟩
    have c10 : ∀ x, idnOk (addI S ((lgt tI [5, 6, 7] i, (lgt tI [2048, 2048, 256] i, ())), (300, (([] : List Qaa), ())))) x = true := fun x => decide_eq_true (Qbk o1).2.2.1
    simp only [Qr2, Qwl, show cNz 3 = true from rfl, hi, g1, g2, Int.toNat_natCast, Int.toNat_zero, Qac, eEta, ← hC, ← hS, c3, t1, copyE, c8]
    refine Eq.trans (congrArg (fun b => br b _ _) g1) ?_
    rw [Qac]
    refine Eq.trans (congrArg (fun b => br b _ _) c7) ?_
    rw [Qac]
    simp only [aEta, c9, c10, e, QsO a6, a6, hj, g3, g4, Bool.not_true, Qae, Qac, QIG]
    generalize addI S ((lgt tI [5, 6, 7] i, (lgt tI [2048, 2048, 256] i, ())), (300, (([] : List Qaa), ()))) = T at hd
    cases hq : algN S (lgt tI [5, 6, 7] i) 0 with
    | true => rfl
    | false =>
     rcases hd with hd | ⟨m, hd⟩
     ·simp only [hd, Qac, Qae]
      refine Eq.trans (congrArg (fun b => br b _ _) g2) ?_
      rfl
     ·simp only [hd, show ieq (0 : Int) 0 = true from rfl, QIK, Qac, Qae]
      refine Eq.trans (congrArg (fun b => br b _ _) g2) ?_
      rfl
  cases hz : ine (QaU C S 15).2 0 with
  | true =>
   simp only [r_f6, hl, hd, Bool.not_true, Qae, Qac, eEta, ← hC, ← hS, c1, hz]
   rfl
  | false =>
   cases hl4 : ieq (llen S.2.2.2.2.2.1) 4 with
   | true =>
    simp only [r_f6, hl, hd, Bool.not_true, Qae, Qac, eEta, ← hC, ← hS, c1, hz, hl4]
    rfl
   | false =>
    simp only [r_f6, hl, hd, Bool.not_true, Qae, Qac, eEta, ← hC, ← hS, c1, hz, hl4, hmain rfl hl4 hz]
    cases ieq C.2.2.1 4 <;> cases ieq S.2.2.1 4 <;> rfl
def sp_f6 : Ent := spec (.pr (.sl tI) (.pr (.int .u8) .nil)) (fun x => (QDe x.1 x.2.1)) (fun x => (.t .bool (dualT x.1 x.2.1)))
theorem ms_f6 : Meets Tryz.prog 6 (strip sp_f6) := Qaf (R := runF g_f6 tc_f6 rv_f6 false) (mG Tryz.func6 (by kernel_rfl) Tryz.ntmps6 (by kernel_rfl) gk_f6 lk_f6) fun x hok => (e_f6 x.1 x.2.1).trans (s_f6 x.1 x.2.1 hok)
end
theorem Qjb (z0 : List Int) (z1 : Int) (w0 : Ty.wf (.sl (.int .i64)) z0) (w1 : Ty.wf (.int .u8) z1) : QDe z0 z1 = true := decide_eq_true (wf_u8 w1)
theorem walkNegotiateDual (z0 : (List Int)) (z1 : Int) (W : World) (v0 : Value) (v1 : Value) (c0 : C noX W (fun _ => .no) (V.t (.sl tI) z0).d v0) (c1 : C noX W (fun _ => .no) (V.t (.int .u8) z1).d v1) (w0 : Ty.wf (.sl tI) z0) (w1 : Ty.wf (.int .u8) z1) :
  Calls Tryz.prog 6 #[v0, v1] W fun r w' => r = .returned (.bool true) ∧ Below W.heap.size W w' :=
 QyY (by decide) ms_f6 (args := [.t (.sl tI) z0, .t (.int .u8) z1]) (Qyr (x := (z0, z1, ())) rfl (Qjb z0 z1 w0 w1)) (by simp only [V.ds, Cs]; exact ⟨_, _, rfl, c0, _, _, rfl, c1, rfl⟩)
end Go.Proofs.YtkngeegkjhipeaaGreat.K
