import Derived.Test.YtckcgijklnloiaaGreatQ10
import Derived.Test.YtckcgijklnloiaaGreatQ9
set_option linter.unusedSimpArgs false
set_option linter.unusedVariables false
namespace Go.Proofs.YtckcgijklnloiaaGreat.K
open Go.RowKit
noncomputable section
abbrev sAll : List ByteArray := [(ByteArray.mk #[97, 112, 112]), (ByteArray.mk #[100, 98]), (ByteArray.mk #[119, 101, 98])]
abbrev sSu : List (List Int) := [[10, 8, 2], [8, 2], [2, 10, 8, 3]]
abbrev sIt : List ByteArray := [(ByteArray.mk #[98, 97, 99, 107, 117, 112]), (ByteArray.mk #[100, 101, 101, 100])]
def nm1 (s : ByteArray) : Bool := decide (s.size ≤ 1000)
def sndSu (d : Dice) : List Int := bif ieq (dof d [3, 3, 4]) 4 then [14] ++ lgt (.sl tI) sSu (dval (dofN d [3, 3, 4]) 3).toNat else lgt (.sl tI) sSu (dval (dofN d [3, 3, 4]) 3).toNat
def sndE (d : Dice) (k : Nat) (s : ByteArray) : Qab := (s, (1, (dof d [3, 3, 4], (sndSu d, (done (dnext (dofN d [3, 3, 4]) 3) 2, ([leafV s rsaK (iadd .i64 100 (k : Int)) 1 901], ([1], ([2, 3], (done (dnext (dnext (dofN d [3, 3, 4]) 3) 2) 3, ())))))))))
def sndD (d : Dice) : Dice := dnext (dnext (dnext (dofN d [3, 3, 4]) 3) 2) 3
def sndZ : List ByteArray → Nat → Dice → List Qab × Dice
 | [], _, d => ([], d)
 | s :: r, k, d => (sndE d k s :: (sndZ r (k + 1) (sndD d)).1, (sndZ r (k + 1) (sndD d)).2)
def edZ : Nat → Int → Int → List Keep → Dice → List Keep × Dice
 | 0, _, _, l, d => (l, d)
 | m + 1, i, k, l, d => bif ine i k then (bif igt (dval d 3) 0 && ilt (llen l) 3 then edZ m i (k + 1) (l ++ [(i, (k, ()))]) (dnext d 3) else edZ m i (k + 1) l (dnext d 3)) else edZ m i (k + 1) l d
def edY : Nat → Nat → Int → List Keep → Dice → List Keep × Dice
 | 0, _, _, l, d => (l, d)
 | m + 1, n, i, l, d => edY m n (i + 1) (edZ n i 0 l d).1 (edZ n i 0 l d).2
def itZ : Nat → Dice → List Item × Dice
 | 0, d => ([], d)
 | n + 1, d => (itemV (dwdGN d sIt) (dwdG d sIt) :: (itZ n (itemN (dwdGN d sIt) (dwdG d sIt))).1, (itZ n (itemN (dwdGN d sIt) (dwdG d sIt))).2)
def sndNm (d : Dice) : List ByteArray := lsl sAll 0 (iadd .i64 2 (dval d 2))
def sndEd (d : Dice) : List Keep × Dice := edY (sndNm d).length (sndNm d).length 0 [] (sndZ (sndNm d) 0 (dnext d 2)).2
def sndEg (d : Dice) : List Keep := bif ieq (llen (sndEd d).1) 0 then [(0, (1, ()))] else (sndEd d).1
def sndIt (d : Dice) : List Item × Dice := itZ (dval (sndEd d).2 3).toNat (dnext (sndEd d).2 3)
def sndV (d : Dice) : Qaq := ((sndZ (sndNm d) 0 (dnext d 2)).1, (sndEg d, ((sndIt d).1, ())))
def sndN (d : Dice) : Dice := (sndIt d).2
theorem QNA {d : Dice} (h : dOk d = true) : dOk (sndD d) = true := QaK (QaK (QaK (QxM (l := [3, 3, 4]) h)))
theorem QHQ : ∀ (l : List ByteArray) (k : Nat) (d : Dice), dOk d = true → dOk (sndZ l k d).2 = true
 | [], _, _, h => h
 | _ :: r, k, d, h => QHQ r (k + 1) (sndD d) (QNA h)
theorem QsE : ∀ (m : Nat) (i k : Int) (l : List Keep) (d : Dice), dOk d = true → l.length ≤ 3 → dOk (edZ m i k l d).2 = true ∧ (edZ m i k l d).1.length ≤ 3
 | 0, _, _, _, _, h, hl => ⟨h, hl⟩
 | m + 1, i, k, l, d, h, hl => by
  unfold edZ
  cases ine i k with
  | false => exact QsE m i (k + 1) l d h hl
  | true =>
   cases h1 : igt (dval d 3) 0 with
   | false => exact QsE m i (k + 1) l (dnext d 3) (QaK h) hl
   | true =>
    cases h2 : ilt (llen l) 3 with
    | false => exact QsE m i (k + 1) l (dnext d 3) (QaK h) hl
    | true =>
     have : l.length < 3 := by have := of_decide_eq_true h2; simp only [llen] at this; omega
     exact QsE m i (k + 1) _ (dnext d 3) (QaK h) (by simp only [List.length_append, List.length_singleton]; omega)
theorem QU2 : ∀ (m n : Nat) (i : Int) (l : List Keep) (d : Dice), dOk d = true → l.length ≤ 3 → dOk (edY m n i l d).2 = true ∧ (edY m n i l d).1.length ≤ 3
 | 0, _, _, _, _, h, hl => ⟨h, hl⟩
 | m + 1, n, i, l, d, h, hl => by
  have := QsE n i 0 l d h hl
  exact QU2 m n (i + 1) _ _ this.1 this.2
theorem QDz {d : Dice} (h : dOk d = true) : dOk (dwdGN d sIt) = true := QaK (n := 2) h
theorem Qiz (d : Dice) : sndNm d = sAll.take 2 ∨ sndNm d = sAll := by
 have hv := Qbu (d := d) (n := 2) (by omega)
 have e : iadd .i64 2 (dval d 2) = 2 + dval d 2 := Qbg (by omega)
 unfold sndNm
 rw [e]
 rcases (show dval d 2 = 0 ∨ dval d 2 = 1 by omega) with h | h <;> rw [h]
 ·exact .inl rfl
 ·exact .inr rfl
theorem Qnu (d : Dice) : 2 ≤ (sndNm d).length ∧ (sndNm d).length ≤ 3 ∧ (sndNm d).all nm1 = true := by
 rcases Qiz d with h | h <;> rw [h] <;> exact ⟨by decide, by decide, by decide⟩
noncomputable def QRM : List DO := dT Tryz.f17 6
noncomputable def QRL : List DO := dT Tryz.f17 26
def Qk8 : Fg := ⟨[(0, none), (2, none), (3, none), (4, some (.sl .str)), (16, some (.sl .str)), (17, some tI), (18, some tI)], [(2, some Qau), (3, none), (61, none), (94, none), (103, none), (119, none), (20300, none), (20301, none), (20302, none), (50000, some QaL)]⟩
noncomputable def Qnh : TC := (.sq (.reg (rT Tryz.f17 4)) (.sq (.cd (.t 19) .sk (.fg ⟨[(0, none), (2, none), (3, none), (4, some (.sl .str))], [(2, some Qau), (3, some Qau), (61, none), (94, none), (103, none), (119, none), (20300, none), (20301, none), (20302, none), (50000, some QaL)]⟩ (.ex 0))) (.sq (.bk 1 (.sq (.reg (rT Tryz.f17 5)) (.sq (.dr QRM [(0, []), (1, [50000]), (2, []), (3, [26, 5026, 10026, 15026, 50000]), (4, []), (5, []), (6, []), (7, []), (8, [50000]), (9, [32, 5032, 10032, 15032, 50000]), (10, []), (11, []), (12, [50000]), (13, [36, 5036, 10036, 15036, 50000]), (14, []), (15, []), (16, [50000]), (17, [40, 5040, 10040, 15040, 50000]), (18, []), (19, [7, 5007, 10007, 15007]), (20, [7, 45, 48, 20703])] (.one 0 (.one 1 (.one 2 (.one 4 (.one 5 (.one 6 (.one 7 (.one 8 (.one 12 (.one 14 (.one 15 (.one 16 (.alt 3 (.alt 9 (.one 10 (.one 11 (.alt 13 (.alt 17 (.of [18, 19, 20]) (.of [19, 17, 18, 20])) (.of [19, 13, 17, 18, 20])))) (.of [19, 9, 10, 11, 13, 17, 18, 20])) (.of [19, 3, 9, 10, 11, 13, 17, 18, 20]))))))))))))))) (.sq (.sq (.reg (rT Tryz.f17 7)) (.cd (.t 44) (.reg (rT Tryz.f17 8)) .sk)) (.sq (.reg (rT Tryz.f17 9)) (.reg (rT Tryz.f17 10))))))) (.reg (rT Tryz.f17 11)))))
def Qk7 : Fg := ⟨[(0, none), (2, none), (3, none), (4, some (.sl .str)), (8, some tI), (65, some tI), (66, some tI), (70, some tI), (71, some tI)], [(2, some Qau), (3, none), (61, none), (94, none), (103, none), (119, none), (20300, none), (20301, none), (20302, none), (50000, some QaL)]⟩
noncomputable def Qng : TC := (.sq (.reg (rT Tryz.f17 16)) (.sq (.cd (.t 72) .sk (.fg ⟨[(0, none), (2, none), (3, none), (4, some (.sl .str)), (65, some tI), (66, some tI)], [(2, some Qau), (3, some Qau), (61, none), (94, none), (103, none), (119, none), (20300, none), (20301, none), (20302, none), (50000, some QaL)]⟩ (.ex 4))) (.sq (.bk 5 (.sq (.reg (rT Tryz.f17 17)) (.sq (.reg (rT Tryz.f17 18)) (.cd (.t 87) (.reg (rT Tryz.f17 19)) .sk)))) (.reg (rT Tryz.f17 20)))))
def Qk6 : Fg := ⟨[(0, none), (2, none), (3, none), (4, some (.sl .str)), (65, some tI), (66, some tI)], [(2, some Qau), (3, none), (61, none), (94, none), (103, none), (119, none), (20300, none), (20301, none), (20302, none), (50000, some QaL)]⟩
noncomputable def Qnf : TC := (.sq (.reg (rT Tryz.f17 13)) (.sq (.cd (.t 67) .sk (.fg ⟨[(0, none), (2, none), (3, none)], [(2, some Qau), (3, some Qau), (61, none), (94, none), (103, none), (119, none), (20300, none), (20301, none), (20302, none), (50000, some QaL)]⟩ (.ex 2))) (.sq (.bk 3 (.sq (.reg (rT Tryz.f17 14)) (.sq (.reg (rT Tryz.f17 15)) (.bk 4 (.nf 3 2 79 20302 (.nf 3 0 49 20300 (.nf 3 1 46 20301 (.lp 1 Qk7 Qng)))))))) (.reg (rT Tryz.f17 21)))))
def Qk5 : Fg := ⟨[(0, none), (2, none), (3, none), (10, some tI)], [(2, some Qau), (3, none), (61, none), (94, none), (103, none), (119, none), (20300, none), (20301, none), (20302, none), (50000, some QaL)]⟩
noncomputable def Qne : TC := (.sq (.sq (.reg (rT Tryz.f17 25)) (.cd (.t 108) .sk (.fg ⟨[(2, none), (3, none)], [(2, some Qau), (3, some Qau), (61, none), (94, none), (103, none), (119, none), (20300, none), (20301, none), (20302, none), (50000, some QaL)]⟩ (.ex 6)))) (.sq (.bk 7 (.dr QRL [(0, [3, 61, 94, 103, 119, 20300, 20301, 20302]), (1, [3, 61, 94, 103, 119, 20300, 20301, 20302]), (2, [50000]), (3, [50000]), (4, []), (5, [116, 5116, 10116, 15116, 50000]), (6, [117, 5117, 10117, 15117, 50000]), (7, []), (8, [2, 3, 61, 94, 103, 119, 5119, 10119, 15119, 20300, 20301, 20302]), (9, [3, 61, 94, 103, 119, 20300, 20301, 20302]), (10, [2, 3, 61, 94, 103, 119, 20300, 20301, 20302])] (.of [0, 1, 2, 3, 4, 5, 6, 7, 8, 9, 10]))) (.reg (rT Tryz.f17 27))))
noncomputable def QGr : TC := (.sq (.reg (rT Tryz.f17 0)) (.sq (.reg (rT Tryz.f17 1)) (.sq (.reg (rT Tryz.f17 2)) (.sq (.sq (.reg (rT Tryz.f17 3)) (.bk 0 (.nf 3 2 79 20302 (.nf 3 1 46 20301 (.nf 3 0 49 20300 (.nf 7 3 3 20703 (.lp 0 Qk8 Qnh))))))) (.sq (.sq (.reg (rT Tryz.f17 12)) (.bk 2 (.nf 3 2 79 20302 (.nf 3 0 49 20300 (.nf 3 1 46 20301 (.lp 2 Qk6 Qnf)))))) (.sq (.sq (.reg (rT Tryz.f17 22)) (.cd (.t 101) (.reg (rT Tryz.f17 23)) .sk)) (.sq (.sq (.reg (rT Tryz.f17 24)) (.bk 6 (.fz [20301, 103] (.nf 3 1 46 20301 (.nf 3 0 49 20300 (.nf 3 2 79 20302 (.lp 3 Qk5 Qne))))))) (.sq (.reg (rT Tryz.f17 28)) .rt))))))))
def QUd : List (RV × Option Ty) := [((.c 2 true 3), some Qau)]
abbrev QtI : Sh := ⟨[(0, .ptr 50000 0), (2, .ptr 2 0), (3, .ptr 3 0), (4, .ty (.sl .str)), (16, .ty (.sl .str)), (17, .ty tI), (18, .ty tI)], [(2, .box Qau), (3, .bag [.ms 20300, .ms 20301, .ms 20302]), (61, .no), (94, .no), (103, .no), (119, .no), (20300, .arr 49 Qae), (20301, .arr 46 Qag), (20302, .arr 79 QaW), (50000, .box QaL)]⟩
def Qns (x4 x16 : List ByteArray) (x17 x18 : Int) (y2 : Qaq) (y20300 : List Qab) (y20301 : List Keep) (y20302 : List Item) (y50000 : Dice) : VS := QtI.st ((), (), (), x4, x16, x17, x18, ()) (y2, ((), (), (), ()), (), (), (), (), y20300, y20301, y20302, y50000, ())
abbrev QzT : Sh := ⟨[(0, .ptr 50000 0), (2, .ptr 2 0), (3, .ptr 3 0), (4, .ty (.sl .str))], [(2, .box Qau), (3, .bag [.ms 20300, .ms 20301, .ms 20302]), (61, .no), (94, .no), (103, .no), (119, .no), (20300, .arr 49 Qae), (20301, .arr 46 Qag), (20302, .arr 79 QaW), (50000, .box QaL)]⟩
def QfB (x4 : List ByteArray) (y2 : Qaq) (y20300 : List Qab) (y20301 : List Keep) (y20302 : List Item) (y50000 : Dice) : VS := QzT.st ((), (), (), x4, ()) (y2, ((), (), (), ()), (), (), (), (), y20300, y20301, y20302, y50000, ())
abbrev QtH : Sh := ⟨[(0, .ptr 50000 0), (2, .ptr 2 0), (3, .ptr 3 0), (4, .ty (.sl .str)), (8, .ty tI), (65, .ty tI), (66, .ty tI), (70, .ty tI), (71, .ty tI)], [(2, .box Qau), (3, .bag [.ms 20300, .ms 20301, .ms 20302]), (61, .no), (94, .no), (103, .no), (119, .no), (20300, .arr 49 Qae), (20301, .arr 46 Qag), (20302, .arr 79 QaW), (50000, .box QaL)]⟩
def QhA (x4 : List ByteArray) (x8 x65 x66 x70 x71 : Int) (y2 : Qaq) (y20300 : List Qab) (y20301 : List Keep) (y20302 : List Item) (y50000 : Dice) : VS := QtH.st ((), (), (), x4, x8, x65, x66, x70, x71, ()) (y2, ((), (), (), ()), (), (), (), (), y20300, y20301, y20302, y50000, ())
abbrev QzS : Sh := ⟨[(0, .ptr 50000 0), (2, .ptr 2 0), (3, .ptr 3 0), (4, .ty (.sl .str)), (65, .ty tI), (66, .ty tI)], [(2, .box Qau), (3, .bag [.ms 20300, .ms 20301, .ms 20302]), (61, .no), (94, .no), (103, .no), (119, .no), (20300, .arr 49 Qae), (20301, .arr 46 Qag), (20302, .arr 79 QaW), (50000, .box QaL)]⟩
def QfA (x4 : List ByteArray) (x65 x66 : Int) (y2 : Qaq) (y20300 : List Qab) (y20301 : List Keep) (y20302 : List Item) (y50000 : Dice) : VS := QzS.st ((), (), (), x4, x65, x66, ()) (y2, ((), (), (), ()), (), (), (), (), y20300, y20301, y20302, y50000, ())
abbrev QtG : Sh := ⟨[(0, .ptr 50000 0), (2, .ptr 2 0), (3, .ptr 3 0), (4, .ty (.sl .str)), (65, .ty tI), (66, .ty tI)], [(2, .box Qau), (3, .bag [.ms 20300, .ms 20301, .ms 20302]), (61, .no), (94, .no), (103, .no), (119, .no), (20300, .arr 49 Qae), (20301, .arr 46 Qag), (20302, .arr 79 QaW), (50000, .box QaL)]⟩
def Qs7 (x4 : List ByteArray) (x65 x66 : Int) (y2 : Qaq) (y20300 : List Qab) (y20301 : List Keep) (y20302 : List Item) (y50000 : Dice) : VS := QtG.st ((), (), (), x4, x65, x66, ()) (y2, ((), (), (), ()), (), (), (), (), y20300, y20301, y20302, y50000, ())
abbrev QzR : Sh := ⟨[(0, .ptr 50000 0), (2, .ptr 2 0), (3, .ptr 3 0)], [(2, .box Qau), (3, .bag [.ms 20300, .ms 20301, .ms 20302]), (61, .no), (94, .no), (103, .no), (119, .no), (20300, .arr 49 Qae), (20301, .arr 46 Qag), (20302, .arr 79 QaW), (50000, .box QaL)]⟩
def Qfz (y2 : Qaq) (y20300 : List Qab) (y20301 : List Keep) (y20302 : List Item) (y50000 : Dice) : VS := QzR.st ((), (), (), ()) (y2, ((), (), (), ()), (), (), (), (), y20300, y20301, y20302, y50000, ())
abbrev QtF : Sh := ⟨[(0, .ptr 50000 0), (2, .ptr 2 0), (3, .ptr 3 0), (10, .ty tI)], [(2, .box Qau), (3, .bag [.ms 20300, .ty (.sl Qag), .ms 20302]), (61, .no), (94, .no), (103, .no), (119, .no), (20300, .arr 49 Qae), (20301, .no), (20302, .arr 79 QaW), (50000, .box QaL)]⟩
def Qs6 (x10 : Int) (y2 : Qaq) (y3_1 : List Keep) (y20300 : List Qab) (y20302 : List Item) (y50000 : Dice) : VS := QtF.st ((), (), (), x10, ()) (y2, ((), y3_1, (), ()), (), (), (), (), y20300, (), y20302, y50000, ())
abbrev QzQ : Sh := ⟨[(2, .ptr 2 0), (3, .ptr 3 0)], [(2, .box Qau), (3, .bag [.ms 20300, .ty (.sl Qag), .ms 20302]), (61, .no), (94, .no), (103, .no), (119, .no), (20300, .arr 49 Qae), (20301, .no), (20302, .arr 79 QaW), (50000, .box QaL)]⟩
def Qfy (y2 : Qaq) (y3_1 : List Keep) (y20300 : List Qab) (y20302 : List Item) (y50000 : Dice) : VS := QzQ.st ((), (), ()) (y2, ((), y3_1, (), ()), (), (), (), (), y20300, (), y20302, y50000, ())
def Q1f : VS → Option (Bool × List (Bool × Exit × VS)) := mkL QtI (fun x y => (rngOk x.2.2.2.2.1 x.2.2.2.2.2.1 x.2.2.2.2.2.2.1 && (dOk y.2.2.2.2.2.2.2.2.2.1 && (decide (y.2.2.2.2.2.2.1.length ≤ x.2.2.2.2.2.2.1) && x.2.2.2.2.1.all nm1)))) (fun x y => [(true, .exit 0, QfB (x.2.2.2.1) (y.1) (y.2.2.2.2.2.2.1 ++ (sndZ (x.2.2.2.2.1.drop x.2.2.2.2.2.2.1.toNat) x.2.2.2.2.2.2.1.toNat y.2.2.2.2.2.2.2.2.2.1).1) (y.2.2.2.2.2.2.2.1) (y.2.2.2.2.2.2.2.2.1) ((sndZ (x.2.2.2.2.1.drop x.2.2.2.2.2.2.1.toNat) x.2.2.2.2.2.2.1.toNat y.2.2.2.2.2.2.2.2.2.1).2))])
def Q1e : VS → Option (Bool × List (Bool × Exit × VS)) := mkL QtH (fun x y => (dOk y.2.2.2.2.2.2.2.2.2.1 && decide (0 ≤ x.2.2.2.2.2.2.2.2.1 ∧ x.2.2.2.2.2.2.2.2.1 ≤ x.2.2.2.2.2.2.2.1 ∧ x.2.2.2.2.2.2.2.1 ≤ 3 ∧ y.2.2.2.2.2.2.2.1.length ≤ 3))) (fun x y => [(true, .exit 4, QfA (x.2.2.2.1) (x.2.2.2.2.2.1) (x.2.2.2.2.2.2.1) (y.1) (y.2.2.2.2.2.2.1) ((edZ (x.2.2.2.2.2.2.2.1 - x.2.2.2.2.2.2.2.2.1).toNat x.2.2.2.2.1 x.2.2.2.2.2.2.2.2.1 y.2.2.2.2.2.2.2.1 y.2.2.2.2.2.2.2.2.2.1).1) (y.2.2.2.2.2.2.2.2.1) ((edZ (x.2.2.2.2.2.2.2.1 - x.2.2.2.2.2.2.2.2.1).toNat x.2.2.2.2.1 x.2.2.2.2.2.2.2.2.1 y.2.2.2.2.2.2.2.1 y.2.2.2.2.2.2.2.2.2.1).2))])
def Q1d : VS → Option (Bool × List (Bool × Exit × VS)) := mkL QtG (fun x y => (dOk y.2.2.2.2.2.2.2.2.2.1 && decide (0 ≤ x.2.2.2.2.2.1 ∧ x.2.2.2.2.2.1 ≤ x.2.2.2.2.1 ∧ x.2.2.2.2.1 ≤ 3 ∧ x.2.2.2.1.length ≤ 3 ∧ y.2.2.2.2.2.2.2.1.length ≤ 3))) (fun x y => [(true, .exit 2, Qfz (y.1) (y.2.2.2.2.2.2.1) ((edY (x.2.2.2.2.1 - x.2.2.2.2.2.1).toNat x.2.2.2.1.length x.2.2.2.2.2.1 y.2.2.2.2.2.2.2.1 y.2.2.2.2.2.2.2.2.2.1).1) (y.2.2.2.2.2.2.2.2.1) ((edY (x.2.2.2.2.1 - x.2.2.2.2.2.1).toNat x.2.2.2.1.length x.2.2.2.2.2.1 y.2.2.2.2.2.2.2.1 y.2.2.2.2.2.2.2.2.2.1).2))])
def Q1c : VS → Option (Bool × List (Bool × Exit × VS)) := mkL QtF (fun x y => (dOk y.2.2.2.2.2.2.2.2.2.1 && decide (0 ≤ x.2.2.2.1 ∧ x.2.2.2.1 ≤ 3 ∧ y.2.2.2.2.2.2.2.2.1.length + x.2.2.2.1.toNat ≤ 100))) (fun x y => [(true, .exit 6, Qfy (y.1) (y.2.1.2.1) (y.2.2.2.2.2.2.1) (y.2.2.2.2.2.2.2.2.1 ++ (itZ x.2.2.2.1.toNat y.2.2.2.2.2.2.2.2.2.1).1) ((itZ x.2.2.2.1.toNat y.2.2.2.2.2.2.2.2.2.1).2))])
def g_f17 : G := ⟨TYs, [45, 103], 122, EL [(35, Qsg), (37, QTl), (38, QTk), (45, QGF), (46, QTj), (47, QTi), (48, QTh)], keeps, (Ls [Q1f, Q1e, Q1d, Q1c]), IL [], RL []⟩
def Qhx (x4 x16 : List ByteArray) (x17 x18 : Int) (y2 : Qaq) (y20300 : List Qab) (y20301 : List Keep) (y20302 : List Item) (y50000 : Dice) : Option (Exit × VS) :=
 let a5 := lgt .str x16 (Int.toNat x18)
 let a1 := leafV a5 rsaK (iadd .i64 100 x18) 1 901
 let a2 := (lgt (.sl tI) ([[10, 8, 2], [8, 2], [2, 10, 8, 3]]) (Int.toNat (dval (dofN y50000 ([3, 3, 4])) 3)))
 let a3 := (dnext (dofN y50000 ([3, 3, 4])) 3)
 let a4 := ((done a3 2), ([(((a1.1).1, (((a1.1).2).1, ())), ((a1.2).1, (((a1.2).2).1, ())))], ([1], ([2, 3], ((done (dnext a3 2) 3), ())))))
 let a6 := (dof y50000 ([3, 3, 4]))
 let a7 := Qsy a5 rsaK (iadd .i64 100 x18) 1 901
 br (oneOk (dnext a3 2) 3) (br (ieq a6 4) (br (cApp ([14]) a2 8) (br a7 (br (cApp y20300 ([(a5, (1, (a6, ((([14]) ++ a2), a4))))]) 144) (some (.normal, Qns x4 x16 x17 (iadd .i64 x18 1) y2 (y20300 ++ ([(a5, (1, (a6, ((([14]) ++ a2), a4))))])) y20301 y20302 (dnext (dnext a3 2) 3))) none) none) none) (br a7 (br (cApp y20300 ([(a5, (1, (a6, (a2, a4))))]) 144) (some (.normal, Qns x4 x16 x17 (iadd .i64 x18 1) y2 (y20300 ++ ([(a5, (1, (a6, (a2, a4))))])) y20301 y20302 (dnext (dnext a3 2) 3))) none) none)) none
def Qlf (x4 x16 : List ByteArray) (x17 x18 : Int) (y2 : Qaq) (y20300 : List Qab) (y20301 : List Keep) (y20302 : List Item) (y50000 : Dice) : Option (Exit × VS) := br (oneOk (dnext (dofN y50000 ([3, 3, 4])) 3) 2) (Qhx x4 x16 x17 x18 y2 y20300 y20301 y20302 y50000) none
def Qle (x4 x16 : List ByteArray) (x17 x18 : Int) (y2 : Qaq) (y20300 : List Qab) (y20301 : List Keep) (y20302 : List Item) (y50000 : Dice) : Option (Exit × VS) :=
 let a1 := (dofN y50000 ([3, 3, 4]))
 br (QaT a1 3) (br (cIx ([[10, 8, 2], [8, 2], [2, 10, 8, 3]]) (dval a1 3)) (Qlf x4 x16 x17 x18 y2 y20300 y20301 y20302 y50000) none) none
def QBq (x4 x16 : List ByteArray) (x17 x18 : Int) (y2 : Qaq) (y20300 : List Qab) (y20301 : List Keep) (y20302 : List Item) (y50000 : Dice) : Option (Exit × VS) :=
 let a1 := (dofN y50000 ([3, 3, 4]))
 let a2 := (ofOk y50000 ([3, 3, 4]))
 br (ilt x18 x17) (br (cIx x16 x18) (frk (br a2 (frk (br (QaT a1 3) (br (cIx ([[10, 8, 2], [8, 2], [2, 10, 8, 3]]) (dval a1 3)) (frk (br (oneOk (dnext a1 3) 2) (frk (Qhx x4 x16 x17 x18 y2 y20300 y20301 y20302 y50000) (Qhx x4 x16 x17 x18 y2 y20300 y20301 y20302 y50000)) none) (Qlf x4 x16 x17 x18 y2 y20300 y20301 y20302 y50000)) none) none) (Qle x4 x16 x17 x18 y2 y20300 y20301 y20302 y50000)) none) (br a2 (Qle x4 x16 x17 x18 y2 y20300 y20301 y20302 y50000) none)) none) (some (.exit 0, QfB x4 y2 y20300 y20301 y20302 y50000))
noncomputable def QhV (x4 x16 : List ByteArray) (x17 x18 : Int) (y2 : Qaq) (y20300 : List Qab) (y20301 : List Keep) (y20302 : List Item) (y50000 : Dice) : Option (Exit × VS) := loopF (Qaj g_f17 Qk8 Qnh) (Qns x4 x16 x17 x18 y2 y20300 y20301 y20302 y50000)
noncomputable def QdG (x4 x16 : List ByteArray) (x17 x18 : Int) (y2 : Qaq) (y20300 : List Qab) (y20301 : List Keep) (y20302 : List Item) (y50000 : Dice) : Option (Exit × VS) :=
 let a5 := lgt .str x16 (Int.toNat x18)
 let a1 := leafV a5 rsaK (iadd .i64 100 x18) 1 901
 let a2 := (lgt (.sl tI) ([[10, 8, 2], [8, 2], [2, 10, 8, 3]]) (Int.toNat (dval (dofN y50000 ([3, 3, 4])) 3)))
 let a3 := (dnext (dofN y50000 ([3, 3, 4])) 3)
 let a4 := ((done a3 2), ([(((a1.1).1, (((a1.1).2).1, ())), ((a1.2).1, (((a1.2).2).1, ())))], ([1], ([2, 3], ((done (dnext a3 2) 3), ())))))
 let a6 := (dof y50000 ([3, 3, 4]))
 let a7 := Qsy a5 rsaK (iadd .i64 100 x18) 1 901
 br (oneOk (dnext a3 2) 3) (br (ieq a6 4) (br (cApp ([14]) a2 8) (br a7 (br (cApp y20300 ([(a5, (1, (a6, ((([14]) ++ a2), a4))))]) 144) (QhV x4 x16 x17 (iadd .i64 x18 1) y2 (y20300 ++ ([(a5, (1, (a6, ((([14]) ++ a2), a4))))])) y20301 y20302 (dnext (dnext a3 2) 3)) none) none) none) (br a7 (br (cApp y20300 ([(a5, (1, (a6, (a2, a4))))]) 144) (QhV x4 x16 x17 (iadd .i64 x18 1) y2 (y20300 ++ ([(a5, (1, (a6, (a2, a4))))])) y20301 y20302 (dnext (dnext a3 2) 3)) none) none)) none
noncomputable def Qe7 (x4 x16 : List ByteArray) (x17 x18 : Int) (y2 : Qaq) (y20300 : List Qab) (y20301 : List Keep) (y20302 : List Item) (y50000 : Dice) : Option (Exit × VS) := br (oneOk (dnext (dofN y50000 ([3, 3, 4])) 3) 2) (QdG x4 x16 x17 x18 y2 y20300 y20301 y20302 y50000) none
noncomputable def Qe6 (x4 x16 : List ByteArray) (x17 x18 : Int) (y2 : Qaq) (y20300 : List Qab) (y20301 : List Keep) (y20302 : List Item) (y50000 : Dice) : Option (Exit × VS) :=
 let a1 := (dofN y50000 ([3, 3, 4]))
 br (QaT a1 3) (br (cIx ([[10, 8, 2], [8, 2], [2, 10, 8, 3]]) (dval a1 3)) (Qe7 x4 x16 x17 x18 y2 y20300 y20301 y20302 y50000) none) none
noncomputable def QqD (x4 x16 : List ByteArray) (x17 x18 : Int) (y2 : Qaq) (y20300 : List Qab) (y20301 : List Keep) (y20302 : List Item) (y50000 : Dice) : Option (Exit × VS) :=
 let a1 := (dofN y50000 ([3, 3, 4]))
 let a2 := (ofOk y50000 ([3, 3, 4]))
 br (ilt x18 x17) (br (cIx x16 x18) (frk (br a2 (frk (br (QaT a1 3) (br (cIx ([[10, 8, 2], [8, 2], [2, 10, 8, 3]]) (dval a1 3)) (frk (br (oneOk (dnext a1 3) 2) (frk (QdG x4 x16 x17 x18 y2 y20300 y20301 y20302 y50000) (QdG x4 x16 x17 x18 y2 y20300 y20301 y20302 y50000)) none) (Qe7 x4 x16 x17 x18 y2 y20300 y20301 y20302 y50000)) none) none) (Qe6 x4 x16 x17 x18 y2 y20300 y20301 y20302 y50000)) none) (br a2 (Qe6 x4 x16 x17 x18 y2 y20300 y20301 y20302 y50000) none)) none) (some (.exit 0, QfB x4 y2 y20300 y20301 y20302 y50000))
def Qf2 (x4 x16 : List ByteArray) (x17 x18 : Int) (y2 : Qaq) (y20300 : List Qab) (y20301 : List Keep) (y20302 : List Item) (y50000 : Dice) : Option (Exit × VS) :=
 let a1 := sndZ (x16.drop x18.toNat) x18.toNat y50000
 some (.exit 0, QfB (x4) (y2) (y20300 ++ a1.1) (y20301) (y20302) (a1.2))
theorem QSj (x4 x16 : List ByteArray) (x17 x18 : Int) (y2 : Qaq) (y20300 : List Qab) (y20301 : List Keep) (y20302 : List Item) (y50000 : Dice) : Qaj g_f17 Qk8 Qnh (Qns x4 x16 x17 x18 y2 y20300 y20301 y20302 y50000) = QBq x4 x16 x17 x18 y2 y20300 y20301 y20302 y50000 := by kernel_rfl
theorem QCp (x4 x16 : List ByteArray) (x17 x18 : Int) (y2 : Qaq) (y20300 : List Qab) (y20301 : List Keep) (y20302 : List Item) (y50000 : Dice) : QhV x4 x16 x17 x18 y2 y20300 y20301 y20302 y50000 = QqD x4 x16 x17 x18 y2 y20300 y20301 y20302 y50000 := (Qan _ _).trans (by
 rw [QSj]
 first
 |(simp only [QBq, Qhx, Qlf, Qle, QeN, QqD, QdG, Qe7, Qe6, QeN, Qay, nxt_n, nxt_r, nxt_e, nxt_0]
   rfl)
 |(simp only [QBq, Qhx, Qlf, Qle, QeN, QqD, QdG, Qe7, Qe6, QeN]
   try generalize (cApp y20300 ([((lgt .str x16 (Int.toNat x18)), (1, ((dof y50000 ([3, 3, 4])), ((([14]) ++ (lgt (.sl tI) ([[10, 8, 2], [8, 2], [2, 10, 8, 3]]) (Int.toNat (dval (dofN y50000 ([3, 3, 4])) 3)))), ((done (dnext (dofN y50000 ([3, 3, 4])) 3) 2), ([((((leafV (lgt .str x16 (Int.toNat x18)) rsaK (iadd .i64 100 x18) 1 901).1).1, ((((leafV (lgt .str x16 (Int.toNat x18)) rsaK (iadd .i64 100 x18) 1 901).1).2).1, ())), (((leafV (lgt .str x16 (Int.toNat x18)) rsaK (iadd .i64 100 x18) 1 901).2).1, ((((leafV (lgt .str x16 (Int.toNat x18)) rsaK (iadd .i64 100 x18) 1 901).2).2).1, ())))], ([1], ([2, 3], ((done (dnext (dnext (dofN y50000 ([3, 3, 4])) 3) 2) 3), ())))))))))]) 144) = cq0
   try generalize ((Qsy (lgt .str x16 (Int.toNat x18)) rsaK (iadd .i64 100 x18) 1 901)) = cq1
   try generalize (cApp ([14]) (lgt (.sl tI) ([[10, 8, 2], [8, 2], [2, 10, 8, 3]]) (Int.toNat (dval (dofN y50000 ([3, 3, 4])) 3))) 8) = cq2
   try generalize (cApp y20300 ([((lgt .str x16 (Int.toNat x18)), (1, ((dof y50000 ([3, 3, 4])), ((lgt (.sl tI) ([[10, 8, 2], [8, 2], [2, 10, 8, 3]]) (Int.toNat (dval (dofN y50000 ([3, 3, 4])) 3))), ((done (dnext (dofN y50000 ([3, 3, 4])) 3) 2), ([((((leafV (lgt .str x16 (Int.toNat x18)) rsaK (iadd .i64 100 x18) 1 901).1).1, ((((leafV (lgt .str x16 (Int.toNat x18)) rsaK (iadd .i64 100 x18) 1 901).1).2).1, ())), (((leafV (lgt .str x16 (Int.toNat x18)) rsaK (iadd .i64 100 x18) 1 901).2).1, ((((leafV (lgt .str x16 (Int.toNat x18)) rsaK (iadd .i64 100 x18) 1 901).2).2).1, ())))], ([1], ([2, 3], ((done (dnext (dnext (dofN y50000 ([3, 3, 4])) 3) 2) 3), ())))))))))]) 144) = cq3
   try generalize ((oneOk (dnext (dnext (dofN y50000 ([3, 3, 4])) 3) 2) 3)) = cq4
   try generalize ((oneOk (dnext (dofN y50000 ([3, 3, 4])) 3) 2)) = cq5
   try generalize (cIx ([[10, 8, 2], [8, 2], [2, 10, 8, 3]]) (dval (dofN y50000 ([3, 3, 4])) 3)) = cq6
   try generalize ((QaT (dofN y50000 ([3, 3, 4])) 3)) = cq7
   try generalize ((ofOk y50000 ([3, 3, 4]))) = cq8
   try generalize (cIx x16 x18) = cq9
   simp only [brN, QeN, Bool.and_assoc, Bool.and_comm, Bool.and_left_comm, Bool.and_self, Bool.and_self_left, Qay, nxt_n, nxt_r, nxt_e, nxt_0]
   try rfl))
def QOJ (x4 : List ByteArray) (x8 x65 x66 x70 x71 : Int) (y2 : Qaq) (y20300 : List Qab) (y20301 : List Keep) (y20302 : List Item) (y50000 : Dice) : Option (Exit × VS) :=
 let a1 := iadd .i64 x71 1
 let a2 := dnext y50000 3
 br (ilt x71 x70) (br (ine x8 x71) (br (QaT y50000 3) (br (igt (dval y50000 3) 0) (br (ilt (llen y20301) 3) (br (cApp y20301 ([(x8, (x71, ()))]) 16) (some (.normal, QhA x4 x8 x65 x66 x70 a1 y2 y20300 (y20301 ++ ([(x8, (x71, ()))])) y20302 a2)) none) (some (.normal, QhA x4 x8 x65 x66 x70 a1 y2 y20300 y20301 y20302 a2))) (some (.normal, QhA x4 x8 x65 x66 x70 a1 y2 y20300 y20301 y20302 a2))) none) (some (.normal, QhA x4 x8 x65 x66 x70 a1 y2 y20300 y20301 y20302 y50000))) (some (.exit 4, QfA x4 x65 x66 y2 y20300 y20301 y20302 y50000))
noncomputable def QfV (x4 : List ByteArray) (x8 x65 x66 x70 x71 : Int) (y2 : Qaq) (y20300 : List Qab) (y20301 : List Keep) (y20302 : List Item) (y50000 : Dice) : Option (Exit × VS) := loopF (Qaj g_f17 Qk7 Qng) (QhA x4 x8 x65 x66 x70 x71 y2 y20300 y20301 y20302 y50000)
noncomputable def QuJ (x4 : List ByteArray) (x8 x65 x66 x70 x71 : Int) (y2 : Qaq) (y20300 : List Qab) (y20301 : List Keep) (y20302 : List Item) (y50000 : Dice) : Option (Exit × VS) :=
 let a1 := iadd .i64 x71 1
 let a2 := dnext y50000 3
 br (ilt x71 x70) (br (ine x8 x71) (br (QaT y50000 3) (br (igt (dval y50000 3) 0) (br (ilt (llen y20301) 3) (br (cApp y20301 ([(x8, (x71, ()))]) 16) (QfV x4 x8 x65 x66 x70 a1 y2 y20300 (y20301 ++ ([(x8, (x71, ()))])) y20302 a2) none) (QfV x4 x8 x65 x66 x70 a1 y2 y20300 y20301 y20302 a2)) (QfV x4 x8 x65 x66 x70 a1 y2 y20300 y20301 y20302 a2)) none) (QfV x4 x8 x65 x66 x70 a1 y2 y20300 y20301 y20302 y50000)) (some (.exit 4, QfA x4 x65 x66 y2 y20300 y20301 y20302 y50000))
def Qf1 (x4 : List ByteArray) (x8 x65 x66 x70 x71 : Int) (y2 : Qaq) (y20300 : List Qab) (y20301 : List Keep) (y20302 : List Item) (y50000 : Dice) : Option (Exit × VS) :=
 let a1 := edZ (x70 - x71).toNat x8 x71 y20301 y50000
 some (.exit 4, QfA (x4) (x65) (x66) (y2) (y20300) (a1.1) (y20302) (a1.2))
theorem QSi (x4 : List ByteArray) (x8 x65 x66 x70 x71 : Int) (y2 : Qaq) (y20300 : List Qab) (y20301 : List Keep) (y20302 : List Item) (y50000 : Dice) : Qaj g_f17 Qk7 Qng (QhA x4 x8 x65 x66 x70 x71 y2 y20300 y20301 y20302 y50000) = QOJ x4 x8 x65 x66 x70 x71 y2 y20300 y20301 y20302 y50000 := by kernel_rfl
theorem QCo (x4 : List ByteArray) (x8 x65 x66 x70 x71 : Int) (y2 : Qaq) (y20300 : List Qab) (y20301 : List Keep) (y20302 : List Item) (y50000 : Dice) : QfV x4 x8 x65 x66 x70 x71 y2 y20300 y20301 y20302 y50000 = QuJ x4 x8 x65 x66 x70 x71 y2 y20300 y20301 y20302 y50000 := (Qan _ _).trans (by
 rw [QSi]
 simp only [QOJ, QuJ, Qay, nxt_n, nxt_r, nxt_e, nxt_0]
 rfl)
def QOI (x4 : List ByteArray) (x65 x66 : Int) (y2 : Qaq) (y20300 : List Qab) (y20301 : List Keep) (y20302 : List Item) (y50000 : Dice) : Option (Exit × VS) :=
 let a1 := (edZ ((llen x4) - (0 : Int)).toNat x66 (0 : Int) y20301 y50000)
 br (ilt x66 x65) (br (dOk y50000 && decide (0 ≤ (0 : Int) ∧ (0 : Int) ≤ (llen x4) ∧ (llen x4) ≤ 3 ∧ y20301.length ≤ 3)) (some (.normal, Qs7 (x4) (x65) (iadd .i64 (x66) 1) (y2) (y20300) (a1.1) (y20302) (a1.2))) none) (some (.exit 2, Qfz y2 y20300 y20301 y20302 y50000))
noncomputable def Qn9 (x4 : List ByteArray) (x65 x66 : Int) (y2 : Qaq) (y20300 : List Qab) (y20301 : List Keep) (y20302 : List Item) (y50000 : Dice) : Option (Exit × VS) := loopF (Qaj g_f17 Qk6 Qnf) (Qs7 x4 x65 x66 y2 y20300 y20301 y20302 y50000)
noncomputable def QuI (x4 : List ByteArray) (x65 x66 : Int) (y2 : Qaq) (y20300 : List Qab) (y20301 : List Keep) (y20302 : List Item) (y50000 : Dice) : Option (Exit × VS) :=
 let a1 := (edZ ((llen x4) - (0 : Int)).toNat x66 (0 : Int) y20301 y50000)
 br (ilt x66 x65) (br (dOk y50000 && decide (0 ≤ (0 : Int) ∧ (0 : Int) ≤ (llen x4) ∧ (llen x4) ≤ 3 ∧ y20301.length ≤ 3)) (Qn9 (x4) (x65) (iadd .i64 (x66) 1) (y2) (y20300) (a1.1) (y20302) (a1.2)) none) (some (.exit 2, Qfz y2 y20300 y20301 y20302 y50000))
def Qon (x4 : List ByteArray) (x65 x66 : Int) (y2 : Qaq) (y20300 : List Qab) (y20301 : List Keep) (y20302 : List Item) (y50000 : Dice) : Option (Exit × VS) :=
 let a1 := edY (x65 - x66).toNat x4.length x66 y20301 y50000
 some (.exit 2, Qfz (y2) (y20300) (a1.1) (y20302) (a1.2))
theorem QSh (x4 : List ByteArray) (x65 x66 : Int) (y2 : Qaq) (y20300 : List Qab) (y20301 : List Keep) (y20302 : List Item) (y50000 : Dice) : Qaj g_f17 Qk6 Qnf (Qs7 x4 x65 x66 y2 y20300 y20301 y20302 y50000) = QOI x4 x65 x66 y2 y20300 y20301 y20302 y50000 := by kernel_rfl
theorem QCn (x4 : List ByteArray) (x65 x66 : Int) (y2 : Qaq) (y20300 : List Qab) (y20301 : List Keep) (y20302 : List Item) (y50000 : Dice) : Qn9 x4 x65 x66 y2 y20300 y20301 y20302 y50000 = QuI x4 x65 x66 y2 y20300 y20301 y20302 y50000 := (Qan _ _).trans (by
 rw [QSh]
 simp only [QOI, QuI, Qay, nxt_n, nxt_r, nxt_e, nxt_0]
 rfl)
def QOH (x10 : Int) (y2 : Qaq) (y3_1 : List Keep) (y20300 : List Qab) (y20302 : List Item) (y50000 : Dice) : Option (Exit × VS) :=
 let a2 := (ByteArray.mk #[98, 97, 99, 107, 117, 112])
 let a3 := (ByteArray.mk #[100, 101, 101, 100])
 let a5 := (dwdGN y50000 ([a2, a3]))
 let a6 := (dwdG y50000 ([a2, a3]))
 let a1 := itemV a5 a6
 let a4 := ((a1.2).1, (((a1.2).2).1, ((((a1.2).2).2).1, (((((a1.2).2).2).2).1, ()))))
 br (igt x10 0) (br (wdGOk y50000 ([a2, a3])) (br (dOkS a5 a6) (br (cApp y20302 ([(a1.1, a4)]) 64) (some (.normal, Qs6 (isub .i64 x10 1) y2 y3_1 y20300 (y20302 ++ ([(a1.1, a4)])) (itemN a5 a6))) none) none) none) (some (.exit 6, Qfy y2 y3_1 y20300 y20302 y50000))
noncomputable def Qn8 (x10 : Int) (y2 : Qaq) (y3_1 : List Keep) (y20300 : List Qab) (y20302 : List Item) (y50000 : Dice) : Option (Exit × VS) := loopF (Qaj g_f17 Qk5 Qne) (Qs6 x10 y2 y3_1 y20300 y20302 y50000)
noncomputable def QuH (x10 : Int) (y2 : Qaq) (y3_1 : List Keep) (y20300 : List Qab) (y20302 : List Item) (y50000 : Dice) : Option (Exit × VS) :=
 let a2 := (ByteArray.mk #[98, 97, 99, 107, 117, 112])
 let a3 := (ByteArray.mk #[100, 101, 101, 100])
 let a5 := (dwdGN y50000 ([a2, a3]))
 let a6 := (dwdG y50000 ([a2, a3]))
 let a1 := itemV a5 a6
 let a4 := ((a1.2).1, (((a1.2).2).1, ((((a1.2).2).2).1, (((((a1.2).2).2).2).1, ()))))
 br (igt x10 0) (br (wdGOk y50000 ([a2, a3])) (br (dOkS a5 a6) (br (cApp y20302 ([(a1.1, a4)]) 64) (Qn8 (isub .i64 x10 1) y2 y3_1 y20300 (y20302 ++ ([(a1.1, a4)])) (itemN a5 a6)) none) none) none) (some (.exit 6, Qfy y2 y3_1 y20300 y20302 y50000))
def Qom (x10 : Int) (y2 : Qaq) (y3_1 : List Keep) (y20300 : List Qab) (y20302 : List Item) (y50000 : Dice) : Option (Exit × VS) := some (.exit 6, Qfy (y2) (y3_1) (y20300) (y20302 ++ (itZ x10.toNat y50000).1) ((itZ x10.toNat y50000).2))
theorem QSg (x10 : Int) (y2 : Qaq) (y3_1 : List Keep) (y20300 : List Qab) (y20302 : List Item) (y50000 : Dice) : Qaj g_f17 Qk5 Qne (Qs6 x10 y2 y3_1 y20300 y20302 y50000) = QOH x10 y2 y3_1 y20300 y20302 y50000 := by kernel_rfl
theorem QCm (x10 : Int) (y2 : Qaq) (y3_1 : List Keep) (y20300 : List Qab) (y20302 : List Item) (y50000 : Dice) : Qn8 x10 y2 y3_1 y20300 y20302 y50000 = QuH x10 y2 y3_1 y20300 y20302 y50000 := (Qan _ _).trans (by
 rw [QSg]
 simp only [QOH, QuH, Qay, nxt_n, nxt_r, nxt_e, nxt_0]
 rfl)
def r_f17 (d0 : Dice) : Option (V × List VO) :=
 let a6 := (ByteArray.mk #[97, 112, 112])
 let a8 := (ByteArray.mk #[100, 98])
 let a7 := (ByteArray.mk #[119, 101, 98])
 let a2 := (lsl ([a6, a8, a7]) 0 (iadd .i64 2 (dval d0 2)))
 let a5 := (sndZ (a2.drop (0 : Int).toNat) (0 : Int).toNat (dnext d0 2))
 let a1 := (edY ((llen a2) - (0 : Int)).toNat a2.length (0 : Int) ([] : List Keep) (a5.2))
 let a3 := (dOk (dnext (a1.2) 3) && decide (0 ≤ (dval (a1.2) 3) ∧ (dval (a1.2) 3) ≤ 3 ∧ ([] : List Item).length + (dval (a1.2) 3).toNat ≤ 100))
 let a4 := itZ (dval (a1.2) 3).toNat (dnext (a1.2) 3)
 br (QaT d0 2) (br (cSl ([a6, a8, a7]) 0 (iadd .i64 2 (dval d0 2)) ((List.length ([a6, a8, a7]) : Nat) : Int)) (br (rngOk a2 (llen a2) (0 : Int) && (dOk (dnext d0 2) && (decide (([] : List Qab).length ≤ (0 : Int)) && a2.all nm1))) (br (dOk (a5.2) && decide (0 ≤ (0 : Int) ∧ (0 : Int) ≤ (llen a2) ∧ (llen a2) ≤ 3 ∧ a2.length ≤ 3 ∧ ([] : List Keep).length ≤ 3)) (br (ieq (llen (a1.1)) 0) (br (QaT (a1.2) 3) (br a3 (some (.t Qau ((([] : List Qab) ++ a5.1), (([(0, (1, ()))]), ((([] : List Item) ++ a4.1), ()))), [.box (.t QaL (a4.2))])) none) none) (br (QaT (a1.2) 3) (br a3 (some (.t Qau ((([] : List Qab) ++ a5.1), ((a1.1), ((([] : List Item) ++ a4.1), ()))), [.box (.t QaL (a4.2))])) none) none)) none) none) none) none
theorem e_f17 (d0 : Dice) : runF g_f17 QGr QUd false [.ptr 50000 0] [.box (.t QaL d0)] = r_f17 d0 := by kernel_rfl
theorem en_f17 : Qai Tryz.prog 17 := .inr ⟨by decide, _, Tryz.func17, by kernel_rfl, by kernel_rfl⟩
theorem gk_f17 : GOk Tryz.prog g_f17 := Qal _ (gA (gC QxG QwR (gC en_f37 ms_f37 (gC en_f38 ms_f38 (gC QUV QUF (gC en_f46 ms_f46 (gC en_f47 ms_f47 (gC en_f48 ms_f48 gN))))))))
theorem QYm (x4 x16 : List ByteArray) (x17 x18 : Int) (y2 : Qaq) (y20300 : List Qab) (y20301 : List Keep) (y20302 : List Item) (y50000 : Dice) (h : (rngOk x16 x17 x18 && (dOk y50000 && (decide (y20300.length ≤ x18) && x16.all nm1))) = true) : QhV x4 x16 x17 x18 y2 y20300 y20301 y20302 y50000 = Qf2 x4 x16 x17 x18 y2 y20300 y20301 y20302 y50000 := by
 simp only [Bool.and_eq_true, decide_eq_true_eq] at h
 obtain ⟨h0, hd, hl, ha⟩ := h
 obtain ⟨rfl, h3, k, rfl, hk⟩ := rng_k h0
 clear h0
 revert y20300 y50000
 refine Qar x16 (fun k => ∀ (y20300 : List Qab) (y50000 : Dice), dOk y50000 = true → (y20300.length : Int) ≤ (k : Int) → QhV x4 x16 (x16.length : Int) (k : Int) y2 y20300 y20301 y20302 y50000 = Qf2 x4 x16 (x16.length : Int) (k : Int) y2 y20300 y20301 y20302 y50000) ?_ ?_ k hk
 ·intro y20300 y50000 _ _
  rw [QCp]
  simp only [QqD, QdG, Qe7, Qe6, QeN, Qf2, Qas, Nat.lt_irrefl, decide_false, Qaf, Int.toNat_natCast, List.drop_length, sndZ, List.append_nil]
 ·intro k hk ih y20300 y50000 hd hl
  rw [QCp]
  have c1 : ofOk y50000 [3, 3, 4] = true := QVp hd (by decide) (by decide)
  have d1 := QxM (l := [3, 3, 4]) hd
  have c2 : QaT (dofN y50000 [3, 3, 4]) 3 = true := QgO d1 (by omega)
  have d2 := QaK (n := 3) d1
  have c3 : oneOk (dnext (dofN y50000 [3, 3, 4]) 3) 2 = true := QBW d2 (by omega) (by omega)
  have c4 : oneOk (dnext (dnext (dofN y50000 [3, 3, 4]) 3) 2) 3 = true := QBW (QaK d2) (by omega) (by omega)
  have b3 := Qbu (d := dofN y50000 [3, 3, 4]) (n := 3) (by omega)
  have c5 : cIx ([[10, 8, 2], [8, 2], [2, 10, 8, 3]] : List (List Int)) (dval (dofN y50000 [3, 3, 4]) 3) = true := decide_eq_true ⟨b3.1, b3.2⟩
  have c6 : Qsy x16[k] rsaK (iadd .i64 100 (k : Int)) 1 901 = true := List.all_eq_true.1 ha _ (List.getElem_mem hk)
  have c7 : ∀ v, cApp y20300 [v] 144 = true := fun v => cAppN (by omega) (by simp only [List.length_singleton]; omega)
  have b4 : ∀ q, (lgt (.sl tI) [[10, 8, 2], [8, 2], [2, 10, 8, 3]] q).length ≤ 4 := fun q => QXY (by simp) q
  have c8 : cApp ([14] : List Int) (lgt (.sl tI) [[10, 8, 2], [8, 2], [2, 10, 8, 3]] (dval (dofN y50000 [3, 3, 4]) 3).toNat) 8 = true := cAppN (by decide) (by have := b4 (dval (dofN y50000 [3, 3, 4]) 3).toNat; simp only [List.length_singleton]; omega)
  simp only [QqD, QdG, Qe7, Qe6, QeN, Qas, Qaw, hk, decide_true, Qad, Int.toNat_natCast, add1 (show k < 4611686018427387904 by omega), QaA (y := .str) hk, c1, c2, c3, c4, c6, c7, QeN]
  have hi : ∀ v, QhV x4 x16 (x16.length : Int) ((k + 1 : Nat) : Int) y2 (y20300 ++ [v]) y20301 y20302 (sndD y50000) = Qf2 x4 x16 (x16.length : Int) ((k + 1 : Nat) : Int) y2 (y20300 ++ [v]) y20301 y20302 (sndD y50000) := fun v => ih _ _ (QNA hd) (by simp only [List.length_append, List.length_singleton]; omega)
  have goal2 : Qf2 x4 x16 (x16.length : Int) ((k + 1 : Nat) : Int) y2 (y20300 ++ [sndE y50000 k x16[k]]) y20301 y20302 (sndD y50000) = Qf2 x4 x16 (x16.length : Int) (k : Int) y2 y20300 y20301 y20302 y50000 := by
   simp only [Qf2, Int.toNat_natCast, List.drop_eq_getElem_cons hk, sndZ, List.append_assoc, List.singleton_append]
  refine Eq.trans ?_ ((hi _).trans goal2)
  unfold sndE sndSu
  refine brY c5 ?_
  cases ieq (dof y50000 [3, 3, 4]) 4 with
  | false => rfl
  | true => exact brY rfl (brY c8 rfl)
theorem QYl (x4 : List ByteArray) (x8 x65 x66 x70 x71 : Int) (y2 : Qaq) (y20300 : List Qab) (y20301 : List Keep) (y20302 : List Item) (y50000 : Dice) (h : (dOk y50000 && decide (0 ≤ x71 ∧ x71 ≤ x70 ∧ x70 ≤ 3 ∧ y20301.length ≤ 3)) = true) : QfV x4 x8 x65 x66 x70 x71 y2 y20300 y20301 y20302 y50000 = Qf1 x4 x8 x65 x66 x70 x71 y2 y20300 y20301 y20302 y50000 := by
 simp only [Bool.and_eq_true, decide_eq_true_eq] at h
 obtain ⟨hd, h0, h1, h2, hl⟩ := h
 have key : ∀ (m : Nat) (x71 : Int) (y20301 : List Keep) (y50000 : Dice), x71 + m = x70 → 0 ≤ x71 → dOk y50000 = true → y20301.length ≤ 3 → QfV x4 x8 x65 x66 x70 x71 y2 y20300 y20301 y20302 y50000 = Qf1 x4 x8 x65 x66 x70 x71 y2 y20300 y20301 y20302 y50000 := by
  intro m
  induction m with
  | zero =>
   intro x71 y20301 y50000 e _ _ _
   rw [QCo]
   have : x70 = x71 := by omega
   subst this
   simp only [QuJ, Qf1, show ilt x70 x70 = false from decide_eq_false (by omega), Qaf, Int.sub_self, Int.toNat_zero, edZ]
  | succ m ih =>
   intro x71 y20301 y50000 e h0 hd hl
   rw [QCo]
   have c1 : QaT y50000 3 = true := QgO hd (by omega)
   have c2 : cApp y20301 [(x8, (x71, ()))] 16 = true := cAppN (by omega) (by simp only [List.length_singleton]; omega)
   have e1 : iadd .i64 x71 1 = x71 + 1 := Qbg (by omega)
   have e2 : (x70 - x71).toNat = m + 1 := by omega
   have e3 : (x70 - (x71 + 1)).toNat = m := by omega
   simp only [QuJ, show ilt x71 x70 = true from decide_eq_true (by omega), Qad, c1, c2, e1]
   have i0 := ih (x71 + 1) y20301 y50000 (by omega) (by omega) hd hl
   have i1 := ih (x71 + 1) y20301 (dnext y50000 3) (by omega) (by omega) (QaK hd) hl
   rw [i0, i1]
   cases hn : ine x8 x71 with
   | false => simp only [Qaf, Qf1, e2, e3, edZ, hn, cond_false]
   | true =>
    cases hg : igt (dval y50000 3) 0 with
    | false => simp only [Qad, Qaf, Qf1, e2, e3, edZ, hn, hg, cond_true, Bool.false_and, cond_false]
    | true =>
     cases hq : ilt (llen y20301) 3 with
     | false => simp only [Qad, Qaf, Qf1, e2, e3, edZ, hn, hg, hq, cond_true, Bool.and_false, cond_false]
     | true =>
      have hl3 : y20301.length < 3 := by have := of_decide_eq_true hq; simp only [llen] at this; omega
      have i2 := ih (x71 + 1) (y20301 ++ [(x8, (x71, ()))]) (dnext y50000 3) (by omega) (by omega) (QaK hd) (by simp only [List.length_append, List.length_singleton]; omega)
      rw [i2]
      simp only [Qad, Qf1, e2, e3, edZ, hn, hg, hq, cond_true, Bool.and_self]
 exact key (x70 - x71).toNat x71 y20301 y50000 (by omega) h0 hd hl
theorem QYk (x4 : List ByteArray) (x65 x66 : Int) (y2 : Qaq) (y20300 : List Qab) (y20301 : List Keep) (y20302 : List Item) (y50000 : Dice) (h : (dOk y50000 && decide (0 ≤ x66 ∧ x66 ≤ x65 ∧ x65 ≤ 3 ∧ x4.length ≤ 3 ∧ y20301.length ≤ 3)) = true) : Qn9 x4 x65 x66 y2 y20300 y20301 y20302 y50000 = Qon x4 x65 x66 y2 y20300 y20301 y20302 y50000 := by
 simp only [Bool.and_eq_true, decide_eq_true_eq] at h
 obtain ⟨hd, h0, h1, h2, h3, hl⟩ := h
 have key : ∀ (m : Nat) (x66 : Int) (y20301 : List Keep) (y50000 : Dice), x66 + m = x65 → 0 ≤ x66 → dOk y50000 = true → y20301.length ≤ 3 → Qn9 x4 x65 x66 y2 y20300 y20301 y20302 y50000 = Qon x4 x65 x66 y2 y20300 y20301 y20302 y50000 := by
  intro m
  induction m with
  | zero =>
   intro x66 y20301 y50000 e _ _ _
   rw [QCn]
   have : x65 = x66 := by omega
   subst this
   simp only [QuI, Qon, show ilt x65 x65 = false from decide_eq_false (by omega), Qaf, Int.sub_self, Int.toNat_zero, edY]
  | succ m ih =>
   intro x66 y20301 y50000 e h0 hd hl
   rw [QCn]
   have e1 : iadd .i64 x66 1 = x66 + 1 := Qbg (by omega)
   have e2 : (x65 - x66).toNat = m + 1 := by omega
   have e3 : (x65 - (x66 + 1)).toNat = m := by omega
   have e4 : (llen x4 - 0).toNat = x4.length := by simp only [llen]; omega
   have hz := QsE x4.length x66 0 y20301 y50000 hd hl
   simp only [QuI, show ilt x66 x65 = true from decide_eq_true (by omega), Qad, e1, e4, hd, Bool.true_and]
   refine brY (decide_eq_true (by simp only [llen]; omega)) ?_
   rw [ih (x66 + 1) _ _ (by omega) (by omega) hz.1 hz.2]
   simp only [Qon, e2, e3, edY]
 exact key (x65 - x66).toNat x66 y20301 y50000 (by omega) h0 hd hl
theorem QYj (x10 : Int) (y2 : Qaq) (y3_1 : List Keep) (y20300 : List Qab) (y20302 : List Item) (y50000 : Dice) (h : (dOk y50000 && decide (0 ≤ x10 ∧ x10 ≤ 3 ∧ y20302.length + x10.toNat ≤ 100)) = true) : Qn8 x10 y2 y3_1 y20300 y20302 y50000 = Qom x10 y2 y3_1 y20300 y20302 y50000 := by
 simp only [Bool.and_eq_true, decide_eq_true_eq] at h
 obtain ⟨hd, h0, h1, hl⟩ := h
 obtain ⟨n, rfl⟩ := Int.eq_ofNat_of_zero_le h0
 rw [Int.toNat_natCast] at hl
 have key : ∀ (n : Nat) (y20302 : List Item) (y50000 : Dice), dOk y50000 = true → y20302.length + n ≤ 100 → Qn8 (n : Int) y2 y3_1 y20300 y20302 y50000 = Qom (n : Int) y2 y3_1 y20300 y20302 y50000 := by
  intro n
  induction n with
  | zero =>
   intro y20302 y50000 _ _
   rw [QCm]
   simp only [QuH, Qom, show igt ((0 : Nat) : Int) 0 = false from rfl, Qaf, Int.toNat_natCast, itZ, List.append_nil]
  | succ n ih =>
   intro y20302 y50000 hd hl
   rw [QCm]
   have e2 : isub .i64 ((n + 1 : Nat) : Int) 1 = (n : Int) := (Qb3 (by omega)).trans (by omega)
   have c1 : wdGOk y50000 sIt = true := by simp [wdGOk, hd]
   have c2 : dOkS (dwdGN y50000 sIt) (dwdG y50000 sIt) = true := QDz hd
   have c3 : ∀ v, cApp y20302 [v] 64 = true := fun v => cAppN (by omega) (by simp only [List.length_singleton]; omega)
   simp only [QuH, show igt ((n + 1 : Nat) : Int) 0 = true from decide_eq_true (by omega), Qad, e2, c1, c2, c3]
   refine Eq.trans (ih _ _ (QRQ (s := dwdG y50000 sIt) (QDz hd)) (by simp only [List.length_append, List.length_singleton]; omega)) ?_
   simp only [Qom, Int.toNat_natCast, itZ, List.append_assoc, List.singleton_append]
 exact key n y20302 y50000 hd (by omega)
theorem QP9 : ∀ S l p, g_f17.L 0 (fgt Qk8 S) = some (true, l) → pickA l = some p → loopF (Qaj g_f17 Qk8 Qnh) S = some p :=
 QaB (s := QtI) ⟨by decide, by decide⟩ (by kernel_rfl) fun x y hok p hp => by
 simp only [Qao, Qam] at hp
 exact (QYm x.2.2.2.1 x.2.2.2.2.1 x.2.2.2.2.2.1 x.2.2.2.2.2.2.1 y.1 y.2.2.2.2.2.2.1 y.2.2.2.2.2.2.2.1 y.2.2.2.2.2.2.2.2.1 y.2.2.2.2.2.2.2.2.2.1 (by simpa using hok)).trans hp
theorem QP8 : ∀ S l p, g_f17.L 1 (fgt Qk7 S) = some (true, l) → pickA l = some p → loopF (Qaj g_f17 Qk7 Qng) S = some p :=
 QaB (s := QtH) ⟨by decide, by decide⟩ (by kernel_rfl) fun x y hok p hp => by
 simp only [Qao, Qam] at hp
 exact (QYl x.2.2.2.1 x.2.2.2.2.1 x.2.2.2.2.2.1 x.2.2.2.2.2.2.1 x.2.2.2.2.2.2.2.1 x.2.2.2.2.2.2.2.2.1 y.1 y.2.2.2.2.2.2.1 y.2.2.2.2.2.2.2.1 y.2.2.2.2.2.2.2.2.1 y.2.2.2.2.2.2.2.2.2.1 (by simpa using hok)).trans hp
theorem QP7 : ∀ S l p, g_f17.L 2 (fgt Qk6 S) = some (true, l) → pickA l = some p → loopF (Qaj g_f17 Qk6 Qnf) S = some p :=
 QaB (s := QtG) ⟨by decide, by decide⟩ (by kernel_rfl) fun x y hok p hp => by
 simp only [Qao, Qam] at hp
 exact (QYk x.2.2.2.1 x.2.2.2.2.1 x.2.2.2.2.2.1 y.1 y.2.2.2.2.2.2.1 y.2.2.2.2.2.2.2.1 y.2.2.2.2.2.2.2.2.1 y.2.2.2.2.2.2.2.2.2.1 (by simpa using hok)).trans hp
theorem QP6 : ∀ S l p, g_f17.L 3 (fgt Qk5 S) = some (true, l) → pickA l = some p → loopF (Qaj g_f17 Qk5 Qne) S = some p :=
 QaB (s := QtF) ⟨by decide, by decide⟩ (by kernel_rfl) fun x y hok p hp => by
 simp only [Qao, Qam] at hp
 exact (QYj x.2.2.2.1 y.1 y.2.1.2.1 y.2.2.2.2.2.2.1 y.2.2.2.2.2.2.2.2.1 y.2.2.2.2.2.2.2.2.2.1 (by simpa using hok)).trans hp
theorem lk_f17 : QGr.lok g_f17 := by
 repeat (first | exact trivial | exact QP9 | exact QP8 | exact QP7 | exact QP6 | refine ⟨?_, ?_⟩)
set_option maxRecDepth 100000 in
theorem s_f17 (d : Dice) (h : dOk d = true) : r_f17 d = some (.t Qau (sndV d), [.box (.t QaL (sndN d))]) := by
 have hv := Qbu (d := d) (n := 2) (by omega)
 have e : iadd .i64 2 (dval d 2) = 2 + dval d 2 := Qbg (by omega)
 have c1 : QaT d 2 = true := QgO h (by omega)
 have hn := Qnu d
 have hd := QaK (n := 2) h
 have hz := QHQ (sndNm d) 0 (dnext d 2) hd
 have hy := QU2 (sndNm d).length (sndNm d).length 0 [] _ hz (Nat.zero_le _)
 have hy1 : dOk (sndEd d).2 = true := hy.1
 have hv3 := Qbu (d := (sndEd d).2) (n := 3) (by omega)
 simp only [r_f17, show lsl sAll 0 (iadd .i64 2 (dval d 2)) = sndNm d from rfl, List.nil_append, Int.toNat_zero, List.drop_zero, Int.sub_zero, show (llen (sndNm d)).toNat = (sndNm d).length by simp only [llen]; omega]
 simp only [show edY (sndNm d).length (sndNm d).length 0 [] (sndZ (sndNm d) 0 (dnext d 2)).2 = sndEd d from rfl]
 refine brY c1 (brY (decide_eq_true (by rw [e]; refine ⟨by omega, by omega, ?_, ?_⟩ <;> simp <;> omega)) (brY ?_ (brY ?_ ?_)))
 ·rw [rng_0 (by omega), hd, hn.2.2]
  rfl
 ·rw [hz]
  exact decide_eq_true (by simp only [llen, List.length_nil]; omega)
 ·have c2 : QaT (sndEd d).2 3 = true := QgO hy1 (by omega)
  have c3 : (dOk (dnext (sndEd d).2 3) && decide (0 ≤ dval (sndEd d).2 3 ∧ dval (sndEd d).2 3 ≤ 3 ∧ ([] : List Item).length + (dval (sndEd d).2 3).toNat ≤ 100)) = true := by
   rw [QaK hy1, decide_eq_true (by simp only [List.length_nil]; omega)]
   rfl
  cases hq : ieq (llen (sndEd d).1) 0 with
  | true =>
   rw [Qad]
   refine brY c2 (brY c3 ?_)
   unfold sndV sndEg
   rw [hq]
   rfl
  | false =>
   rw [Qaf]
   refine brY c2 (brY c3 ?_)
   unfold sndV sndEg
   rw [hq]
   rfl
def QTq : Ent := specP QaL .nil (fun d x => (dOk d)) (fun d x => (.t Qau (sndV d))) (fun d x => (sndN d))
theorem ms_f17 : Meets Tryz.prog 17 (strip QTq) := QcE (R := runF g_f17 QGr QUd false) (mG Tryz.func17 (by kernel_rfl) Tryz.ntmps17 (by kernel_rfl) gk_f17 lk_f17) rfl fun d x hok => (e_f17 d).trans (s_f17 d hok)
end
end Go.Proofs.YtckcgijklnloiaaGreat.K
namespace Go.Proofs.YtckcgijklnloiaaGreat.K
open Go.RowKit
noncomputable section
attribute [local irreducible] epV epN prZ
end
end Go.Proofs.YtckcgijklnloiaaGreat.K
namespace Go.Proofs.YtckcgijklnloiaaGreat.K
open Go.RowKit
noncomputable section
theorem QPb {k : Keep} {id : Int} {l : List Qaa} (hk : kindU k 2 = true) (hd : keyI id = true) (hl : l.length ≤ 8) (h1 : l.all QaE = true) (h2 : Qrl k id l = true) : QdE k id l = true := by
 simp only [kindU, Bool.and_eq_true] at hk
 have h8 : igt (llen l) 8 = false := decide_eq_false (by simp only [llen]; omega)
 have hi : ine (kindF k.1) 2 = false := by rw [QiJ, hk.2]; rfl
 unfold QdE
 rw [hk.1, hi, hd, h8, h1, h2]
 rfl
theorem QO3 {c : Int} (h : 1 ≤ c ∧ c ≤ 16) : ieq (QaC c).2 0 = true := by
 unfold QaC
 rw [if_neg (by omega)]
 rfl
theorem QU9 {l : List Int} (hn : l.Nodup) (hr : ∀ x ∈ l, 1 ≤ x ∧ x ≤ 16) : suitF l = true := by
 have key : ∀ (k : Nat) (hk : k < l.length), (ieq (QaC l[k]).2 0 && !hasF (l.take k) l[k]) = true := by
  intro k hk
  rw [QO3 (hr _ (List.getElem_mem hk)), Bool.true_and, Bool.not_eq_true']
  unfold hasF
  rw [Bool.eq_false_iff]
  intro hc
  have hm := List.contains_iff_mem.1 hc
  obtain ⟨j, hj, he⟩ := List.mem_iff_getElem.1 hm
  rw [List.length_take] at hj
  rw [List.getElem_take] at he
  have := (List.nodup_iff_pairwise_ne.1 hn)
  rw [List.pairwise_iff_getElem] at this
  exact this j k (by omega) hk (by omega) he
 simp only [suitF, QdB, List.all_eq_true, List.mem_range'_1]
 intro k hk
 have hk2 : k < l.length := by omega
 simp only [List.getD_eq_getElem?_getD, List.getElem?_eq_getElem hk2, Option.getD_some]
 exact key k hk2
def goodS (l : List Int) : Prop := l.Nodup ∧ ∀ x ∈ l, 1 ≤ x ∧ x ≤ 16
def anOk (l : List Int) : Bool := !igt (llen l) 16 && (ascF l && l.all keyI)
def hsOk (l : List Int) : Bool := ascF l && l.all hashF
theorem QFD {e : Qab} (hw : wordF e.1 = true) (h1 : 1 ≤ e.2.1) (h2 : e.2.1 ≤ e.2.2.1) (h3 : e.2.2.1 ≤ 4) (hs : goodS (Qap e)) (hi : (eIds e).length ≤ 4) (hv : (eIds e).all idOk = true) (ha : anOk (eAnch e) = true) (hh : hsOk (eHash e) = true) : QaJ e = true := by
 simp only [anOk, hsOk, Bool.and_eq_true] at ha hh
 have g1 : ilt e.2.1 1 = false := decide_eq_false (by omega)
 have g2 : igt e.2.1 e.2.2.1 = false := decide_eq_false (by omega)
 have g3 : igt e.2.2.1 4 = false := decide_eq_false (by omega)
 have g4 : igt (llen (eIds e)) 4 = false := decide_eq_false (by simp only [llen]; omega)
 unfold QaJ
 rw [hw, g1, g2, g3, QU9 hs.1 hs.2, g4, ha.1, ha.2.1, ha.2.2, hv, hh.1, hh.2]
 rfl
attribute [local irreducible] epV epN prZ
end
end Go.Proofs.YtckcgijklnloiaaGreat.K
namespace Go.Proofs.YtckcgijklnloiaaGreat.K
open Go.RowKit
noncomputable section
theorem QFi {c s : Qab} {x : Keep} (hx : x ∈ QaR c s) : posE s (Qap c) x.1 x.2.1 = true ∧ loC c s ≤ x.1 ∧ x.1 ≤ hiC c s := by
 unfold QaR at hx
 cases hr : Qew c s with
 | false => rw [hr] at hx; cases hx
 | true =>
  rw [hr] at hx
  obtain ⟨hv, hw⟩ := Bool.and_eq_true_iff.1 hr
  have v1 := Qbw hv
  have v2 := Qbw hw
  have b1 : 1 ≤ loC c s := by simp only [loC, imx]; omega
  change x ∈ verC s (Qap c) (loC c s).toNat (hiC c s + 1 - loC c s).toNat at hx
  unfold verC rowC at hx
  simp only [List.mem_flatMap, List.mem_range'_1, List.mem_map, List.mem_filter] at hx
  obtain ⟨j, hj, k, ⟨_, hp⟩, rfl⟩ := hx
  exact ⟨hp, by show loC c s ≤ (j : Int); omega, by show (j : Int) ≤ hiC c s; omega⟩
theorem QFj {c s : Qab} {v k : Int} (hr : Qew c s = true) (h1 : loC c s ≤ v) (h2 : v ≤ hiC c s) (hp : posE s (Qap c) v k = true) : (v, (k, ())) ∈ QaR c s := by
 have hk : 1 ≤ k ∧ k ≤ 16 := by
  simp only [posE, Bool.and_eq_true] at hp
  exact QoP hp.1
 obtain ⟨hv, hw⟩ := Bool.and_eq_true_iff.1 hr
 have v1 := Qbw hv
 have v2 := Qbw hw
 have b1 : 1 ≤ loC c s := by simp only [loC, imx]; omega
 unfold QaR
 rw [hr]
 show _ ∈ verC s (Qap c) (loC c s).toNat (hiC c s + 1 - loC c s).toNat
 unfold verC rowC
 simp only [List.mem_flatMap, List.mem_range'_1, List.mem_map, List.mem_filter]
 refine ⟨v.toNat, by omega, k.toNat, ⟨by omega, ?_⟩, ?_⟩
 ·rw [Int.toNat_of_nonneg (by omega), Int.toNat_of_nonneg (by omega)]
  exact hp
 ·rw [Int.toNat_of_nonneg (by omega), Int.toNat_of_nonneg (by omega)]
end
end Go.Proofs.YtckcgijklnloiaaGreat.K
namespace Go.Proofs.YtckcgijklnloiaaGreat.K
open Go.RowKit
abbrev leafS (s : ByteArray) (k : Nat) : Qaa := (signC (leafC s rsaK (iadd .i64 100 (k : Int)) 901) 1).1
def Qkb (s : ByteArray) (k : Nat) : Bool :=
 QaI (leafS s k) && (QaE (leafS s k) && (Qrl rsaK (iadd .i64 100 (k : Int)) [leafS s k] && (keyI (iadd .i64 100 (k : Int)) && (hasS (QaF (leafS s k)) s && (!Qcw [leafS s k] 11 && (!Qcw [leafS s k] 15 && (!Qcw [leafS s k] 10 && (ieq (cSeal (leafS s k)).1 1 && (ieq (leafS s k).2.2.2.2.2.2.1 0 && (ieq (leafS s k).2.2.2.2.2.2.2.1 901 && (ieq (leafS s k).2.2.2.2.2.1.1 3 && (wordF s && nameG s))))))))))))
set_option maxRecDepth 100000 in
theorem QQg : (sAll.all fun s => (List.range 3).all fun k => Qkb s k) = true := by kernel_rfl
theorem Qq5 {s : ByteArray} {k : Nat} (hs : s ∈ sAll) (hk : k < 3) : Qkb s k = true :=
 List.all_eq_true.1 (List.all_eq_true.1 QQg s hs) k (List.mem_range.2 hk)
def sndP (e : Qab) : Prop := ∃ d k s, e = sndE d k s ∧ s ∈ sAll ∧ k < 3
theorem QPo : kindU rsaK 2 = true := by kernel_rfl
theorem QuL (d : Dice) : dof d [3, 3, 4] = 3 ∨ dof d [3, 3, 4] = 4 := by
 have h := QBg (d := d) (l := [3, 3, 4]) (by decide)
 simp only [List.mem_cons, List.not_mem_nil, or_false] at h
 omega
def goodB (l : List Int) : Bool := decide l.Nodup && l.all fun x => decide (1 ≤ x ∧ x ≤ 16)
theorem QYr {l : List Int} (h : goodB l = true) : goodS l := by
 simp only [goodB, Bool.and_eq_true, decide_eq_true_eq, List.all_eq_true] at h
 exact h
theorem QO5 (d : Dice) : sndSu d ∈ [[10, 8, 2], [8, 2], [2, 10, 8, 3], [14, 10, 8, 2], [14, 8, 2], ([14, 2, 10, 8, 3] : List Int)] := by
 have b3 := Qbu (d := dofN d [3, 3, 4]) (n := 3) (by omega)
 unfold sndSu
 rcases (show dval (dofN d [3, 3, 4]) 3 = 0 ∨ dval (dofN d [3, 3, 4]) 3 = 1 ∨ dval (dofN d [3, 3, 4]) 3 = 2 by omega) with h | h | h <;> rw [h] <;> cases ieq (dof d [3, 3, 4]) 4 <;> decide
theorem QBz {p : List Int → Bool} (h : [[10, 8, 2], [8, 2], [2, 10, 8, 3], [14, 10, 8, 2], [14, 8, 2], ([14, 2, 10, 8, 3] : List Int)].all p = true) (d : Dice) : p (sndSu d) = true := List.all_eq_true.1 h _ (QO5 d)
theorem QVf {e : Qab} (h : sndP e) : QaZ e = true := by
 obtain ⟨d, k, s, rfl, hs, hk⟩ := h
 have hg := Qq5 hs hk
 simp only [Qkb, Bool.and_eq_true] at hg
 have hsu : (sndSu d).length ≤ 5 := of_decide_eq_true (QBz (p := fun l => decide (l.length ≤ 5)) (by decide) d)
 have hc : QaQ [leafS s k] = true := by
  simp only [QaQ, List.all_cons, List.all_nil, hg.1, Bool.and_true]
  rfl
 unfold QaZ
 simp only [Bool.and_eq_true, decide_eq_true_eq]
 refine ⟨⟨hg.2.2.2.2.2.2.2.2.2.2.2.2.2, ⟨?_, ?_, ?_, ?_⟩⟩, ?_⟩
 ·show (sndSu d).length ≤ 100000
  omega
 ·exact (show 1 ≤ 100000 by decide)
 ·exact (show 1 ≤ 100000 by decide)
 ·exact (show 2 ≤ 100000 by decide)
 ·show (idLen (leafV s rsaK (iadd .i64 100 (k : Int)) 1 901) && true) = true
  rw [Bool.and_true]
  exact hc
theorem Qpu {e : Qab} (h : sndP e) : QaJ e = true := by
 obtain ⟨d, k, s, rfl, hs, hk⟩ := h
 have hg := Qq5 hs hk
 simp only [Qkb, Bool.and_eq_true] at hg
 have hm := QuL d
 refine QFD (e := sndE d k s) hg.2.2.2.2.2.2.2.2.2.2.2.2.1 (Int.le_refl _) ?_ ?_ (QYr (QBz (p := goodB) (by decide) d)) (show 1 ≤ 4 by decide) ?_ (show anOk [1] = true by decide) (show hsOk [2, 3] = true by kernel_rfl)
 ·show (1 : Int) ≤ dof d [3, 3, 4]
  omega
 ·show dof d [3, 3, 4] ≤ 4
  omega
 ·show (idOk (leafV s rsaK (iadd .i64 100 (k : Int)) 1 901) && true) = true
  rw [Bool.and_true]
  refine QPb QPo hg.2.2.2.1 (show 1 ≤ 8 by decide) ?_ hg.2.2.1
  show (QaE (leafS s k) && true) = true
  rw [hg.2.1]
  rfl
theorem QRS {s : ByteArray} {k : Nat} (hs : s ∈ sAll) (hk : k < 3) (d : Int) : chkCh [leafS s k] [1] [2, 3] d s = if 0 ≤ d ∧ d < 901 then 0 else 13 := by
 have hg := Qq5 hs hk
 simp only [Qkb, Bool.and_eq_true, Bool.not_eq_true'] at hg
 obtain ⟨_, g2, _, _, g5, g6, g7, g8, g9, ga, gb, gc, _⟩ := hg
 simp only [Qc6, decide_eq_true_eq] at g9 ga gb gc
 unfold chkCh
 rw [if_neg (by simp), if_neg (by simp)]
 have a1 : QmK [leafS s k] = false := by
  show (badC (leafS s k) || false) = false
  unfold badC
  rw [g2]
  rfl
 have a2 : Qb4 [leafS s k] [2, 3] d 13 = (ilt d 0 || ige d 901) := by
  show (heldF (leafS s k) [2, 3] d 13 || false) = _
  unfold heldF
  rw [ga, gb, Bool.or_false]
  rfl
 have a3 : Qb4 [leafS s k] [2, 3] d 7 = false := by
  show (heldF (leafS s k) [2, 3] d 7 || false) = _
  unfold heldF
  rw [gc]
  rfl
 have a4 : hasF [1] (cSeal (lastC [leafS s k])).1 = true := by
  show hasF [1] (cSeal (leafS s k)).1 = true
  rw [g9]
  rfl
 have a5 : hasS (QaF (cAt [leafS s k] 0)) s = true := g5
 rw [a1, a5, a2, a3, g6, g7, g8, a4]
 by_cases h : 0 ≤ d ∧ d < 901
 ·rw [if_pos h, show ilt d 0 = false from decide_eq_false (by omega), show ige d 901 = false from decide_eq_false (by omega)]
  rfl
 ·rw [if_neg h]
  have : (ilt d 0 || ige d 901) = true := by
   by_cases h0 : d < 0
   ·rw [show ilt d 0 = true from decide_eq_true h0]; rfl
   ·rw [show ige d 901 = true from decide_eq_true (by omega), Bool.or_true]
  rw [this]
  rfl
theorem Qxx {e : Qab} (h : sndP e) {x : Int} (hi : (QaU e x).2 = true) (d : Int) (c : Qab) (hc : sndP c) : pickE c e d x = if 0 ≤ d ∧ d < 901 then 0 else 13 := by
 obtain ⟨dd, k, s, rfl, hs, hk⟩ := h
 obtain ⟨dc, kc, sc, rfl, _, _⟩ := hc
 obtain ⟨j, hj, hl⟩ := Qoq hi
 have hl : j < 1 := hl
 have hj0 : j = 0 := by omega
 subst hj0
 unfold pickE QgY
 rw [hj]
 exact QRS hs hk d
theorem QVe {c e : Qab} (hc : sndP c) (he : sndP e) {x : Int} (hx : x = 2 ∨ x = 8) : posE e (Qap c) 3 x = true ∧ loC c e ≤ 3 ∧ 3 ≤ hiC c e := by
 obtain ⟨d, k, s, rfl, hs, hk⟩ := he
 obtain ⟨dc, kc, sc, rfl, _, _⟩ := hc
 have m1 := QuL d
 have m2 := QuL dc
 refine ⟨?_, ?_, ?_⟩
 ·have h1 : ∀ dd, hasF (sndSu dd) 2 = true ∧ hasF (sndSu dd) 8 = true := fun dd => ⟨QBz (p := fun l => hasF l 2) (by decide) dd, QBz (p := fun l => hasF l 8) (by decide) dd⟩
  have h2 : Qap (sndE dc kc sc) = sndSu dc := rfl
  have h3 : Qap (sndE d k s) = sndSu d := rfl
  unfold posE
  rw [h2, h3]
  rcases hx with rfl | rfl
  ·rw [(h1 d).1, (h1 dc).1]
   rfl
  ·rw [(h1 d).2, (h1 dc).2]
   rfl
 ·show imx 1 1 ≤ 3
  decide
 ·show 3 ≤ imn (dof dc [3, 3, 4]) (dof d [3, 3, 4])
  unfold imn
  split <;> omega
theorem QEt {c e : Qab} (hc : sndP c) (he : sndP e) {x : Int} (hx : x = 2 ∨ x = 8) : (3, (x, ())) ∈ QaR c e := by
 obtain ⟨h1, h2, h3⟩ := QVe hc he hx
 exact QFj (Bool.and_eq_true_iff.2 ⟨Qpu hc, Qpu he⟩) h2 h3 h1
theorem QBH : ∀ (l : List ByteArray) (k : Nat) (d : Dice), (sndZ l k d).1.length = l.length
 | [], _, _ => rfl
 | _ :: r, k, d => by simp only [sndZ, List.length_cons, QBH r (k + 1) (sndD d)]
theorem QBI : ∀ (l : List ByteArray) (k : Nat) (d : Dice), (∀ s ∈ l, s ∈ sAll) → k + l.length ≤ 3 → ∀ e ∈ (sndZ l k d).1, sndP e
 | [], _, _, _, _, e, he => by cases he
 | s :: r, k, d, h, hk, e, he => by
  simp only [sndZ, List.mem_cons] at he
  simp only [List.length_cons] at hk
  rcases he with rfl | he
  ·exact ⟨d, k, s, rfl, h s List.mem_cons_self, by omega⟩
  ·exact QBI r (k + 1) (sndD d) (fun s hs => h s (List.mem_cons_of_mem _ hs)) (by omega) e he
theorem QHR (d : Dice) : ∀ s ∈ sndNm d, s ∈ sAll := by
 rcases Qiz d with h | h <;> rw [h]
 ·exact fun s hs => List.mem_of_mem_take hs
 ·exact fun s hs => hs
theorem QHO (d : Dice) : ∀ e ∈ xEps (sndV d), sndP e := QBI (sndNm d) 0 (dnext d 2) (QHR d) (by have := Qnu d; omega)
theorem QvJ (d : Dice) : (xEps (sndV d)).length = (sndNm d).length := QBH _ _ _
theorem snd_up (d : Dice) : epUp (xEps (sndV d)) 0 = true := by
 have hv : ∀ d k s, s ∈ sAll → k < 3 → QaJ (sndE d k s) = true := fun d k s hs hk => Qpu ⟨d, k, s, rfl, hs, hk⟩
 have q1 : slt (ByteArray.mk #[97, 112, 112]) (ByteArray.mk #[100, 98]) = true := by kernel_rfl
 have q2 : slt (ByteArray.mk #[100, 98]) (ByteArray.mk #[119, 101, 98]) = true := by kernel_rfl
 show epUp2 (sndZ (sndNm d) 0 (dnext d 2)).1 (sndZ (sndNm d) 0 (dnext d 2)).1 0 = true
 rcases Qiz d with h | h <;> rw [h]
 ·show (QaJ (sndE _ 0 _) && true && (QaJ (sndE _ 1 _) && (false || slt (ByteArray.mk #[97, 112, 112]) (ByteArray.mk #[100, 98])) && true)) = true
  rw [hv _ _ _ (by simp) (by decide), hv _ _ _ (by simp) (by decide), q1]
  rfl
 ·show (QaJ (sndE _ 0 _) && true && (QaJ (sndE _ 1 _) && (false || slt (ByteArray.mk #[97, 112, 112]) (ByteArray.mk #[100, 98])) && (QaJ (sndE _ 2 _) && (false || slt (ByteArray.mk #[100, 98]) (ByteArray.mk #[119, 101, 98])) && true))) = true
  rw [hv _ _ _ (by simp) (by decide), hv _ _ _ (by simp) (by decide), hv _ _ _ (by simp) (by decide), q1, q2]
  rfl
def lexL (a b : Keep) : Prop := a.1 < b.1 ∨ (a.1 = b.1 ∧ a.2.1 < b.2.1)
def edG (n : Int) (l : List Keep) (i k : Int) : Prop := (∀ x ∈ l, egIn n x = true) ∧ l.Pairwise lexL ∧ ∀ x ∈ l, lexL x (i, (k, ()))
theorem QoA {n : Int} {l : List Keep} {i k i' k' : Int} (h : edG n l i k) (hl : i < i' ∨ (i = i' ∧ k ≤ k')) : edG n l i' k' := by
 refine ⟨h.1, h.2.1, fun x hx => ?_⟩
 have := h.2.2 x hx
 simp only [lexL] at this ⊢
 omega
theorem Qoz {n : Int} : ∀ (m : Nat) (i k : Int) (l : List Keep) (d : Dice), 0 ≤ i → i < n → 0 ≤ k → k + m ≤ n → edG n l i k → edG n (edZ m i k l d).1 i (k + m)
 | 0, i, k, l, d, _, _, _, _, h => QoA h (.inr ⟨rfl, by omega⟩)
 | m + 1, i, k, l, d, h0, h1, h2, h3, h => by
  have hs : edG n l i (k + 1) := QoA h (.inr ⟨rfl, by omega⟩)
  have e : k + ((m + 1 : Nat) : Int) = k + 1 + m := by omega
  unfold edZ
  rw [e]
  cases hn : ine i k with
  | false => exact Qoz m i (k + 1) l d h0 h1 (by omega) (by omega) hs
  | true =>
   cases h4 : (igt (dval d 3) 0 && ilt (llen l) 3) with
   | false => exact Qoz m i (k + 1) l (dnext d 3) h0 h1 (by omega) (by omega) hs
   | true =>
    have hne : i ≠ k := by simpa [ine] using hn
    refine Qoz m i (k + 1) (l ++ [(i, (k, ()))]) (dnext d 3) h0 h1 (by omega) (by omega) ⟨fun x hx => ?_, ?_, fun x hx => ?_⟩
    ·rcases List.mem_append.1 hx with hx | hx
     ·exact h.1 x hx
     ·rw [List.mem_singleton.1 hx]
      simp only [egIn, ilt, ige, Qc6, Bool.and_eq_true, Bool.not_eq_true', decide_eq_false_iff_not]
      exact ⟨by omega, by omega, by omega, by omega, hne⟩
    ·rw [List.pairwise_append]
     refine ⟨h.2.1, List.pairwise_singleton _ _, fun x hx y hy => ?_⟩
     rw [List.mem_singleton.1 hy]
     exact h.2.2 x hx
    ·rcases List.mem_append.1 hx with hx | hx
     ·exact hs.2.2 x hx
     ·rw [List.mem_singleton.1 hx]
      exact .inr ⟨rfl, by show k < k + 1; omega⟩
theorem QDv {n : Int} : ∀ (m nn : Nat) (i : Int) (l : List Keep) (d : Dice), (nn : Int) ≤ n → 0 ≤ i → i + m ≤ n → edG n l i 0 → edG n (edY m nn i l d).1 (i + m) 0
 | 0, nn, i, l, d, _, _, _, h => QoA h (by omega)
 | m + 1, nn, i, l, d, hnn, h0, h1, h => by
  have := Qoz nn i 0 l d h0 (by omega) (by omega) (by omega) h
  have e : i + ((m + 1 : Nat) : Int) = i + 1 + m := by omega
  unfold edY
  rw [e]
  exact QDv m nn (i + 1) _ _ hnn (by omega) (by omega) (QoA this (.inl (by omega)))
theorem QNb {n i k : Int} {l : List Keep} (h : edG n l i k) : egUp n l 0 = true := by
 unfold egUp
 rw [List.all_eq_true]
 intro j hj
 have hj : j < l.length := by
  rw [List.mem_range'] at hj
  obtain ⟨a, ha, rfl⟩ := hj
  omega
 have at_ : ∀ q (hq : q < l.length), egAt l q = l[q] := fun q hq => by simp only [egAt, List.getD_eq_getElem?_getD, List.getElem?_eq_getElem hq, Option.getD_some]
 unfold egOk
 rw [at_ j hj, h.1 _ (List.getElem_mem hj), Bool.true_and]
 by_cases h0 : j = 0
 ·rw [decide_eq_true h0, Bool.true_or]
 ·rw [decide_eq_false h0, Bool.false_or, at_ (j - 1) (by omega)]
  have hp := List.pairwise_iff_getElem.1 h.2.1 (j - 1) j (by omega) hj (by omega)
  simp only [lexL] at hp
  simp only [egLt, igt, ige, Qc6, Bool.and_eq_true, Bool.not_eq_true', decide_eq_false_iff_not, Bool.and_eq_false_imp, decide_eq_true_eq]
  refine ⟨by omega, fun he => by omega⟩
theorem QvK (d : Dice) : egUp (llen (xEps (sndV d))) (xEdg (sndV d)) 0 = true ∧ (xEdg (sndV d)).length ≤ 3 ∧ 0 < (xEdg (sndV d)).length := by
 have hn := Qnu d
 have hl : llen (xEps (sndV d)) = ((sndNm d).length : Int) := by rw [llen, QvJ]
 rw [hl]
 show egUp _ (sndEg d) 0 = true ∧ (sndEg d).length ≤ 3 ∧ 0 < (sndEg d).length
 unfold sndEg
 cases hq : ieq (llen (sndEd d).1) 0 with
 | true =>
  refine ⟨?_, (show 1 ≤ 3 by decide), (show 0 < 1 by decide)⟩
  show egUp _ [(0, (1, ()))] 0 = true
  refine QNb (i := 5) (k := 5) ⟨fun x hx => ?_, List.pairwise_singleton _ _, fun x hx => ?_⟩ <;> rw [List.mem_singleton.1 hx]
  ·simp only [egIn, ilt, ige, Qc6, Bool.and_eq_true, Bool.not_eq_true', decide_eq_false_iff_not]
   exact ⟨by omega, by omega, by omega, by omega, by omega⟩
  ·exact .inl (by decide)
 | false =>
  have hy := QDv (n := ((sndNm d).length : Int)) (sndNm d).length (sndNm d).length 0 [] (sndZ (sndNm d) 0 (dnext d 2)).2 (Int.le_refl _) (Int.le_refl _) (by omega) (⟨fun x hx => (nomatch hx), List.Pairwise.nil, fun x hx => (nomatch hx)⟩ : edG _ [] 0 0)
  refine ⟨QNb hy, ?_, ?_⟩
  ·have hp : ∀ (m : Nat) (i k : Int) (l : List Keep) (d : Dice), l.length ≤ 3 → (edZ m i k l d).1.length ≤ 3 := by
    intro m
    induction m with
    | zero => exact fun _ _ _ _ h => h
    | succ m ih =>
     intro i k l d h
     unfold edZ
     cases ine i k with
     | false => exact ih _ _ _ _ h
     | true =>
      cases h1 : igt (dval d 3) 0 with
      | false => exact ih _ _ _ _ h
      | true =>
       cases h2 : ilt (llen l) 3 with
       | false => exact ih _ _ _ _ h
       | true =>
        have := of_decide_eq_true h2
        simp only [llen] at this
        exact ih _ _ _ _ (by simp only [List.length_append, List.length_singleton]; omega)
   have hr : ∀ (m n : Nat) (i : Int) (l : List Keep) (d : Dice), l.length ≤ 3 → (edY m n i l d).1.length ≤ 3 := by
    intro m
    induction m with
    | zero => exact fun _ _ _ _ h => h
    | succ m ih => exact fun n i l d h => ih n (i + 1) _ _ (hp n i 0 l d h)
   exact hr _ _ _ [] _ (by decide)
  ·simp only [Qc6, llen, decide_eq_false_iff_not] at hq
   show 0 < (sndEd d).1.length
   omega
theorem QEk {d : Dice} : Qa7 (dwdG d sIt) = true := by
 have hv := Qbu (d := d) (n := 2) (by omega)
 unfold dwdG
 show Qa7 (sIt.getD (dval d 2).toNat ByteArray.empty) = true
 rcases (show dval d 2 = 0 ∨ dval d 2 = 1 by omega) with h | h <;> rw [h] <;> kernel_rfl
theorem QOS {d : Dice} : nameG (dwdG d sIt) = true := by
 have hv := Qbu (d := d) (n := 2) (by omega)
 unfold dwdG
 show nameG (sIt.getD (dval d 2).toNat ByteArray.empty) = true
 rcases (show dval d 2 = 0 ∨ dval d 2 = 1 by omega) with h | h <;> rw [h] <;> kernel_rfl
theorem QMc : ∀ (n : Nat) (d : Dice), (itZ n d).1.all QeJ = true ∧ (itZ n d).1.all Qe0 = true ∧ (itZ n d).1.length = n
 | 0, _ => ⟨rfl, rfl, rfl⟩
 | n + 1, d => by
  have := QMc n (itemN (dwdGN d sIt) (dwdG d sIt))
  simp only [itZ, List.all_cons, List.length_cons, this, Bool.and_true, and_true]
  exact ⟨QYp _ QEk, QOS⟩
theorem Qsl (d : Dice) : estOk (sndV d) = true ∧ Qcs (sndV d) = true := by
 have hn := Qnu d
 have h1 := snd_up d
 obtain ⟨h2, h3, h4⟩ := QvK d
 have hv3 := Qbu (d := (sndEd d).2) (n := 3) (by omega)
 have hi := QMc (dval (sndEd d).2 3).toNat (dnext (sndEd d).2 3)
 have hl : (xEps (sndV d)).length ≤ 3 := by rw [QvJ]; omega
 have hx : xItm (sndV d) = (itZ (dval (sndEd d).2 3).toNat (dnext (sndEd d).2 3)).1 := rfl
 constructor
 ·unfold estOk
  rw [h1, h2, hx, hi.1, show ile (llen (xEps (sndV d))) 16 = true from decide_eq_true (by simp only [llen]; omega), show ile (llen (xEdg (sndV d))) 40 = true from decide_eq_true (by simp only [llen]; omega), show ile (llen (itZ (dval (sndEd d).2 3).toNat (dnext (sndEd d).2 3)).1) 30 = true from decide_eq_true (by simp only [llen]; omega)]
  rfl
 ·unfold Qcs Qb1
  rw [hx, hi.2.1, decide_eq_true (show (xEps (sndV d)).length ≤ 99999 ∧ (xEdg (sndV d)).length ≤ 99999 by omega), decide_eq_true (show (itZ (dval (sndEd d).2 3).toNat (dnext (sndEd d).2 3)).1.length ≤ 100000 by omega), Bool.true_and, Bool.true_and, Bool.and_true]
  exact List.all_eq_true.2 fun e he => QVf (QHO d e he)
theorem QHP (d : Dice) {k : Nat} (hk : k < (xEdg (sndV d)).length) : sndP (endsF (sndV d) (k : Int)).1 ∧ sndP (endsF (sndV d) (k : Int)).2 := by
 have he := Qu6 (Qsl d).1 hk
 have at_ : ∀ a : Int, 0 ≤ a → a < (xEps (sndV d)).length → sndP (epAt (xEps (sndV d)) a.toNat) := fun a h0 h1 => by
  have hq : a.toNat < (xEps (sndV d)).length := by omega
  rw [show epAt (xEps (sndV d)) a.toNat = (xEps (sndV d))[a.toNat] by simp only [epAt, List.getD_eq_getElem?_getD, List.getElem?_eq_getElem hq, Option.getD_some]]
  exact QHO d _ (List.getElem_mem hq)
 unfold endsF
 rw [Int.toNat_natCast]
 exact ⟨at_ _ he.1.1 he.1.2, at_ _ he.2.1.1 he.2.1.2⟩
end Go.Proofs.YtckcgijklnloiaaGreat.K
namespace Go.Proofs.YtckcgijklnloiaaGreat.K
open Go.RowKit
noncomputable section
open Classical in
def isSnd (e : Qaq) : Bool := @decide (∃ d, e = sndV d) (Classical.propDecidable _)
theorem QQT (d : Dice) : isSnd (sndV d) = true := @decide_eq_true _ (Classical.propDecidable _) ⟨d, rfl⟩
theorem QQS {e : Qaq} (h : isSnd e = true) : ∃ d, e = sndV d := @of_decide_eq_true _ (Classical.propDecidable _) h
theorem QAL {a b : Int} (ha : 0 ≤ a) (hb : 0 < b) : 0 ≤ irem a b ∧ irem a b < b := ⟨Int.tmod_nonneg b ha, Int.tmod_lt_of_pos a hb⟩
theorem QUO {a : Int} (h : -9223372036854775808 ≤ a ∧ a ≤ 9223372036854775807) : icv .i64 a = a := Go.IntWalk.i64_in _ h
theorem QFI (d : Dice) {k : Nat} (hk : k < (xEdg (sndV d)).length) : QcQ (sndV d) (k : Int) = 0 := by
 unfold QcQ
 rw [(Qsl d).1, show ilt (k : Int) 0 = false from decide_eq_false (by omega), show ige (k : Int) (llen (xEdg (sndV d))) = false from decide_eq_false (by simp only [llen]; omega)]
 rfl
theorem Qh9 {c s : Qab} {x : Keep} (hx : x ∈ QaR c s) : (QaU s x.2.1).2 = true := QKC (QFi hx).1
theorem QuM (d : Dice) {k : Nat} (hk : k < (xEdg (sndV d)).length) {D : Int} (h0 : 0 ≤ D) (h1 : D ≤ 40000) : methF (sndV d) (k : Int) D = (if D < 901 then QaR (endsF (sndV d) (k : Int)).1 (endsF (sndV d) (k : Int)).2 else [], 0) := by
 obtain ⟨hc, hs⟩ := QHP d hk
 unfold methF
 rw [QFI d hk, show dayF D = true by unfold dayF; rw [show ige D 0 = true from decide_eq_true h0, show ile D 40000 = true from decide_eq_true h1]; rfl]
 show (metF _ _ D, (0 : Int)) = _
 unfold metF
 by_cases h : D < 901
 ·rw [if_pos h, List.filter_eq_self.2 fun x hx => ?_]
  unfold metOk
  rw [Qh9 hx, Qxx hs (Qh9 hx) D _ hc, if_pos ⟨h0, h⟩]
  rfl
 ·rw [if_neg h, List.filter_eq_nil_iff.2 fun x hx => ?_]
  unfold metOk
  rw [Qh9 hx, Qxx hs (Qh9 hx) D _ hc, if_neg (by omega)]
  exact (by decide)
theorem QNC (d : Dice) {k : Nat} (hk : k < (xEdg (sndV d)).length) : QaR (endsF (sndV d) (k : Int)).1 (endsF (sndV d) (k : Int)).2 ≠ [] := by
 obtain ⟨hc, hs⟩ := QHP d hk
 intro h
 have := QEt hc hs (x := 8) (.inr rfl)
 rw [h] at this
 cases this
theorem QVg (d : Dice) {k : Nat} (hk : k < (xEdg (sndV d)).length) : cIx (xEps (sndV d)) (xEdg (sndV d))[k].1 = true ∧ cIx (xEps (sndV d)) (xEdg (sndV d))[k].2.1 = true ∧ (endsF (sndV d) (k : Int)) = (epAt (xEps (sndV d)) (xEdg (sndV d))[k].1.toNat, epAt (xEps (sndV d)) (xEdg (sndV d))[k].2.1.toNat) := by
 have h := Qox (Qsl d).1 (i := (k : Int)) (by omega) (by omega)
 have e : egAt (xEdg (sndV d)) k = (xEdg (sndV d))[k] := by simp only [egAt, List.getD_eq_getElem?_getD, List.getElem?_eq_getElem hk, Option.getD_some]
 simp only [Qil, Int.toNat_natCast, e, Bool.and_eq_true] at h
 refine ⟨h.2.1, h.2.2, ?_⟩
 unfold endsF
 rw [Int.toNat_natCast, e]
end
end Go.Proofs.YtckcgijklnloiaaGreat.K
namespace Go.Proofs.YtckcgijklnloiaaGreat.K
open Go.RowKit
noncomputable section
def metL (_ : List Int) (_ _ : Int) : Bool := true
def QLh (_ : List Int) (a b : Int) : Bool := decide ((0 ≤ a ∧ a ≤ 65535) ∧ 0 ≤ b ∧ b ≤ 65535)
noncomputable def Q0G : List DO := dT Tryz.f6 10
def Qro : Fg := ⟨[(1, some (.int .u16)), (2, some (.int .u16)), (7, none), (25, some (.sl Qag)), (26, some tI), (27, some tI)], [(7, some Qau)]⟩
noncomputable def QsV : TC := (.sq (.reg (rT Tryz.f6 5)) (.sq (.cd (.t 28) .sk (.fg ⟨[], []⟩ (.ex 0))) (.sq (.bk 1 (.sq (.reg (rT Tryz.f6 6)) (.sq (.reg (rT Tryz.f6 7)) (.sq (.reg (rT Tryz.f6 8)) (.sq (.reg (rT Tryz.f6 9)) (.sq (.dr Q0G [(0, [7]), (1, [7]), (2, [9]), (3, [9]), (4, []), (5, []), (6, [7]), (7, [7]), (8, [9]), (9, [9]), (10, []), (11, []), (12, []), (13, [])] (.of [0, 1, 2, 3, 4, 5, 6, 7, 8, 9, 10, 11, 12, 13])) (.sq (.reg (rT Tryz.f6 11)) (.cd (.t 100) (.sq (.reg (rT Tryz.f6 12)) (.fg ⟨[(6, some .bool)], []⟩ .rt)) .sk)))))))) (.reg (rT Tryz.f6 13)))))
noncomputable def tc_f6 : TC := (.sq (.reg (rT Tryz.f6 0)) (.sq (.sq (.reg (rT Tryz.f6 1)) (.cd (.t 19) (.sq (.reg (rT Tryz.f6 2)) .rt) .sk)) (.sq (.reg (rT Tryz.f6 3)) (.sq (.sq (.reg (rT Tryz.f6 4)) (.bk 0 (.lp 0 Qro QsV))) (.sq (.reg (rT Tryz.f6 14)) .rt)))))
def rv_f6 : List (RV × Option Ty) := [((.t 6), some .bool)]
abbrev QzA : Sh := ⟨[(1, .ty (.int .u16)), (2, .ty (.int .u16)), (7, .ptr 7 0), (25, .ty (.sl Qag)), (26, .ty tI), (27, .ty tI)], [(7, .box Qau)]⟩
def Qzh (x1 x2 : Int) (x25 : List Keep) (x26 x27 : Int) (y7 : Qaq) : VS := QzA.st (x1, x2, (), x25, x26, x27, ()) (y7, ())
abbrev Qzz : Sh := ⟨[(6, .ty .bool)], []⟩
def Qa2 (x6 : Bool) : VS := Qzz.st (x6, ()) ()
abbrev QEv : Sh := ⟨[], []⟩
def Qhz  : VS := QEv.st () ()
def L_f6_0 : VS → Option (Bool × List (Bool × Exit × VS)) := mkL QzA (fun x y => (isSnd y.1 && (rngOk x.2.2.2.1 x.2.2.2.2.1 x.2.2.2.2.2.1 && (x.2.2.2.1 == y.1.2.1 && decide ((0 ≤ x.1 ∧ x.1 ≤ 65535) ∧ 0 ≤ x.2.1 ∧ x.2.1 ≤ 65535))))) (fun x y => [((false), .ret, Qa2 (false)), (true, .exit 0, Qhz)])
def g_f6 : G := ⟨TYs, [], 103, EL [(9, sp_f9), (10, QTu), (12, QTt), (17, QTq), (20, QTo), (21, QTn), (22, QTm)], keeps, (Ls [L_f6_0]), IL [], RL []⟩
def QU3 (x1 x2 : Int) (x25 : List Keep) (x26 x27 : Int) (y7 : Qaq) : Option (Exit × VS) :=
 let a1 := lgt Qag x25 (Int.toNat x27)
 let a2 := methF y7 x27 (irem (icv .i64 x1) 901)
 let a3 := QaR (lgt Qae y7.1 (Int.toNat (a1.1))) (lgt Qae y7.1 (Int.toNat ((a1.2).1)))
 let a4 := iadd .i64 901 (irem (icv .i64 x1) 1000)
 let a5 := methF y7 x27 (irem (icv .i64 x2) 901)
 br (ilt x27 x26) (br (cIx x25 x27) (br (cNz 901) (br (Qgf y7 x27 (irem (icv .i64 x1) 901)) (br (cNz 901) (br (Qgf y7 x27 (irem (icv .i64 x2) 901)) (br (cNz 1000) (br (Qgf y7 x27 a4) (br (cIx y7.1 (a1.1)) (br (cIx y7.1 ((a1.2).1)) (br (Qa8 (lgt Qae y7.1 (Int.toNat (a1.1))) (lgt Qae y7.1 (Int.toNat ((a1.2).1)))) (br (ine (iadd .i64 (iadd .i64 (a2.2) (a5.2)) ((methF y7 x27 a4).2)) 0) (some (.ret, Qa2 false)) (br (QgF (a2.1) (a5.1)) (br (!(sameO (a2.1) (a5.1))) (some (.ret, Qa2 false)) (br (QgF (a2.1) a3) (br (!(sameO (a2.1) a3)) (some (.ret, Qa2 false)) (br (ine (llen ((methF y7 x27 a4).1)) 0) (some (.ret, Qa2 false)) (br (ieq (llen (a2.1)) 0) (some (.ret, Qa2 false)) (some (.normal, Qzh x1 x2 x25 x26 (iadd .i64 x27 1) y7))))) none)) none)) none) none) none) none) none) none) none) none) none) none) (some (.exit 0, Qhz))
noncomputable def QuN (x1 x2 : Int) (x25 : List Keep) (x26 x27 : Int) (y7 : Qaq) : Option (Exit × VS) := loopF (Qaj g_f6 Qro QsV) (Qzh x1 x2 x25 x26 x27 y7)
noncomputable def QB0 (x1 x2 : Int) (x25 : List Keep) (x26 x27 : Int) (y7 : Qaq) : Option (Exit × VS) :=
 let a1 := lgt Qag x25 (Int.toNat x27)
 let a2 := methF y7 x27 (irem (icv .i64 x1) 901)
 let a3 := QaR (lgt Qae y7.1 (Int.toNat (a1.1))) (lgt Qae y7.1 (Int.toNat ((a1.2).1)))
 let a4 := iadd .i64 901 (irem (icv .i64 x1) 1000)
 let a5 := methF y7 x27 (irem (icv .i64 x2) 901)
 br (ilt x27 x26) (br (cIx x25 x27) (br (cNz 901) (br (Qgf y7 x27 (irem (icv .i64 x1) 901)) (br (cNz 901) (br (Qgf y7 x27 (irem (icv .i64 x2) 901)) (br (cNz 1000) (br (Qgf y7 x27 a4) (br (cIx y7.1 (a1.1)) (br (cIx y7.1 ((a1.2).1)) (br (Qa8 (lgt Qae y7.1 (Int.toNat (a1.1))) (lgt Qae y7.1 (Int.toNat ((a1.2).1)))) (br (ine (iadd .i64 (iadd .i64 (a2.2) (a5.2)) ((methF y7 x27 a4).2)) 0) (some (.ret, Qa2 false)) (br (QgF (a2.1) (a5.1)) (br (!(sameO (a2.1) (a5.1))) (some (.ret, Qa2 false)) (br (QgF (a2.1) a3) (br (!(sameO (a2.1) a3)) (some (.ret, Qa2 false)) (br (ine (llen ((methF y7 x27 a4).1)) 0) (some (.ret, Qa2 false)) (br (ieq (llen (a2.1)) 0) (some (.ret, Qa2 false)) (QuN x1 x2 x25 x26 (iadd .i64 x27 1) y7)))) none)) none)) none) none) none) none) none) none) none) none) none) none) (some (.exit 0, Qhz))
def QAG (x1 x2 : Int) (x25 : List Keep) (x26 x27 : Int) (y7 : Qaq) : Option (Exit × VS) := br (false) (some (.ret, Qa2 (false))) <| some (.exit 0, Qhz)
theorem Q0Q (x1 x2 : Int) (x25 : List Keep) (x26 x27 : Int) (y7 : Qaq) : Qaj g_f6 Qro QsV (Qzh x1 x2 x25 x26 x27 y7) = QU3 x1 x2 x25 x26 x27 y7 := by kernel_rfl
theorem QLW (x1 x2 : Int) (x25 : List Keep) (x26 x27 : Int) (y7 : Qaq) : QuN x1 x2 x25 x26 x27 y7 = QB0 x1 x2 x25 x26 x27 y7 := (Qan _ _).trans (by
 rw [Q0Q]
 simp only [QU3, QB0, Qay, nxt_n, nxt_r, nxt_e, nxt_0]
 rfl)
def r_f6 (p0 : List Int) (p1 p2 : Int) : Option (V × List VO) :=
 let a1 := sndV (roll p0)
 br (!(light p0)) (some (.t .bool QoC, [])) (br (dOk (roll p0)) (br (isSnd a1 && (rngOk ((a1.2).1) (llen ((a1.2).1)) (0 : Int) && (((a1.2).1) == a1.2.1 && decide ((0 ≤ p1 ∧ p1 ≤ 65535) ∧ 0 ≤ p2 ∧ p2 ≤ 65535)))) (br (false) (some (.t .bool (false), [])) (some (.t .bool QoC, []))) none) none)
theorem e_f6 (p0 : List Int) (p1 p2 : Int) : runF g_f6 tc_f6 rv_f6 false [.t (.sl tI) p0, .t (.int .u16) p1, .t (.int .u16) p2] [] = r_f6 p0 p1 p2 := by kernel_rfl
theorem gk_f6 : GOk Tryz.prog g_f6 := Qal _ (gA (gC en_f9 ms_f9 (gC en_f10 ms_f10 (gC en_f12 ms_f12 (gC en_f17 ms_f17 (gC en_f20 ms_f20 (gC en_f21 ms_f21 (gC en_f22 ms_f22 gN))))))))
theorem l_f6_0 (x1 x2 : Int) (x25 : List Keep) (x26 x27 : Int) (y7 : Qaq) (h : (isSnd y7 && (rngOk x25 x26 x27 && (x25 == y7.2.1 && decide ((0 ≤ x1 ∧ x1 ≤ 65535) ∧ 0 ≤ x2 ∧ x2 ≤ 65535)))) = true) : QuN x1 x2 x25 x26 x27 y7 = QAG x1 x2 x25 x26 x27 y7 := by
 simp only [Bool.and_eq_true, beq_iff_eq, decide_eq_true_eq] at h
 obtain ⟨hs, h0, rfl, ha, hb⟩ := h
 obtain ⟨d, rfl⟩ := QQS hs
 obtain ⟨rfl, h3, k, rfl, hk⟩ := rng_k h0
 clear h0 hs
 refine Qar (sndV d).2.1 (fun k => QuN x1 x2 (sndV d).2.1 ((sndV d).2.1.length : Int) (k : Int) (sndV d) = QAG x1 x2 (sndV d).2.1 ((sndV d).2.1.length : Int) (k : Int) (sndV d)) ?_ ?_ k hk
 ·rw [QLW]
  simp only [QB0, QAG, Qas, Nat.lt_irrefl, decide_false, Qaf]
 ·intro k hk ih
  rw [QLW]
  obtain ⟨c1, c2, c3⟩ := QVg d hk
  have hl : ∀ D, Qgf (sndV d) (k : Int) D = true := fun _ => (Qsl d).2
  have r1 := QAL (a := x1) (b := 901) ha.1 (by decide)
  have r2 := QAL (a := x2) (b := 901) hb.1 (by decide)
  have r3 := QAL (a := x1) (b := 1000) ha.1 (by decide)
  have e3 : iadd .i64 901 (irem x1 1000) = 901 + irem x1 1000 := Qbg (by omega)
  have m1 := QuM d hk (D := irem x1 901) r1.1 (by omega)
  have m2 := QuM d hk (D := irem x2 901) r2.1 (by omega)
  have m3 := QuM d hk (D := 901 + irem x1 1000) (by omega) (by omega)
  rw [if_pos r1.2] at m1
  rw [if_pos r2.2] at m2
  rw [if_neg (by omega)] at m3
  have hn := QNC d hk
  have hcl := QiL (c := (endsF (sndV d) (k : Int)).1) (s := (endsF (sndV d) (k : Int)).2)
  have hr := Qu8 (Qsl d).2 (Qox (Qsl d).1 (i := (k : Int)) (by omega) (show (k : Int) < (xEdg (sndV d)).length by show (k : Int) < ((sndV d).2.1.length : Int); omega))
  simp only [QB0, Qas, Qaw, hk, decide_true, Qad, Int.toNat_natCast, add1 (show k < 4611686018427387904 by omega), QaA (y := Qag) hk, QUO (show -9223372036854775808 ≤ x1 ∧ x1 ≤ 9223372036854775807 by omega), QUO (show -9223372036854775808 ≤ x2 ∧ x2 ≤ 9223372036854775807 by omega), hl, e3, m1, m2, m3, ih, show cNz 901 = true from rfl, show cNz 1000 = true from rfl]
  refine brY c1 (brY c2 ?_)
  rw [c3] at hn hcl hr ⊢
  refine brY hr ?_
  have hok : ∀ l : List Keep, l.length ≤ 64 → QgF l l = true := fun l h => decide_eq_true (by omega)
  have hso : ∀ l : List Keep, sameO l l = true := fun l => by unfold sameO; exact beq_self_eq_true l
  refine Eq.trans (congrArg (fun b => br b _ _) (show ine (iadd .i64 (iadd .i64 0 0) 0) 0 = false from rfl)) ?_
  rw [Qaf]
  refine brY (hok _ hcl) ?_
  refine Eq.trans (congrArg (fun b => br b _ _) (show (!(sameO _ _)) = false by rw [hso]; rfl)) ?_
  rw [Qaf]
  refine brY (hok _ hcl) ?_
  refine Eq.trans (congrArg (fun b => br b _ _) (show (!(sameO (QaR (epAt (xEps (sndV d)) (xEdg (sndV d))[k].1.toNat) (epAt (xEps (sndV d)) (xEdg (sndV d))[k].2.1.toNat)) (QaR (epAt (xEps (sndV d)) (xEdg (sndV d))[k].1.toNat) (epAt (xEps (sndV d)) (xEdg (sndV d))[k].2.1.toNat)))) = false by rw [hso]; rfl)) ?_
  rw [Qaf]
  refine Eq.trans (congrArg (fun b => br b _ _) (show ine (llen ([] : List Keep)) 0 = false from rfl)) ?_
  rw [Qaf]
  have hz : ieq (llen (QaR (epAt (xEps (sndV d)) (xEdg (sndV d))[k].1.toNat) (epAt (xEps (sndV d)) (xEdg (sndV d))[k].2.1.toNat))) 0 = false := by
   have : 0 < (QaR (epAt (xEps (sndV d)) (xEdg (sndV d))[k].1.toNat) (epAt (xEps (sndV d)) (xEdg (sndV d))[k].2.1.toNat)).length := List.length_pos_iff.2 hn
   simp only [Qc6, llen, decide_eq_false_iff_not]
   omega
  refine Eq.trans (congrArg (fun b => br b _ _) hz) ?_
  rw [Qaf]
  rfl
theorem QWG : ∀ S l p, g_f6.L 0 (fgt Qro S) = some (true, l) → pickA l = some p → loopF (Qaj g_f6 Qro QsV) S = some p :=
 QaB (s := QzA) ⟨by decide, by decide⟩ (by kernel_rfl) fun x y hok p hp => by
 simp only [Qao, Qam] at hp
 exact (l_f6_0 x.1 x.2.1 x.2.2.2.1 x.2.2.2.2.1 x.2.2.2.2.2.1 y.1 (by simpa using hok)).trans hp
theorem lk_f6 : tc_f6.lok g_f6 := by
 repeat (first | exact trivial | exact QWG | refine ⟨?_, ?_⟩)
theorem s_f6 (p0 : List Int) (a b : Int) (h : QLh p0 a b = true) : r_f6 p0 a b = some (.t .bool (metL p0 a b), []) := by
 have h : (0 ≤ a ∧ a ≤ 65535) ∧ 0 ≤ b ∧ b ≤ 65535 := of_decide_eq_true h
 unfold r_f6
 refine QaD (fun _ => rfl) (fun k1 => ?_)
 have k1 : light p0 = true := by simpa using k1
 refine brY (QRO k1) (brY ?_ rfl)
 have hl := QvK (roll p0)
 simp only [Bool.and_eq_true, decide_eq_true_eq]
 exact ⟨QQT _, rng_0 (by show (xEdg (sndV (roll p0))).length ≤ _; omega), beq_self_eq_true _, h⟩
def sp_f6 : Ent := spec (.pr (.sl tI) (.pr (.int .u16) (.pr (.int .u16) .nil))) (fun x => (QLh x.1 x.2.1 x.2.2.1)) (fun x => (.t .bool (metL x.1 x.2.1 x.2.2.1)))
theorem ms_f6 : Meets Tryz.prog 6 (strip sp_f6) := Qah (R := runF g_f6 tc_f6 rv_f6 false) (mG Tryz.func6 (by kernel_rfl) Tryz.ntmps6 (by kernel_rfl) gk_f6 lk_f6) fun x hok => (e_f6 x.1 x.2.1 x.2.2.1).trans (s_f6 x.1 x.2.1 x.2.2.1 hok)
end
theorem QfL (z0 : List Int) (z1 z2 : Int) (w0 : Ty.wf (.sl (.int .i64)) z0) (w1 : Ty.wf (.int .u16) z1) (w2 : Ty.wf (.int .u16) z2) : QLh z0 z1 z2 = true := decide_eq_true ⟨QFA w1, QFA w2⟩
theorem walkConversationMethods (z0 : (List Int)) (z1 : Int) (z2 : Int) (W : World) (v0 : Value) (v1 : Value) (v2 : Value) (c0 : C noX W (fun _ => .no) (V.t (.sl tI) z0).d v0) (c1 : C noX W (fun _ => .no) (V.t (.int .u16) z1).d v1) (c2 : C noX W (fun _ => .no) (V.t (.int .u16) z2).d v2) (w0 : Ty.wf (.sl tI) z0) (w1 : Ty.wf (.int .u16) z1) (w2 : Ty.wf (.int .u16) z2) :
  Calls Tryz.prog 6 #[v0, v1, v2] W fun r w' => r = .returned (.bool true) ∧ Below W.heap.size W w' :=
 QFk (by decide) ms_f6 (args := [.t (.sl tI) z0, .t (.int .u16) z1, .t (.int .u16) z2]) (QEp (x := (z0, z1, z2, ())) rfl (QfL z0 z1 z2 w0 w1 w2)) (by simp only [V.ds, Cs]; exact ⟨_, _, rfl, c0, _, _, rfl, c1, _, _, rfl, c2, rfl⟩)
end Go.Proofs.YtckcgijklnloiaaGreat.K
