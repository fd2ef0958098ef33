import Derived.Test.YtckcgijklnloiaaGreatQ10
set_option linter.unusedSimpArgs false
set_option linter.unusedVariables false
namespace Go.Proofs.YtckcgijklnloiaaGreat.K
open Go.RowKit
noncomputable section
def cpyI (x : Qar) : Qar := x
def Qkk : Fg := ⟨[(2, none), (3, none), (12, some (.sl Qac)), (13, some tI), (14, some tI)], [(2, some Qap), (3, none), (26, none), (20303, none)]⟩
noncomputable def Qmm : TC := (.sq (.reg (rT Tryz.f91 3)) (.sq (.cd (.t 15) .sk (.fg ⟨[(2, none), (3, none)], [(2, some Qap), (3, some Qap), (26, none), (20303, none)]⟩ (.ex 0))) (.sq (.bk 1 (.sq (.reg (rT Tryz.f91 4)) (.sq (.reg (rT Tryz.f91 5)) (.reg (rT Tryz.f91 6))))) (.reg (rT Tryz.f91 7)))))
noncomputable def QEg : TC := (.sq (.reg (rT Tryz.f91 0)) (.sq (.reg (rT Tryz.f91 1)) (.sq (.sq (.reg (rT Tryz.f91 2)) (.bk 0 (.nf 3 3 138 20303 (.nf 5 12 9 20512 (.lp 0 Qkk Qmm))))) (.sq (.reg (rT Tryz.f91 8)) .rt))))
def QRt : List (RV × Option Ty) := [((.c 2 true 4), some Qap)]
abbrev Qso : Sh := ⟨[(2, .ptr 2 0), (3, .ptr 3 0), (12, .ty (.sl Qac)), (13, .ty tI), (14, .ty tI)], [(2, .box Qap), (3, .bag [.ty tI, .ty tI, .ty tI, .ms 20303]), (26, .no), (20303, .arr 138 Qac)]⟩
def Qr2 (x12 : List Qaa) (x13 x14 : Int) (y2 : Qar) (y3_0 y3_1 y3_2 : Int) (y20303 : List Qaa) : VS := Qso.st ((), (), x12, x13, x14, ()) (y2, (y3_0, y3_1, y3_2, (), ()), (), y20303, ())
abbrev Qx9 : Sh := ⟨[(2, .ptr 2 0), (3, .ptr 3 0)], [(2, .box Qap), (3, .bag [.ty tI, .ty tI, .ty tI, .ms 20303]), (26, .no), (20303, .arr 138 Qac)]⟩
def Qe0 (y2 : Qar) (y3_0 y3_1 y3_2 : Int) (y20303 : List Qaa) : VS := Qx9.st ((), (), ()) (y2, (y3_0, y3_1, y3_2, (), ()), (), y20303, ())
def QYn : VS → Option (Bool × List (Bool × Exit × VS)) := mkL Qso (fun x y => (rngOk x.2.2.1 x.2.2.2.1 x.2.2.2.2.1 && (QaR x.2.2.1 && decide (y.2.2.2.1.length ≤ x.2.2.2.2.1)))) (fun x y => [(true, .exit 0, Qe0 (y.1) (y.2.1.1) (y.2.1.2.1) (y.2.1.2.2.1) (y.2.2.2.1 ++ x.2.2.1.drop x.2.2.2.2.1.toNat))])
def g_f91 : G := ⟨TYs, [], 30, EL [], keeps, (Ls [QYn]), IL [], RL []⟩
def QMu (x12 : List Qaa) (x13 x14 : Int) (y2 : Qar) (y3_0 y3_1 y3_2 : Int) (y20303 : List Qaa) : Option (Exit × VS) :=
 let a1 := ((((lgt Qac x12 (Int.toNat x14)).2).2).2)
 let a2 := ((lgt Qac x12 (Int.toNat x14)).1, (((lgt Qac x12 (Int.toNat x14)).2).1, ((((lgt Qac x12 (Int.toNat x14)).2).2).1, (((a1.1).1, (((a1.1).2).1, ())), ((a1.2).1, (((((a1.2).2).1).1, (((((a1.2).2).1).2).1, ())), ((((a1.2).2).2).1, (((((a1.2).2).2).2).1, ((((((a1.2).2).2).2).2).1, (((((((a1.2).2).2).2).2).2).1, ((([] : List ByteArray) ++ ((((((((a1.2).2).2).2).2).2).2).1)), (((((((((((a1.2).2).2).2).2).2).2).2).1).1, (((((((((((a1.2).2).2).2).2).2).2).2).1).2).1, ())), ()))))))))))))
 br (ilt x14 x13) (br (cIx x12 x14) (br (cApp ([] : List ByteArray) ((((((((a1.2).2).2).2).2).2).2).1) 16) (br (cApp y20303 ([a2]) 152) (some (.normal, Qr2 x12 x13 (iadd .i64 x14 1) y2 y3_0 y3_1 y3_2 (y20303 ++ ([a2])))) none) none) none) (some (.exit 0, Qe0 y2 y3_0 y3_1 y3_2 y20303))
noncomputable def Qnh (x12 : List Qaa) (x13 x14 : Int) (y2 : Qar) (y3_0 y3_1 y3_2 : Int) (y20303 : List Qaa) : Option (Exit × VS) := loopF (Qaj g_f91 Qkk Qmm) (Qr2 x12 x13 x14 y2 y3_0 y3_1 y3_2 y20303)
noncomputable def Qtp (x12 : List Qaa) (x13 x14 : Int) (y2 : Qar) (y3_0 y3_1 y3_2 : Int) (y20303 : List Qaa) : Option (Exit × VS) :=
 let a1 := ((((lgt Qac x12 (Int.toNat x14)).2).2).2)
 let a2 := ((lgt Qac x12 (Int.toNat x14)).1, (((lgt Qac x12 (Int.toNat x14)).2).1, ((((lgt Qac x12 (Int.toNat x14)).2).2).1, (((a1.1).1, (((a1.1).2).1, ())), ((a1.2).1, (((((a1.2).2).1).1, (((((a1.2).2).1).2).1, ())), ((((a1.2).2).2).1, (((((a1.2).2).2).2).1, ((((((a1.2).2).2).2).2).1, (((((((a1.2).2).2).2).2).2).1, ((([] : List ByteArray) ++ ((((((((a1.2).2).2).2).2).2).2).1)), (((((((((((a1.2).2).2).2).2).2).2).2).1).1, (((((((((((a1.2).2).2).2).2).2).2).2).1).2).1, ())), ()))))))))))))
 br (ilt x14 x13) (br (cIx x12 x14) (br (cApp ([] : List ByteArray) ((((((((a1.2).2).2).2).2).2).2).1) 16) (br (cApp y20303 ([a2]) 152) (Qnh x12 x13 (iadd .i64 x14 1) y2 y3_0 y3_1 y3_2 (y20303 ++ ([a2]))) none) none) none) (some (.exit 0, Qe0 y2 y3_0 y3_1 y3_2 y20303))
def Qns (x12 : List Qaa) (x13 x14 : Int) (y2 : Qar) (y3_0 y3_1 y3_2 : Int) (y20303 : List Qaa) : Option (Exit × VS) := some (.exit 0, Qe0 (y2) (y3_0) (y3_1) (y3_2) (y20303 ++ x12.drop x14.toNat))
theorem QPW (x12 : List Qaa) (x13 x14 : Int) (y2 : Qar) (y3_0 y3_1 y3_2 : Int) (y20303 : List Qaa) : Qaj g_f91 Qkk Qmm (Qr2 x12 x13 x14 y2 y3_0 y3_1 y3_2 y20303) = QMu x12 x13 x14 y2 y3_0 y3_1 y3_2 y20303 := by kernel_rfl
theorem QAE (x12 : List Qaa) (x13 x14 : Int) (y2 : Qar) (y3_0 y3_1 y3_2 : Int) (y20303 : List Qaa) : Qnh x12 x13 x14 y2 y3_0 y3_1 y3_2 y20303 = Qtp x12 x13 x14 y2 y3_0 y3_1 y3_2 y20303 := (Qao _ _).trans (by
 rw [QPW]
 simp only [QMu, Qtp, QaA, nxt_n, nxt_r, nxt_e, nxt_0]
 rfl)
def r_f91 (p0 : Qar) : Option (V × List VO) := br (rngOk p0.2.2.1 (llen p0.2.2.1) (0 : Int) && (QaR p0.2.2.1 && decide (([] : List Qaa).length ≤ (0 : Int)))) (some (.t Qap (((p0.1.1), ((p0.1.2.1), ())), ((p0.2.1), ((([] : List Qaa) ++ p0.2.2.1.drop (0 : Int).toNat), ()))), [])) none
theorem e_f91 (p0 : Qar) : runF g_f91 QEg QRt false [.t Qap p0] [] = r_f91 p0 := by kernel_rfl
theorem en_f91 : Qai Tryz.prog 91 := .inr ⟨by decide, _, Tryz.func91, by kernel_rfl, by kernel_rfl⟩
theorem gk_f91 : GOk Tryz.prog g_f91 := Qal _ (fun p hp => by cases hp)
theorem QVF (x12 : List Qaa) (x13 x14 : Int) (y2 : Qar) (y3_0 y3_1 y3_2 : Int) (y20303 : List Qaa) (h : (rngOk x12 x13 x14 && (QaR x12 && decide (y20303.length ≤ x14))) = true) : Qnh x12 x13 x14 y2 y3_0 y3_1 y3_2 y20303 = Qns x12 x13 x14 y2 y3_0 y3_1 y3_2 y20303 := by
 simp only [Bool.and_eq_true, decide_eq_true_eq] at h
 obtain ⟨h0, hc, hl⟩ := h
 obtain ⟨rfl, h3, k, rfl, hk⟩ := rng_k h0
 clear h0
 revert y20303
 refine Qau x12 (fun k => ∀ (y20303 : List Qaa), (y20303.length : Int) ≤ (k : Int) → Qnh x12 (x12.length : Int) (k : Int) y2 y3_0 y3_1 y3_2 y20303 = Qns x12 (x12.length : Int) (k : Int) y2 y3_0 y3_1 y3_2 y20303) ?_ ?_ k hk
 ·intro y20303 _
  rw [QAE]
  simp only [Qtp, Qns, Qat, Nat.lt_irrefl, decide_false, Qaf, Int.toNat_natCast, List.drop_length, List.append_nil]
 ·intro k hk ih y20303 hl
  rw [QAE]
  have c1 : cApp ([] : List ByteArray) (QaC x12[k]) 16 = true := cAppN (by decide) (by have := QqS (QkH hc hk); simp only [List.length_nil]; omega)
  have c2 : ∀ v, cApp y20303 [v] 152 = true := fun v => cAppN (by omega) (by simp only [List.length_singleton]; omega)
  simp only [Qtp, Qat, Qax, hk, decide_true, Qad, Int.toNat_natCast, add1 (show k < 4611686018427387904 by omega), Qaz (y := Qac) hk]
  refine brY c1 (brY (cAppN (by omega) (by simp only [List.length_singleton]; omega)) ?_)
  refine Eq.trans (ih (y20303 ++ [x12[k]]) (by simp only [List.length_append, List.length_singleton]; omega)) ?_
  simp only [Qns, Int.toNat_natCast, List.drop_eq_getElem_cons hk, List.append_assoc, List.singleton_append]
theorem QNQ : ∀ S l p, g_f91.L 0 (fgt Qkk S) = some (true, l) → pickA l = some p → loopF (Qaj g_f91 Qkk Qmm) S = some p :=
 QaB (s := Qso) ⟨by decide, by decide⟩ (by kernel_rfl) fun x y hok p hp => by
 simp only [Qas, Qan] at hp
 exact (QVF x.2.2.1 x.2.2.2.1 x.2.2.2.2.1 y.1 y.2.1.1 y.2.1.2.1 y.2.1.2.2.1 y.2.2.2.1 (by simpa using hok)).trans hp
theorem lk_f91 : QEg.lok g_f91 := by
 repeat (first | exact trivial | exact QNQ | refine ⟨?_, ?_⟩)
theorem s_f91 (x : Qar) (h : idLen x = true) : r_f91 x = some (.t Qap (cpyI x), []) := by
 have h : QaR x.2.2.1 = true := h
 unfold r_f91
 refine brY ?_ rfl
 rw [rng_0 (Qhg h), h, Bool.true_and, Bool.true_and]
 exact decide_eq_true (Int.le_refl _)
def QQY : Ent := spec (.pr Qap .nil) (fun x => (idLen x.1)) (fun x => (.t Qap (cpyI x.1)))
theorem ms_f91 : Meets Tryz.prog 91 (strip QQY) := Qag (R := runF g_f91 QEg QRt false) (mG Tryz.func91 (by kernel_rfl) Tryz.ntmps91 (by kernel_rfl) gk_f91 lk_f91) fun x hok => (e_f91 x.1).trans (s_f91 x.1 hok)
def cpyE (x : Qab) : Qab := x
noncomputable def QPz : List DO := dT Tryz.f55 2
noncomputable def QPy : List DO := dT Tryz.f55 7
def Qkq : Fg := ⟨[(2, none), (3, none), (21, some (.sl Qap)), (22, some tI), (23, some tI)], [(2, some Qae), (3, none), (9, none), (12, none), (15, none), (32, none), (20303, none), (20305, none), (20306, none), (20307, none)]⟩
noncomputable def Qms : TC := (.sq (.reg (rT Tryz.f55 5)) (.sq (.cd (.t 24) .sk (.fg ⟨[(2, none), (3, none)], [(2, some Qae), (3, some Qae), (9, none), (12, none), (15, none), (32, none), (20303, none), (20305, none), (20306, none), (20307, none)]⟩ (.ex 0))) (.sq (.bk 1 (.sq (.reg (rT Tryz.f55 6)) (.dr QPy [(0, [3, 9, 12, 15, 32, 20303, 20305, 20306, 20307]), (1, [3, 9, 12, 15, 32, 20303, 20305, 20306, 20307]), (2, [5]), (3, []), (4, []), (5, [2, 3, 9, 12, 15, 32, 5032, 10032, 15032, 20303, 20305, 20306, 20307]), (6, [3, 9, 12, 15, 32, 20303, 20305, 20306, 20307]), (7, [2, 3, 9, 12, 15, 32, 20303, 20305, 20306, 20307])] (.of [0, 1, 2, 3, 4, 5, 6, 7])))) (.reg (rT Tryz.f55 8)))))
noncomputable def QEv : TC := (.sq (.reg (rT Tryz.f55 0)) (.sq (.reg (rT Tryz.f55 1)) (.sq (.dr QPz [(0, [1]), (1, [1]), (2, [9, 5009, 10009, 15009]), (3, [1]), (4, [1]), (5, [12, 5012, 10012, 15012]), (6, [1]), (7, [1]), (8, [15, 5015, 10015, 15015]), (9, [3, 9, 12, 15, 32, 20303, 20305, 20306, 20307]), (10, [2, 3, 9, 12, 15, 32, 20303, 20305, 20306, 20307]), (11, [3, 9, 12, 15, 32, 20303, 20305, 20306, 20307]), (12, [2, 3, 9, 12, 15, 32, 20303, 20305, 20306, 20307]), (13, [3, 9, 12, 15, 32, 20303, 20305, 20306, 20307]), (14, [2, 3, 9, 12, 15, 32, 20303, 20305, 20306, 20307])] (.one 0 (.one 1 (.one 3 (.one 4 (.one 6 (.one 7 (.one 2 (.alt 5 (.alt 8 (.of [9, 10, 11, 12, 13, 14]) (.of [9, 8, 10, 11, 12, 13, 14])) (.of [9, 5, 8, 10, 11, 12, 13, 14])))))))))) (.sq (.reg (rT Tryz.f55 3)) (.sq (.sq (.reg (rT Tryz.f55 4)) (.bk 0 (.nf 3 7 3 20307 (.nf 3 6 3 20306 (.nf 3 3 3 20303 (.nf 3 5 99 20305 (.lp 0 Qkq Qms))))))) (.sq (.reg (rT Tryz.f55 9)) .rt))))))
def QRI : List (RV × Option Ty) := [((.c 2 true 9), some Qae)]
abbrev Qsu : Sh := ⟨[(2, .ptr 2 0), (3, .ptr 3 0), (21, .ty (.sl Qap)), (22, .ty tI), (23, .ty tI)], [(2, .box Qae), (3, .bag [.ty .str, .ty tI, .ty tI, .ms 9, .ty .bool, .ms 20305, .ms 12, .ms 15, .ty .bool]), (9, .arr 3 tI), (12, .arr 3 tI), (15, .arr 3 tI), (32, .no), (20303, .no), (20305, .arr 99 Qap), (20306, .no), (20307, .no)]⟩
def Qr6 (x21 : List Qar) (x22 x23 : Int) (y2 : Qab) (y3_0 : ByteArray) (y3_1 y3_2 : Int) (y3_4 y3_8 : Bool) (y9 y12 y15 : List Int) (y20305 : List Qar) : VS := Qsu.st ((), (), x21, x22, x23, ()) (y2, (y3_0, y3_1, y3_2, (), y3_4, (), (), (), y3_8, ()), y9, y12, y15, (), (), y20305, (), (), ())
abbrev Qyh : Sh := ⟨[(2, .ptr 2 0), (3, .ptr 3 0)], [(2, .box Qae), (3, .bag [.ty .str, .ty tI, .ty tI, .ms 9, .ty .bool, .ms 20305, .ms 12, .ms 15, .ty .bool]), (9, .arr 3 tI), (12, .arr 3 tI), (15, .arr 3 tI), (32, .no), (20303, .no), (20305, .arr 99 Qap), (20306, .no), (20307, .no)]⟩
def Qe6 (y2 : Qab) (y3_0 : ByteArray) (y3_1 y3_2 : Int) (y3_4 y3_8 : Bool) (y9 y12 y15 : List Int) (y20305 : List Qar) : VS := Qyh.st ((), (), ()) (y2, (y3_0, y3_1, y3_2, (), y3_4, (), (), (), y3_8, ()), y9, y12, y15, (), (), y20305, (), (), ())
def QYt : VS → Option (Bool × List (Bool × Exit × VS)) := mkL Qsu (fun x y => (rngOk x.2.2.1 x.2.2.2.1 x.2.2.2.2.1 && (x.2.2.1.all idLen && decide (y.2.2.2.2.2.2.2.1.length ≤ x.2.2.2.2.1)))) (fun x y => [(true, .exit 0, Qe6 (y.1) (y.2.1.1) (y.2.1.2.1) (y.2.1.2.2.1) (y.2.1.2.2.2.2.1) (y.2.1.2.2.2.2.2.2.2.2.1) (y.2.2.1) (y.2.2.2.1) (y.2.2.2.2.1) (y.2.2.2.2.2.2.2.1 ++ x.2.2.1.drop x.2.2.2.2.1.toNat))])
def g_f55 : G := ⟨TYs, [], 36, EL [(91, QQY)], keeps, (Ls [QYt]), IL [], RL []⟩
def QMA (x21 : List Qar) (x22 x23 : Int) (y2 : Qab) (y3_0 : ByteArray) (y3_1 y3_2 : Int) (y3_4 y3_8 : Bool) (y9 y12 y15 : List Int) (y20305 : List Qar) : Option (Exit × VS) :=
 let a1 := cpyI (lgt Qap x21 (Int.toNat x23))
 let a2 := (((a1.1).1, (((a1.1).2).1, ())), ((a1.2).1, (((a1.2).2).1, ())))
 br (ilt x23 x22) (br (cIx x21 x23) (br (idLen (lgt Qap x21 (Int.toNat x23))) (br (cApp y20305 ([a2]) 48) (some (.normal, Qr6 x21 x22 (iadd .i64 x23 1) y2 y3_0 y3_1 y3_2 y3_4 y3_8 y9 y12 y15 (y20305 ++ ([a2])))) none) none) none) (some (.exit 0, Qe6 y2 y3_0 y3_1 y3_2 y3_4 y3_8 y9 y12 y15 y20305))
noncomputable def Qnk (x21 : List Qar) (x22 x23 : Int) (y2 : Qab) (y3_0 : ByteArray) (y3_1 y3_2 : Int) (y3_4 y3_8 : Bool) (y9 y12 y15 : List Int) (y20305 : List Qar) : Option (Exit × VS) := loopF (Qaj g_f55 Qkq Qms) (Qr6 x21 x22 x23 y2 y3_0 y3_1 y3_2 y3_4 y3_8 y9 y12 y15 y20305)
noncomputable def Qtv (x21 : List Qar) (x22 x23 : Int) (y2 : Qab) (y3_0 : ByteArray) (y3_1 y3_2 : Int) (y3_4 y3_8 : Bool) (y9 y12 y15 : List Int) (y20305 : List Qar) : Option (Exit × VS) :=
 let a1 := cpyI (lgt Qap x21 (Int.toNat x23))
 let a2 := (((a1.1).1, (((a1.1).2).1, ())), ((a1.2).1, (((a1.2).2).1, ())))
 br (ilt x23 x22) (br (cIx x21 x23) (br (idLen (lgt Qap x21 (Int.toNat x23))) (br (cApp y20305 ([a2]) 48) (Qnk x21 x22 (iadd .i64 x23 1) y2 y3_0 y3_1 y3_2 y3_4 y3_8 y9 y12 y15 (y20305 ++ ([a2]))) none) none) none) (some (.exit 0, Qe6 y2 y3_0 y3_1 y3_2 y3_4 y3_8 y9 y12 y15 y20305))
def Qnw (x21 : List Qar) (x22 x23 : Int) (y2 : Qab) (y3_0 : ByteArray) (y3_1 y3_2 : Int) (y3_4 y3_8 : Bool) (y9 y12 y15 : List Int) (y20305 : List Qar) : Option (Exit × VS) := some (.exit 0, Qe6 (y2) (y3_0) (y3_1) (y3_2) (y3_4) (y3_8) (y9) (y12) (y15) (y20305 ++ x21.drop x23.toNat))
theorem QP2 (x21 : List Qar) (x22 x23 : Int) (y2 : Qab) (y3_0 : ByteArray) (y3_1 y3_2 : Int) (y3_4 y3_8 : Bool) (y9 y12 y15 : List Int) (y20305 : List Qar) : Qaj g_f55 Qkq Qms (Qr6 x21 x22 x23 y2 y3_0 y3_1 y3_2 y3_4 y3_8 y9 y12 y15 y20305) = QMA x21 x22 x23 y2 y3_0 y3_1 y3_2 y3_4 y3_8 y9 y12 y15 y20305 := by kernel_rfl
theorem QAJ (x21 : List Qar) (x22 x23 : Int) (y2 : Qab) (y3_0 : ByteArray) (y3_1 y3_2 : Int) (y3_4 y3_8 : Bool) (y9 y12 y15 : List Int) (y20305 : List Qar) : Qnk x21 x22 x23 y2 y3_0 y3_1 y3_2 y3_4 y3_8 y9 y12 y15 y20305 = Qtv x21 x22 x23 y2 y3_0 y3_1 y3_2 y3_4 y3_8 y9 y12 y15 y20305 := (Qao _ _).trans (by
 rw [QP2]
 simp only [QMA, Qtv, QaA, nxt_n, nxt_r, nxt_e, nxt_0]
 rfl)
def Qs9 (p0 : Qab) : Option (V × List VO) := br (cApp ([] : List Int) p0.2.2.2.2.2.2.2.1 8) (br (rngOk p0.2.2.2.2.2.1 (llen p0.2.2.2.2.2.1) (0 : Int) && (p0.2.2.2.2.2.1.all idLen && decide (([] : List Qar).length ≤ (0 : Int)))) (some (.t Qae ((p0.1), ((p0.2.1), ((p0.2.2.1), ((([] : List Int) ++ p0.2.2.2.1), ((p0.2.2.2.2.1), ((([] : List Qar) ++ p0.2.2.2.2.2.1.drop (0 : Int).toNat), ((([] : List Int) ++ p0.2.2.2.2.2.2.1), ((([] : List Int) ++ p0.2.2.2.2.2.2.2.1), ((p0.2.2.2.2.2.2.2.2.1), ()))))))))), [])) none) none
def r_f55 (p0 : Qab) : Option (V × List VO) :=
 let a1 := (cApp ([] : List Int) p0.2.2.2.2.2.2.1 8)
 br (cApp ([] : List Int) p0.2.2.2.1 8) (frk (br a1 (frk (Qs9 p0) (Qs9 p0)) none) (br a1 (Qs9 p0) none)) none
theorem e_f55 (p0 : Qab) : runF g_f55 QEv QRI false [.t Qae p0] [] = r_f55 p0 := by kernel_rfl
theorem en_f55 : Qai Tryz.prog 55 := .inr ⟨by decide, _, Tryz.func55, by kernel_rfl, by kernel_rfl⟩
theorem gk_f55 : GOk Tryz.prog g_f55 := Qal _ (gA (gC en_f91 ms_f91 gN))
theorem QVL (x21 : List Qar) (x22 x23 : Int) (y2 : Qab) (y3_0 : ByteArray) (y3_1 y3_2 : Int) (y3_4 y3_8 : Bool) (y9 y12 y15 : List Int) (y20305 : List Qar) (h : (rngOk x21 x22 x23 && (x21.all idLen && decide (y20305.length ≤ x23))) = true) : Qnk x21 x22 x23 y2 y3_0 y3_1 y3_2 y3_4 y3_8 y9 y12 y15 y20305 = Qnw x21 x22 x23 y2 y3_0 y3_1 y3_2 y3_4 y3_8 y9 y12 y15 y20305 := by
 simp only [Bool.and_eq_true, decide_eq_true_eq] at h
 obtain ⟨h0, hc, hl⟩ := h
 obtain ⟨rfl, h3, k, rfl, hk⟩ := rng_k h0
 clear h0
 revert y20305
 refine Qau x21 (fun k => ∀ (y20305 : List Qar), (y20305.length : Int) ≤ (k : Int) → Qnk x21 (x21.length : Int) (k : Int) y2 y3_0 y3_1 y3_2 y3_4 y3_8 y9 y12 y15 y20305 = Qnw x21 (x21.length : Int) (k : Int) y2 y3_0 y3_1 y3_2 y3_4 y3_8 y9 y12 y15 y20305) ?_ ?_ k hk
 ·intro y20305 _
  rw [QAJ]
  simp only [Qtv, Qnw, Qat, Nat.lt_irrefl, decide_false, Qaf, Int.toNat_natCast, List.drop_length, List.append_nil]
 ·intro k hk ih y20305 hl
  rw [QAJ]
  have c1 : idLen x21[k] = true := List.all_eq_true.1 hc _ (List.getElem_mem hk)
  simp only [Qtv, Qat, Qax, hk, decide_true, Qad, Int.toNat_natCast, add1 (show k < 4611686018427387904 by omega), Qaz (y := Qap) hk, c1]
  refine brY (cAppN (by omega) (by simp only [List.length_singleton]; omega)) ?_
  refine Eq.trans (ih (y20305 ++ [x21[k]]) (by simp only [List.length_append, List.length_singleton]; omega)) ?_
  simp only [Qnw, Int.toNat_natCast, List.drop_eq_getElem_cons hk, List.append_assoc, List.singleton_append]
theorem QNW : ∀ S l p, g_f55.L 0 (fgt Qkq S) = some (true, l) → pickA l = some p → loopF (Qaj g_f55 Qkq Qms) S = some p :=
 QaB (s := Qsu) ⟨by decide, by decide⟩ (by kernel_rfl) fun x y hok p hp => by
 simp only [Qas, Qan] at hp
 exact (QVL x.2.2.1 x.2.2.2.1 x.2.2.2.2.1 y.1 y.2.1.1 y.2.1.2.1 y.2.1.2.2.1 y.2.1.2.2.2.2.1 y.2.1.2.2.2.2.2.2.2.2.1 y.2.2.1 y.2.2.2.1 y.2.2.2.2.1 y.2.2.2.2.2.2.2.1 (by simpa using hok)).trans hp
theorem lk_f55 : QEv.lok g_f55 := by
 repeat (first | exact trivial | exact QNW | refine ⟨?_, ?_⟩)
theorem s_f55 (x : Qab) (h : QaT x = true) : r_f55 x = some (.t Qae (cpyE x), []) := by
 obtain ⟨_, h1, h2, h3, h4, h5⟩ := Qbl h
 have c1 : cApp ([] : List Int) (Qaw x) 8 = true := cAppN (by decide) (by simp only [List.length_nil]; omega)
 have c2 : cApp ([] : List Int) (eAnch x) 8 = true := cAppN (by decide) (by simp only [List.length_nil]; omega)
 have c3 : cApp ([] : List Int) (eHash x) 8 = true := cAppN (by decide) (by simp only [List.length_nil]; omega)
 simp only [r_f55, Qs9, QcH, QcH]
 refine brY c1 (brY c2 (brY c3 (brY ?_ rfl)))
 rw [rng_0 h2, h5, Bool.true_and, Bool.true_and]
 exact decide_eq_true (Int.le_refl _)
def QQ6 : Ent := spec (.pr Qae .nil) (fun x => (QaT x.1)) (fun x => (.t Qae (cpyE x.1)))
theorem ms_f55 : Meets Tryz.prog 55 (strip QQ6) := Qag (R := runF g_f55 QEv QRI false) (mG Tryz.func55 (by kernel_rfl) Tryz.ntmps55 (by kernel_rfl) gk_f55 lk_f55) fun x hok => (e_f55 x.1).trans (s_f55 x.1 hok)
def cpyX (x : Qam) : Qam := x
def lnkLn (i : Item) : Bool := decide (i.2.2.2.1.length ≤ 1000)
def QLI (x : Qam) : Bool := QbC x && (xItm x).all lnkLn
noncomputable def QPH : List DO := dT Tryz.f19 5
def Qkx : Fg := ⟨[(1, none), (2, none), (3, none), (13, some (.sl Qae)), (14, some tI), (15, some tI)], [(1, some Qaq), (2, some Qaq), (3, none), (10, none), (24, none), (42, none), (20300, none), (20302, none)]⟩
noncomputable def Qmz : TC := (.sq (.reg (rT Tryz.f19 3)) (.sq (.cd (.t 16) .sk (.fg ⟨[(1, none), (2, none), (3, none)], [(1, some Qaq), (2, some Qaq), (3, some Qaq), (10, none), (24, none), (42, none), (20300, none), (20302, none)]⟩ (.ex 0))) (.sq (.bk 1 (.sq (.reg (rT Tryz.f19 4)) (.dr QPH [(0, [3, 10, 24, 42, 20300, 20302]), (1, [3, 10, 24, 42, 20300, 20302]), (2, [5]), (3, []), (4, []), (5, [2, 3, 10, 24, 42, 5024, 10024, 15024, 20300, 20302]), (6, [3, 10, 24, 42, 20300, 20302]), (7, [2, 3, 10, 24, 42, 20300, 20302])] (.of [0, 1, 2, 3, 4, 5, 6, 7])))) (.reg (rT Tryz.f19 6)))))
def Qkw : Fg := ⟨[(2, none), (3, none), (28, some (.sl QaJ)), (29, some tI), (30, some tI)], [(2, some Qaq), (3, none), (10, none), (24, none), (42, none), (20300, none), (20302, none)]⟩
noncomputable def Qmy : TC := (.sq (.reg (rT Tryz.f19 8)) (.sq (.cd (.t 31) .sk (.fg ⟨[(2, none), (3, none)], [(2, some Qaq), (3, some Qaq), (10, none), (24, none), (42, none), (20300, none), (20302, none)]⟩ (.ex 2))) (.sq (.bk 3 (.sq (.reg (rT Tryz.f19 9)) (.sq (.reg (rT Tryz.f19 10)) (.reg (rT Tryz.f19 11))))) (.reg (rT Tryz.f19 12)))))
noncomputable def QEO : TC := (.sq (.reg (rT Tryz.f19 0)) (.sq (.reg (rT Tryz.f19 1)) (.sq (.sq (.reg (rT Tryz.f19 2)) (.bk 0 (.nf 3 2 79 20302 (.nf 3 0 49 20300 (.lp 0 Qkx Qmz))))) (.sq (.sq (.reg (rT Tryz.f19 7)) (.bk 2 (.nf 3 0 49 20300 (.nf 3 2 79 20302 (.nf 7 3 128 20703 (.lp 1 Qkw Qmy)))))) (.sq (.reg (rT Tryz.f19 13)) .rt)))))
def QR1 : List (RV × Option Ty) := [((.c 2 true 3), none)]
abbrev QsC : Sh := ⟨[(1, .ptr 1 0), (2, .ptr 2 0), (3, .ptr 3 0), (13, .ty (.sl Qae)), (14, .ty tI), (15, .ty tI)], [(1, .box Qaq), (2, .box Qaq), (3, .bag [.ms 20300, .ms 10, .ms 20302]), (10, .arr 46 Qah), (24, .no), (42, .no), (20300, .arr 49 Qae), (20302, .arr 79 QaJ)]⟩
def Qsb (x13 : List Qab) (x14 x15 : Int) (y1 y2 : Qam) (y10 : List Keep) (y20300 : List Qab) (y20302 : List Item) : VS := QsC.st ((), (), (), x13, x14, x15, ()) (y1, y2, ((), (), (), ()), y10, (), (), y20300, y20302, ())
abbrev Qyp : Sh := ⟨[(1, .ptr 1 0), (2, .ptr 2 0), (3, .ptr 3 0)], [(1, .box Qaq), (2, .box Qaq), (3, .bag [.ms 20300, .ms 10, .ms 20302]), (10, .arr 46 Qah), (24, .no), (42, .no), (20300, .arr 49 Qae), (20302, .arr 79 QaJ)]⟩
def Qff (y1 y2 : Qam) (y10 : List Keep) (y20300 : List Qab) (y20302 : List Item) : VS := Qyp.st ((), (), (), ()) (y1, y2, ((), (), (), ()), y10, (), (), y20300, y20302, ())
abbrev QsB : Sh := ⟨[(2, .ptr 2 0), (3, .ptr 3 0), (28, .ty (.sl QaJ)), (29, .ty tI), (30, .ty tI)], [(2, .box Qaq), (3, .bag [.ms 20300, .ms 10, .ms 20302]), (10, .arr 46 Qah), (24, .no), (42, .no), (20300, .arr 49 Qae), (20302, .arr 79 QaJ)]⟩
def Qsa (x28 : List Item) (x29 x30 : Int) (y2 : Qam) (y10 : List Keep) (y20300 : List Qab) (y20302 : List Item) : VS := QsB.st ((), (), x28, x29, x30, ()) (y2, ((), (), (), ()), y10, (), (), y20300, y20302, ())
abbrev Qyo : Sh := ⟨[(2, .ptr 2 0), (3, .ptr 3 0)], [(2, .box Qaq), (3, .bag [.ms 20300, .ms 10, .ms 20302]), (10, .arr 46 Qah), (24, .no), (42, .no), (20300, .arr 49 Qae), (20302, .arr 79 QaJ)]⟩
def Qfe (y2 : Qam) (y10 : List Keep) (y20300 : List Qab) (y20302 : List Item) : VS := Qyo.st ((), (), ()) (y2, ((), (), (), ()), y10, (), (), y20300, y20302, ())
def QYB : VS → Option (Bool × List (Bool × Exit × VS)) := mkL QsC (fun x y => (rngOk x.2.2.2.1 x.2.2.2.2.1 x.2.2.2.2.2.1 && (x.2.2.2.1.all QaT && decide (y.2.2.2.2.2.2.1.length ≤ x.2.2.2.2.2.1)))) (fun x y => [(true, .exit 0, Qff (y.1) (y.2.1) (y.2.2.2.1) (y.2.2.2.2.2.2.1 ++ x.2.2.2.1.drop x.2.2.2.2.2.1.toNat) (y.2.2.2.2.2.2.2.1))])
def QYA : VS → Option (Bool × List (Bool × Exit × VS)) := mkL QsB (fun x y => (rngOk x.2.2.1 x.2.2.2.1 x.2.2.2.2.1 && (x.2.2.1.all lnkLn && decide (y.2.2.2.2.2.2.1.length ≤ x.2.2.2.2.1)))) (fun x y => [(true, .exit 2, Qfe (y.1) (y.2.2.1) (y.2.2.2.2.2.1) (y.2.2.2.2.2.2.1 ++ x.2.2.1.drop x.2.2.2.2.1.toNat))])
def g_f19 : G := ⟨TYs, [], 46, EL [(55, QQ6)], keeps, (Ls [QYB, QYA]), IL [], RL []⟩
def QMI (x13 : List Qab) (x14 x15 : Int) (y1 y2 : Qam) (y10 : List Keep) (y20300 : List Qab) (y20302 : List Item) : Option (Exit × VS) :=
 let a1 := cpyE (lgt Qae x13 (Int.toNat x15))
 let a2 := ((a1.2).1, (((a1.2).2).1, ((((a1.2).2).2).1, (((((a1.2).2).2).2).1, ((((((a1.2).2).2).2).2).1, (((((((a1.2).2).2).2).2).2).1, ((((((((a1.2).2).2).2).2).2).2).1, (((((((((a1.2).2).2).2).2).2).2).2).1, ()))))))))
 br (ilt x15 x14) (br (cIx x13 x15) (br (QaT (lgt Qae x13 (Int.toNat x15))) (br (cApp y20300 ([(a1.1, a2)]) 144) (some (.normal, Qsb x13 x14 (iadd .i64 x15 1) y1 y2 y10 (y20300 ++ ([(a1.1, a2)])) y20302)) none) none) none) (some (.exit 0, Qff y1 y2 y10 y20300 y20302))
noncomputable def Qno (x13 : List Qab) (x14 x15 : Int) (y1 y2 : Qam) (y10 : List Keep) (y20300 : List Qab) (y20302 : List Item) : Option (Exit × VS) := loopF (Qaj g_f19 Qkx Qmz) (Qsb x13 x14 x15 y1 y2 y10 y20300 y20302)
noncomputable def QtC (x13 : List Qab) (x14 x15 : Int) (y1 y2 : Qam) (y10 : List Keep) (y20300 : List Qab) (y20302 : List Item) : Option (Exit × VS) :=
 let a1 := cpyE (lgt Qae x13 (Int.toNat x15))
 let a2 := ((a1.2).1, (((a1.2).2).1, ((((a1.2).2).2).1, (((((a1.2).2).2).2).1, ((((((a1.2).2).2).2).2).1, (((((((a1.2).2).2).2).2).2).1, ((((((((a1.2).2).2).2).2).2).2).1, (((((((((a1.2).2).2).2).2).2).2).2).1, ()))))))))
 br (ilt x15 x14) (br (cIx x13 x15) (br (QaT (lgt Qae x13 (Int.toNat x15))) (br (cApp y20300 ([(a1.1, a2)]) 144) (Qno x13 x14 (iadd .i64 x15 1) y1 y2 y10 (y20300 ++ ([(a1.1, a2)])) y20302) none) none) none) (some (.exit 0, Qff y1 y2 y10 y20300 y20302))
def QnB (x13 : List Qab) (x14 x15 : Int) (y1 y2 : Qam) (y10 : List Keep) (y20300 : List Qab) (y20302 : List Item) : Option (Exit × VS) := some (.exit 0, Qff (y1) (y2) (y10) (y20300 ++ x13.drop x15.toNat) (y20302))
theorem QQa (x13 : List Qab) (x14 x15 : Int) (y1 y2 : Qam) (y10 : List Keep) (y20300 : List Qab) (y20302 : List Item) : Qaj g_f19 Qkx Qmz (Qsb x13 x14 x15 y1 y2 y10 y20300 y20302) = QMI x13 x14 x15 y1 y2 y10 y20300 y20302 := by kernel_rfl
theorem QAR (x13 : List Qab) (x14 x15 : Int) (y1 y2 : Qam) (y10 : List Keep) (y20300 : List Qab) (y20302 : List Item) : Qno x13 x14 x15 y1 y2 y10 y20300 y20302 = QtC x13 x14 x15 y1 y2 y10 y20300 y20302 := (Qao _ _).trans (by
 rw [QQa]
 simp only [QMI, QtC, QaA, nxt_n, nxt_r, nxt_e, nxt_0]
 rfl)
def QMH (x28 : List Item) (x29 x30 : Int) (y2 : Qam) (y10 : List Keep) (y20300 : List Qab) (y20302 : List Item) : Option (Exit × VS) :=
 let a1 := lgt QaJ x28 (Int.toNat x30)
 let a2 := (((a1.2).2).2)
 br (ilt x30 x29) (br (cIx x28 x30) (br (cApp ([] : List Link) (a2.1) 24) (br (cApp y20302 ([(a1.1, ((a1.2).1, (((a1.2).2).1, ((([] : List Link) ++ (a2.1)), ((a2.2).1, ())))))]) 64) (some (.normal, Qsa x28 x29 (iadd .i64 x30 1) y2 y10 y20300 (y20302 ++ ([(a1.1, ((a1.2).1, (((a1.2).2).1, ((([] : List Link) ++ (a2.1)), ((a2.2).1, ())))))])))) none) none) none) (some (.exit 2, Qfe y2 y10 y20300 y20302))
noncomputable def Qnn (x28 : List Item) (x29 x30 : Int) (y2 : Qam) (y10 : List Keep) (y20300 : List Qab) (y20302 : List Item) : Option (Exit × VS) := loopF (Qaj g_f19 Qkw Qmy) (Qsa x28 x29 x30 y2 y10 y20300 y20302)
noncomputable def QtB (x28 : List Item) (x29 x30 : Int) (y2 : Qam) (y10 : List Keep) (y20300 : List Qab) (y20302 : List Item) : Option (Exit × VS) :=
 let a1 := lgt QaJ x28 (Int.toNat x30)
 let a2 := (((a1.2).2).2)
 br (ilt x30 x29) (br (cIx x28 x30) (br (cApp ([] : List Link) (a2.1) 24) (br (cApp y20302 ([(a1.1, ((a1.2).1, (((a1.2).2).1, ((([] : List Link) ++ (a2.1)), ((a2.2).1, ())))))]) 64) (Qnn x28 x29 (iadd .i64 x30 1) y2 y10 y20300 (y20302 ++ ([(a1.1, ((a1.2).1, (((a1.2).2).1, ((([] : List Link) ++ (a2.1)), ((a2.2).1, ())))))]))) none) none) none) (some (.exit 2, Qfe y2 y10 y20300 y20302))
def QnA (x28 : List Item) (x29 x30 : Int) (y2 : Qam) (y10 : List Keep) (y20300 : List Qab) (y20302 : List Item) : Option (Exit × VS) := some (.exit 2, Qfe (y2) (y10) (y20300) (y20302 ++ x28.drop x30.toNat))
theorem QP9 (x28 : List Item) (x29 x30 : Int) (y2 : Qam) (y10 : List Keep) (y20300 : List Qab) (y20302 : List Item) : Qaj g_f19 Qkw Qmy (Qsa x28 x29 x30 y2 y10 y20300 y20302) = QMH x28 x29 x30 y2 y10 y20300 y20302 := by kernel_rfl
theorem QAQ (x28 : List Item) (x29 x30 : Int) (y2 : Qam) (y10 : List Keep) (y20300 : List Qab) (y20302 : List Item) : Qnn x28 x29 x30 y2 y10 y20300 y20302 = QtB x28 x29 x30 y2 y10 y20300 y20302 := (Qao _ _).trans (by
 rw [QP9]
 simp only [QMH, QtB, QaA, nxt_n, nxt_r, nxt_e, nxt_0]
 rfl)
def r_f19 (p0 : Qam) : Option (V × List VO) :=
 let a1 := ((((p0).2).2).1)
 br (cApp ([] : List Keep) p0.2.1 16) (br (rngOk p0.1 (llen p0.1) (0 : Int) && (p0.1.all QaT && decide (([] : List Qab).length ≤ (0 : Int)))) (br (rngOk a1 (llen a1) (0 : Int) && (a1.all lnkLn && decide (([] : List Item).length ≤ (0 : Int)))) (some (.ag [(.ms 50000), (.ms 50001), (.ms 50002)], [.arr 49 Qae (([] : List Qab) ++ p0.1.drop (0 : Int).toNat), .arr 46 Qah (([] : List Keep) ++ p0.2.1), .arr 79 QaJ (([] : List Item) ++ a1.drop (0 : Int).toNat)])) none) none) none
theorem e_f19 (p0 : Qam) : runF g_f19 QEO QR1 true [.t Qaq p0] [] = r_f19 p0 := by kernel_rfl
theorem en_f19 : Qai Tryz.prog 19 := .inr ⟨by decide, _, Tryz.func19, by kernel_rfl, by kernel_rfl⟩
theorem gk_f19 : GOk Tryz.prog g_f19 := Qal _ (gA (gC en_f55 ms_f55 gN))
theorem QVS (x13 : List Qab) (x14 x15 : Int) (y1 y2 : Qam) (y10 : List Keep) (y20300 : List Qab) (y20302 : List Item) (h : (rngOk x13 x14 x15 && (x13.all QaT && decide (y20300.length ≤ x15))) = true) : Qno x13 x14 x15 y1 y2 y10 y20300 y20302 = QnB x13 x14 x15 y1 y2 y10 y20300 y20302 := by
 simp only [Bool.and_eq_true, decide_eq_true_eq] at h
 obtain ⟨h0, hc, hl⟩ := h
 obtain ⟨rfl, h3, k, rfl, hk⟩ := rng_k h0
 clear h0
 revert y20300
 refine Qau x13 (fun k => ∀ (y20300 : List Qab), (y20300.length : Int) ≤ (k : Int) → Qno x13 (x13.length : Int) (k : Int) y1 y2 y10 y20300 y20302 = QnB x13 (x13.length : Int) (k : Int) y1 y2 y10 y20300 y20302) ?_ ?_ k hk
 ·intro y20300 _
  rw [QAR]
  simp only [QtC, QnB, Qat, Nat.lt_irrefl, decide_false, Qaf, Int.toNat_natCast, List.drop_length, List.append_nil]
 ·intro k hk ih y20300 hl
  rw [QAR]
  have c1 : QaT x13[k] = true := List.all_eq_true.1 hc _ (List.getElem_mem hk)
  simp only [QtC, Qat, Qax, hk, decide_true, Qad, Int.toNat_natCast, add1 (show k < 4611686018427387904 by omega), Qaz (y := Qae) hk, c1]
  refine brY (cAppN (by omega) (by simp only [List.length_singleton]; omega)) ?_
  refine Eq.trans (ih (y20300 ++ [x13[k]]) (by simp only [List.length_append, List.length_singleton]; omega)) ?_
  simp only [QnB, Int.toNat_natCast, List.drop_eq_getElem_cons hk, List.append_assoc, List.singleton_append]
theorem QVR (x28 : List Item) (x29 x30 : Int) (y2 : Qam) (y10 : List Keep) (y20300 : List Qab) (y20302 : List Item) (h : (rngOk x28 x29 x30 && (x28.all lnkLn && decide (y20302.length ≤ x30))) = true) : Qnn x28 x29 x30 y2 y10 y20300 y20302 = QnA x28 x29 x30 y2 y10 y20300 y20302 := by
 simp only [Bool.and_eq_true, decide_eq_true_eq] at h
 obtain ⟨h0, hc, hl⟩ := h
 obtain ⟨rfl, h3, k, rfl, hk⟩ := rng_k h0
 clear h0
 revert y20302
 refine Qau x28 (fun k => ∀ (y20302 : List Item), (y20302.length : Int) ≤ (k : Int) → Qnn x28 (x28.length : Int) (k : Int) y2 y10 y20300 y20302 = QnA x28 (x28.length : Int) (k : Int) y2 y10 y20300 y20302) ?_ ?_ k hk
 ·intro y20302 _
  rw [QAQ]
  simp only [QtB, QnA, Qat, Nat.lt_irrefl, decide_false, Qaf, Int.toNat_natCast, List.drop_length, List.append_nil]
 ·intro k hk ih y20302 hl
  rw [QAQ]
  have c1 : x28[k].2.2.2.1.length ≤ 1000 := of_decide_eq_true (List.all_eq_true.1 hc _ (List.getElem_mem hk))
  simp only [QtB, Qat, Qax, hk, decide_true, Qad, Int.toNat_natCast, add1 (show k < 4611686018427387904 by omega), Qaz (y := QaJ) hk]
  refine brY (cAppN (by decide) (by simp only [List.length_nil]; omega)) (brY (cAppN (by omega) (by simp only [List.length_singleton]; omega)) ?_)
  refine Eq.trans (ih (y20302 ++ [x28[k]]) (by simp only [List.length_append, List.length_singleton]; omega)) ?_
  simp only [QnA, Int.toNat_natCast, List.drop_eq_getElem_cons hk, List.append_assoc, List.singleton_append]
theorem QN3 : ∀ S l p, g_f19.L 0 (fgt Qkx S) = some (true, l) → pickA l = some p → loopF (Qaj g_f19 Qkx Qmz) S = some p :=
 QaB (s := QsC) ⟨by decide, by decide⟩ (by kernel_rfl) fun x y hok p hp => by
 simp only [Qas, Qan] at hp
 exact (QVS x.2.2.2.1 x.2.2.2.2.1 x.2.2.2.2.2.1 y.1 y.2.1 y.2.2.2.1 y.2.2.2.2.2.2.1 y.2.2.2.2.2.2.2.1 (by simpa using hok)).trans hp
theorem QN2 : ∀ S l p, g_f19.L 1 (fgt Qkw S) = some (true, l) → pickA l = some p → loopF (Qaj g_f19 Qkw Qmy) S = some p :=
 QaB (s := QsB) ⟨by decide, by decide⟩ (by kernel_rfl) fun x y hok p hp => by
 simp only [Qas, Qan] at hp
 exact (QVR x.2.2.1 x.2.2.2.1 x.2.2.2.2.1 y.1 y.2.2.1 y.2.2.2.2.2.1 y.2.2.2.2.2.2.1 (by simpa using hok)).trans hp
theorem lk_f19 : QEO.lok g_f19 := by
 repeat (first | exact trivial | exact QN3 | exact QN2 | refine ⟨?_, ?_⟩)
theorem s_f19 (x : Qam) (h : QLI x = true) : r_f19 x = some (.ag [.ms 50000, .ms 50001, .ms 50002], [.arr 49 Qae (cpyX x).1, .arr 46 Qah (cpyX x).2.1, .arr 79 QaJ (cpyX x).2.2.1]) := by
 obtain ⟨h, h6⟩ := Bool.and_eq_true_iff.1 h
 simp only [QbC, Bool.and_eq_true, decide_eq_true_eq] at h
 obtain ⟨⟨h1, h2⟩, h3, h4⟩ := h
 have h5 := QpL h4
 unfold r_f19
 have hx : x.2.1.length ≤ 99999 := h2
 refine brY (cAppN (by decide) (by simp only [List.length_nil]; omega)) (brY ?_ (brY ?_ rfl))
 ·rw [rng_0 (show (xEps x).length ≤ 100000 by omega), h3, Bool.true_and, Bool.true_and]
  exact decide_eq_true (Int.le_refl _)
 ·rw [rng_0 h5, h6, Bool.true_and, Bool.true_and]
  exact decide_eq_true (Int.le_refl _)
def QRg : Ent := specO (.pr Qaq .nil) (fun x => (QLI x.1)) (fun x => (.ag [(.ms 50000), (.ms 50001), (.ms 50002)])) (fun x => [.arr 49 Qae ((cpyX x.1).1), .arr 46 Qah (((cpyX x.1).2).1), .arr 79 QaJ ((((cpyX x.1).2).2).1)])
theorem ms_f19 : Meets Tryz.prog 19 (strip QRg) := Qip (R := runF g_f19 QEO QR1 true) (mG Tryz.func19 (by kernel_rfl) Tryz.ntmps19 (by kernel_rfl) gk_f19 lk_f19) fun x hok => (e_f19 x.1).trans (s_f19 x.1 hok)
end
end Go.Proofs.YtckcgijklnloiaaGreat.K
namespace Go.Proofs.YtckcgijklnloiaaGreat.K
open Go.RowKit
noncomputable section
def noAn (e : Qab) : Qab := (e.1, (e.2.1, (e.2.2.1, (e.2.2.2.1, (e.2.2.2.2.1, (e.2.2.2.2.2.1, (([] : List Int), e.2.2.2.2.2.2.2)))))))
def an (b : Bool) (e : Qab) : Qab := bif b then noAn e else e
theorem an_su (b : Bool) (e : Qab) : Qaw (an b e) = Qaw e := by cases b <;> rfl
theorem an_nm (b : Bool) (e : Qab) : (an b e).1 = e.1 := by cases b <;> rfl
theorem QST (b : Bool) (e : Qab) (o : List Int) (v x : Int) : posE (an b e) o v x = posE e o v x := by cases b <;> rfl
theorem an_id (b : Bool) (e : Qab) (x : Int) : QaW (an b e) x = QaW e x := by cases b <;> rfl
theorem an_hi (b q : Bool) (c e : Qab) : hiC (an b c) (an q e) = hiC c e := by cases b <;> cases q <;> rfl
theorem an_lo (b q : Bool) (c e : Qab) : loC (an b c) (an q e) = loC c e := by cases b <;> cases q <;> rfl
theorem an_out (b q : Bool) (c e : Qab) : outL (an q e) (Qaw (an b c)) = outL e (Qaw c) := by cases b <;> cases q <;> rfl
theorem QkM {b : Bool} {e : Qab} (h : sndP e) : QaV (an b e) = true := by
 cases b with
 | false => exact QuF h
 | true =>
  obtain ⟨d, k, s, rfl, hs, hk⟩ := h
  have hg := QjM hs hk
  simp only [QhF, Bool.and_eq_true] at hg
  have hm := Qhz d
  refine Qum (e := noAn (sndE d k s)) hg.2.2.2.2.2.2.2.2.2.2.2.2.1 (Int.le_refl _) ?_ ?_ (QKy (Qrk (p := goodB) (by decide) d)) (show 1 ≤ 4 by decide) ?_ (show anOk [] = true by decide) (show hsOk [2, 3] = true by kernel_rfl)
  ·show (1 : Int) ≤ dof d [3, 3, 4]
   omega
  ·show dof d [3, 3, 4] ≤ 4
   omega
  ·show (idOk (leafV s rsaK (iadd .i64 100 (k : Int)) 1 901) && true) = true
   rw [Bool.and_true]
   refine QAh QAl hg.2.2.2.1 (show 1 ≤ 8 by decide) ?_ hg.2.2.1
   show (QaD (leafS s k) && true) = true
   rw [hg.2.1]
   rfl
theorem QYm {b : Bool} {e : Qab} (h : sndP e) : QaT (an b e) = true := by
 have hl := QGe h
 cases b with
 | false => exact hl
 | true =>
  obtain ⟨g1, g2, g3, g4, g5, g6⟩ := Qbl hl
  unfold QaT
  simp only [Bool.and_eq_true, decide_eq_true_eq]
  exact ⟨⟨g1, g2, g3, (show 0 ≤ 100000 by decide), g5⟩, g6⟩
theorem QPP {s : ByteArray} {k : Nat} (hs : s ∈ sAll) (hk : k < 3) {d : Int} (h : 0 ≤ d ∧ d < 901) : chkCh [leafS s k] [] [2, 3] d s = 12 := by
 have h0 := QCa hs hk d
 rw [if_pos h] at h0
 unfold chkCh at h0 ⊢
 rw [if_neg (by simp), if_neg (by simp)] at h0 ⊢
 cases h1 : QkL [leafS s k] with
 | true => rw [h1] at h0; exact absurd (show (9 : Int) = 0 from h0) (by decide)
 | false =>
  rw [h1] at h0
  cases h2 : hasS (QaC (cAt [leafS s k] 0)) s with
  | false => rw [h2] at h0; exact absurd (show (14 : Int) = 0 from h0) (by decide)
  | true =>
   rw [h2] at h0
   cases h3 : QbF [leafS s k] [2, 3] d 13 with
   | true => rw [h3] at h0; exact absurd (show (13 : Int) = 0 from h0) (by decide)
   | false =>
    rw [h3] at h0
    cases h4 : QbF [leafS s k] [2, 3] d 7 with
    | true => rw [h4] at h0; exact absurd (show (7 : Int) = 0 from h0) (by decide)
    | false =>
     rw [h4] at h0
     cases h5 : QbX [leafS s k] 11 with
     | true => rw [h5] at h0; exact absurd (show (11 : Int) = 0 from h0) (by decide)
     | false =>
      rw [h5] at h0
      cases h6 : QbX [leafS s k] 15 with
      | true => rw [h6] at h0; exact absurd (show (15 : Int) = 0 from h0) (by decide)
      | false =>
       rw [h6] at h0
       cases h7 : QbX [leafS s k] 10 with
       | true => rw [h7] at h0; exact absurd (show (10 : Int) = 0 from h0) (by decide)
       | false => rfl
theorem QIP {b q : Bool} {c e : Qab} (hc : sndP c) (he : sndP e) {x : Int} (hi : (QaW e x).2 = true) {D : Int} (h : 0 ≤ D ∧ D < 901) : pickE (an b c) (an q e) D x = bif b then 12 else 0 := by
 have h1 : pickE (an b c) (an q e) D x = pickE (an b c) e D x := by cases q <;> rfl
 rw [h1]
 cases b with
 | false =>
  show pickE c e D x = 0
  rw [QKv he hi D c hc, if_pos h]
 | true =>
  obtain ⟨dd, k, s, rfl, hs, hk⟩ := he
  obtain ⟨dc, kc, sc, rfl, _, _⟩ := hc
  obtain ⟨j, hj, hl⟩ := Qke hi
  have hl : j < 1 := hl
  have hj0 : j = 0 := by omega
  subst hj0
  unfold pickE QfO
  rw [hj]
  exact QPP hs hk h
theorem QPV {c e : Qab} (hc : sndP c) (he : sndP e) : ∃ x, posE e (Qaw c) (hiC c e) x = true ∧ x ∈ outL e (Qaw c) := by
 have key : ∃ x, posE e (Qaw c) (hiC c e) x = true ∧ x ∈ Qaw c ∧ x ∈ Qaw e := by
  obtain ⟨d, k, s, rfl, hs, hk⟩ := he
  obtain ⟨dc, kc, sc, rfl, _, _⟩ := hc
  have m1 := Qhz d
  have m2 := Qhz dc
  have hm : ∀ dd x, hasF (sndSu dd) x = true → x ∈ sndSu dd := fun dd x h => List.contains_iff_mem.1 h
  have h8 : ∀ dd, hasF (sndSu dd) 8 = true := fun dd => Qrk (p := fun l => hasF l 8) (by decide) dd
  have h14 : ∀ dd, dof dd [3, 3, 4] = 4 → hasF (sndSu dd) 14 = true := fun dd h => by
   unfold sndSu
   rw [h]
   have b3 := Qbm (d := dofN dd [3, 3, 4]) (n := 3) (by omega)
   rcases (show dval (dofN dd [3, 3, 4]) 3 = 0 ∨ dval (dofN dd [3, 3, 4]) 3 = 1 ∨ dval (dofN dd [3, 3, 4]) 3 = 2 by omega) with h | h | h <;> rw [h] <;> rfl
  have hh : hiC (sndE dc kc sc) (sndE d k s) = imn (dof dc [3, 3, 4]) (dof d [3, 3, 4]) := rfl
  by_cases hb : dof d [3, 3, 4] = 4 ∧ dof dc [3, 3, 4] = 4
  ·have e4 : hiC (sndE dc kc sc) (sndE d k s) = 4 := by rw [hh, hb.1, hb.2]; rfl
   refine ⟨14, ?_, hm _ _ (h14 dc hb.2), hm _ _ (h14 d hb.1)⟩
   rw [e4]
   unfold posE
   rw [show Qaw (sndE dc kc sc) = sndSu dc from rfl, show Qaw (sndE d k s) = sndSu d from rfl, h14 dc hb.2, h14 d hb.1]
   rfl
  ·have e3 : hiC (sndE dc kc sc) (sndE d k s) = 3 := by
    rw [hh]
    unfold imn
    split <;> omega
   refine ⟨8, ?_, hm _ _ (h8 dc), hm _ _ (h8 d)⟩
   rw [e3]
   unfold posE
   rw [show Qaw (sndE dc kc sc) = sndSu dc from rfl, show Qaw (sndE d k s) = sndSu d from rfl, h8 dc, h8 d]
   rfl
 obtain ⟨x, h1, h2, h3⟩ := key
 refine ⟨x, h1, ?_⟩
 unfold outL
 cases e.2.2.2.2.1 with
 | true => exact h3
 | false => exact h2
theorem Qwy {b q : Bool} {c e : Qab} (hc : sndP c) (he : sndP e) {D : Int} (h : 0 ≤ D ∧ D < 901) : (QbD (an b c) (an q e) D).2 = bif b then 29 else 0 := by
 have hr : Qdu (an b c) (an q e) = true := Bool.and_eq_true_iff.2 ⟨QkM hc, QkM he⟩
 obtain ⟨_, q1, q2⟩ := QGc hc he (x := 8) (.inr rfl)
 obtain ⟨x, p1, p2⟩ := QPV hc he
 rw [QLL hr ⟨h.1, by omega⟩, an_hi, an_lo, if_neg (by omega)]
 unfold overF
 rw [an_out, an_su, show posE (an q e) (Qaw c) (hiC c e) = posE e (Qaw c) (hiC c e) from funext fun y => QST q e _ _ y]
 cases hq : fstG (posE e (Qaw c) (hiC c e)) (outL e (Qaw c)) with
 | none =>
  have := List.any_eq_false.1 (QbA.1 hq) x p2
  exact absurd p1 this
 | some k =>
  obtain ⟨hk, hp⟩ := QgJ hq
  have ex : (outL e (Qaw c)).getD k 0 = (outL e (Qaw c))[k] := by simp only [List.getD_eq_getElem?_getD, List.getElem?_eq_getElem hk, Option.getD_some]
  simp only [ex]
  unfold pickF
  rw [QIP hc he (QyE hp) h]
  cases b <;> rfl
theorem QLJ {b q : Bool} {c e : Qab} (hc : sndP c) (he : sndP e) : QaY (an b c) (an q e) ≠ [] := by
 obtain ⟨h1, h2, h3⟩ := QGc hc he (x := 8) (.inr rfl)
 have := QDM (c := an b c) (s := an q e) (v := 3) (k := 8) (Bool.and_eq_true_iff.2 ⟨QkM hc, QkM he⟩) (by rw [an_lo]; exact h2) (by rw [an_hi]; exact h3) (by rw [QST, an_su]; exact h1)
 intro h
 rw [h] at this
 cases this
theorem met_an {b q : Bool} {c e : Qab} (hc : sndP c) (he : sndP e) {D : Int} (h : 0 ≤ D ∧ D < 901) : metF (an b c) (an q e) D = bif b then [] else QaY (an b c) (an q e) := by
 unfold metF
 have hp : ∀ x ∈ QaY (an b c) (an q e), metOk (an b c) (an q e) D x = !b := fun x hx => by
  have h1 := QDK hx
  have h2 := h1
  rw [an_id] at h2
  unfold metOk
  rw [h1, QIP hc he h2 h]
  cases b <;> rfl
 cases b with
 | false => exact List.filter_eq_self.2 fun x hx => hp x hx
 | true => exact List.filter_eq_nil_iff.2 fun x hx => by rw [hp x hx]; decide
def truV (d : Dice) (k : Nat) : Qam := ((xEps (sndV d)).set k (noAn (epAt (xEps (sndV d)) k)), (xEdg (sndV d), (xItm (sndV d), ())))
theorem QnU (d : Dice) (k : Nat) {j : Nat} (hj : j < (xEps (sndV d)).length) : epAt (xEps (truV d k)) j = an (decide (j = k)) (epAt (xEps (sndV d)) j) := by
 show ((xEps (sndV d)).set k (noAn (epAt (xEps (sndV d)) k))).getD j zEp = _
 rw [List.getD_eq_getElem?_getD, List.getElem?_set]
 by_cases h : k = j
 ·subst h
  rw [if_pos rfl, if_pos hj, decide_eq_true rfl]
  rfl
 ·rw [if_neg h, decide_eq_false (fun e => h e.symm)]
  show _ = epAt (xEps (sndV d)) j
  rw [epAt, List.getD_eq_getElem?_getD]
theorem QAe (d : Dice) {j : Nat} (hj : j < (xEps (sndV d)).length) : sndP (epAt (xEps (sndV d)) j) := by
 rw [show epAt (xEps (sndV d)) j = (xEps (sndV d))[j] by simp only [epAt, List.getD_eq_getElem?_getD, List.getElem?_eq_getElem hj, Option.getD_some]]
 exact QGf d _ (List.getElem_mem hj)
theorem QS0 (d : Dice) (k : Nat) : (xEps (truV d k)).length = (xEps (sndV d)).length := List.length_set ..
theorem Qz4 (d : Dice) (k : Nat) : estOk (truV d k) = true ∧ QbC (truV d k) = true := by
 obtain ⟨g1, g2⟩ := QGd d
 have hp := QkD g1
 have hl := QS0 d k
 constructor
 ·have h1 : epUp (xEps (truV d k)) 0 = true := by
   have h0 := hp.1
   unfold epUp epUp2 at h0 ⊢
   rw [hl]
   rw [List.all_eq_true] at h0 ⊢
   intro j hj
   have := h0 j hj
   have hj2 : j < (xEps (sndV d)).length := by
    rw [List.mem_range'] at hj
    obtain ⟨a, ha, rfl⟩ := hj
    omega
   unfold epOkK at this ⊢
   simp only [Bool.and_eq_true] at this ⊢
   rw [QnU d k hj2, QnU d k (show j - 1 < (xEps (sndV d)).length by omega), an_nm, an_nm]
   exact ⟨QkM (QAe d hj2), this.2⟩
  unfold estOk at g1 ⊢
  rw [h1]
  have e1 : llen (xEps (truV d k)) = llen (xEps (sndV d)) := by simp only [llen, hl]
  rw [e1]
  simp only [Bool.and_eq_true] at g1 ⊢
  exact ⟨trivial, g1.2⟩
 ·unfold QbC at g2 ⊢
  simp only [Bool.and_eq_true, decide_eq_true_eq] at g2 ⊢
  refine ⟨⟨by rw [hl]; exact g2.1.1, g2.1.2⟩, List.all_eq_true.2 fun e he => ?_, g2.2.2⟩
  obtain ⟨j, hj⟩ := List.mem_iff_getElem?.1 he
  obtain ⟨hj1, rfl⟩ := List.getElem?_eq_some_iff.1 hj
  have hj2 : j < (xEps (sndV d)).length := by rw [← hl]; exact hj1
  have := QnU d k hj2
  rw [show epAt (xEps (truV d k)) j = (xEps (truV d k))[j] by simp only [epAt, List.getD_eq_getElem?_getD, List.getElem?_eq_getElem hj1, Option.getD_some]] at this
  rw [this]
  exact QYm (QAe d hj2)
theorem QSZ (d : Dice) (k : Nat) {j : Nat} (hj : j < (xEdg (sndV d)).length) : ∃ c e : Qab, sndP c ∧ sndP e ∧ ∃ q, prow (truV d k) (xEdg (sndV d))[j] = (an (ieq (xEdg (sndV d))[j].1 (k : Int)) c, (an q e, ())) ∧ endsF (truV d k) (j : Int) = (an (ieq (xEdg (sndV d))[j].1 (k : Int)) c, an q e) := by
 have he := Qt3 (QGd d).1 hj
 have ea : egAt (xEdg (sndV d)) j = (xEdg (sndV d))[j] := by simp only [egAt, List.getD_eq_getElem?_getD, List.getElem?_eq_getElem hj, Option.getD_some]
 rw [ea] at he
 obtain ⟨⟨a0, a1⟩, ⟨b0, b1⟩, _⟩ := he
 have ha : (xEdg (sndV d))[j].1.toNat < (xEps (sndV d)).length := by omega
 have hb : (xEdg (sndV d))[j].2.1.toNat < (xEps (sndV d)).length := by omega
 refine ⟨_, _, QAe d ha, QAe d hb, decide ((xEdg (sndV d))[j].2.1.toNat = k), ?_, ?_⟩
 ·unfold prow
  rw [QnU d k ha, QnU d k hb]
  have : decide ((xEdg (sndV d))[j].1.toNat = k) = ieq (xEdg (sndV d))[j].1 (k : Int) := by
   rw [Qbz]
   exact decide_eq_decide.2 ⟨fun h => by omega, fun h => by omega⟩
  rw [this]
 ·unfold endsF
  show (epAt (xEps (truV d k)) (egAt (xEdg (sndV d)) (Int.toNat (j : Int))).1.toNat, epAt (xEps (truV d k)) (egAt (xEdg (sndV d)) (Int.toNat (j : Int))).2.1.toNat) = _
  rw [Int.toNat_natCast, ea, QnU d k ha, QnU d k hb]
  have : decide ((xEdg (sndV d))[j].1.toNat = k) = ieq (xEdg (sndV d))[j].1 (k : Int) := by
   rw [Qbz]
   exact decide_eq_decide.2 ⟨fun h => by omega, fun h => by omega⟩
  rw [this]
theorem QLT (D : Int) : ∀ (l : List ERow) (j : Nat), (∀ i : Nat, i < j → hasF (brkU D l j) (i : Int) = false) ∧ ∀ (i : Nat) (hi : i < l.length), hasF (brkU D l j) ((j + i : Nat) : Int) = Qgt D l[i]
 | [], j => ⟨fun _ _ => rfl, fun i hi => absurd hi (Nat.not_lt_zero i)⟩
 | z :: l, j => by
  obtain ⟨h1, h2⟩ := QLT D l (j + 1)
  have hc : ∀ (a : Int) (m : List Int) (x : Int), hasF (a :: m) x = (ieq x a || hasF m x) := fun a m x => by
   unfold hasF
   rw [List.contains_cons]
  refine ⟨fun i hi => ?_, fun i hi => ?_⟩
  ·unfold brkU
   cases Qgt D z with
   | false => exact h1 i (by omega)
   | true =>
    show hasF ((j : Int) :: brkU D l (j + 1)) (i : Int) = false
    rw [hc, h1 i (by omega), Qbz, decide_eq_false (by omega)]
    rfl
  ·unfold brkU
   cases i with
   | zero =>
    show _ = Qgt D z
    cases hz : Qgt D z with
    | false => exact h1 j (by omega)
    | true =>
     show hasF ((j : Int) :: brkU D l (j + 1)) (j : Int) = true
     rw [hc, Qbz, decide_eq_true rfl, Bool.true_or]
   | succ i =>
    have hi2 : i < l.length := by simpa using hi
    have h3 := h2 i hi2
    rw [show j + 1 + i = j + (i + 1) by omega] at h3
    show _ = Qgt D (l[i]'hi2)
    cases Qgt D z with
    | false => exact h3
    | true =>
     show hasF ((j : Int) :: brkU D l (j + 1)) ((j + (i + 1) : Nat) : Int) = _
     rw [hc, h3, Qbz, decide_eq_false (by omega), Bool.false_or]
end
end Go.Proofs.YtckcgijklnloiaaGreat.K
namespace Go.Proofs.YtckcgijklnloiaaGreat.K
open Go.RowKit
noncomputable section
open Classical in
def isTru (e : Qam) (x : Int) : Bool := @decide (∃ d k, k < (xEps (sndV d)).length ∧ e = truV d k ∧ x = (k : Int)) (Classical.propDecidable _)
theorem QOQ (d : Dice) {k : Nat} (h : k < (xEps (sndV d)).length) : isTru (truV d k) (k : Int) = true := @decide_eq_true _ (Classical.propDecidable _) ⟨d, k, h, rfl, rfl⟩
theorem QOP {e : Qam} {x : Int} (h : isTru e x = true) : ∃ d k, k < (xEps (sndV d)).length ∧ e = truV d k ∧ x = (k : Int) := @of_decide_eq_true _ (Classical.propDecidable _) h
def truL (_ : List Int) (_ _ : Int) : Bool := true
def QD7 (_ : List Int) (a b : Int) : Bool := decide ((0 ≤ a ∧ a ≤ 255) ∧ 0 ≤ b ∧ b ≤ 255)
noncomputable def QX8 : List DO := dT Tryz.f5 14
def Qqy : Fg := ⟨[(2, some (.int .u8)), (7, none), (8, some tI), (10, some (.sl tI)), (56, some (.sl Qah)), (57, some tI), (58, some tI)], [(7, some Qaq), (25, none), (5025, none), (10025, none), (15025, none)]⟩
noncomputable def Qr1 : TC := (.sq (.reg (rT Tryz.f5 10)) (.sq (.cd (.t 59) .sk (.fg ⟨[], []⟩ (.ex 0))) (.sq (.bk 1 (.sq (.reg (rT Tryz.f5 11)) (.sq (.reg (rT Tryz.f5 12)) (.sq (.reg (rT Tryz.f5 13)) (.sq (.dr QX8 [(0, []), (1, []), (2, []), (3, []), (4, []), (5, []), (6, [13]), (7, [13]), (8, []), (9, []), (10, []), (11, []), (12, []), (13, []), (14, []), (15, []), (16, [13]), (17, [13]), (18, []), (19, []), (20, []), (21, []), (22, []), (23, []), (24, []), (25, [13]), (26, [13]), (27, []), (28, []), (29, []), (30, [])] (.of [0, 1, 2, 3, 4, 5, 6, 7, 8, 9, 10, 11, 12, 13, 14, 15, 16, 17, 18, 19, 20, 21, 22, 23, 24, 25, 26, 27, 28, 29, 30])) (.cd (.t 109) (.sq (.reg (rT Tryz.f5 15)) (.fg ⟨[(6, some .bool)], []⟩ .rt)) .sk)))))) (.reg (rT Tryz.f5 16)))))
noncomputable def tc_f5 : TC := (.sq (.reg (rT Tryz.f5 0)) (.sq (.sq (.reg (rT Tryz.f5 1)) (.cd (.t 20) (.sq (.reg (rT Tryz.f5 2)) .rt) .sk)) (.sq (.reg (rT Tryz.f5 3)) (.sq (.reg (rT Tryz.f5 4)) (.sq (.reg (rT Tryz.f5 5)) (.sq (.reg (rT Tryz.f5 6)) (.sq (.sq (.reg (rT Tryz.f5 7)) (.cd (.t 54) (.sq (.reg (rT Tryz.f5 8)) .rt) .sk)) (.sq (.sq (.reg (rT Tryz.f5 9)) (.bk 0 (.lp 0 Qqy Qr1))) (.sq (.reg (rT Tryz.f5 17)) .rt)))))))))
def rv_f5 : List (RV × Option Ty) := [((.t 6), some .bool)]
abbrev Qyf : Sh := ⟨[(2, .ty (.int .u8)), (7, .ptr 7 0), (8, .ty tI), (10, .ty (.sl tI)), (56, .ty (.sl Qah)), (57, .ty tI), (58, .ty tI)], [(7, .box Qaq), (25, .no), (5025, .no), (10025, .no), (15025, .no)]⟩
def QxV (x2 x8 : Int) (x10 : List Int) (x56 : List Keep) (x57 x58 : Int) (y7 : Qam) : VS := Qyf.st (x2, (), x8, x10, x56, x57, x58, ()) (y7, (), (), (), (), ())
abbrev Qye : Sh := ⟨[(6, .ty .bool)], []⟩
def Qbc (x6 : Bool) : VS := Qye.st (x6, ()) ()
abbrev QCW : Sh := ⟨[], []⟩
def Qhj  : VS := QCW.st () ()
def L_f5_0 : VS → Option (Bool × List (Bool × Exit × VS)) := mkL Qyf (fun x y => (isTru y.1 x.2.2.1 && (rngOk x.2.2.2.2.1 x.2.2.2.2.2.1 x.2.2.2.2.2.2.1 && (x.2.2.2.2.1 == y.1.2.1 && (x.2.2.2.1 == brkU x.1 (prsI y.1) 0 && decide (0 ≤ x.1 ∧ x.1 ≤ 255)))))) (fun x y => [((false), .ret, Qbc (false)), (true, .exit 0, Qhj)])
def g_f5 : G := ⟨TYs, [], 112, EL [(9, sp_f9), (10, QRm), (12, QRl), (14, QFU), (15, QAd), (16, QRj), (17, QRi), (19, QRg), (20, QRf)], keeps, (Ls [L_f5_0]), IL [], RL []⟩
def QSS (x2 x8 : Int) (x10 : List Int) (x56 : List Keep) (x57 x58 : Int) (y7 : Qam) : Option (Exit × VS) :=
 let a1 := ieq ((lgt Qah x56 (Int.toNat x58)).1) x8
 let a2 := Ql6 y7 x58 (icv .i64 x2)
 let a3 := methF y7 x58 (icv .i64 x2)
 br (ilt x58 x57) (br (cIx x56 x58) (br a2 (br a2 (br (ine (a3.2) 0) (some (.ret, Qbc false)) (br (Qbh x10 x58) (br (bneq (hasF x10 x58) a1) (some (.ret, Qbc false)) (br (bneq (ieq (llen (a3.1)) 0) a1) (some (.ret, Qbc false)) (br (bneq (ieq ((Qf3 y7 x58 (icv .i64 x2)).2) 29) a1) (some (.ret, Qbc false)) (some (.normal, QxV x2 x8 x10 x56 x57 (iadd .i64 x58 1) y7))))) none)) none) none) none) (some (.exit 0, Qhj))
noncomputable def QtK (x2 x8 : Int) (x10 : List Int) (x56 : List Keep) (x57 x58 : Int) (y7 : Qam) : Option (Exit × VS) := loopF (Qaj g_f5 Qqy Qr1) (QxV x2 x8 x10 x56 x57 x58 y7)
noncomputable def QAA (x2 x8 : Int) (x10 : List Int) (x56 : List Keep) (x57 x58 : Int) (y7 : Qam) : Option (Exit × VS) :=
 let a1 := ieq ((lgt Qah x56 (Int.toNat x58)).1) x8
 let a2 := Ql6 y7 x58 (icv .i64 x2)
 let a3 := methF y7 x58 (icv .i64 x2)
 br (ilt x58 x57) (br (cIx x56 x58) (br a2 (br a2 (br (ine (a3.2) 0) (some (.ret, Qbc false)) (br (Qbh x10 x58) (br (bneq (hasF x10 x58) a1) (some (.ret, Qbc false)) (br (bneq (ieq (llen (a3.1)) 0) a1) (some (.ret, Qbc false)) (br (bneq (ieq ((Qf3 y7 x58 (icv .i64 x2)).2) 29) a1) (some (.ret, Qbc false)) (QtK x2 x8 x10 x56 x57 (iadd .i64 x58 1) y7)))) none)) none) none) none) (some (.exit 0, Qhj))
def Qzf (x2 x8 : Int) (x10 : List Int) (x56 : List Keep) (x57 x58 : Int) (y7 : Qam) : Option (Exit × VS) := br (false) (some (.ret, Qbc (false))) <| some (.exit 0, Qhj)
theorem QYi (x2 x8 : Int) (x10 : List Int) (x56 : List Keep) (x57 x58 : Int) (y7 : Qam) : Qaj g_f5 Qqy Qr1 (QxV x2 x8 x10 x56 x57 x58 y7) = QSS x2 x8 x10 x56 x57 x58 y7 := by kernel_rfl
theorem QJ3 (x2 x8 : Int) (x10 : List Int) (x56 : List Keep) (x57 x58 : Int) (y7 : Qam) : QtK x2 x8 x10 x56 x57 x58 y7 = QAA x2 x8 x10 x56 x57 x58 y7 := (Qao _ _).trans (by
 rw [QYi]
 simp only [QSS, QAA, QaA, nxt_n, nxt_r, nxt_e, nxt_0]
 rfl)
def r_f5 (p0 : List Int) (p1 p2 : Int) : Option (V × List VO) :=
 let a2 := cpyX (sndV (roll p0))
 let a6 := irem (icv .i64 p1) (llen (a2.1))
 let a3 := Int.toNat a6
 let a1 := ((lgt Qae (a2.1) a3).1, (((lgt Qae (a2.1) a3).2).1, ((((lgt Qae (a2.1) a3).2).2).1, (((((lgt Qae (a2.1) a3).2).2).2).1, ((((((lgt Qae (a2.1) a3).2).2).2).2).1, (((((((lgt Qae (a2.1) a3).2).2).2).2).2).1, (([] : List Int), (((((((lgt Qae (a2.1) a3).2).2).2).2).2).2).2)))))))
 let a4 := ((a2.2).1, (((a2.2).2).1, ()))
 let a5 := (allF ((List.set (a2.1) a3 a1), a4) (icv .i64 p2))
 br (!(light p0)) (some (.t .bool QnS, [])) (br (dOk (roll p0)) (br (QLI (sndV (roll p0))) (br (cNz (llen (a2.1))) (br (cIx (a2.1) a6) (br (cLd (a2.1) a3) (br (QeU ((List.set (a2.1) a3 a1), a4) (icv .i64 p2)) (br (ine ((a5.2).2) 0) (some (.t .bool false, [])) (br (ine (llen (a5.1)) (llen ((a2.2).1))) (some (.t .bool false, [])) (br (isTru ((List.set (a2.1) a3 a1), a4) a6 && (rngOk ((a2.2).1) (llen ((a2.2).1)) (0 : Int) && (((a2.2).1) == ((List.set (a2.1) a3 a1), a4).2.1 && (((a5.2).1) == brkU p2 (prsI ((List.set (a2.1) a3 a1), a4)) 0 && decide (0 ≤ p2 ∧ p2 ≤ 255))))) (br (false) (some (.t .bool (false), [])) (some (.t .bool QnS, []))) none))) none) none) none) none) none) none)
theorem e_f5 (p0 : List Int) (p1 p2 : Int) : runF g_f5 tc_f5 rv_f5 false [.t (.sl tI) p0, .t (.int .u8) p1, .t (.int .u8) p2] [] = r_f5 p0 p1 p2 := by kernel_rfl
theorem gk_f5 : GOk Tryz.prog g_f5 := Qal _ (gA (gC en_f9 ms_f9 (gC en_f10 ms_f10 (gC en_f12 ms_f12 (gC QSP QSz (gC QLd QJk (gC en_f16 ms_f16 (gC en_f17 ms_f17 (gC en_f19 ms_f19 (gC en_f20 ms_f20 gN))))))))))
theorem Qln (b : Bool) : bneq b b = false := by cases b <;> rfl
theorem l_f5_0 (x2 x8 : Int) (x10 : List Int) (x56 : List Keep) (x57 x58 : Int) (y7 : Qam) (h : (isTru y7 x8 && (rngOk x56 x57 x58 && (x56 == y7.2.1 && (x10 == brkU x2 (prsI y7) 0 && decide (0 ≤ x2 ∧ x2 ≤ 255))))) = true) : QtK x2 x8 x10 x56 x57 x58 y7 = Qzf x2 x8 x10 x56 x57 x58 y7 := by
 simp only [Bool.and_eq_true, beq_iff_eq, decide_eq_true_eq] at h
 obtain ⟨hs, h0, rfl, rfl, hb⟩ := h
 obtain ⟨d, q, hq, rfl, rfl⟩ := QOP hs
 obtain ⟨rfl, h3, k, rfl, hk⟩ := rng_k h0
 clear h0 hs
 have hlen3 : (sndV d).2.1.length ≤ 3 := (Qi8 d).2.1
 refine Qau (sndV d).2.1 (fun k => QtK x2 (q : Int) (brkU x2 (prsI (truV d q)) 0) (sndV d).2.1 ((sndV d).2.1.length : Int) (k : Int) (truV d q) = Qzf x2 (q : Int) (brkU x2 (prsI (truV d q)) 0) (sndV d).2.1 ((sndV d).2.1.length : Int) (k : Int) (truV d q)) ?_ ?_ k hk
 ·rw [QJ3]
  simp only [QAA, Qzf, Qat, Nat.lt_irrefl, decide_false, Qaf]
 ·intro k hk ih
  rw [QJ3]
  have hk2 : k < (xEdg (sndV d)).length := hk
  obtain ⟨c, e, hc, he, w, hr, hen⟩ := QSZ d q hk2
  have hD : 0 ≤ x2 ∧ x2 < 901 := by omega
  have hl : Ql6 (truV d q) (k : Int) x2 = true := (Qz4 d q).2
  have th : QcK (truV d q) (k : Int) = 0 := by
   unfold QcK
   rw [(Qz4 d q).1, show ilt (k : Int) 0 = false from decide_eq_false (by omega), show ige (k : Int) (llen (xEdg (truV d q))) = false from decide_eq_false (by show ¬ (k : Int) ≥ ((xEdg (sndV d)).length : Int); omega)]
   rfl
  have hm : methF (truV d q) (k : Int) x2 = (bif ieq (xEdg (sndV d))[k].1 (q : Int) then [] else QaY (an (ieq (xEdg (sndV d))[k].1 (q : Int)) c) (an w e), 0) := by
   unfold methF
   rw [th, show dayF x2 = true by unfold dayF; rw [show ige x2 0 = true from decide_eq_true hD.1, show ile x2 40000 = true from decide_eq_true (by omega)]; rfl, hen]
   show (metF _ _ x2, (0 : Int)) = _
   rw [met_an hc he hD]
  have hw : (Qf3 (truV d q) (k : Int) x2).2 = bif ieq (xEdg (sndV d))[k].1 (q : Int) then 29 else 0 := by
   unfold Qf3
   rw [th, hen]
   exact Qwy hc he hD
  have hz : hasF (brkU x2 (prsI (truV d q)) 0) (k : Int) = ieq (xEdg (sndV d))[k].1 (q : Int) := by
   have hpl : k < (prsI (truV d q)).length := by rw [Qfu, List.length_map]; exact hk2
   have := (QLT x2 (prsI (truV d q)) 0).2 k hpl
   rw [Nat.zero_add] at this
   rw [this]
   have e1 : (prsI (truV d q))[k] = prow (truV d q) (xEdg (sndV d))[k] := by
    simp only [Qfu, List.getElem_map]
    rfl
   rw [e1, hr]
   unfold Qgt
   show ine (QbD (an (ieq (xEdg (sndV d))[k].1 (q : Int)) c) (an w e) x2).2 0 = _
   rw [Qwy hc he hD]
   cases ieq (xEdg (sndV d))[k].1 (q : Int) <;> rfl
  have hln : Qbh (brkU x2 (prsI (truV d q)) 0) (k : Int) = true := by
   have hb2 : ∀ (l : List ERow) (j : Nat), (brkU x2 l j).length ≤ l.length := by
    intro l
    induction l with
    | nil => exact fun _ => Nat.le_refl _
    | cons z l ih =>
     intro j
     have := ih (j + 1)
     unfold brkU
     cases Qgt x2 z <;> simp only [cond_true, cond_false, List.length_cons] <;> omega
   have h1 := hb2 (prsI (truV d q)) 0
   rw [Qfu, List.length_map] at h1
   have h2 : (xEdg (truV d q)).length ≤ 3 := (Qi8 d).2.1
   rw [Qfu]
   exact decide_eq_true (by omega)
  have hc0 : ieq (llen (methF (truV d q) (k : Int) x2).1) 0 = ieq (xEdg (sndV d))[k].1 (q : Int) := by
   rw [hm]
   have hn := QLJ (b := ieq (xEdg (sndV d))[k].1 (q : Int)) (q := w) hc he
   generalize ieq (xEdg (sndV d))[k].1 (q : Int) = bb at hn ⊢
   cases bb with
   | true => rfl
   | false =>
    have : 0 < (QaY (an false c) (an w e)).length := List.length_pos_iff.2 hn
    show ieq (llen (QaY (an false c) (an w e))) 0 = false
    simp only [Qbz, llen, decide_eq_false_iff_not]
    omega
  have hw2 : ieq (Qf3 (truV d q) (k : Int) x2).2 29 = ieq (xEdg (sndV d))[k].1 (q : Int) := by
   rw [hw]
   cases ieq (xEdg (sndV d))[k].1 (q : Int) <;> rfl
  have hm2 : ine (methF (truV d q) (k : Int) x2).2 0 = false := by rw [hm]; rfl
  simp only [QAA, Qat, Qax, hk, decide_true, Qad, Int.toNat_natCast, add1 (show k < 4611686018427387904 by omega), Qaz (y := Qah) hk, QKw (show -9223372036854775808 ≤ x2 ∧ x2 ≤ 9223372036854775807 by omega), hl, hm2, hln, hz, hc0, hw2, Qaf, ih]
  refine Eq.trans (congrArg (fun b => br b _ _) (Qln _)) ?_
  rw [Qaf]
  refine Eq.trans (congrArg (fun b => br b _ _) (Qln _)) ?_
  rw [Qaf]
  refine Eq.trans (congrArg (fun b => br b _ _) (Qln _)) ?_
  rw [Qaf]
  rfl
theorem QUs : ∀ S l p, g_f5.L 0 (fgt Qqy S) = some (true, l) → pickA l = some p → loopF (Qaj g_f5 Qqy Qr1) S = some p :=
 QaB (s := Qyf) ⟨by decide, by decide⟩ (by kernel_rfl) fun x y hok p hp => by
 simp only [Qas, Qan] at hp
 exact (l_f5_0 x.1 x.2.2.1 x.2.2.2.1 x.2.2.2.2.1 x.2.2.2.2.2.1 x.2.2.2.2.2.2.1 y.1 (by simpa using hok)).trans hp
theorem lk_f5 : tc_f5.lok g_f5 := by
 repeat (first | exact trivial | exact QUs | refine ⟨?_, ?_⟩)
theorem s_f5 (p0 : List Int) (a b : Int) (h : QD7 p0 a b = true) : r_f5 p0 a b = some (.t .bool (truL p0 a b), []) := by
 obtain ⟨ha, hb⟩ : (0 ≤ a ∧ a ≤ 255) ∧ 0 ≤ b ∧ b ≤ 255 := of_decide_eq_true h
 simp only [r_f5, cpyX, QKw (show -9223372036854775808 ≤ a ∧ a ≤ 9223372036854775807 by omega), QKw (show -9223372036854775808 ≤ b ∧ b ≤ 9223372036854775807 by omega)]
 refine QaE (fun _ => rfl) (fun k1 => ?_)
 have k1 : light p0 = true := by simpa using k1
 have hd := QPL k1
 generalize roll p0 = d at hd ⊢
 obtain ⟨g1, g2⟩ := QGd d
 have hn := Qi9 d
 have hN := QoI d
 have hN1 : (sndV d).1.length = (sndNm d).length := hN
 obtain ⟨_, he3, _⟩ := Qi8 d
 have r1 := QV3 (a := a) (b := llen (sndV d).1) ha.1 (by simp only [llen]; omega)
 obtain ⟨q, hq⟩ := Int.eq_ofNat_of_zero_le r1.1
 have hqN : q < (xEps (sndV d)).length := by
  have := r1.2
  rw [hq] at this
  simp only [llen] at this
  show q < (sndV d).1.length
  omega
 have hitm : (xItm (sndV d)).all lnkLn = true := List.all_eq_true.2 fun i hi => by
  have h1 := List.all_eq_true.1 (QkD g1).2.1 i hi
  have := (Qa4.1 h1).2.2.2.1
  exact decide_eq_true (by omega)
 have hA : allF (truV d q) b = ((prsI (truV d q)).map (outO b), brkU b (prsI (truV d q)) 0, 0) := by
  unfold allF
  rw [(Qz4 d q).1, show dayF b = true by unfold dayF; rw [show ige b 0 = true from decide_eq_true hb.1, show ile b 40000 = true from decide_eq_true (by omega)]; rfl]
  rfl
 rw [hq]
 simp only [Int.toNat_natCast]
 refine brY hd (brY (Bool.and_eq_true_iff.2 ⟨g2, hitm⟩) (brY ?_ (brY ?_ (brY ?_ (brY (Qz4 d q).2 ?_)))))
 ·have hz : llen (sndV d).1 ≠ 0 := by simp only [llen]; omega
  first | exact decide_eq_true hz | simpa [cNz] using hz
 ·exact decide_eq_true ⟨by omega, by show (q : Int) < ((sndV d).1.length : Int); have : q < (sndV d).1.length := hqN; omega⟩
 ·exact decide_eq_true hqN
 ·refine Eq.trans (congrArg (fun c => br c _ _) (show ine (allF (truV d q) b).2.2 0 = false by rw [hA]; rfl)) ?_
  rw [Qaf]
  refine Eq.trans (congrArg (fun c => br c _ _) (show ine (llen (allF (truV d q) b).1) (llen (xEdg (sndV d))) = false by rw [hA, Qfu]; simp only [llen, List.length_map]; show ine ((xEdg (sndV d)).length : Int) ((xEdg (sndV d)).length : Int) = false; simp [ine])) ?_
  rw [Qaf]
  refine brY ?_ rfl
  have hf : (isTru (truV d q) (q : Int) && (rngOk (xEdg (sndV d)) (llen (xEdg (sndV d))) 0 && (xEdg (sndV d) == (truV d q).2.1 && ((allF (truV d q) b).2.1 == brkU b (prsI (truV d q)) 0 && decide (0 ≤ b ∧ b ≤ 255))))) = true := by
   rw [QOQ d hqN, rng_0 (show (xEdg (sndV d)).length ≤ 100000 by omega), hA, decide_eq_true hb]
   simp only [Bool.true_and, Bool.and_true, beq_self_eq_true]
   exact beq_self_eq_true (xEdg (sndV d))
  exact hf
def sp_f5 : Ent := spec (.pr (.sl tI) (.pr (.int .u8) (.pr (.int .u8) .nil))) (fun x => (QD7 x.1 x.2.1 x.2.2.1)) (fun x => (.t .bool (truL x.1 x.2.1 x.2.2.1)))
theorem ms_f5 : Meets Tryz.prog 5 (strip sp_f5) := Qag (R := runF g_f5 tc_f5 rv_f5 false) (mG Tryz.func5 (by kernel_rfl) Tryz.ntmps5 (by kernel_rfl) gk_f5 lk_f5) fun x hok => (e_f5 x.1 x.2.1 x.2.2.1).trans (s_f5 x.1 x.2.1 x.2.2.1 hok)
end
theorem Qgx (z0 : List Int) (z1 z2 : Int) (w0 : Ty.wf (.sl (.int .i64)) z0) (w1 : Ty.wf (.int .u8) z1) (w2 : Ty.wf (.int .u8) z2) : QD7 z0 z1 z2 = true := decide_eq_true ⟨wf_u8 w1, wf_u8 w2⟩
theorem walkConversationTrust (z0 : (List Int)) (z1 : Int) (z2 : Int) (W : World) (v0 : Value) (v1 : Value) (v2 : Value) (c0 : C noX W (fun _ => .no) (V.t (.sl tI) z0).d v0) (c1 : C noX W (fun _ => .no) (V.t (.int .u8) z1).d v1) (c2 : C noX W (fun _ => .no) (V.t (.int .u8) z2).d v2) (w0 : Ty.wf (.sl tI) z0) (w1 : Ty.wf (.int .u8) z1) (w2 : Ty.wf (.int .u8) z2) :
  Calls Tryz.prog 5 #[v0, v1, v2] W fun r w' => r = .returned (.bool true) ∧ Below W.heap.size W w' :=
 QDN (by decide) ms_f5 (args := [.t (.sl tI) z0, .t (.int .u8) z1, .t (.int .u8) z2]) (QCR (x := (z0, z1, z2, ())) rfl (Qgx z0 z1 z2 w0 w1 w2)) (by simp only [V.ds, Cs]; exact ⟨_, _, rfl, c0, _, _, rfl, c1, _, _, rfl, c2, rfl⟩)
end Go.Proofs.YtckcgijklnloiaaGreat.K
