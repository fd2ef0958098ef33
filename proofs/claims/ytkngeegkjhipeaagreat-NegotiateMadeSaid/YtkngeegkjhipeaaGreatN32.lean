import Derived.Test.YtkngeegkjhipeaaGreatN31
set_option linter.unusedSimpArgs false
set_option linter.unusedVariables false
namespace Go.Proofs.YtkngeegkjhipeaaGreat.K
open Go.RowKit
noncomputable section
theorem Qzq : ∀ (c s : List Int) (d : Dice), dOk d = true → dOk (prZ c s d).2 = true
 | [], _, _, h => h
 | x :: r, s, d, h => by
  unfold prZ
  split
  ·split
   ·exact Qzq r s d h
   ·split
    ·exact Qzq r _ _ (Qav h)
    ·exact Qzq r _ _ (Qav h)
  ·exact h
theorem bif_r {b : Bool} {x y : List Int × Dice} (hx : dOk x.2 = true) (hy : dOk y.2 = true) : dOk (bif b then x else y).2 = true := by
 cases b
 ·exact hy
 ·exact hx
attribute [local irreducible] epV epN prZ
theorem dOk_pr {d : Dice} (h : dOk d = true) : dOk (prN d) = true := by
 have k4 := Qav (n := 3) (Qav (n := 3) (QvM (nm := sWeb) (QvM (nm := sApp) h)))
 have k5 := Qzq (Qan (pC0 d)) (Qan (pS0 d)) (pD4 d) k4
 unfold prN pSz
 exact bif_r k5 k4
theorem Qy0 (s : Qad) (o : List Int) : ∀ n v, (verC s o v n).length ≤ 16 * n
 | 0, _ => Nat.le_refl _
 | n + 1, v => by
  have h1 := Qzh s o (v : Int) 1
  have h2 := Qy0 s o n (v + 1)
  have : verC s o v (n + 1) = rowC s o (v : Int) 1 ++ verC s o (v + 1) n := by
   unfold verC
   rw [List.range'_succ, List.flatMap_cons]
  rw [this, List.length_append]
  omega
theorem QVP (c s : Qad) : (QbL c s).length ≤ 100000 := by
 unfold QbL
 cases hr : Qc5 c s with
 | false => exact Nat.zero_le _
 | true =>
  obtain ⟨hv, hw⟩ := Bool.and_eq_true_iff.1 hr
  have v1 := Qcg hv
  have v2 := Qcg hw
  have := Qy0 s (Qan c) (hiC c s + 1 - loC c s).toNat (loC c s).toNat
  have b1 : 1 ≤ loC c s := by simp only [loC, imx]; omega
  have b2 : hiC c s ≤ 4 := by simp only [hiC, imn]; omega
  show (verC s (Qan c) (loC c s).toNat (hiC c s + 1 - loC c s).toNat).length ≤ 100000
  omega
theorem QAk (a : Int) : ine a a = false := by simp [ine]
theorem QMC (a : Int) : ieq a a = true := by simp [ieq]
def madeT (_l : List Int) (_o : Int) (_r : List Int) : Bool := true
noncomputable def QVN : List DO := dT Tryz.f3 5
noncomputable def QVM : List DO := dT Tryz.f3 23
def Qpa : Fg := ⟨[(9, none), (21, some tI)], [(9, some Qae), (43, none), (5043, none), (10043, none), (15043, none)]⟩
noncomputable def Qqq : TC := (.sq (.sq (.reg (rT Tryz.f3 26)) (.cd (.t 144) .sk (.fg ⟨[], []⟩ (.ex 1)))) (.sq (.bk 2 (.sq (.reg (rT Tryz.f3 27)) (.sq (.reg (rT Tryz.f3 28)) (.sq (.reg (rT Tryz.f3 29)) (.sq (.reg (rT Tryz.f3 30)) (.sq (.reg (rT Tryz.f3 31)) (.cd (.t 191) (.sq (.reg (rT Tryz.f3 32)) (.fg ⟨[(6, some .bool)], []⟩ .rt)) .sk))))))) (.reg (rT Tryz.f3 33))))
noncomputable def tc_f3 : TC := (.sq (.reg (rT Tryz.f3 0)) (.sq (.sq (.reg (rT Tryz.f3 1)) (.cd (.t 37) (.sq (.reg (rT Tryz.f3 2)) .rt) .sk)) (.sq (.reg (rT Tryz.f3 3)) (.sq (.reg (rT Tryz.f3 4)) (.sq (.dr QVN [(0, [40, 5040, 10040, 15040]), (1, []), (2, [40, 48, 5040, 5048, 10040, 10048, 15040, 15048]), (3, [40, 5040, 10040, 15040]), (4, []), (5, [40, 51, 5040, 5051, 10040, 10051, 15040, 15051]), (6, [8, 43, 5043, 10043, 15043]), (7, [8, 43, 5043, 10043, 15043]), (8, []), (9, []), (10, [43, 5043, 10043, 15043])] (.one 0 (.one 1 (.one 4 (.one 6 (.one 7 (.alt 2 (.of [3, 5, 8, 9, 10]) (.of [3, 2, 5, 8, 9, 10])))))))) (.sq (.sq (.reg (rT Tryz.f3 6)) (.bk 0 (.sq (.reg (rT Tryz.f3 7)) (.cd (.t 56) (.reg (rT Tryz.f3 8)) (.sq (.reg (rT Tryz.f3 9)) (.cd (.t 61) (.reg (rT Tryz.f3 10)) (.sq (.reg (rT Tryz.f3 11)) (.cd (.t 66) (.reg (rT Tryz.f3 12)) (.sq (.reg (rT Tryz.f3 13)) (.cd (.t 71) (.reg (rT Tryz.f3 14)) (.sq (.reg (rT Tryz.f3 15)) (.cd (.t 76) (.reg (rT Tryz.f3 16)) (.sq (.reg (rT Tryz.f3 17)) (.cd (.t 79) (.reg (rT Tryz.f3 18)) .sk)))))))))))))) (.sq (.reg (rT Tryz.f3 19)) (.sq (.reg (rT Tryz.f3 20)) (.sq (.reg (rT Tryz.f3 21)) (.sq (.reg (rT Tryz.f3 22)) (.sq (.sq (.dr QVM [(0, [13]), (1, [15]), (2, []), (3, []), (4, []), (5, []), (6, []), (7, []), (8, []), (9, [17]), (10, [19]), (11, []), (12, []), (13, []), (14, []), (15, []), (16, []), (17, []), (18, []), (19, [8, 43, 5043, 10043, 15043]), (20, [9, 43, 5043, 10043, 15043]), (21, [8, 9, 43, 136, 5043, 5136, 10043, 10136, 15043, 15136]), (22, [8, 43, 5043, 10043, 15043]), (23, [9, 43, 5043, 10043, 15043]), (24, [8, 9, 43, 139, 5043, 5139, 10043, 10139, 15043, 15139]), (25, []), (26, []), (27, [])] (.one 0 (.one 1 (.one 2 (.one 3 (.one 4 (.one 5 (.one 6 (.one 7 (.one 8 (.one 9 (.one 10 (.one 11 (.one 12 (.one 13 (.one 14 (.one 15 (.one 16 (.one 17 (.one 18 (.one 19 (.one 20 (.alt 21 (.of [22, 23, 24, 25, 26, 27]) (.alt 22 (.alt 21 (.of [23, 24, 25, 26, 27]) (.of [23, 21, 24, 25, 26, 27])) (.one 23 (.alt 21 (.of [22, 24, 25, 26, 27]) (.of [22, 21, 24, 25, 26, 27]))))))))))))))))))))))))))) (.cd (.t 142) (.sq (.reg (rT Tryz.f3 24)) .rt) .sk)) (.sq (.sq (.reg (rT Tryz.f3 25)) (.bk 1 (.lp 0 Qpa Qqq))) (.sq (.reg (rT Tryz.f3 34)) .rt)))))))))))))
def rv_f3 : List (RV × Option Ty) := [((.t 6), some .bool)]
abbrev Qxs : Sh := ⟨[(9, .ptr 9 0), (21, .ty tI)], [(9, .box Qae), (43, .no), (5043, .no), (10043, .no), (15043, .no)]⟩
def QwP (x21 : Int) (y9 : Qad) : VS := Qxs.st ((), x21, ()) (y9, (), (), (), (), ())
abbrev Qxr : Sh := ⟨[(6, .ty .bool)], []⟩
def Qa4 (x6 : Bool) : VS := Qxr.st (x6, ()) ()
abbrev QBU : Sh := ⟨[], []⟩
def Qgy  : VS := QBU.st () ()
def L_f3_0 : VS → Option (Bool × List (Bool × Exit × VS)) := mkL Qxs (fun x y => (QaS y.1 && decide (-1 ≤ x.2.1 ∧ x.2.1 ≤ 18))) (fun x y => [((false), .ret, Qa4 (false)), (true, .exit 1, Qgy)])
def g_f3 : G := ⟨TYs, [], 193, EL [(7, sp_f7), (8, sp_f8), (9, sp_f9), (10, QPB), (11, QkE), (12, QPA), (13, QEF), (14, QEy), (15, QPz), (16, QEn), (17, QEg), (18, QPy), (19, QD9), (20, QPx), (21, Qtu), (22, Qtt), (23, QD8), (24, QPw), (25, QPv)], keeps, (Ls [L_f3_0]), IL [], RL []⟩
def QRG (x21 : Int) (y9 : Qad) : Option (Exit × VS) :=
 let a1 := (usesF y9 (3, (x21, ())))
 let a2 := QaQ y9 x21
 let a3 := (Qky y9 (3, (x21, ())))
 br (ilt x21 18) (br (idnOk y9 x21) (br (idnOk y9 x21) (br a3 (br a3 (br (ine (a2.1) (a2.1)) (some (.ret, Qa4 false)) (br (bneq (a2.2) (a2.2)) (some (.ret, Qa4 false)) (br (ine (a1.2) (a1.2)) (some (.ret, Qa4 false)) (br (Qj8 (a1.1) (a1.1)) (br (!(sameU (a1.1) (a1.1))) (some (.ret, Qa4 false)) (some (.normal, QwP (iadd .i64 x21 1) y9))) none)))) none) none) none) none) (some (.exit 1, Qgy))
noncomputable def QsA (x21 : Int) (y9 : Qad) : Option (Exit × VS) := loopF (Qaj g_f3 Qpa Qqq) (QwP x21 y9)
noncomputable def Qzw (x21 : Int) (y9 : Qad) : Option (Exit × VS) :=
 let a1 := (usesF y9 (3, (x21, ())))
 let a2 := QaQ y9 x21
 let a3 := (Qky y9 (3, (x21, ())))
 br (ilt x21 18) (br (idnOk y9 x21) (br (idnOk y9 x21) (br a3 (br a3 (br (ine (a2.1) (a2.1)) (some (.ret, Qa4 false)) (br (bneq (a2.2) (a2.2)) (some (.ret, Qa4 false)) (br (ine (a1.2) (a1.2)) (some (.ret, Qa4 false)) (br (Qj8 (a1.1) (a1.1)) (br (!(sameU (a1.1) (a1.1))) (some (.ret, Qa4 false)) (QsA (iadd .i64 x21 1) y9)) none)))) none) none) none) none) (some (.exit 1, Qgy))
def Qyq (x21 : Int) (y9 : Qad) : Option (Exit × VS) := br (false) (some (.ret, Qa4 (false))) <| some (.exit 1, Qgy)
theorem QVX (x21 : Int) (y9 : Qad) : Qaj g_f3 Qpa Qqq (QwP x21 y9) = QRG x21 y9 := by kernel_rfl
theorem QHU (x21 : Int) (y9 : Qad) : QsA x21 y9 = Qzw x21 y9 := (Qap _ _).trans (by
 rw [QVX]
 simp only [QRG, Qzw, QaB, nxt_n, nxt_r, nxt_e, nxt_0]
 rfl)
def QuD (p0 : List Int) (p1 : Int) (p2 : List Int) : Option (V × List VO) := frk (some (.t .bool false, [])) (some (.t .bool false, []))
def QaY (p0 : List Int) (p1 : Int) (p2 : List Int) : Option (V × List VO) := frk (some (.t .bool false, [])) (frk (QuD p0 p1 p2) (QuD p0 p1 p2))
def QuB (p0 : List Int) (p1 : Int) (p2 : List Int) : Option (V × List VO) := br (false) (some (.t .bool (false), [])) (some (.t .bool QjU, []))
def QuC (p0 : List Int) (p1 : Int) (p2 : List Int) : Option (V × List VO) :=
 let a1 := ((((prV (roll p0)).2).2).2)
 let a2 := (((a1.2).2).2)
 br (QaS (((prV (roll p0)).2).1, ((((prV (roll p0)).2).2).1, (a1.1, ((a1.2).1, (((a1.2).2).1, (a2.1, ((a2.2).1, (((a2.2).2).1, ((((a2.2).2).2).1, ()))))))))) && decide (-1 ≤ (-1) ∧ (-1) ≤ 18)) (QuB p0 p1 p2) none
def Qp1 (p0 : List Int) (p1 : Int) (p2 : List Int) : Option (V × List VO) :=
 let a1 := (QbL (oddV (dofN (dofN (prN (roll p0)) ([15, 5, 60, 0])) ([3, 1, 2, 4])) (((prV (roll p0)).1).1, ((((prV (roll p0)).1).2).1, (((((prV (roll p0)).1).2).2).1, ((((((prV (roll p0)).1).2).2).2).1, (((((((prV (roll p0)).1).2).2).2).2).1, ((((((((prV (roll p0)).1).2).2).2).2).2).1, (((((((((prV (roll p0)).1).2).2).2).2).2).2).1, ((((((((((prV (roll p0)).1).2).2).2).2).2).2).2).1, (((((((((((prV (roll p0)).1).2).2).2).2).2).2).2).2).1, ())))))))))) (((prV (roll p0)).2).1, ((((prV (roll p0)).2).2).1, (((((prV (roll p0)).2).2).2).1, ((((((prV (roll p0)).2).2).2).2).1, (((((((prV (roll p0)).2).2).2).2).2).1, ((((((((prV (roll p0)).2).2).2).2).2).2).1, (((((((((prV (roll p0)).2).2).2).2).2).2).2).1, ((((((((((prV (roll p0)).2).2).2).2).2).2).2).2).1, (((((((((((prV (roll p0)).2).2).2).2).2).2).2).2).2).1, ()))))))))))
 let a2 := (Qa8 (oddV (dofN (dofN (prN (roll p0)) ([15, 5, 60, 0])) ([3, 1, 2, 4])) (((prV (roll p0)).1).1, ((((prV (roll p0)).1).2).1, (((((prV (roll p0)).1).2).2).1, ((((((prV (roll p0)).1).2).2).2).1, (((((((prV (roll p0)).1).2).2).2).2).1, ((((((((prV (roll p0)).1).2).2).2).2).2).1, (((((((((prV (roll p0)).1).2).2).2).2).2).2).1, ((((((((((prV (roll p0)).1).2).2).2).2).2).2).2).1, (((((((((((prV (roll p0)).1).2).2).2).2).2).2).2).2).1, ())))))))))) (((prV (roll p0)).2).1, ((((prV (roll p0)).2).2).1, (((((prV (roll p0)).2).2).2).1, ((((((prV (roll p0)).2).2).2).2).1, (((((((prV (roll p0)).2).2).2).2).2).1, ((((((((prV (roll p0)).2).2).2).2).2).2).1, (((((((((prV (roll p0)).2).2).2).2).2).2).2).1, ((((((((((prV (roll p0)).2).2).2).2).2).2).2).2).1, (((((((((((prV (roll p0)).2).2).2).2).2).2).2).2).2).1, ()))))))))))
 br a2 (br a2 (br (Qhq a1 a1) (br (!(sameO a1 a1)) (some (.t .bool false, [])) (QuC p0 p1 p2)) none) none) none
def QuA (p0 : List Int) (p1 : Int) (p2 : List Int) : Option (V × List VO) := frk (Qp1 p0 p1 p2) (Qp1 p0 p1 p2)
def Qp0 (p0 : List Int) (p1 : Int) (p2 : List Int) : Option (V × List VO) :=
 let a1 := (oddV (dofN (dofN (prN (roll p0)) ([15, 5, 60, 0])) ([3, 1, 2, 4])) (((prV (roll p0)).2).1, ((((prV (roll p0)).2).2).1, (((((prV (roll p0)).2).2).2).1, ((((((prV (roll p0)).2).2).2).2).1, (((((((prV (roll p0)).2).2).2).2).2).1, ((((((((prV (roll p0)).2).2).2).2).2).2).1, (((((((((prV (roll p0)).2).2).2).2).2).2).2).1, ((((((((((prV (roll p0)).2).2).2).2).2).2).2).2).1, (((((((((((prV (roll p0)).2).2).2).2).2).2).2).2).2).1, ()))))))))))
 let a2 := (((prV (roll p0)).1).1, ((((prV (roll p0)).1).2).1, (((((prV (roll p0)).1).2).2).1, ((((((prV (roll p0)).1).2).2).2).1, (((((((prV (roll p0)).1).2).2).2).2).1, ((((((((prV (roll p0)).1).2).2).2).2).2).1, (((((((((prV (roll p0)).1).2).2).2).2).2).2).1, ((((((((((prV (roll p0)).1).2).2).2).2).2).2).2).1, (((((((((((prV (roll p0)).1).2).2).2).2).2).2).2).2).1, ())))))))))
 let a3 := QbL a2 a1
 br (Qa8 a2 a1) (br (Qa8 a2 a1) (br (Qhq a3 a3) (br (!(sameO a3 a3)) (some (.t .bool false, [])) (br (QaS a1 && decide (-1 ≤ (-1) ∧ (-1) ≤ 18)) (QuB p0 p1 p2) none)) none) none) none
def Quz (p0 : List Int) (p1 : Int) (p2 : List Int) : Option (V × List VO) := frk (Qp0 p0 p1 p2) (Qp0 p0 p1 p2)
def Qkb (p0 : List Int) (p1 : Int) (p2 : List Int) : Option (V × List VO) :=
 let a1 := (QbL (((prV (roll p0)).1).1, ((((prV (roll p0)).1).2).1, (((((prV (roll p0)).1).2).2).1, ((((((prV (roll p0)).1).2).2).2).1, (((((((prV (roll p0)).1).2).2).2).2).1, ((((((((prV (roll p0)).1).2).2).2).2).2).1, (((((((((prV (roll p0)).1).2).2).2).2).2).2).1, ((((((((((prV (roll p0)).1).2).2).2).2).2).2).2).1, (((((((((((prV (roll p0)).1).2).2).2).2).2).2).2).2).1, ()))))))))) (((prV (roll p0)).2).1, ((((prV (roll p0)).2).2).1, (((((prV (roll p0)).2).2).2).1, ((((((prV (roll p0)).2).2).2).2).1, (((((((prV (roll p0)).2).2).2).2).2).1, ((((((((prV (roll p0)).2).2).2).2).2).2).1, (((((((((prV (roll p0)).2).2).2).2).2).2).2).1, ((((((((((prV (roll p0)).2).2).2).2).2).2).2).2).1, (((((((((((prV (roll p0)).2).2).2).2).2).2).2).2).2).1, ()))))))))))
 let a2 := (Qa8 (((prV (roll p0)).1).1, ((((prV (roll p0)).1).2).1, (((((prV (roll p0)).1).2).2).1, ((((((prV (roll p0)).1).2).2).2).1, (((((((prV (roll p0)).1).2).2).2).2).1, ((((((((prV (roll p0)).1).2).2).2).2).2).1, (((((((((prV (roll p0)).1).2).2).2).2).2).2).1, ((((((((((prV (roll p0)).1).2).2).2).2).2).2).2).1, (((((((((((prV (roll p0)).1).2).2).2).2).2).2).2).2).1, ()))))))))) (((prV (roll p0)).2).1, ((((prV (roll p0)).2).2).1, (((((prV (roll p0)).2).2).2).1, ((((((prV (roll p0)).2).2).2).2).1, (((((((prV (roll p0)).2).2).2).2).2).1, ((((((((prV (roll p0)).2).2).2).2).2).2).1, (((((((((prV (roll p0)).2).2).2).2).2).2).2).1, ((((((((((prV (roll p0)).2).2).2).2).2).2).2).2).1, (((((((((((prV (roll p0)).2).2).2).2).2).2).2).2).2).1, ()))))))))))
 br a2 (br a2 (br (Qhq a1 a1) (br (!(sameO a1 a1)) (some (.t .bool false, [])) (QuC p0 p1 p2)) none) none) none
def Qox (p0 : List Int) (p1 : Int) (p2 : List Int) : Option (V × List VO) := frk (Qkb p0 p1 p2) (Qkb p0 p1 p2)
def QfW (p0 : List Int) (p1 : Int) (p2 : List Int) : Option (V × List VO) := frk (Qkb p0 p1 p2) (frk (Qox p0 p1 p2) (Qox p0 p1 p2))
def QuE (p0 : List Int) (p1 : Int) (p2 : List Int) : Option (V × List VO) :=
 let a1 := (((prV (roll p0)).1).1, ((((prV (roll p0)).1).2).1, (((((prV (roll p0)).1).2).2).1, ((((((prV (roll p0)).1).2).2).2).1, (((((((prV (roll p0)).1).2).2).2).2).1, ((((((((prV (roll p0)).1).2).2).2).2).2).1, (((((((((prV (roll p0)).1).2).2).2).2).2).2).1, ((((((((((prV (roll p0)).1).2).2).2).2).2).2).2).1, (((((((((((prV (roll p0)).1).2).2).2).2).2).2).2).2).1, ())))))))))
 let a2 := (((prV (roll p0)).2).1, ((((prV (roll p0)).2).2).1, (((((prV (roll p0)).2).2).2).1, ((((((prV (roll p0)).2).2).2).2).1, (((((((prV (roll p0)).2).2).2).2).2).1, ((((((((prV (roll p0)).2).2).2).2).2).2).1, (((((((((prV (roll p0)).2).2).2).2).2).2).2).1, ((((((((((prV (roll p0)).2).2).2).2).2).2).2).2).1, (((((((((((prV (roll p0)).2).2).2).2).2).2).2).2).2).1, ())))))))))
 let a3 := (dofN (prN (roll p0)) ([15, 5, 60, 0]))
 let a4 := (dof (prN (roll p0)) ([15, 5, 60, 0]))
 let a5 := (dofN a3 ([3, 1, 2, 4]))
 let a6 := ((((((prV (roll p0)).1).2).2).2).1)
 let a7 := (dof a3 ([3, 1, 2, 4]))
 let a8 := (dof a5 ([(-1), 40001, 40000]))
 let a9 := QbM a1 a2 a4
 let a10 := (withF a1 a2 a4 (dof a5 ([0, 5, (-1)])) a6)
 let a11 := withF (oddV a5 a1) a2 a4 a7 a6
 let a12 := withF a1 (oddV a5 a2) a4 a7 a6
 let a13 := withF a1 a2 a4 a7 (suiV a5)
 let a14 := QbM (oddV a5 a1) a2 a4
 let a15 := QbM a1 (oddV a5 a2) a4
 let a16 := Qcd a1 a2 a4
 let a17 := ieq (((a9.1).2).1) (((a9.1).2).1)
 let a18 := withF a1 a2 a8 a7 a6
 let a19 := withF a1 a2 a4 a7 p2
 let a20 := withF a1 a2 a4 a7 a6
 let a21 := QbM a1 a2 a8
 let a22 := ieq ((a9.1).1) ((a9.1).1)
 let a23 := ine (a9.2) (a9.2)
 let a24 := (Qbm a1 a2 a4 (dof a5 ([0, 5, (-1)])) a6)
 let a25 := Qbm (oddV a5 a1) a2 a4 a7 a6
 let a26 := Qbm a1 (oddV a5 a2) a4 a7 a6
 let a27 := Qbm a1 a2 a4 a7 (suiV a5)
 let a28 := Qcd (oddV a5 a1) a2 a4
 let a29 := Qcd a1 (oddV a5 a2) a4
 let a30 := Qbm a1 a2 a8 a7 a6
 let a31 := Qbm a1 a2 a4 a7 p2
 let a32 := Qbm a1 a2 a4 a7 a6
 br (ofOk (prN (roll p0)) ([15, 5, 60, 0])) (br (ofOk a3 ([3, 1, 2, 4])) (br (cNz 12) (br (ieq (irem p1 12) 0) (br (oddOk a5 a1) (br a28 (br a28 (br a25 (br a25 (br (!(and (ieq ((a14.1).1) ((a14.1).1)) (and (ieq (((a14.1).2).1) (((a14.1).2).1)) true))) (QaY p0 p1 p2) (br (ine (a14.2) (a14.2)) (QaY p0 p1 p2) (br (!(and (ieq ((a11.1).1) ((a11.1).1)) (and (ieq (((a11.1).2).1) (((a11.1).2).1)) true))) (QaY p0 p1 p2) (br (ine (a11.2) (a11.2)) (QaY p0 p1 p2) (frk (Qp1 p0 p1 p2) (frk (QuA p0 p1 p2) (QuA p0 p1 p2))))))) none) none) none) none) none) (br (ieq (irem p1 12) 1) (br (oddOk a5 a2) (br a29 (br a29 (br a26 (br a26 (br (!(and (ieq ((a15.1).1) ((a15.1).1)) (and (ieq (((a15.1).2).1) (((a15.1).2).1)) true))) (QaY p0 p1 p2) (br (ine (a15.2) (a15.2)) (QaY p0 p1 p2) (br (!(and (ieq ((a12.1).1) ((a12.1).1)) (and (ieq (((a12.1).2).1) (((a12.1).2).1)) true))) (QaY p0 p1 p2) (br (ine (a12.2) (a12.2)) (QaY p0 p1 p2) (frk (Qp0 p0 p1 p2) (frk (Quz p0 p1 p2) (Quz p0 p1 p2))))))) none) none) none) none) none) (br (ieq (irem p1 12) 2) (br (ofOk a5 ([(-1), 40001, 40000])) (br (Qcd a1 a2 a8) (br (Qcd a1 a2 a8) (br a30 (br a30 (br (!(and (ieq ((a21.1).1) ((a21.1).1)) (and (ieq (((a21.1).2).1) (((a21.1).2).1)) true))) (QaY p0 p1 p2) (br (ine (a21.2) (a21.2)) (QaY p0 p1 p2) (br (!(and (ieq ((a18.1).1) ((a18.1).1)) (and (ieq (((a18.1).2).1) (((a18.1).2).1)) true))) (QaY p0 p1 p2) (br (ine (a18.2) (a18.2)) (QaY p0 p1 p2) (QfW p0 p1 p2))))) none) none) none) none) none) (br (ieq (irem p1 12) 3) (br (ofOk a5 ([0, 5, (-1)])) (br a16 (br a16 (br a24 (br a24 (br (!(and a22 (and a17 true))) (QaY p0 p1 p2) (br a23 (QaY p0 p1 p2) (br (!(and (ieq ((a10.1).1) ((a10.1).1)) (and (ieq (((a10.1).2).1) (((a10.1).2).1)) true))) (QaY p0 p1 p2) (br (ine (a10.2) (a10.2)) (QaY p0 p1 p2) (QfW p0 p1 p2))))) none) none) none) none) none) (br (ieq (irem p1 12) 4) (br a16 (br a16 (br a31 (br a31 (br (!(and a22 (and a17 true))) (QaY p0 p1 p2) (br a23 (QaY p0 p1 p2) (br (!(and (ieq ((a19.1).1) ((a19.1).1)) (and (ieq (((a19.1).2).1) (((a19.1).2).1)) true))) (QaY p0 p1 p2) (br (ine (a19.2) (a19.2)) (QaY p0 p1 p2) (QfW p0 p1 p2))))) none) none) none) none) (br (ieq (irem p1 12) 5) (br (dOk a5) (br a16 (br a16 (br a27 (br a27 (br (!(and a22 (and a17 true))) (QaY p0 p1 p2) (br a23 (QaY p0 p1 p2) (br (!(and (ieq ((a13.1).1) ((a13.1).1)) (and (ieq (((a13.1).2).1) (((a13.1).2).1)) true))) (QaY p0 p1 p2) (br (ine (a13.2) (a13.2)) (QaY p0 p1 p2) (QfW p0 p1 p2))))) none) none) none) none) none) (br a16 (br a16 (br a32 (br a32 (br (!(and a22 (and a17 true))) (QaY p0 p1 p2) (br a23 (QaY p0 p1 p2) (br (!(and (ieq ((a20.1).1) ((a20.1).1)) (and (ieq (((a20.1).2).1) (((a20.1).2).1)) true))) (QaY p0 p1 p2) (br (ine (a20.2) (a20.2)) (QaY p0 p1 p2) (QfW p0 p1 p2))))) none) none) none) none))))))) none) none) none
def r_f3 (p0 : List Int) (p1 : Int) (p2 : List Int) : Option (V × List VO) := br (!(light p0)) (some (.t .bool QjU, [])) (br (igt (llen p2) 40) (some (.t .bool QjU, [])) (br (dOk (roll p0)) (frk (QuE p0 p1 p2) (QuE p0 p1 p2)) none))
theorem e_f3 (p0 : List Int) (p1 : Int) (p2 : List Int) : runF g_f3 tc_f3 rv_f3 false [.t (.sl tI) p0, .t (.int .u8) p1, .t (.sl tI) p2] [] = r_f3 p0 p1 p2 := by kernel_rfl
theorem gk_f3 : GOk Tryz.prog g_f3 := Qal _ (gA (gC en_f7 ms_f7 (gC en_f8 ms_f8 (gC en_f9 ms_f9 (gC en_f10 ms_f10 (gC Qpk QoK (gC en_f12 ms_f12 (gC QRC QRg (gC QRB QRf (gC en_f15 ms_f15 (gC QRA QRe (gC QRz QRd (gC en_f18 ms_f18 (gC QRy QRc (gC en_f20 ms_f20 (gC QA9 QzC (gC QA8 QzB (gC QRx QRb (gC en_f24 ms_f24 (gC en_f25 ms_f25 gN))))))))))))))))))))
theorem l_f3_0 (x21 : Int) (y9 : Qad) (h : (QaS y9 && decide (-1 ≤ x21 ∧ x21 ≤ 18)) = true) : QsA x21 y9 = Qyq x21 y9 := by
 obtain ⟨he, h⟩ := Bool.and_eq_true_iff.1 h
 obtain ⟨h0, h1⟩ := of_decide_eq_true h
 have hid : ∀ x, idnOk y9 x = true := fun x => decide_eq_true (Qa2 he).2.2.1
 have hus : ∀ x, Qky y9 x = true := fun _ => he
 have hsm : ∀ x, Qj8 (usesF y9 x).1 (usesF y9 x).1 = true := fun x => by
  have : (usesF y9 x).1.length ≤ 4 := by
   unfold usesF
   cases QaJ y9 <;> cases ine (Qay x.2.1).2 0 <;> cases (QaQ y9 x.2.1).2 <;> simp [usesL]
  exact decide_eq_true (by omega)
 have hss : ∀ l : List Keep, sameU l l = true := fun l => beq_self_eq_true l
 have hb : ∀ b : Bool, bneq b b = false := fun b => by cases b <;> rfl
 have key : ∀ (m : Nat) (k : Int), m = (18 - k).toNat → k ≤ 18 → -1 ≤ k → QsA k y9 = Qyq k y9 := by
  intro m
  induction m with
  | zero =>
   intro k hm h1 h0
   have : k = 18 := by omega
   subst this
   rw [QHU]
   simp only [Qzw, Qyq, show ilt (18 : Int) 18 = false from rfl, Qaf]
  | succ m ih =>
   intro k hm h1 h0
   rw [QHU]
   have e : iadd .i64 k 1 = k + 1 := Qb8 (by omega)
   simp only [Qzw, show ilt k 18 = true from decide_eq_true (by omega), hid, hus, hsm, hss, hb, QAk, Qac, Qaf, Bool.not_true, e]
   exact ih (k + 1) (by omega) (by omega) (by omega)
 exact key _ x21 rfl h1 h0
theorem QSU : ∀ S l p, g_f3.L 0 (fgt Qpa S) = some (true, l) → pickA l = some p → loopF (Qaj g_f3 Qpa Qqq) S = some p :=
 QaD (s := Qxs) ⟨by decide, by decide⟩ (by kernel_rfl) fun x y hok p hp => by
 simp only [Qar, Qao] at hp
 exact (l_f3_0 x.2.1 y.1 (by simpa using hok)).trans hp
theorem lk_f3 : tc_f3.lok g_f3 := by
 repeat (first | exact trivial | exact QSU | refine ⟨?_, ?_⟩)
theorem QBV (l : List Keep) : sameO l l = true := beq_self_eq_true l
theorem prC_sm {d : Dice} (h : dOk d = true) : endSm (prC d) = true := by
 have hi := QRl (d := d) (nm := sApp) (by decide) h
 have hz : (epV d sApp).1.size ≤ 1000 := by rw [QIF]; decide
 exact Bool.and_eq_true_iff.2 ⟨decide_eq_true ⟨hz, Nat.le_trans (Qcb (nm := sApp) h) (show 10 ≤ 1000 by decide), Nat.le_trans hi.2 (show 3 ≤ 1000 by decide), Nat.le_trans (QRX d) (show 4 ≤ 1000 by decide), Nat.le_trans (QRW d) (show 4 ≤ 1000 by decide)⟩, hi.1⟩
theorem prS_sm {d : Dice} (h : dOk d = true) : endSm (prS d) = true := by
 have k1 := QvM (nm := sApp) h
 have hi := QRl (d := pD1 d) (nm := sWeb) (by decide) k1
 have hz : (epV (pD1 d) sWeb).1.size ≤ 1000 := by rw [QIF]; decide
 have l1 := Qcb (nm := sApp) h
 have l2 := Qcb (nm := sWeb) k1
 have hp : (pSz d).1.length ≤ 20 := bif_p (Nat.le_trans (QrY _ _ _) (Nat.add_le_add l2 l1)) (Nat.le_trans l2 (show 10 ≤ 20 by decide))
 exact Bool.and_eq_true_iff.2 ⟨decide_eq_true ⟨hz, Nat.le_trans hp (show 20 ≤ 1000 by decide), Nat.le_trans hi.2 (show 3 ≤ 1000 by decide), Nat.le_trans (QRH (pD1 d) sWeb) (show 4 ≤ 1000 by decide), Nat.le_trans (QRj (pD1 d) sWeb) (show 4 ≤ 1000 by decide)⟩, hi.1⟩
theorem QPC {e : Qad} (h : endSm e = true) : QaS e = true ∧ (Qan e).length ≤ 1000 ∧ (eIds e).length ≤ 1000 := by
 simp only [endSm, Bool.and_eq_true, decide_eq_true_eq] at h
 exact ⟨QIG h.1.1 h.1.2.1 h.1.2.2.1 h.1.2.2.2.1 h.1.2.2.2.2 h.2, h.1.2.1, h.1.2.2.1⟩
theorem brSame {β : Type} {b : Bool} {X : Option β} : br b X X = X := by cases b <;> rfl
theorem prVC {d : Dice} (h : dOk d = true) : endSm (prV d).1 = true := prC_sm h
theorem prVS {d : Dice} (h : dOk d = true) : endSm (prV d).2 = true := prS_sm h
attribute [local irreducible] prV prN oddV oddN QbL withF suiV suiN
set_option maxRecDepth 100000 in
theorem s_f3 (l : List Int) (o : Int) (r : List Int) : r_f3 l o r = some (.t .bool (madeT l o r), []) := by
 cases hl : light l with
 | false => simp only [r_f3, QuE, QaY, QuD, Qp1, QuC, QuB, QuA, Qp0, Quz, QfW, Qkb, Qox, Qbp, hl, Bool.not_false, Qac]; rfl
 | true =>
  cases hr : igt (llen r) 40 with
  | true => simp only [r_f3, QuE, QaY, QuD, Qp1, QuC, QuB, QuA, Qp0, Quz, QfW, Qkb, Qox, Qbp, hl, hr, Bool.not_true, Qaf, Qac]; rfl
  | false =>
   have hd := QNJ hl
   have hp := dOk_pr hd
   have k1 := Qa7 (l := [15, 5, 60, 0]) hp
   have k2 := Qa7 (l := [3, 1, 2, 4]) k1
   have hCs : endSm (prV (roll l)).1 = true := prVC hd
   have hSs : endSm (prV (roll l)).2 = true := prVS hd
   obtain ⟨C, hC⟩ : ∃ C, C = (prV (roll l)).1 := ⟨_, rfl⟩
   obtain ⟨S, hS⟩ : ∃ S, S = (prV (roll l)).2 := ⟨_, rfl⟩
   obtain ⟨q1, q2, q3⟩ := QPC (show endSm C = true by rw [hC]; exact hCs)
   obtain ⟨t1, t2, t3⟩ := QPC (show endSm S = true by rw [hS]; exact hSs)
   have o1 : QaS (oddV (dofN (dofN (prN (roll l)) [15, 5, 60, 0]) [3, 1, 2, 4]) C) = true := QGT k2 (by rw [hC]; exact hCs)
   have o2 : QaS (oddV (dofN (dofN (prN (roll l)) [15, 5, 60, 0]) [3, 1, 2, 4]) S) = true := QGT k2 (by rw [hS]; exact hSs)
   have d1 : oddOk (dofN (dofN (prN (roll l)) [15, 5, 60, 0]) [3, 1, 2, 4]) C = true := Bool.and_eq_true_iff.2 ⟨k2, decide_eq_true ⟨by omega, by omega⟩⟩
   have d2 : oddOk (dofN (dofN (prN (roll l)) [15, 5, 60, 0]) [3, 1, 2, 4]) S = true := Bool.and_eq_true_iff.2 ⟨k2, decide_eq_true ⟨by omega, by omega⟩⟩
   have d3 : ofOk (dofN (dofN (prN (roll l)) [15, 5, 60, 0]) [3, 1, 2, 4]) [-1, 40001, 40000] = true := QbJ k2 (by decide) (by decide)
   have d4 : ofOk (dofN (dofN (prN (roll l)) [15, 5, 60, 0]) [3, 1, 2, 4]) [0, 5, -1] = true := QbJ k2 (by decide) (by decide)
   have n1 : C.2.2.2.1.length ≤ 100000 := Nat.le_trans q2 (by decide)
   have n2 : r.length ≤ 100000 := by
    have := of_decide_eq_false hr
    simp only [llen] at this
    omega
   have n3 : (suiV (dofN (dofN (prN (roll l)) [15, 5, 60, 0]) [3, 1, 2, 4])).length ≤ 100000 := Nat.le_trans (Qy5 k2) (by decide)
   have n4 : decide ((-1 : Int) ≤ -1 ∧ (-1 : Int) ≤ 18) = true := rfl
   have c0 : ofOk (prN (roll l)) [15, 5, 60, 0] = true := QbJ hp (by decide) (by decide)
   have c1 : ofOk (dofN (prN (roll l)) [15, 5, 60, 0]) [3, 1, 2, 4] = true := QbJ k1 (by decide) (by decide)
   simp only [r_f3, QuE, QaY, QuD, Qp1, QuC, QuB, QuA, Qp0, Quz, QfW, Qkb, Qox, Qbp, hl, hr, hd, Bool.not_true, Qaf, Qac, c0, c1, eEta, Qbp, ← hC, ← hS, show cNz 12 = true from rfl, QMC, QAk, Bool.and_self, QBV, Qcd, Qbm, Qhq, QVP, and_self, decide_true, Qa8, q1, t1, o1, o2, d1, d2, d3, d4, n1, n2, n3, n4, k2, brSame]
   rfl
def sp_f3 : Ent := spec (.pr (.sl tI) (.pr (.int .u8) (.pr (.sl tI) .nil))) (fun x => true) (fun x => (.t .bool (madeT x.1 x.2.1 x.2.2.1)))
theorem ms_f3 : Meets Tryz.prog 3 (strip sp_f3) := Qag (R := runF g_f3 tc_f3 rv_f3 false) (mG Tryz.func3 (by kernel_rfl) Tryz.ntmps3 (by kernel_rfl) gk_f3 lk_f3) fun x _ => (e_f3 x.1 x.2.1 x.2.2.1).trans (s_f3 x.1 x.2.1 x.2.2.1)
theorem walkNegotiateMade (z0 : (List Int)) (z1 : Int) (z2 : (List Int)) (W : World) (v0 : Value) (v1 : Value) (v2 : Value) (c0 : C noX W (fun _ => .no) (V.t (.sl tI) z0).d v0) (c1 : C noX W (fun _ => .no) (V.t (.int .u8) z1).d v1) (c2 : C noX W (fun _ => .no) (V.t (.sl tI) z2).d v2) (w0 : Ty.wf (.sl tI) z0) (w1 : Ty.wf (.int .u8) z1) (w2 : Ty.wf (.sl tI) z2) :
  Calls Tryz.prog 3 #[v0, v1, v2] W fun r w' => r = .returned (.bool true) ∧ Below W.heap.size W w' :=
 QCh (by decide) ms_f3 (args := [.t (.sl tI) z0, .t (.int .u8) z1, .t (.sl tI) z2]) (QBP (x := (z0, z1, z2, ())) rfl (rfl)) (by simp only [V.ds, Cs]; exact ⟨_, _, rfl, c0, _, _, rfl, c1, _, _, rfl, c2, rfl⟩)
end
end Go.Proofs.YtkngeegkjhipeaaGreat.K
