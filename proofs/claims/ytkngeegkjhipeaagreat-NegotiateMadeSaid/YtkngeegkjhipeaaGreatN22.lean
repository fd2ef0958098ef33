import Derived.Test.YtkngeegkjhipeaaGreatN21
set_option linter.unusedSimpArgs false
set_option linter.unusedVariables false
namespace Go.Proofs.YtkngeegkjhipeaaGreat.K
open Go.RowKit
noncomputable section
abbrev sOdd : List ByteArray := [ByteArray.mk #[], ByteArray.mk #[97, 32, 98], ByteArray.mk #[120]]
abbrev sA : ByteArray := ByteArray.mk #[97]
abbrev kRSA : Keep := (5, (2048, ()))
def oddP (d : Dice) (e : Qad) : Qad × Dice :=
 bif ieq (dval d 8) 0 then ((dwdG (dnext d 8) sOdd, e.2), dwdGN (dnext d 8) sOdd) else
 bif ieq (dval d 8) 1 then ((e.1, (dof (dnext d 8) [0, 5, iadd .i64 e.2.2.1 1], e.2.2)), dofN (dnext d 8) [0, 5, iadd .i64 e.2.2.1 1]) else
 bif ieq (dval d 8) 2 then ((e.1, (e.2.1, (dof (dnext d 8) [5, 0], e.2.2.2))), dofN (dnext d 8) [5, 0]) else
 bif ieq (dval d 8) 3 then ((e.1, (e.2.1, (e.2.2.1, (e.2.2.2.1 ++ [dof (dnext d 8) [17, 0, 3, 3]], e.2.2.2.2)))), dofN (dnext d 8) [17, 0, 3, 3]) else
 bif ieq (dval d 8) 4 then ((e.1, (e.2.1, (e.2.2.1, (e.2.2.2.1, (e.2.2.2.2.1, (e.2.2.2.2.2.1, ([2, 1], e.2.2.2.2.2.2.2))))))), dnext d 8) else
 bif ieq (dval d 8) 5 then ((e.1, (e.2.1, (e.2.2.1, (e.2.2.2.1, (e.2.2.2.2.1, (e.2.2.2.2.2.1, (e.2.2.2.2.2.2.1, ([dof (dnext d 8) [5, 3, 0]], e.2.2.2.2.2.2.2.2)))))))), dofN (dnext d 8) [5, 3, 0]) else
 bif ieq (dval d 8) 6 then ((e.1, (e.2.1, (e.2.2.1, (e.2.2.2.1, (e.2.2.2.2.1, (e.2.2.2.2.2.1 ++ [((1, (0, ())), (0, (([] : List Qaa), ())))], e.2.2.2.2.2.2)))))), dnext d 8) else
 ((e.1, (e.2.1, (e.2.2.1, (e.2.2.2.1, (e.2.2.2.2.1, (e.2.2.2.2.2.1 ++ [(kRSA, (7, (chnV (dnext d 8) sA kRSA 8, ())))], e.2.2.2.2.2.2)))))), chnN (dnext d 8) sA kRSA 8)
def oddV (d : Dice) (e : Qad) : Qad := (oddP d e).1
def oddN (d : Dice) (e : Qad) : Dice := (oddP d e).2
def oddOk (d : Dice) (e : Qad) : Bool := dOk d && decide ((Qan e).length ≤ 100000 ∧ (eIds e).length ≤ 100000)
noncomputable def QDP : TC := (.sq (.reg (rT Tryz.f12 0)) (.sq (.sq (.reg (rT Tryz.f12 1)) (.bk 0 (.sq (.reg (rT Tryz.f12 2)) (.cd (.t 19) (.reg (rT Tryz.f12 3)) (.sq (.reg (rT Tryz.f12 4)) (.cd (.t 25) (.reg (rT Tryz.f12 5)) (.sq (.reg (rT Tryz.f12 6)) (.cd (.t 34) (.reg (rT Tryz.f12 7)) (.sq (.reg (rT Tryz.f12 8)) (.cd (.t 40) (.reg (rT Tryz.f12 9)) (.sq (.reg (rT Tryz.f12 10)) (.cd (.t 52) (.reg (rT Tryz.f12 11)) (.sq (.reg (rT Tryz.f12 12)) (.cd (.t 56) (.reg (rT Tryz.f12 13)) (.sq (.reg (rT Tryz.f12 14)) (.cd (.t 63) (.reg (rT Tryz.f12 15)) (.reg (rT Tryz.f12 16)))))))))))))))))) (.sq (.reg (rT Tryz.f12 17)) .rt)))
def QQO : List (RV × Option Ty) := [((.c 4 true 9), some Qae)]
def g_f12 : G := ⟨TYs, [7, 42, 65], 75, EL [(11, QkE), (32, Qg5), (34, QPs), (35, QD7)], keeps, (fun _ _ => none), IL [], RL []⟩
def r_f12 (d0 : Dice) (p1 : Qad) : Option (V × List VO) :=
 let a1 := (chnV (dnext d0 8) (ByteArray.mk #[97]) (5, (2048, ())) 8)
 let a2 := (ByteArray.mk #[97, 32, 98])
 let a3 := (cApp ([] : List Qaq) p1.2.2.2.2.2.1 48)
 let a4 := iadd .i64 p1.2.2.1 1
 let a5 := ByteArray.mk #[120]
 let a6 := (dof (dnext d0 8) ([17, 0, 3, 3]))
 let a7 := ByteArray.mk #[]
 br (QaN d0 8) (br (ieq (dval d0 8) 0) (br (wdGOk (dnext d0 8) ([a7, a2, a5])) (some (.t Qae ((dwdG (dnext d0 8) ([a7, a2, a5])), p1.2), [.box (.t Qat (dwdGN (dnext d0 8) ([a7, a2, a5])))])) none) (br (ieq (dval d0 8) 1) (br (ofOk (dnext d0 8) ([0, 5, a4])) (some (.t Qae (p1.1, ((dof (dnext d0 8) ([0, 5, a4])), p1.2.2)), [.box (.t Qat (dofN (dnext d0 8) ([0, 5, a4])))])) none) (br (ieq (dval d0 8) 2) (br (ofOk (dnext d0 8) ([5, 0])) (some (.t Qae (p1.1, (p1.2.1, ((dof (dnext d0 8) ([5, 0])), p1.2.2.2))), [.box (.t Qat (dofN (dnext d0 8) ([5, 0])))])) none) (br (ieq (dval d0 8) 3) (br (cApp ([] : List Int) p1.2.2.2.1 8) (br (ofOk (dnext d0 8) ([17, 0, 3, 3])) (br (cApp (([] : List Int) ++ p1.2.2.2.1) ([a6]) 8) (some (.t Qae (p1.1, (p1.2.1, (p1.2.2.1, (((([] : List Int) ++ p1.2.2.2.1) ++ ([a6])), (p1.2.2.2.2.1, (p1.2.2.2.2.2.1, (p1.2.2.2.2.2.2.1, (p1.2.2.2.2.2.2.2.1, (p1.2.2.2.2.2.2.2.2.1, ()))))))))), [.box (.t Qat (dofN (dnext d0 8) ([17, 0, 3, 3])))])) none) none) none) (br (ieq (dval d0 8) 4) (some (.t Qae (p1.1, (p1.2.1, (p1.2.2.1, (p1.2.2.2.1, (p1.2.2.2.2.1, (p1.2.2.2.2.2.1, ([2, 1], p1.2.2.2.2.2.2.2))))))), [.box (.t Qat (dnext d0 8))])) (br (ieq (dval d0 8) 5) (br (ofOk (dnext d0 8) ([5, 3, 0])) (some (.t Qae (p1.1, (p1.2.1, (p1.2.2.1, (p1.2.2.2.1, (p1.2.2.2.2.1, (p1.2.2.2.2.2.1, (p1.2.2.2.2.2.2.1, ([(dof (dnext d0 8) ([5, 3, 0]))], p1.2.2.2.2.2.2.2.2)))))))), [.box (.t Qat (dofN (dnext d0 8) ([5, 3, 0])))])) none) (br (ieq (dval d0 8) 6) (br a3 (br (cApp (([] : List Qaq) ++ p1.2.2.2.2.2.1) ([((1, (0, ())), (0, (([] : List Qaa), ())))]) 48) (some (.t Qae (p1.1, (p1.2.1, (p1.2.2.1, (p1.2.2.2.1, (p1.2.2.2.2.1, (((([] : List Qaq) ++ p1.2.2.2.2.2.1) ++ ([((1, (0, ())), (0, (([] : List Qaa), ())))])), (p1.2.2.2.2.2.2.1, (p1.2.2.2.2.2.2.2.1, (p1.2.2.2.2.2.2.2.2.1, ()))))))))), [.box (.t Qat (dnext d0 8))])) none) none) (br a3 (br (chnOk (dnext d0 8) (ByteArray.mk #[97]) (5, (2048, ())) 8) (br (cApp (([] : List Qaq) ++ p1.2.2.2.2.2.1) ([((5, (2048, ())), (7, (a1, ())))]) 48) (some (.t Qae (p1.1, (p1.2.1, (p1.2.2.1, (p1.2.2.2.1, (p1.2.2.2.2.1, (((([] : List Qaq) ++ p1.2.2.2.2.2.1) ++ ([((5, (2048, ())), (7, (a1, ())))])), (p1.2.2.2.2.2.2.1, (p1.2.2.2.2.2.2.2.1, (p1.2.2.2.2.2.2.2.2.1, ()))))))))), [.box (.t Qat (chnN (dnext d0 8) (ByteArray.mk #[97]) (5, (2048, ())) 8))])) none) none) none)))))))) none
theorem e_f12 (d0 : Dice) (p1 : Qad) : runF g_f12 QDP QQO false [.ptr 50000 0, .t Qae p1] [.box (.t Qat d0)] = r_f12 d0 p1 := by kernel_rfl
theorem en_f12 : Qai Tryz.prog 12 := .inr ⟨by decide, _, Tryz.func12, by kernel_rfl, by kernel_rfl⟩
theorem gk_f12 : GOk Tryz.prog g_f12 := Qal _ (gA (gC Qpk QoK (gC QjF Qif (gC en_f34 ms_f34 (gC QRw QRa gN)))))
theorem lk_f12 : QDP.lok g_f12 := by repeat (first | exact trivial | refine ⟨?_, ?_⟩)
def outED (p : Qad × Dice) : Option (V × List VO) := some (.t Qae p.1, [.box (.t Qat p.2)])
theorem brE {a : Bool} {X Y : Option (V × List VO)} {x y : Qad × Dice} (hx : X = outED x) (hy : Y = outED y) : br a X Y = outED (bif a then x else y) := by
 cases a
 ·exact hy
 ·exact hx
theorem s_f12 (d : Dice) (e : Qad) (h : oddOk d e = true) : r_f12 d e = some (.t Qae (oddV d e), [.box (.t Qat (oddN d e))]) := by
 simp only [oddOk, Bool.and_eq_true, decide_eq_true_eq] at h
 obtain ⟨h, h1, h2⟩ := h
 have k1 := Qav (n := 8) h
 have c0 : QaN d 8 = true := QaZ h (by omega)
 have c1 : wdGOk (dnext d 8) sOdd = true := Bool.and_eq_true_iff.2 ⟨k1, decide_eq_true (by simp)⟩
 have c2 : ∀ l : List Int, l ≠ [] → l.length ≤ 100 → ofOk (dnext d 8) l = true := fun l a b => QbJ k1 a b
 have c3 : ∀ a b, ofOk (dnext d 8) [0, a, b] = true := fun a b => c2 _ (by simp) (by simp)
 have c4 : ofOk (dnext d 8) [5, 0] = true := c2 _ (by simp) (by simp)
 have c5 : ofOk (dnext d 8) [17, 0, 3, 3] = true := c2 _ (by simp) (by simp)
 have c6 : ofOk (dnext d 8) [5, 3, 0] = true := c2 _ (by simp) (by simp)
 have c7 : chnOk (dnext d 8) sA kRSA 8 = true := Bool.and_eq_true_iff.2 ⟨k1, rfl⟩
 have a1 : cApp ([] : List Int) e.2.2.2.1 8 = true := cAppN (by omega) (by simp only [List.length_nil]; have : e.2.2.2.1.length ≤ 100000 := h1; omega)
 have a2 : ∀ v : Int, cApp e.2.2.2.1 [v] 8 = true := fun v => cAppN (by omega) (by simp only [List.length_singleton]; have : e.2.2.2.1.length ≤ 100000 := h1; omega)
 have a3 : cApp ([] : List Qaq) e.2.2.2.2.2.1 48 = true := cAppN (by omega) (by simp only [List.length_nil]; have : e.2.2.2.2.2.1.length ≤ 100000 := h2; omega)
 have a4 : ∀ v : Qaq, cApp e.2.2.2.2.2.1 [v] 48 = true := fun v => cAppN (by omega) (by simp only [List.length_singleton]; have : e.2.2.2.2.2.1.length ≤ 100000 := h2; omega)
 simp only [r_f12, c0, c1, c3, c4, c5, c6, c7, List.nil_append, a1, a2, a3, a4, Qac]
 show _ = outED (oddP d e)
 unfold oddP
 exact brE rfl <| brE rfl <| brE rfl <| brE rfl <| brE rfl <| brE rfl <| brE rfl rfl
def QPA : Ent := specP Qat (.pr Qae .nil) (fun d x => (oddOk d x.1)) (fun d x => (.t Qae (oddV d x.1))) (fun d x => (oddN d x.1))
theorem ms_f12 : Meets Tryz.prog 12 (strip QPA) := Qbh (R := runF g_f12 QDP QQO false) (mG Tryz.func12 (by kernel_rfl) Tryz.ntmps12 (by kernel_rfl) gk_f12 lk_f12) rfl fun d x hok => (e_f12 d x.1).trans (s_f12 d x.1 hok)
def simV (n : ByteArray) (o : Bool) (l : List Int) : Qad := (n, (1, (3, (l, (o, ([(kRSA, (7, (([] : List Qaa), ())))], (([] : List Int), (([] : List Int), (false, ())))))))))
noncomputable def QDz : TC := (.sq (.reg (rT Tryz.f30 0)) (.sq (.reg (rT Tryz.f30 1)) .rt))
def QQy : List (RV × Option Ty) := [((.c 6 true 9), some Qae)]
def g_f30 : G := ⟨TYs, [], 14, EL [], keeps, (fun _ _ => none), IL [], RL []⟩
def r_f30 (p0 : ByteArray) (p1 : Bool) (p2 : List Int) : Option (V × List VO) := some (.t Qae (p0, (1, (3, (p2, (p1, ([((5, (2048, ())), (7, (([] : List Qaa), ())))], (([] : List Int), (([] : List Int), (false, ()))))))))), [])
theorem e_f30 (p0 : ByteArray) (p1 : Bool) (p2 : List Int) : runF g_f30 QDz QQy false [.t .str p0, .t .bool p1, .t (.sl tI) p2] [] = r_f30 p0 p1 p2 := by kernel_rfl
theorem en_f30 : Qai Tryz.prog 30 := .inr ⟨by decide, _, Tryz.func30, by kernel_rfl, by kernel_rfl⟩
theorem gk_f30 : GOk Tryz.prog g_f30 := Qal _ (fun p hp => by cases hp)
theorem lk_f30 : QDz.lok g_f30 := by repeat (first | exact trivial | refine ⟨?_, ?_⟩)
theorem s_f30 (n : ByteArray) (o : Bool) (l : List Int) : r_f30 n o l = some (.t Qae (simV n o l), []) := rfl
def QPu : Ent := spec (.pr .str (.pr .bool (.pr (.sl tI) .nil))) (fun x => true) (fun x => (.t Qae (simV x.1 x.2.1 x.2.2.1)))
theorem ms_f30 : Meets Tryz.prog 30 (strip QPu) := Qag (R := runF g_f30 QDz QQy false) (mG Tryz.func30 (by kernel_rfl) Tryz.ntmps30 (by kernel_rfl) gk_f30 lk_f30) fun x _ => (e_f30 x.1 x.2.1 x.2.2.1).trans (s_f30 x.1 x.2.1 x.2.2.1)
end
end Go.Proofs.YtkngeegkjhipeaaGreat.K
