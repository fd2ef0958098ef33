import Derived.Test.YtkngeegkjhipeaaGreatN21
set_option linter.unusedSimpArgs false
set_option linter.unusedVariables false
namespace Go.Proofs.YtkngeegkjhipeaaGreat.K
open Go.RowKit
noncomputable section
abbrev sOdd : List ByteArray := [ByteArray.mk #[], ByteArray.mk #[97, 32, 98], ByteArray.mk #[120]]
abbrev sA : ByteArray := ByteArray.mk #[97]
abbrev kRSA : Keep := (5, (2048, ()))
def oddP (d : Dice) (e : Qad) : Qad × Dice :=
 bif ieq (dval d 8) 0 then ((dwdG (dnext d 8) sOdd, e.2), dwdGN (dnext d 8) sOdd) else
 bif ieq (dval d 8) 1 then ((e.1, (dof (dnext d 8) [0, 5, iadd .i64 e.2.2.1 1], e.2.2)), dofN (dnext d 8) [0, 5, iadd .i64 e.2.2.1 1]) else
 bif ieq (dval d 8) 2 then ((e.1, (e.2.1, (dof (dnext d 8) [5, 0], e.2.2.2))), dofN (dnext d 8) [5, 0]) else
 bif ieq (dval d 8) 3 then ((e.1, (e.2.1, (e.2.2.1, (e.2.2.2.1 ++ [dof (dnext d 8) [17, 0, 3, 3]], e.2.2.2.2)))), dofN (dnext d 8) [17, 0, 3, 3]) else
 bif ieq (dval d 8) 4 then ((e.1, (e.2.1, (e.2.2.1, (e.2.2.2.1, (e.2.2.2.2.1, (e.2.2.2.2.2.1, ([2, 1], e.2.2.2.2.2.2.2))))))), dnext d 8) else
 bif ieq (dval d 8) 5 then ((e.1, (e.2.1, (e.2.2.1, (e.2.2.2.1, (e.2.2.2.2.1, (e.2.2.2.2.2.1, (e.2.2.2.2.2.2.1, ([dof (dnext d 8) [5, 3, 0]], e.2.2.2.2.2.2.2.2)))))))), dofN (dnext d 8) [5, 3, 0]) else
 bif ieq (dval d 8) 6 then ((e.1, (e.2.1, (e.2.2.1, (e.2.2.2.1, (e.2.2.2.2.1, (e.2.2.2.2.2.1 ++ [((1, (0, ())), (0, (([] : List Qaa), ())))], e.2.2.2.2.2.2)))))), dnext d 8) else
 ((e.1, (e.2.1, (e.2.2.1, (e.2.2.2.1, (e.2.2.2.2.1, (e.2.2.2.2.2.1 ++ [(kRSA, (7, (chnV (dnext d 8) sA kRSA 8, ())))], e.2.2.2.2.2.2)))))), chnN (dnext d 8) sA kRSA 8)
def oddV (d : Dice) (e : Qad) : Qad := (oddP d e).1
def oddN (d : Dice) (e : Qad) : Dice := (oddP d e).2
def simV (n : ByteArray) (o : Bool) (l : List Int) : Qad := (n, (1, (3, (l, (o, ([(kRSA, (7, (([] : List Qaa), ())))], (([] : List Int), (([] : List Int), (false, ())))))))))
noncomputable def QAa : TC := (.sq (.reg (rT Tryz.f30 0)) (.sq (.reg (rT Tryz.f30 1)) .rt))
def QL9 : List (RV × Option Ty) := [((.c 6 true 9), some Qai)]
def g_f30 : G := ⟨TYs, [], 14, EL [], keeps, (fun _ _ => none), IL [], RL []⟩
def r_f30 (p0 : ByteArray) (p1 : Bool) (p2 : List Int) : Option (V × List VO) := some (.t Qai (p0, (1, (3, (p2, (p1, ([((5, (2048, ())), (7, (([] : List Qaa), ())))], (([] : List Int), (([] : List Int), (false, ()))))))))), [])
theorem e_f30 (p0 : ByteArray) (p1 : Bool) (p2 : List Int) : runF g_f30 QAa QL9 false [.t .str p0, .t .bool p1, .t (.sl tI) p2] [] = r_f30 p0 p1 p2 := by kernel_rfl
theorem en_f30 : Qag Tryz.prog 30 := .inr ⟨by decide, _, Tryz.func30, by kernel_rfl, by kernel_rfl⟩
theorem gk_f30 : GOk Tryz.prog g_f30 := Qan _ (fun p hp => by cases hp)
theorem lk_f30 : QAa.lok g_f30 := by repeat (first | exact trivial | refine ⟨?_, ?_⟩)
theorem s_f30 (n : ByteArray) (o : Bool) (l : List Int) : r_f30 n o l = some (.t Qai (simV n o l), []) := rfl
def QLb : Ent := spec (.pr .str (.pr .bool (.pr (.sl tI) .nil))) (fun x => true) (fun x => (.t Qai (simV x.1 x.2.1 x.2.2.1)))
theorem ms_f30 : Meets Tryz.prog 30 (strip QLb) := Qaf (R := runF g_f30 QAa QL9 false) (mG Tryz.func30 (by kernel_rfl) Tryz.ntmps30 (by kernel_rfl) gk_f30 lk_f30) fun x _ => (e_f30 x.1 x.2.1 x.2.2.1).trans (s_f30 x.1 x.2.1 x.2.2.1)
end
end Go.Proofs.YtkngeegkjhipeaaGreat.K
