import Derived.Test.YtkngeegkjhipeaaGreatN22
set_option linter.unusedSimpArgs false
set_option linter.unusedVariables false
namespace Go.Proofs.YtkngeegkjhipeaaGreat.K
open Go.RowKit
noncomputable section
-- loop 0: (x4 : Int) (y1_0 : ByteArray) (y1_1 : Int) (y1_2 : Int) (y1_4 : Bool) (y1_5 : (List Qaq)) (y1_8 : Bool) (y2 : Qad) (y3 : (List Qaq)) (y6 : (List Int)) (y11 : (List Int)) (y16 : (List Int)); out: ('exit', 0) (y1_0 : ByteArray) (y1_1 : Int) (y1_2 : Int) (y1_4 : Bool) (y1_5 : (List Qaq)) (y1_8 : Bool) (y2 : Qad) (y3 : (List Qaq)) (y6 : (List Int)) (y11 : (List Int)) (y16 : (List Int))
def befF (l : List Int) (a b : Int) : Bool := (l.takeWhile (fun x => ine x b)).any (fun x => ieq x a)
def befOk (l : List Int) (_a _b : Int) : Bool := decide (l.length ≤ 100000)
def QiB : Fg := ⟨[(0, some (.sl tI)), (1, some tI), (2, some tI), (7, some tI)], []⟩
noncomputable def Qkk : TC := (.sq (.sq (.reg (rT Tryz.f28 2)) (.cd (.t 19) .sk (.fg ⟨[], []⟩ (.ex 0)))) (.sq (.bk 1 (.sq (.reg (rT Tryz.f28 3)) (.cd (.t 27) (.sq (.reg (rT Tryz.f28 4)) (.fg ⟨[(6, some .bool)], []⟩ .rt)) .sk))) (.reg (rT Tryz.f28 5))))
noncomputable def QAe : TC := (.sq (.reg (rT Tryz.f28 0)) (.sq (.sq (.reg (rT Tryz.f28 1)) (.bk 0 (.lp 0 QiB Qkk))) (.sq (.reg (rT Tryz.f28 6)) .rt)))
def QL6 : List (RV × Option Ty) := [((.t 6), some .bool)]
abbrev Qph : Sh := ⟨[(0, .ty (.sl tI)), (1, .ty tI), (2, .ty tI), (7, .ty tI)], []⟩
def QoT (x0 : List Int) (x1 x2 x7 : Int) : VS := Qph.st (x0, x1, x2, x7, ()) ()
abbrev Qrm : Sh := ⟨[(6, .ty .bool)], []⟩
def Qdf (x6 : Bool) : VS := Qrm.st (x6, ()) ()
abbrev QuG : Sh := ⟨[], []⟩
def Qb4  : VS := QuG.st () ()
def QRs : VS → Option (Bool × List (Bool × Exit × VS)) := mkL Qph (fun x y => (idxOk x.1 x.2.2.2.1)) (fun x y => [((befF (x.1.drop x.2.2.2.1.toNat) x.2.1 x.2.2.1), .ret, Qdf (true)), (true, .exit 0, Qb4)])
def g_f28 : G := ⟨TYs, [], 28, EL [], keeps, (Ls [QRs]), IL [], RL []⟩
def QGM (x0 : List Int) (x1 x2 x7 : Int) : Option (Exit × VS) :=
 let a1 := lgt tI x0 (Int.toNat x7)
 br (ilt x7 (llen x0)) (br (cIx x0 x7) (br (ine a1 x2) (br (cIx x0 x7) (br (ieq a1 x1) (some (.ret, Qdf true)) (some (.normal, QoT x0 x1 x2 (iadd .i64 x7 1)))) none) (some (.exit 0, Qb4))) none) (some (.exit 0, Qb4))
noncomputable def Qk0 (x0 : List Int) (x1 x2 x7 : Int) : Option (Exit × VS) := loopF (Qai g_f28 QiB Qkk) (QoT x0 x1 x2 x7)
noncomputable def Qp8 (x0 : List Int) (x1 x2 x7 : Int) : Option (Exit × VS) :=
 let a1 := lgt tI x0 (Int.toNat x7)
 br (ilt x7 (llen x0)) (br (cIx x0 x7) (br (ine a1 x2) (br (cIx x0 x7) (br (ieq a1 x1) (some (.ret, Qdf true)) (Qk0 x0 x1 x2 (iadd .i64 x7 1))) none) (some (.exit 0, Qb4))) none) (some (.exit 0, Qb4))
def Qlg (x0 : List Int) (x1 x2 x7 : Int) : Option (Exit × VS) := br (befF (x0.drop x7.toNat) x1 x2) (some (.ret, Qdf (true))) <| some (.exit 0, Qb4)
theorem QJ4 (x0 : List Int) (x1 x2 x7 : Int) : Qai g_f28 QiB Qkk (QoT x0 x1 x2 x7) = QGM x0 x1 x2 x7 := by kernel_rfl
theorem QwS (x0 : List Int) (x1 x2 x7 : Int) : Qk0 x0 x1 x2 x7 = Qp8 x0 x1 x2 x7 := (Qap _ _).trans (by
 rw [QJ4]
 simp only [QGM, Qp8, QaE, nxt_n, nxt_r, nxt_e, nxt_0]
 rfl)
def r_f28 (p0 : List Int) (p1 p2 : Int) : Option (V × List VO) := br (idxOk p0 (0 : Int)) (br (befF (p0.drop (0 : Int).toNat) p1 p2) (some (.t .bool (true), [])) (some (.t .bool false, []))) none
theorem e_f28 (p0 : List Int) (p1 p2 : Int) : runF g_f28 QAe QL6 false [.t (.sl tI) p0, .t tI p1, .t tI p2] [] = r_f28 p0 p1 p2 := by kernel_rfl
theorem en_f28 : Qag Tryz.prog 28 := .inr ⟨by decide, _, Tryz.func28, by kernel_rfl, by kernel_rfl⟩
theorem gk_f28 : GOk Tryz.prog g_f28 := Qal _ (fun p hp => by cases hp)
theorem QPm (x0 : List Int) (x1 x2 x7 : Int) (h : (idxOk x0 x7) = true) : Qk0 x0 x1 x2 x7 = Qlg x0 x1 x2 x7 := by
 simp only [idxOk, decide_eq_true_eq] at h
 obtain ⟨h0, h1, h2⟩ := h
 obtain ⟨k, rfl⟩ := Int.eq_ofNat_of_zero_le h0
 refine Qav x0 (fun k => Qk0 x0 x1 x2 (k : Int) = Qlg x0 x1 x2 (k : Int)) ?_ ?_ k (by omega)
 ·rw [QwS]
  simp only [Qp8, show ilt (x0.length : Int) (llen x0) = false from decide_eq_false (by simp only [llen]; omega), Qae, Qlg, Int.toNat_natCast, List.drop_length]
  rfl
 ·intro k hk ih
  rw [QwS]
  simp only [Qp8, show ilt (k : Int) (llen x0) = true from decide_eq_true (by simp only [llen]; omega), QaA, hk, decide_true, Qac, Int.toNat_natCast, add1 (show k < 4611686018427387904 by omega), QaF (y := tI) hk, ih]
  simp only [Qlg, Int.toNat_natCast, List.drop_eq_getElem_cons hk, befF, List.takeWhile_cons]
  cases ine x0[k] x2 with
  | false => rfl
  | true =>
   simp only [Qac, if_true, List.any_cons]
   cases ieq x0[k] x1 <;> rfl
theorem QIc : ∀ S l p, g_f28.L 0 (fgt QiB S) = some (true, l) → pickA l = some p → loopF (Qai g_f28 QiB Qkk) S = some p :=
 QaG (s := Qph) ⟨by decide, by decide⟩ (by kernel_rfl) fun x y hok p hp => by
 simp only [Qas, Qao] at hp
 exact (QPm x.1 x.2.1 x.2.2.1 x.2.2.2.1 (by simpa using hok)).trans hp
theorem lk_f28 : QAe.lok g_f28 := by
 repeat (first | exact trivial | exact QIc | refine ⟨?_, ?_⟩)
theorem s_f28 (l : List Int) (a b : Int) (h : befOk l a b = true) : r_f28 l a b = some (.t .bool (befF l a b), []) := by
 have hl : l.length ≤ 100000 := of_decide_eq_true h
 simp only [r_f28, show idxOk l 0 = true from decide_eq_true (by omega), Qac, Int.toNat_zero, List.drop_zero]
 cases befF l a b <;> rfl
def QLc : Ent := spec (.pr (.sl tI) (.pr tI (.pr tI .nil))) (fun x => (befOk x.1 x.2.1 x.2.2.1)) (fun x => (.t .bool (befF x.1 x.2.1 x.2.2.1)))
theorem ms_f28 : Meets Tryz.prog 28 (strip QLc) := Qaf (R := runF g_f28 QAe QL6 false) (mG Tryz.func28 (by kernel_rfl) Tryz.ntmps28 (by kernel_rfl) gk_f28 lk_f28) fun x hok => (e_f28 x.1 x.2.1 x.2.2.1).trans (s_f28 x.1 x.2.1 x.2.2.1 hok)
end
end Go.Proofs.YtkngeegkjhipeaaGreat.K
