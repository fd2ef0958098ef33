import Derived.Test.YtkngeegkjhipeaaGreatN12
set_option linter.unusedSimpArgs false
set_option linter.unusedVariables false
namespace Go.Proofs.YtkngeegkjhipeaaGreat.K
open Go.RowKit
noncomputable section
abbrev lastC (l : List Qaa) : Qaa := cAt l (l.length - 1)
def chkCh (l : List Qaa) (a h : List Int) (d : Int) (n : ByteArray) : Int :=
 if l.length = 0 then 4 else if 8 < l.length then 3 else
 bif Qn4 l then 9 else bif !hasS (QaD (cAt l 0)) n then 14 else bif Qcb l h d 13 then 13 else bif Qcb l h d 7 then 7 else
 bif Qc0 l 11 then 11 else bif Qc0 l 15 then 15 else bif Qc0 l 10 then 10 else bif !hasF a (cSeal (lastC l)).1 then 12 else 0
def Qg1 (l : List Qaa) (a h : List Int) (_d : Int) (_n : ByteArray) : Bool := QaJ l && decide (a.length ≤ 100000 ∧ h.length ≤ 100000)
def heldZ (l : List Qaa) (h : List Int) (d : Int) (k : Nat) : Option Int := (([13, 7] : List Int).drop k).find? fun e => Qcb l h d e
def failZ (l : List Qaa) (k : Nat) : Option Int := (([11, 15, 10] : List Int).drop k).find? fun e => Qc0 l e
theorem QD2 {l : List Qaa} (h : QaJ l = true) {k : Nat} (hk : k < l.length) : (QaD (cAt l k)).length ≤ 100000 := QtD (QGF h hk)
abbrev Trip : Type := Int × Int × Int × Unit
def QiD : Fg := ⟨[(0, some (.sl Qab)), (1, some (.sl tI)), (7, none), (8, none), (34, some Qan), (35, some tI)], [(7, some (.sl tI)), (8, some tI)]⟩
noncomputable def Qkm : TC := (.sq (.reg (rT Tryz.f42 10)) (.sq (.cd (.t 36) .sk (.fg ⟨[(0, some (.sl Qab)), (1, some (.sl tI))], []⟩ (.ex 1))) (.sq (.bk 2 (.sq (.reg (rT Tryz.f42 11)) (.sq (.reg (rT Tryz.f42 12)) (.cd (.t 40) (.sq (.reg (rT Tryz.f42 13)) (.fg ⟨[(10, some tI)], []⟩ .rt)) .sk)))) (.reg (rT Tryz.f42 14)))))
def Qtl : Fg := ⟨[(0, some (.sl Qab)), (1, some (.sl tI)), (43, some (.pr tI (.pr tI (.pr tI .nil)))), (44, some tI)], []⟩
noncomputable def Qwy : TC := (.sq (.reg (rT Tryz.f42 16)) (.sq (.cd (.t 45) .sk (.fg ⟨[(0, some (.sl Qab)), (1, some (.sl tI))], []⟩ (.ex 3))) (.sq (.bk 4 (.sq (.reg (rT Tryz.f42 17)) (.sq (.reg (rT Tryz.f42 18)) (.cd (.t 49) (.sq (.reg (rT Tryz.f42 19)) (.fg ⟨[(10, some tI)], []⟩ .rt)) .sk)))) (.reg (rT Tryz.f42 20)))))
noncomputable def QAD : TC := (.sq (.reg (rT Tryz.f42 0)) (.sq (.bk 0 (.sq (.reg (rT Tryz.f42 1)) (.cd (.t 15) (.sq (.reg (rT Tryz.f42 2)) .rt) (.sq (.reg (rT Tryz.f42 3)) (.cd (.t 19) (.sq (.reg (rT Tryz.f42 4)) .rt) (.sq (.reg (rT Tryz.f42 5)) (.cd (.t 23) (.sq (.reg (rT Tryz.f42 6)) .rt) (.sq (.reg (rT Tryz.f42 7)) (.cd (.t 26) (.sq (.reg (rT Tryz.f42 8)) .rt) .sk))))))))) (.sq (.sq (.reg (rT Tryz.f42 9)) (.bk 1 (.lp 0 QiD Qkm))) (.sq (.sq (.reg (rT Tryz.f42 15)) (.bk 3 (.lp 1 Qtl Qwy))) (.sq (.sq (.reg (rT Tryz.f42 21)) (.cd (.t 62) (.sq (.reg (rT Tryz.f42 22)) .rt) .sk)) (.sq (.reg (rT Tryz.f42 23)) .rt))))))
def QMF : List (RV × Option Ty) := [((.t 10), some tI)]
abbrev Qps : Sh := ⟨[(0, .ty (.sl Qab)), (1, .ty (.sl tI)), (7, .ptr 7 0), (8, .ptr 8 0), (34, .ty Qan), (35, .ty tI)], [(7, .box (.sl tI)), (8, .box tI)]⟩
def Qo3 (x0 : List Qaa) (x1 : List Int) (x34 : Keep) (x35 : Int) (y7 : List Int) (y8 : Int) : VS := Qps.st (x0, x1, (), (), x34, x35, ()) (y7, y8, ())
abbrev QrD : Sh := ⟨[(10, .ty tI)], []⟩
def Qdb (x10 : Int) : VS := QrD.st (x10, ()) ()
abbrev Qu6 : Sh := ⟨[(0, .ty (.sl Qab)), (1, .ty (.sl tI))], []⟩
def Qen (x0 : List Qaa) (x1 : List Int) : VS := Qu6.st (x0, x1, ()) ()
abbrev QB5 : Sh := ⟨[(0, .ty (.sl Qab)), (1, .ty (.sl tI)), (43, .ty (.pr tI (.pr tI (.pr tI .nil)))), (44, .ty tI)], []⟩
def QA5 (x0 : List Qaa) (x1 : List Int) (x43 : (Int × (Int × (Int × Unit)))) (x44 : Int) : VS := QB5.st (x0, x1, x43, x44, ()) ()
abbrev Qy9 : Sh := ⟨[(10, .ty tI)], []⟩
def QfX (x10 : Int) : VS := Qy9.st (x10, ()) ()
abbrev QB4 : Sh := ⟨[(0, .ty (.sl Qab)), (1, .ty (.sl tI))], []⟩
def Qht (x0 : List Qaa) (x1 : List Int) : VS := QB4.st (x0, x1, ()) ()
def QSg : VS → Option (Bool × List (Bool × Exit × VS)) := mkL Qps (fun x y => (x.2.2.2.2.1 == ((13, (7, ())) : Keep) && decide (0 ≤ x.2.2.2.2.2.1 ∧ x.2.2.2.2.2.1 ≤ 2) && Qcv x.1 y.1 y.2.1 0)) (fun x y => [(((heldZ x.1 y.1 y.2.1 x.2.2.2.2.2.1.toNat).isSome), .ret, Qdb ((heldZ x.1 y.1 y.2.1 x.2.2.2.2.2.1.toNat).getD 0)), (true, .exit 1, Qen (x.1) (x.2.1))])
def L_f61 : VS → Option (Bool × List (Bool × Exit × VS)) := mkL QB5 (fun x y => (x.2.2.1 == ((11, (15, (10, ()))) : Trip) && decide (0 ≤ x.2.2.2.1 ∧ x.2.2.2.1 ≤ 3) && QaJ x.1)) (fun x y => [(((failZ x.1 x.2.2.2.1.toNat).isSome), .ret, QfX ((failZ x.1 x.2.2.2.1.toNat).getD 0)), (true, .exit 3, Qht (x.1) (x.2.1))])
def g_f42 : G := ⟨TYs, [], 63, EL [(59, Qop), (60, Qrk), (60, Qrl), (63, QLB), (66, QLy), (1001666, Qfh), (1001698, Qfg)], keeps, (Ls [QSg, L_f61]), IL [], RL []⟩
def QHk (x0 : List Qaa) (x1 : List Int) (x34 : Keep) (x35 : Int) (y7 : List Int) (y8 : Int) : Option (Exit × VS) :=
 let a1 := Qbd tI 2 x34 x35
 br (ilt x35 2) (br (arrOk tI 2 x34 x35) (br (Qcv x0 y7 y8 a1) (br (Qcb x0 y7 y8 a1) (some (.ret, Qdb a1)) (some (.normal, Qo3 x0 x1 x34 (iadd .i64 x35 1) y7 y8))) none) none) (some (.exit 1, Qen x0 x1))
noncomputable def Qgg (x0 : List Qaa) (x1 : List Int) (x34 : Keep) (x35 : Int) (y7 : List Int) (y8 : Int) : Option (Exit × VS) := loopF (Qaj g_f42 QiD Qkm) (Qo3 x0 x1 x34 x35 y7 y8)
noncomputable def Qqm (x0 : List Qaa) (x1 : List Int) (x34 : Keep) (x35 : Int) (y7 : List Int) (y8 : Int) : Option (Exit × VS) :=
 let a1 := Qbd tI 2 x34 x35
 br (ilt x35 2) (br (arrOk tI 2 x34 x35) (br (Qcv x0 y7 y8 a1) (br (Qcb x0 y7 y8 a1) (some (.ret, Qdb a1)) (Qgg x0 x1 x34 (iadd .i64 x35 1) y7 y8)) none) none) (some (.exit 1, Qen x0 x1))
def Qgj (x0 : List Qaa) (x1 : List Int) (x34 : Keep) (x35 : Int) (y7 : List Int) (y8 : Int) : Option (Exit × VS) :=
 let a1 := heldZ x0 y7 y8 x35.toNat
 br (a1.isSome) (some (.ret, Qdb (a1.getD 0))) <| some (.exit 1, Qen (x0) (x1))
theorem QKD (x0 : List Qaa) (x1 : List Int) (x34 : Keep) (x35 : Int) (y7 : List Int) (y8 : Int) : Qaj g_f42 QiD Qkm (Qo3 x0 x1 x34 x35 y7 y8) = QHk x0 x1 x34 x35 y7 y8 := by kernel_rfl
theorem QqB (x0 : List Qaa) (x1 : List Int) (x34 : Keep) (x35 : Int) (y7 : List Int) (y8 : Int) : Qgg x0 x1 x34 x35 y7 y8 = Qqm x0 x1 x34 x35 y7 y8 := (Qaq _ _).trans (by
 rw [QKD]
 simp only [QHk, Qqm, QaE, nxt_n, nxt_r, nxt_e, nxt_0]
 rfl)
def b_f61 (x0 : List Qaa) (x1 : List Int) (x43 : (Int × (Int × (Int × Unit)))) (x44 : Int) : Option (Exit × VS) :=
 let a1 := Qbd tI 3 x43 x44
 br (ilt x44 3) (br (arrOk tI 3 x43 x44) (br (QnK x0 a1) (br (Qc0 x0 a1) (some (.ret, QfX a1)) (some (.normal, QA5 x0 x1 x43 (iadd .i64 x44 1)))) none) none) (some (.exit 3, Qht x0 x1))
noncomputable def Qnf (x0 : List Qaa) (x1 : List Int) (x43 : (Int × (Int × (Int × Unit)))) (x44 : Int) : Option (Exit × VS) := loopF (Qaj g_f42 Qtl Qwy) (QA5 x0 x1 x43 x44)
noncomputable def n_f61 (x0 : List Qaa) (x1 : List Int) (x43 : (Int × (Int × (Int × Unit)))) (x44 : Int) : Option (Exit × VS) :=
 let a1 := Qbd tI 3 x43 x44
 br (ilt x44 3) (br (arrOk tI 3 x43 x44) (br (QnK x0 a1) (br (Qc0 x0 a1) (some (.ret, QfX a1)) (Qnf x0 x1 x43 (iadd .i64 x44 1))) none) none) (some (.exit 3, Qht x0 x1))
def QjN (x0 : List Qaa) (x1 : List Int) (x43 : (Int × (Int × (Int × Unit)))) (x44 : Int) : Option (Exit × VS) := br ((failZ x0 x44.toNat).isSome) (some (.ret, QfX ((failZ x0 x44.toNat).getD 0))) <| some (.exit 3, Qht (x0) (x1))
theorem be_f61 (x0 : List Qaa) (x1 : List Int) (x43 : (Int × (Int × (Int × Unit)))) (x44 : Int) : Qaj g_f42 Qtl Qwy (QA5 x0 x1 x43 x44) = b_f61 x0 x1 x43 x44 := by kernel_rfl
theorem Qxi (x0 : List Qaa) (x1 : List Int) (x43 : (Int × (Int × (Int × Unit)))) (x44 : Int) : Qnf x0 x1 x43 x44 = n_f61 x0 x1 x43 x44 := (Qaq _ _).trans (by
 rw [be_f61]
 simp only [b_f61, n_f61, QaE, nxt_n, nxt_r, nxt_e, nxt_0]
 rfl)
def r_f42 (p0 : List Qaa) (p1 p2 : List Int) (p3 : Int) (p4 : ByteArray) : Option (V × List VO) :=
 let a1 := ((((((((((((((lgt Qab (p0) (Int.toNat (isub .i64 (llen (p0)) 1))).2).2).2).2).2).2).2).2).2).2).2).1).1)
 let a2 := ((((((((((((lgt Qab p0 (Int.toNat 0)).2).2).2).2).2).2).2).2).2).2).1)
 let a3 := (heldZ p0 p2 p3 (0 : Int).toNat)
 let a4 := (failZ (p0) (0 : Int).toNat)
 br (ieq (llen p0) 0) (some (.t tI 4, [])) (br (igt (llen p0) 8) (some (.t tI 3, [])) (br (okBad p0) (br (Qn4 p0) (some (.t tI 9, [])) (br (cIx p0 0) (br (Qim a2 p4) (br (!(hasS a2 p4)) (some (.t tI 14, [])) (br ((13, (7, ())) == ((13, (7, ())) : Keep) && decide (0 ≤ (0 : Int) ∧ (0 : Int) ≤ 2) && Qcv p0 p2 p3 0) (br (a3.isSome) (some (.t tI (a3.getD 0), [])) (br ((11, (15, (10, ()))) == ((11, (15, (10, ()))) : Trip) && decide (0 ≤ (0 : Int) ∧ (0 : Int) ≤ 3) && QaJ (p0)) (br (a4.isSome) (some (.t tI (a4.getD 0), [])) (br (cIx (p0) (isub .i64 (llen (p0)) 1)) (br (QaW (p1) a1) (br (!(hasF (p1) a1)) (some (.t tI 12, [])) (some (.t tI 0, []))) none) none)) none)) none)) none) none)) none))
theorem e_f42 (p0 : List Qaa) (p1 p2 : List Int) (p3 : Int) (p4 : ByteArray) : runF g_f42 QAD QMF false [.t (.sl Qab) p0, .t (.sl tI) p1, .t (.sl tI) p2, .t tI p3, .t .str p4] [] = r_f42 p0 p1 p2 p3 p4 := by kernel_rfl
theorem en_f42 : Qag Tryz.prog 42 := .inr ⟨by decide, _, Tryz.func42, by kernel_rfl, by kernel_rfl⟩
theorem gk_f42 : GOk Tryz.prog g_f42 := Qao _ (gA (gC Qtq QsF (gC QFW QEd (gC QFX QEe (gC en_f63 ms_f63 (gC en_f66 ms_f66 (gC QnS Qnc (gC QnR Qnb gN))))))))
theorem QP8 (x0 : List Qaa) (x1 : List Int) (x34 : Keep) (x35 : Int) (y7 : List Int) (y8 : Int) (h : (x34 == ((13, (7, ())) : Keep) && decide (0 ≤ x35 ∧ x35 ≤ 2) && Qcv x0 y7 y8 0) = true) : Qgg x0 x1 x34 x35 y7 y8 = Qgj x0 x1 x34 x35 y7 y8 := by
 simp only [Bool.and_eq_true, decide_eq_true_eq, beq_iff_eq] at h
 obtain ⟨⟨rfl, h1, h2⟩, hc⟩ := h
 have hc : ∀ e, Qcv x0 y7 y8 e = true := fun e => hc
 obtain ⟨k, rfl⟩ := Int.eq_ofNat_of_zero_le h1
 have k2 : Qgg x0 x1 (13, (7, ())) ((2 : Nat) : Int) y7 y8 = Qgj x0 x1 (13, (7, ())) ((2 : Nat) : Int) y7 y8 := by
  rw [QqB]
  rfl
 have k1 : Qgg x0 x1 (13, (7, ())) ((1 : Nat) : Int) y7 y8 = Qgj x0 x1 (13, (7, ())) ((1 : Nat) : Int) y7 y8 := by
  rw [QqB]
  simp only [Qqm, hc, show ilt ((1 : Nat) : Int) 2 = true from rfl, show arrOk tI 2 ((13, (7, ())) : Keep) ((1 : Nat) : Int) = true from rfl, show Qbd tI 2 ((13, (7, ())) : Keep) ((1 : Nat) : Int) = 7 from rfl, Qac, show iadd .i64 ((1 : Nat) : Int) 1 = ((2 : Nat) : Int) from rfl, k2]
  simp only [Qgj, heldZ, Int.toNat_natCast, List.drop_succ_cons, List.drop_zero, List.drop_nil, List.find?_cons, List.find?_nil]
  cases Qcb x0 y7 y8 7 <;> rfl
 have k0 : Qgg x0 x1 (13, (7, ())) ((0 : Nat) : Int) y7 y8 = Qgj x0 x1 (13, (7, ())) ((0 : Nat) : Int) y7 y8 := by
  rw [QqB]
  simp only [Qqm, hc, show ilt ((0 : Nat) : Int) 2 = true from rfl, show arrOk tI 2 ((13, (7, ())) : Keep) ((0 : Nat) : Int) = true from rfl, show Qbd tI 2 ((13, (7, ())) : Keep) ((0 : Nat) : Int) = 13 from rfl, Qac, show iadd .i64 ((0 : Nat) : Int) 1 = ((1 : Nat) : Int) from rfl, k1]
  simp only [Qgj, heldZ, Int.toNat_natCast, List.drop_succ_cons, List.drop_zero, List.drop_nil, List.find?_cons, List.find?_nil]
  cases Qcb x0 y7 y8 13 <;> rfl
 have : k = 0 ∨ k = 1 ∨ k = 2 := by omega
 rcases this with rfl | rfl | rfl
 ·exact k0
 ·exact k1
 ·exact k2
theorem l_f61 (x0 : List Qaa) (x1 : List Int) (x43 : (Int × (Int × (Int × Unit)))) (x44 : Int) (h : (x43 == ((11, (15, (10, ()))) : Trip) && decide (0 ≤ x44 ∧ x44 ≤ 3) && QaJ x0) = true) : Qnf x0 x1 x43 x44 = QjN x0 x1 x43 x44 := by
 simp only [Bool.and_eq_true, decide_eq_true_eq, beq_iff_eq] at h
 obtain ⟨⟨rfl, h1, h2⟩, hc⟩ := h
 have hc : ∀ e, QnK x0 e = true := fun e => hc
 obtain ⟨k, rfl⟩ := Int.eq_ofNat_of_zero_le h1
 have k3 : Qnf x0 x1 (11, (15, (10, ()))) ((3 : Nat) : Int) = QjN x0 x1 (11, (15, (10, ()))) ((3 : Nat) : Int) := by
  rw [Qxi]
  rfl
 have k2 : Qnf x0 x1 (11, (15, (10, ()))) ((2 : Nat) : Int) = QjN x0 x1 (11, (15, (10, ()))) ((2 : Nat) : Int) := by
  rw [Qxi]
  simp only [n_f61, hc, show ilt ((2 : Nat) : Int) 3 = true from rfl, show arrOk tI 3 ((11, (15, (10, ()))) : Trip) ((2 : Nat) : Int) = true from rfl, show Qbd tI 3 ((11, (15, (10, ()))) : Trip) ((2 : Nat) : Int) = 10 from rfl, Qac, show iadd .i64 ((2 : Nat) : Int) 1 = ((3 : Nat) : Int) from rfl, k3]
  simp only [QjN, failZ, Int.toNat_natCast, List.drop_succ_cons, List.drop_zero, List.drop_nil, List.find?_cons, List.find?_nil]
  cases Qc0 x0 10 <;> rfl
 have k1 : Qnf x0 x1 (11, (15, (10, ()))) ((1 : Nat) : Int) = QjN x0 x1 (11, (15, (10, ()))) ((1 : Nat) : Int) := by
  rw [Qxi]
  simp only [n_f61, hc, show ilt ((1 : Nat) : Int) 3 = true from rfl, show arrOk tI 3 ((11, (15, (10, ()))) : Trip) ((1 : Nat) : Int) = true from rfl, show Qbd tI 3 ((11, (15, (10, ()))) : Trip) ((1 : Nat) : Int) = 15 from rfl, Qac, show iadd .i64 ((1 : Nat) : Int) 1 = ((2 : Nat) : Int) from rfl, k2]
  simp only [QjN, failZ, Int.toNat_natCast, List.drop_succ_cons, List.drop_zero, List.drop_nil, List.find?_cons, List.find?_nil]
  cases Qc0 x0 15 <;> rfl
 have k0 : Qnf x0 x1 (11, (15, (10, ()))) ((0 : Nat) : Int) = QjN x0 x1 (11, (15, (10, ()))) ((0 : Nat) : Int) := by
  rw [Qxi]
  simp only [n_f61, hc, show ilt ((0 : Nat) : Int) 3 = true from rfl, show arrOk tI 3 ((11, (15, (10, ()))) : Trip) ((0 : Nat) : Int) = true from rfl, show Qbd tI 3 ((11, (15, (10, ()))) : Trip) ((0 : Nat) : Int) = 11 from rfl, Qac, show iadd .i64 ((0 : Nat) : Int) 1 = ((1 : Nat) : Int) from rfl, k1]
  simp only [QjN, failZ, Int.toNat_natCast, List.drop_succ_cons, List.drop_zero, List.drop_nil, List.find?_cons, List.find?_nil]
  cases Qc0 x0 11 <;> rfl
 have : k = 0 ∨ k = 1 ∨ k = 2 ∨ k = 3 := by omega
 rcases this with rfl | rfl | rfl | rfl
 ·exact k0
 ·exact k1
 ·exact k2
 ·exact k3
theorem QIK : ∀ S l p, g_f42.L 0 (fgt QiD S) = some (true, l) → pickA l = some p → loopF (Qaj g_f42 QiD Qkm) S = some p :=
 QaF (s := Qps) ⟨by decide, by decide⟩ (by kernel_rfl) fun x y hok p hp => by
 simp only [Qar, Qap] at hp
 exact (QP8 x.1 x.2.1 x.2.2.2.2.1 x.2.2.2.2.2.1 y.1 y.2.1 (by simpa using hok)).trans hp
theorem lo_f61 : ∀ S l p, g_f42.L 1 (fgt Qtl S) = some (true, l) → pickA l = some p → loopF (Qaj g_f42 Qtl Qwy) S = some p :=
 QaF (s := QB5) ⟨by decide, by decide⟩ (by kernel_rfl) fun x y hok p hp => by
 simp only [Qar, Qap] at hp
 exact (l_f61 x.1 x.2.1 x.2.2.1 x.2.2.2.1 (by simpa using hok)).trans hp
theorem lk_f42 : QAD.lok g_f42 := by
 repeat (first | exact trivial | exact QIK | exact lo_f61 | refine ⟨?_, ?_⟩)
theorem s_f42 (l : List Qaa) (a h : List Int) (d : Int) (n : ByteArray) (hok : Qg1 l a h d n = true) : r_f42 l a h d n = some (.t tI (chkCh l a h d n), []) := by
 simp only [Qg1, Bool.and_eq_true, decide_eq_true_eq] at hok
 obtain ⟨hc, ha, hh⟩ := hok
 have hl := QnX hc
 unfold chkCh
 by_cases h0 : l.length = 0
 ·simp only [r_f42, show ieq (llen l) 0 = true from beq_iff_eq.2 (by simp only [llen]; omega), Qac, if_pos h0]
 by_cases h8 : 8 < l.length
 ·simp only [r_f42, show ieq (llen l) 0 = false from beq_eq_false_iff_ne.2 (by simp only [llen]; omega), Qae, show igt (llen l) 8 = true from decide_eq_true (by simp only [llen]; omega), Qac, if_neg h0, if_pos h8]
 have c1 : ∀ e, Qcv l h d e = true := fun e => decide_eq_true ⟨hl, hh⟩
 have c2 : cIx l 0 = true := by simp only [cIx, decide_eq_true_eq]; omega
 have c3 : Qim (QaD (cAt l 0)) n = true := by
  have := QD2 hc (show 0 < l.length by omega)
  exact decide_eq_true (by omega)
 have c4 : isub .i64 (llen l) 1 = ((l.length - 1 : Nat) : Int) := by rw [QbF (by simp only [llen]; omega)]; simp only [llen]; omega
 have c5 : cIx l ((l.length - 1 : Nat) : Int) = true := by simp only [cIx, decide_eq_true_eq]; omega
 have c6 : ∀ v, QaW a v = true := fun v => decide_eq_true ha
 have d1 : decide ((0 : Int) ≤ 0 ∧ (0 : Int) ≤ 2) = true := rfl
 have d2 : decide ((0 : Int) ≤ 0 ∧ (0 : Int) ≤ 3) = true := rfl
 simp only [r_f42, show ieq (llen l) 0 = false from beq_eq_false_iff_ne.2 (by simp only [llen]; omega), Qae, show igt (llen l) 8 = false from decide_eq_false (by simp only [llen]; omega), if_neg h0, if_neg h8, show okBad l = true from hc, hc, c1, c2, c4, c5, c6, d1, d2, Qac, Int.toNat_natCast, Int.toNat_zero, show lgt Qab l 0 = cAt l 0 from rfl, show lgt Qab l (l.length - 1) = lastC l from rfl, beq_self_eq_true, Bool.and_self]
 rw [show (Qim (cAt l 0).2.2.2.2.2.2.2.2.2.2.1 n) = true from c3, Qac]
 cases Qn4 l with
 | true => rfl
 | false =>
  rw [Qae, cond_false]
  cases hasS (QaD (cAt l 0)) n with
  | false => rfl
  | true =>
   rw [Bool.not_true, Qae, cond_false]
   simp only [heldZ, failZ, List.drop_zero, List.find?_cons, List.find?_nil]
   cases Qcb l h d 13 with
   | true => rfl
   | false =>
    rw [cond_false]
    cases Qcb l h d 7 with
    | true => rfl
    | false =>
     rw [cond_false]
     simp only [Option.isSome_none, Qae]
     cases Qc0 l 11 with
     | true => rfl
     | false =>
      rw [cond_false]
      cases Qc0 l 15 with
      | true => rfl
      | false =>
       rw [cond_false]
       cases Qc0 l 10 with
       | true => rfl
       | false =>
        simp only [Option.isSome_none, Qae, cond_false]
        cases hasF a (cSeal (lastC l)).1 <;> rfl
def QLL : Ent := spec (.pr (.sl Qab) (.pr (.sl tI) (.pr (.sl tI) (.pr tI (.pr .str .nil))))) (fun x => (Qg1 x.1 x.2.1 x.2.2.1 x.2.2.2.1 x.2.2.2.2.1)) (fun x => (.t tI (chkCh x.1 x.2.1 x.2.2.1 x.2.2.2.1 x.2.2.2.2.1)))
theorem ms_f42 : Meets Tryz.prog 42 (strip QLL) := Qaf (R := runF g_f42 QAD QMF false) (mG Tryz.func42 (by kernel_rfl) Tryz.ntmps42 (by kernel_rfl) gk_f42 lk_f42) fun x hok => (e_f42 x.1 x.2.1 x.2.2.1 x.2.2.2.1 x.2.2.2.2.1).trans (s_f42 x.1 x.2.1 x.2.2.1 x.2.2.2.1 x.2.2.2.2.1 hok)
end
end Go.Proofs.YtkngeegkjhipeaaGreat.K
