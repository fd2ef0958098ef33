import Derived.Test.YtkngeegkjhipeaaGreatN12
set_option linter.unusedSimpArgs false
set_option linter.unusedVariables false
namespace Go.Proofs.YtkngeegkjhipeaaGreat.K
open Go.RowKit
noncomputable section
abbrev lastC (l : List Qaa) : Qaa := cAt l (l.length - 1)
def chkCh (l : List Qaa) (a h : List Int) (d : Int) (n : ByteArray) : Int :=
 if l.length = 0 then 4 else if 8 < l.length then 3 else
 bif QnO l then 9 else bif !hasS (QaD (cAt l 0)) n then 14 else bif Qca l h d 13 then 13 else bif Qca l h d 7 then 7 else
 bif Qc1 l 11 then 11 else bif Qc1 l 15 then 15 else bif Qc1 l 10 then 10 else bif !hasF a (cSeal (lastC l)).1 then 12 else 0
def Qg0 (l : List Qaa) (a h : List Int) (_d : Int) (_n : ByteArray) : Bool := QaJ l && decide (a.length ≤ 100000 ∧ h.length ≤ 100000)
def heldZ (l : List Qaa) (h : List Int) (d : Int) (k : Nat) : Option Int := (([13, 7] : List Int).drop k).find? fun e => Qca l h d e
def failZ (l : List Qaa) (k : Nat) : Option Int := (([11, 15, 10] : List Int).drop k).find? fun e => Qc1 l e
theorem QDn {l : List Qaa} (h : QaJ l = true) {k : Nat} (hk : k < l.length) : (QaD (cAt l k)).length ≤ 100000 := Qtc (QFY h hk)
abbrev Trip : Type := Int × Int × Int × Unit
def Qiz : Fg := ⟨[(0, some (.sl Qab)), (1, some (.sl tI)), (7, none), (8, none), (34, some Qam), (35, some tI)], [(7, some (.sl tI)), (8, some tI)]⟩
noncomputable def Qkh : TC := (.sq (.reg (rT Tryz.f42 10)) (.sq (.cd (.t 36) .sk (.fg ⟨[(0, some (.sl Qab)), (1, some (.sl tI))], []⟩ (.ex 1))) (.sq (.bk 2 (.sq (.reg (rT Tryz.f42 11)) (.sq (.reg (rT Tryz.f42 12)) (.cd (.t 40) (.sq (.reg (rT Tryz.f42 13)) (.fg ⟨[(10, some tI)], []⟩ .rt)) .sk)))) (.reg (rT Tryz.f42 14)))))
def QsW : Fg := ⟨[(0, some (.sl Qab)), (1, some (.sl tI)), (43, some (.pr tI (.pr tI (.pr tI .nil)))), (44, some tI)], []⟩
noncomputable def Qv3 : TC := (.sq (.reg (rT Tryz.f42 16)) (.sq (.cd (.t 45) .sk (.fg ⟨[(0, some (.sl Qab)), (1, some (.sl tI))], []⟩ (.ex 3))) (.sq (.bk 4 (.sq (.reg (rT Tryz.f42 17)) (.sq (.reg (rT Tryz.f42 18)) (.cd (.t 49) (.sq (.reg (rT Tryz.f42 19)) (.fg ⟨[(10, some tI)], []⟩ .rt)) .sk)))) (.reg (rT Tryz.f42 20)))))
noncomputable def Qz0 : TC := (.sq (.reg (rT Tryz.f42 0)) (.sq (.bk 0 (.sq (.reg (rT Tryz.f42 1)) (.cd (.t 15) (.sq (.reg (rT Tryz.f42 2)) .rt) (.sq (.reg (rT Tryz.f42 3)) (.cd (.t 19) (.sq (.reg (rT Tryz.f42 4)) .rt) (.sq (.reg (rT Tryz.f42 5)) (.cd (.t 23) (.sq (.reg (rT Tryz.f42 6)) .rt) (.sq (.reg (rT Tryz.f42 7)) (.cd (.t 26) (.sq (.reg (rT Tryz.f42 8)) .rt) .sk))))))))) (.sq (.sq (.reg (rT Tryz.f42 9)) (.bk 1 (.lp 0 Qiz Qkh))) (.sq (.sq (.reg (rT Tryz.f42 15)) (.bk 3 (.lp 1 QsW Qv3))) (.sq (.sq (.reg (rT Tryz.f42 21)) (.cd (.t 62) (.sq (.reg (rT Tryz.f42 22)) .rt) .sk)) (.sq (.reg (rT Tryz.f42 23)) .rt))))))
def QLZ : List (RV × Option Ty) := [((.t 10), some tI)]
abbrev Qpa : Sh := ⟨[(0, .ty (.sl Qab)), (1, .ty (.sl tI)), (7, .ptr 7 0), (8, .ptr 8 0), (34, .ty Qam), (35, .ty tI)], [(7, .box (.sl tI)), (8, .box tI)]⟩
def QoM (x0 : List Qaa) (x1 : List Int) (x34 : Keep) (x35 : Int) (y7 : List Int) (y8 : Int) : VS := Qpa.st (x0, x1, (), (), x34, x35, ()) (y7, y8, ())
abbrev Qrm : Sh := ⟨[(10, .ty tI)], []⟩
def Qdc (x10 : Int) : VS := Qrm.st (x10, ()) ()
abbrev QuD : Sh := ⟨[(0, .ty (.sl Qab)), (1, .ty (.sl tI))], []⟩
def Qeo (x0 : List Qaa) (x1 : List Int) : VS := QuD.st (x0, x1, ()) ()
abbrev QBp : Sh := ⟨[(0, .ty (.sl Qab)), (1, .ty (.sl tI)), (43, .ty (.pr tI (.pr tI (.pr tI .nil)))), (44, .ty tI)], []⟩
def QAq (x0 : List Qaa) (x1 : List Int) (x43 : (Int × (Int × (Int × Unit)))) (x44 : Int) : VS := QBp.st (x0, x1, x43, x44, ()) ()
abbrev Qyy : Sh := ⟨[(10, .ty tI)], []⟩
def QfY (x10 : Int) : VS := Qyy.st (x10, ()) ()
abbrev QBo : Sh := ⟨[(0, .ty (.sl Qab)), (1, .ty (.sl tI))], []⟩
def Qhs (x0 : List Qaa) (x1 : List Int) : VS := QBo.st (x0, x1, ()) ()
def QRp : VS → Option (Bool × List (Bool × Exit × VS)) := mkL Qpa (fun x y => (x.2.2.2.2.1 == ((13, (7, ())) : Keep) && decide (0 ≤ x.2.2.2.2.2.1 ∧ x.2.2.2.2.2.1 ≤ 2) && Qcy x.1 y.1 y.2.1 0)) (fun x y => [(((heldZ x.1 y.1 y.2.1 x.2.2.2.2.2.1.toNat).isSome), .ret, Qdc ((heldZ x.1 y.1 y.2.1 x.2.2.2.2.2.1.toNat).getD 0)), (true, .exit 1, Qeo (x.1) (x.2.1))])
def L_f61 : VS → Option (Bool × List (Bool × Exit × VS)) := mkL QBp (fun x y => (x.2.2.1 == ((11, (15, (10, ()))) : Trip) && decide (0 ≤ x.2.2.2.1 ∧ x.2.2.2.1 ≤ 3) && QaJ x.1)) (fun x y => [(((failZ x.1 x.2.2.2.1.toNat).isSome), .ret, QfY ((failZ x.1 x.2.2.2.1.toNat).getD 0)), (true, .exit 3, Qhs (x.1) (x.2.1))])
def g_f42 : G := ⟨TYs, [], 63, EL [(59, Qoa), (60, Qq2), (60, Qq3), (63, QKV), (66, QKS), (1001666, Qfh), (1001698, Qfg)], keeps, (Ls [QRp, L_f61]), IL [], RL []⟩
def QGD (x0 : List Qaa) (x1 : List Int) (x34 : Keep) (x35 : Int) (y7 : List Int) (y8 : Int) : Option (Exit × VS) :=
 let a1 := Qbd tI 2 x34 x35
 br (ilt x35 2) (br (arrOk tI 2 x34 x35) (br (Qcy x0 y7 y8 a1) (br (Qca x0 y7 y8 a1) (some (.ret, Qdc a1)) (some (.normal, QoM x0 x1 x34 (iadd .i64 x35 1) y7 y8))) none) none) (some (.exit 1, Qeo x0 x1))
noncomputable def Qgf (x0 : List Qaa) (x1 : List Int) (x34 : Keep) (x35 : Int) (y7 : List Int) (y8 : Int) : Option (Exit × VS) := loopF (Qaj g_f42 Qiz Qkh) (QoM x0 x1 x34 x35 y7 y8)
noncomputable def Qp2 (x0 : List Qaa) (x1 : List Int) (x34 : Keep) (x35 : Int) (y7 : List Int) (y8 : Int) : Option (Exit × VS) :=
 let a1 := Qbd tI 2 x34 x35
 br (ilt x35 2) (br (arrOk tI 2 x34 x35) (br (Qcy x0 y7 y8 a1) (br (Qca x0 y7 y8 a1) (some (.ret, Qdc a1)) (Qgf x0 x1 x34 (iadd .i64 x35 1) y7 y8)) none) none) (some (.exit 1, Qeo x0 x1))
def Qgi (x0 : List Qaa) (x1 : List Int) (x34 : Keep) (x35 : Int) (y7 : List Int) (y8 : Int) : Option (Exit × VS) :=
 let a1 := heldZ x0 y7 y8 x35.toNat
 br (a1.isSome) (some (.ret, Qdc (a1.getD 0))) <| some (.exit 1, Qeo (x0) (x1))
theorem QJY (x0 : List Qaa) (x1 : List Int) (x34 : Keep) (x35 : Int) (y7 : List Int) (y8 : Int) : Qaj g_f42 Qiz Qkh (QoM x0 x1 x34 x35 y7 y8) = QGD x0 x1 x34 x35 y7 y8 := by kernel_rfl
theorem Qqh (x0 : List Qaa) (x1 : List Int) (x34 : Keep) (x35 : Int) (y7 : List Int) (y8 : Int) : Qgf x0 x1 x34 x35 y7 y8 = Qp2 x0 x1 x34 x35 y7 y8 := (Qaq _ _).trans (by
 rw [QJY]
 simp only [QGD, Qp2, QaE, nxt_n, nxt_r, nxt_e, nxt_0]
 rfl)
def b_f61 (x0 : List Qaa) (x1 : List Int) (x43 : (Int × (Int × (Int × Unit)))) (x44 : Int) : Option (Exit × VS) :=
 let a1 := Qbd tI 3 x43 x44
 br (ilt x44 3) (br (arrOk tI 3 x43 x44) (br (Qnu x0 a1) (br (Qc1 x0 a1) (some (.ret, QfY a1)) (some (.normal, QAq x0 x1 x43 (iadd .i64 x44 1)))) none) none) (some (.exit 3, Qhs x0 x1))
noncomputable def Qm5 (x0 : List Qaa) (x1 : List Int) (x43 : (Int × (Int × (Int × Unit)))) (x44 : Int) : Option (Exit × VS) := loopF (Qaj g_f42 QsW Qv3) (QAq x0 x1 x43 x44)
noncomputable def n_f61 (x0 : List Qaa) (x1 : List Int) (x43 : (Int × (Int × (Int × Unit)))) (x44 : Int) : Option (Exit × VS) :=
 let a1 := Qbd tI 3 x43 x44
 br (ilt x44 3) (br (arrOk tI 3 x43 x44) (br (Qnu x0 a1) (br (Qc1 x0 a1) (some (.ret, QfY a1)) (Qm5 x0 x1 x43 (iadd .i64 x44 1))) none) none) (some (.exit 3, Qhs x0 x1))
def QjH (x0 : List Qaa) (x1 : List Int) (x43 : (Int × (Int × (Int × Unit)))) (x44 : Int) : Option (Exit × VS) := br ((failZ x0 x44.toNat).isSome) (some (.ret, QfY ((failZ x0 x44.toNat).getD 0))) <| some (.exit 3, Qhs (x0) (x1))
theorem be_f61 (x0 : List Qaa) (x1 : List Int) (x43 : (Int × (Int × (Int × Unit)))) (x44 : Int) : Qaj g_f42 QsW Qv3 (QAq x0 x1 x43 x44) = b_f61 x0 x1 x43 x44 := by kernel_rfl
theorem QwH (x0 : List Qaa) (x1 : List Int) (x43 : (Int × (Int × (Int × Unit)))) (x44 : Int) : Qm5 x0 x1 x43 x44 = n_f61 x0 x1 x43 x44 := (Qaq _ _).trans (by
 rw [be_f61]
 simp only [b_f61, n_f61, QaE, nxt_n, nxt_r, nxt_e, nxt_0]
 rfl)
def r_f42 (p0 : List Qaa) (p1 p2 : List Int) (p3 : Int) (p4 : ByteArray) : Option (V × List VO) :=
 let a1 := ((((((((((((((lgt Qab (p0) (Int.toNat (isub .i64 (llen (p0)) 1))).2).2).2).2).2).2).2).2).2).2).2).1).1)
 let a2 := ((((((((((((lgt Qab p0 (Int.toNat 0)).2).2).2).2).2).2).2).2).2).2).1)
 let a3 := (heldZ p0 p2 p3 (0 : Int).toNat)
 let a4 := (failZ (p0) (0 : Int).toNat)
 br (ieq (llen p0) 0) (some (.t tI 4, [])) (br (igt (llen p0) 8) (some (.t tI 3, [])) (br (okBad p0) (br (QnO p0) (some (.t tI 9, [])) (br (cIx p0 0) (br (Qij a2 p4) (br (!(hasS a2 p4)) (some (.t tI 14, [])) (br ((13, (7, ())) == ((13, (7, ())) : Keep) && decide (0 ≤ (0 : Int) ∧ (0 : Int) ≤ 2) && Qcy p0 p2 p3 0) (br (a3.isSome) (some (.t tI (a3.getD 0), [])) (br ((11, (15, (10, ()))) == ((11, (15, (10, ()))) : Trip) && decide (0 ≤ (0 : Int) ∧ (0 : Int) ≤ 3) && QaJ (p0)) (br (a4.isSome) (some (.t tI (a4.getD 0), [])) (br (cIx (p0) (isub .i64 (llen (p0)) 1)) (br (QaY (p1) a1) (br (!(hasF (p1) a1)) (some (.t tI 12, [])) (some (.t tI 0, []))) none) none)) none)) none)) none) none)) none))
theorem e_f42 (p0 : List Qaa) (p1 p2 : List Int) (p3 : Int) (p4 : ByteArray) : runF g_f42 Qz0 QLZ false [.t (.sl Qab) p0, .t (.sl tI) p1, .t (.sl tI) p2, .t tI p3, .t .str p4] [] = r_f42 p0 p1 p2 p3 p4 := by kernel_rfl
theorem en_f42 : Qag Tryz.prog 42 := .inr ⟨by decide, _, Tryz.func42, by kernel_rfl, by kernel_rfl⟩
theorem gk_f42 : GOk Tryz.prog g_f42 := Qan _ (gA (gC Qs1 Qsf (gC QFf QDy (gC QFg QDz (gC en_f63 ms_f63 (gC en_f66 ms_f66 (gC QnC Qm2 (gC QnB Qm1 gN))))))))
theorem QPk (x0 : List Qaa) (x1 : List Int) (x34 : Keep) (x35 : Int) (y7 : List Int) (y8 : Int) (h : (x34 == ((13, (7, ())) : Keep) && decide (0 ≤ x35 ∧ x35 ≤ 2) && Qcy x0 y7 y8 0) = true) : Qgf x0 x1 x34 x35 y7 y8 = Qgi x0 x1 x34 x35 y7 y8 := by
 simp only [Bool.and_eq_true, decide_eq_true_eq, beq_iff_eq] at h
 obtain ⟨⟨rfl, h1, h2⟩, hc⟩ := h
 have hc : ∀ e, Qcy x0 y7 y8 e = true := fun e => hc
 obtain ⟨k, rfl⟩ := Int.eq_ofNat_of_zero_le h1
 have k2 : Qgf x0 x1 (13, (7, ())) ((2 : Nat) : Int) y7 y8 = Qgi x0 x1 (13, (7, ())) ((2 : Nat) : Int) y7 y8 := by
  rw [Qqh]
  rfl
 have k1 : Qgf x0 x1 (13, (7, ())) ((1 : Nat) : Int) y7 y8 = Qgi x0 x1 (13, (7, ())) ((1 : Nat) : Int) y7 y8 := by
  rw [Qqh]
  simp only [Qp2, hc, show ilt ((1 : Nat) : Int) 2 = true from rfl, show arrOk tI 2 ((13, (7, ())) : Keep) ((1 : Nat) : Int) = true from rfl, show Qbd tI 2 ((13, (7, ())) : Keep) ((1 : Nat) : Int) = 7 from rfl, Qac, show iadd .i64 ((1 : Nat) : Int) 1 = ((2 : Nat) : Int) from rfl, k2]
  simp only [Qgi, heldZ, Int.toNat_natCast, List.drop_succ_cons, List.drop_zero, List.drop_nil, List.find?_cons, List.find?_nil]
  cases Qca x0 y7 y8 7 <;> rfl
 have k0 : Qgf x0 x1 (13, (7, ())) ((0 : Nat) : Int) y7 y8 = Qgi x0 x1 (13, (7, ())) ((0 : Nat) : Int) y7 y8 := by
  rw [Qqh]
  simp only [Qp2, hc, show ilt ((0 : Nat) : Int) 2 = true from rfl, show arrOk tI 2 ((13, (7, ())) : Keep) ((0 : Nat) : Int) = true from rfl, show Qbd tI 2 ((13, (7, ())) : Keep) ((0 : Nat) : Int) = 13 from rfl, Qac, show iadd .i64 ((0 : Nat) : Int) 1 = ((1 : Nat) : Int) from rfl, k1]
  simp only [Qgi, heldZ, Int.toNat_natCast, List.drop_succ_cons, List.drop_zero, List.drop_nil, List.find?_cons, List.find?_nil]
  cases Qca x0 y7 y8 13 <;> rfl
 have : k = 0 ∨ k = 1 ∨ k = 2 := by omega
 rcases this with rfl | rfl | rfl
 ·exact k0
 ·exact k1
 ·exact k2
theorem l_f61 (x0 : List Qaa) (x1 : List Int) (x43 : (Int × (Int × (Int × Unit)))) (x44 : Int) (h : (x43 == ((11, (15, (10, ()))) : Trip) && decide (0 ≤ x44 ∧ x44 ≤ 3) && QaJ x0) = true) : Qm5 x0 x1 x43 x44 = QjH x0 x1 x43 x44 := by
 simp only [Bool.and_eq_true, decide_eq_true_eq, beq_iff_eq] at h
 obtain ⟨⟨rfl, h1, h2⟩, hc⟩ := h
 have hc : ∀ e, Qnu x0 e = true := fun e => hc
 obtain ⟨k, rfl⟩ := Int.eq_ofNat_of_zero_le h1
 have k3 : Qm5 x0 x1 (11, (15, (10, ()))) ((3 : Nat) : Int) = QjH x0 x1 (11, (15, (10, ()))) ((3 : Nat) : Int) := by
  rw [QwH]
  rfl
 have k2 : Qm5 x0 x1 (11, (15, (10, ()))) ((2 : Nat) : Int) = QjH x0 x1 (11, (15, (10, ()))) ((2 : Nat) : Int) := by
  rw [QwH]
  simp only [n_f61, hc, show ilt ((2 : Nat) : Int) 3 = true from rfl, show arrOk tI 3 ((11, (15, (10, ()))) : Trip) ((2 : Nat) : Int) = true from rfl, show Qbd tI 3 ((11, (15, (10, ()))) : Trip) ((2 : Nat) : Int) = 10 from rfl, Qac, show iadd .i64 ((2 : Nat) : Int) 1 = ((3 : Nat) : Int) from rfl, k3]
  simp only [QjH, failZ, Int.toNat_natCast, List.drop_succ_cons, List.drop_zero, List.drop_nil, List.find?_cons, List.find?_nil]
  cases Qc1 x0 10 <;> rfl
 have k1 : Qm5 x0 x1 (11, (15, (10, ()))) ((1 : Nat) : Int) = QjH x0 x1 (11, (15, (10, ()))) ((1 : Nat) : Int) := by
  rw [QwH]
  simp only [n_f61, hc, show ilt ((1 : Nat) : Int) 3 = true from rfl, show arrOk tI 3 ((11, (15, (10, ()))) : Trip) ((1 : Nat) : Int) = true from rfl, show Qbd tI 3 ((11, (15, (10, ()))) : Trip) ((1 : Nat) : Int) = 15 from rfl, Qac, show iadd .i64 ((1 : Nat) : Int) 1 = ((2 : Nat) : Int) from rfl, k2]
  simp only [QjH, failZ, Int.toNat_natCast, List.drop_succ_cons, List.drop_zero, List.drop_nil, List.find?_cons, List.find?_nil]
  cases Qc1 x0 15 <;> rfl
 have k0 : Qm5 x0 x1 (11, (15, (10, ()))) ((0 : Nat) : Int) = QjH x0 x1 (11, (15, (10, ()))) ((0 : Nat) : Int) := by
  rw [QwH]
  simp only [n_f61, hc, show ilt ((0 : Nat) : Int) 3 = true from rfl, show arrOk tI 3 ((11, (15, (10, ()))) : Trip) ((0 : Nat) : Int) = true from rfl, show Qbd tI 3 ((11, (15, (10, ()))) : Trip) ((0 : Nat) : Int) = 11 from rfl, Qac, show iadd .i64 ((0 : Nat) : Int) 1 = ((1 : Nat) : Int) from rfl, k1]
  simp only [QjH, failZ, Int.toNat_natCast, List.drop_succ_cons, List.drop_zero, List.drop_nil, List.find?_cons, List.find?_nil]
  cases Qc1 x0 11 <;> rfl
 have : k = 0 ∨ k = 1 ∨ k = 2 ∨ k = 3 := by omega
 rcases this with rfl | rfl | rfl | rfl
 ·exact k0
 ·exact k1
 ·exact k2
 ·exact k3
theorem QH3 : ∀ S l p, g_f42.L 0 (fgt Qiz S) = some (true, l) → pickA l = some p → loopF (Qaj g_f42 Qiz Qkh) S = some p :=
 QaF (s := Qpa) ⟨by decide, by decide⟩ (by kernel_rfl) fun x y hok p hp => by
 simp only [Qas, Qap] at hp
 exact (QPk x.1 x.2.1 x.2.2.2.2.1 x.2.2.2.2.2.1 y.1 y.2.1 (by simpa using hok)).trans hp
theorem lo_f61 : ∀ S l p, g_f42.L 1 (fgt QsW S) = some (true, l) → pickA l = some p → loopF (Qaj g_f42 QsW Qv3) S = some p :=
 QaF (s := QBp) ⟨by decide, by decide⟩ (by kernel_rfl) fun x y hok p hp => by
 simp only [Qas, Qap] at hp
 exact (l_f61 x.1 x.2.1 x.2.2.1 x.2.2.2.1 (by simpa using hok)).trans hp
theorem lk_f42 : Qz0.lok g_f42 := by
 repeat (first | exact trivial | exact QH3 | exact lo_f61 | refine ⟨?_, ?_⟩)
theorem s_f42 (l : List Qaa) (a h : List Int) (d : Int) (n : ByteArray) (hok : Qg0 l a h d n = true) : r_f42 l a h d n = some (.t tI (chkCh l a h d n), []) := by
 simp only [Qg0, Bool.and_eq_true, decide_eq_true_eq] at hok
 obtain ⟨hc, ha, hh⟩ := hok
 have hl := QnH hc
 unfold chkCh
 by_cases h0 : l.length = 0
 ·simp only [r_f42, show ieq (llen l) 0 = true from beq_iff_eq.2 (by simp only [llen]; omega), Qac, if_pos h0]
 by_cases h8 : 8 < l.length
 ·simp only [r_f42, show ieq (llen l) 0 = false from beq_eq_false_iff_ne.2 (by simp only [llen]; omega), Qae, show igt (llen l) 8 = true from decide_eq_true (by simp only [llen]; omega), Qac, if_neg h0, if_pos h8]
 have c1 : ∀ e, Qcy l h d e = true := fun e => decide_eq_true ⟨hl, hh⟩
 have c2 : cIx l 0 = true := by simp only [cIx, decide_eq_true_eq]; omega
 have c3 : Qij (QaD (cAt l 0)) n = true := by
  have := QDn hc (show 0 < l.length by omega)
  exact decide_eq_true (by omega)
 have c4 : isub .i64 (llen l) 1 = ((l.length - 1 : Nat) : Int) := by rw [QbE (by simp only [llen]; omega)]; simp only [llen]; omega
 have c5 : cIx l ((l.length - 1 : Nat) : Int) = true := by simp only [cIx, decide_eq_true_eq]; omega
 have c6 : ∀ v, QaY a v = true := fun v => decide_eq_true ha
 have d1 : decide ((0 : Int) ≤ 0 ∧ (0 : Int) ≤ 2) = true := rfl
 have d2 : decide ((0 : Int) ≤ 0 ∧ (0 : Int) ≤ 3) = true := rfl
 simp only [r_f42, show ieq (llen l) 0 = false from beq_eq_false_iff_ne.2 (by simp only [llen]; omega), Qae, show igt (llen l) 8 = false from decide_eq_false (by simp only [llen]; omega), if_neg h0, if_neg h8, show okBad l = true from hc, hc, c1, c2, c4, c5, c6, d1, d2, Qac, Int.toNat_natCast, Int.toNat_zero, show lgt Qab l 0 = cAt l 0 from rfl, show lgt Qab l (l.length - 1) = lastC l from rfl, beq_self_eq_true, Bool.and_self]
 rw [show (Qij (cAt l 0).2.2.2.2.2.2.2.2.2.2.1 n) = true from c3, Qac]
 cases QnO l with
 | true => rfl
 | false =>
  rw [Qae, cond_false]
  cases hasS (QaD (cAt l 0)) n with
  | false => rfl
  | true =>
   rw [Bool.not_true, Qae, cond_false]
   simp only [heldZ, failZ, List.drop_zero, List.find?_cons, List.find?_nil]
   cases Qca l h d 13 with
   | true => rfl
   | false =>
    rw [cond_false]
    cases Qca l h d 7 with
    | true => rfl
    | false =>
     rw [cond_false]
     simp only [Option.isSome_none, Qae]
     cases Qc1 l 11 with
     | true => rfl
     | false =>
      rw [cond_false]
      cases Qc1 l 15 with
      | true => rfl
      | false =>
       rw [cond_false]
       cases Qc1 l 10 with
       | true => rfl
       | false =>
        simp only [Option.isSome_none, Qae, cond_false]
        cases hasF a (cSeal (lastC l)).1 <;> rfl
def QK5 : Ent := spec (.pr (.sl Qab) (.pr (.sl tI) (.pr (.sl tI) (.pr tI (.pr .str .nil))))) (fun x => (Qg0 x.1 x.2.1 x.2.2.1 x.2.2.2.1 x.2.2.2.2.1)) (fun x => (.t tI (chkCh x.1 x.2.1 x.2.2.1 x.2.2.2.1 x.2.2.2.2.1)))
theorem ms_f42 : Meets Tryz.prog 42 (strip QK5) := Qaf (R := runF g_f42 Qz0 QLZ false) (mG Tryz.func42 (by kernel_rfl) Tryz.ntmps42 (by kernel_rfl) gk_f42 lk_f42) fun x hok => (e_f42 x.1 x.2.1 x.2.2.1 x.2.2.2.1 x.2.2.2.2.1).trans (s_f42 x.1 x.2.1 x.2.2.1 x.2.2.2.1 x.2.2.2.2.1 hok)
end
end Go.Proofs.YtkngeegkjhipeaaGreat.K
