import Derived.Test.YtkngeegkjhipeaaGreatN12
set_option linter.unusedSimpArgs false
set_option linter.unusedVariables false
namespace Go.Proofs.YtkngeegkjhipeaaGreat.K
open Go.RowKit
noncomputable section
abbrev lastC (l : List Qaa) : Qaa := cAt l (l.length - 1)
def chkCh (l : List Qaa) (a h : List Int) (d : Int) (n : ByteArray) : Int :=
 if l.length = 0 then 4 else if 8 < l.length then 3 else
 bif QjV l then 9 else bif !hasS (QaF (cAt l 0)) n then 14 else bif Qbv l h d 13 then 13 else bif Qbv l h d 7 then 7 else
 bif QbH l 11 then 11 else bif QbH l 15 then 15 else bif QbH l 10 then 10 else bif !hasF a (cSeal (lastC l)).1 then 12 else 0
def QcG (l : List Qaa) (a h : List Int) (_d : Int) (_n : ByteArray) : Bool := QaI l && decide (a.length ≤ 100000 ∧ h.length ≤ 100000)
def heldZ (l : List Qaa) (h : List Int) (d : Int) (k : Nat) : Option Int := (([13, 7] : List Int).drop k).find? fun e => Qbv l h d e
def failZ (l : List Qaa) (k : Nat) : Option Int := (([11, 15, 10] : List Int).drop k).find? fun e => QbH l e
theorem QuP {l : List Qaa} (h : QaI l = true) {k : Nat} (hk : k < l.length) : (QaF (cAt l k)).length ≤ 100000 := QvQ (QyR h hk)
abbrev Trip : Type := Int × Int × Int × Unit
def Qjp : Fg := ⟨[(0, some (.sl Qab)), (1, some (.sl tI)), (7, none), (8, none), (34, some Qah), (35, some tI)], [(7, some (.sl tI)), (8, some tI)]⟩
noncomputable def Qlu : TC := (.sq (.reg (rT Tryz.f42 10)) (.sq (.cd (.t 36) .sk (.fg ⟨[(0, some (.sl Qab)), (1, some (.sl tI))], []⟩ (.ex 1))) (.sq (.bk 2 (.sq (.reg (rT Tryz.f42 11)) (.sq (.reg (rT Tryz.f42 12)) (.cd (.t 40) (.sq (.reg (rT Tryz.f42 13)) (.fg ⟨[(10, some tI)], []⟩ .rt)) .sk)))) (.reg (rT Tryz.f42 14)))))
def Qvy : Fg := ⟨[(0, some (.sl Qab)), (1, some (.sl tI)), (43, some (.pr tI (.pr tI (.pr tI .nil)))), (44, some tI)], []⟩
noncomputable def Qy2 : TC := (.sq (.reg (rT Tryz.f42 16)) (.sq (.cd (.t 45) .sk (.fg ⟨[(0, some (.sl Qab)), (1, some (.sl tI))], []⟩ (.ex 3))) (.sq (.bk 4 (.sq (.reg (rT Tryz.f42 17)) (.sq (.reg (rT Tryz.f42 18)) (.cd (.t 49) (.sq (.reg (rT Tryz.f42 19)) (.fg ⟨[(10, some tI)], []⟩ .rt)) .sk)))) (.reg (rT Tryz.f42 20)))))
noncomputable def QDo : TC := (.sq (.reg (rT Tryz.f42 0)) (.sq (.bk 0 (.sq (.reg (rT Tryz.f42 1)) (.cd (.t 15) (.sq (.reg (rT Tryz.f42 2)) .rt) (.sq (.reg (rT Tryz.f42 3)) (.cd (.t 19) (.sq (.reg (rT Tryz.f42 4)) .rt) (.sq (.reg (rT Tryz.f42 5)) (.cd (.t 23) (.sq (.reg (rT Tryz.f42 6)) .rt) (.sq (.reg (rT Tryz.f42 7)) (.cd (.t 26) (.sq (.reg (rT Tryz.f42 8)) .rt) .sk))))))))) (.sq (.sq (.reg (rT Tryz.f42 9)) (.bk 1 (.lp 0 Qjp Qlu))) (.sq (.sq (.reg (rT Tryz.f42 15)) (.bk 3 (.lp 1 Qvy Qy2))) (.sq (.sq (.reg (rT Tryz.f42 21)) (.cd (.t 62) (.sq (.reg (rT Tryz.f42 22)) .rt) .sk)) (.sq (.reg (rT Tryz.f42 23)) .rt))))))
def QQn : List (RV × Option Ty) := [((.t 10), some tI)]
abbrev Qrg : Sh := ⟨[(0, .ty (.sl Qab)), (1, .ty (.sl tI)), (7, .ptr 7 0), (8, .ptr 8 0), (34, .ty Qah), (35, .ty tI)], [(7, .box (.sl tI)), (8, .box tI)]⟩
def QqG (x0 : List Qaa) (x1 : List Int) (x34 : Keep) (x35 : Int) (y7 : List Int) (y8 : Int) : VS := Qrg.st (x0, x1, (), (), x34, x35, ()) (y7, y8, ())
abbrev QtQ : Sh := ⟨[(10, .ty tI)], []⟩
def Qdz (x10 : Int) : VS := QtQ.st (x10, ()) ()
abbrev Qxq : Sh := ⟨[(0, .ty (.sl Qab)), (1, .ty (.sl tI))], []⟩
def QeV (x0 : List Qaa) (x1 : List Int) : VS := Qxq.st (x0, x1, ()) ()
abbrev QE0 : Sh := ⟨[(0, .ty (.sl Qab)), (1, .ty (.sl tI)), (43, .ty (.pr tI (.pr tI (.pr tI .nil)))), (44, .ty tI)], []⟩
def QDV (x0 : List Qaa) (x1 : List Int) (x43 : (Int × (Int × (Int × Unit)))) (x44 : Int) : VS := QE0.st (x0, x1, x43, x44, ()) ()
abbrev QBT : Sh := ⟨[(10, .ty tI)], []⟩
def Qgx (x10 : Int) : VS := QBT.st (x10, ()) ()
abbrev QEZ : Sh := ⟨[(0, .ty (.sl Qab)), (1, .ty (.sl tI))], []⟩
def Qh3 (x0 : List Qaa) (x1 : List Int) : VS := QEZ.st (x0, x1, ()) ()
def QWk : VS → Option (Bool × List (Bool × Exit × VS)) := mkL Qrg (fun x y => (x.2.2.2.2.1 == ((13, (7, ())) : Keep) && decide (0 ≤ x.2.2.2.2.2.1 ∧ x.2.2.2.2.2.1 ≤ 2) && QcI x.1 y.1 y.2.1 0)) (fun x y => [(((heldZ x.1 y.1 y.2.1 x.2.2.2.2.2.1.toNat).isSome), .ret, Qdz ((heldZ x.1 y.1 y.2.1 x.2.2.2.2.2.1.toNat).getD 0)), (true, .exit 1, QeV (x.1) (x.2.1))])
def L_f61 : VS → Option (Bool × List (Bool × Exit × VS)) := mkL QE0 (fun x y => (x.2.2.1 == ((11, (15, (10, ()))) : Trip) && decide (0 ≤ x.2.2.2.1 ∧ x.2.2.2.1 ≤ 3) && QaI x.1)) (fun x y => [(((failZ x.1 x.2.2.2.1.toNat).isSome), .ret, Qgx ((failZ x.1 x.2.2.2.1.toNat).getD 0)), (true, .exit 3, Qh3 (x.1) (x.2.1))])
def g_f42 : G := ⟨TYs, [], 63, EL [(59, QpV), (60, Qtl), (60, Qtm), (63, QPe), (66, QPb), (1001666, QfR), (1001698, QfQ)], keeps, (Ls [QWk, L_f61]), IL [], RL []⟩
def QKo (x0 : List Qaa) (x1 : List Int) (x34 : Keep) (x35 : Int) (y7 : List Int) (y8 : Int) : Option (Exit × VS) :=
 let a1 := Qbl tI 2 x34 x35
 br (ilt x35 2) (br (arrOk tI 2 x34 x35) (br (QcI x0 y7 y8 a1) (br (Qbv x0 y7 y8 a1) (some (.ret, Qdz a1)) (some (.normal, QqG x0 x1 x34 (iadd .i64 x35 1) y7 y8))) none) none) (some (.exit 1, QeV x0 x1))
noncomputable def QgP (x0 : List Qaa) (x1 : List Int) (x34 : Keep) (x35 : Int) (y7 : List Int) (y8 : Int) : Option (Exit × VS) := loopF (Qaj g_f42 Qjp Qlu) (QqG x0 x1 x34 x35 y7 y8)
noncomputable def Qsl (x0 : List Qaa) (x1 : List Int) (x34 : Keep) (x35 : Int) (y7 : List Int) (y8 : Int) : Option (Exit × VS) :=
 let a1 := Qbl tI 2 x34 x35
 br (ilt x35 2) (br (arrOk tI 2 x34 x35) (br (QcI x0 y7 y8 a1) (br (Qbv x0 y7 y8 a1) (some (.ret, Qdz a1)) (QgP x0 x1 x34 (iadd .i64 x35 1) y7 y8)) none) none) (some (.exit 1, QeV x0 x1))
def QgS (x0 : List Qaa) (x1 : List Int) (x34 : Keep) (x35 : Int) (y7 : List Int) (y8 : Int) : Option (Exit × VS) :=
 let a1 := heldZ x0 y7 y8 x35.toNat
 br (a1.isSome) (some (.ret, Qdz (a1.getD 0))) <| some (.exit 1, QeV (x0) (x1))
theorem QN9 (x0 : List Qaa) (x1 : List Int) (x34 : Keep) (x35 : Int) (y7 : List Int) (y8 : Int) : Qaj g_f42 Qjp Qlu (QqG x0 x1 x34 x35 y7 y8) = QKo x0 x1 x34 x35 y7 y8 := by kernel_rfl
theorem QsE (x0 : List Qaa) (x1 : List Int) (x34 : Keep) (x35 : Int) (y7 : List Int) (y8 : Int) : QgP x0 x1 x34 x35 y7 y8 = Qsl x0 x1 x34 x35 y7 y8 := (Qap _ _).trans (by
 rw [QN9]
 simp only [QKo, Qsl, QaB, nxt_n, nxt_r, nxt_e, nxt_0]
 rfl)
def b_f61 (x0 : List Qaa) (x1 : List Int) (x43 : (Int × (Int × (Int × Unit)))) (x44 : Int) : Option (Exit × VS) :=
 let a1 := Qbl tI 3 x43 x44
 br (ilt x44 3) (br (arrOk tI 3 x43 x44) (br (Qpb x0 a1) (br (QbH x0 a1) (some (.ret, Qgx a1)) (some (.normal, QDV x0 x1 x43 (iadd .i64 x44 1)))) none) none) (some (.exit 3, Qh3 x0 x1))
noncomputable def QoN (x0 : List Qaa) (x1 : List Int) (x43 : (Int × (Int × (Int × Unit)))) (x44 : Int) : Option (Exit × VS) := loopF (Qaj g_f42 Qvy Qy2) (QDV x0 x1 x43 x44)
noncomputable def n_f61 (x0 : List Qaa) (x1 : List Int) (x43 : (Int × (Int × (Int × Unit)))) (x44 : Int) : Option (Exit × VS) :=
 let a1 := Qbl tI 3 x43 x44
 br (ilt x44 3) (br (arrOk tI 3 x43 x44) (br (Qpb x0 a1) (br (QbH x0 a1) (some (.ret, Qgx a1)) (QoN x0 x1 x43 (iadd .i64 x44 1))) none) none) (some (.exit 3, Qh3 x0 x1))
def QkN (x0 : List Qaa) (x1 : List Int) (x43 : (Int × (Int × (Int × Unit)))) (x44 : Int) : Option (Exit × VS) := br ((failZ x0 x44.toNat).isSome) (some (.ret, Qgx ((failZ x0 x44.toNat).getD 0))) <| some (.exit 3, Qh3 (x0) (x1))
theorem be_f61 (x0 : List Qaa) (x1 : List Int) (x43 : (Int × (Int × (Int × Unit)))) (x44 : Int) : Qaj g_f42 Qvy Qy2 (QDV x0 x1 x43 x44) = b_f61 x0 x1 x43 x44 := by kernel_rfl
theorem QzR (x0 : List Qaa) (x1 : List Int) (x43 : (Int × (Int × (Int × Unit)))) (x44 : Int) : QoN x0 x1 x43 x44 = n_f61 x0 x1 x43 x44 := (Qap _ _).trans (by
 rw [be_f61]
 simp only [b_f61, n_f61, QaB, nxt_n, nxt_r, nxt_e, nxt_0]
 rfl)
def r_f42 (p0 : List Qaa) (p1 p2 : List Int) (p3 : Int) (p4 : ByteArray) : Option (V × List VO) :=
 let a1 := ((((((((((((((lgt Qab (p0) (Int.toNat (isub .i64 (llen (p0)) 1))).2).2).2).2).2).2).2).2).2).2).2).1).1)
 let a2 := ((((((((((((lgt Qab p0 (Int.toNat 0)).2).2).2).2).2).2).2).2).2).2).1)
 let a3 := (heldZ p0 p2 p3 (0 : Int).toNat)
 let a4 := (failZ (p0) (0 : Int).toNat)
 br (ieq (llen p0) 0) (some (.t tI 4, [])) (br (igt (llen p0) 8) (some (.t tI 3, [])) (br (okBad p0) (br (QjV p0) (some (.t tI 9, [])) (br (cIx p0 0) (br (Qi0 a2 p4) (br (!(hasS a2 p4)) (some (.t tI 14, [])) (br ((13, (7, ())) == ((13, (7, ())) : Keep) && decide (0 ≤ (0 : Int) ∧ (0 : Int) ≤ 2) && QcI p0 p2 p3 0) (br (a3.isSome) (some (.t tI (a3.getD 0), [])) (br ((11, (15, (10, ()))) == ((11, (15, (10, ()))) : Trip) && decide (0 ≤ (0 : Int) ∧ (0 : Int) ≤ 3) && QaI (p0)) (br (a4.isSome) (some (.t tI (a4.getD 0), [])) (br (cIx (p0) (isub .i64 (llen (p0)) 1)) (br (QaR (p1) a1) (br (!(hasF (p1) a1)) (some (.t tI 12, [])) (some (.t tI 0, []))) none) none)) none)) none)) none) none)) none))
theorem e_f42 (p0 : List Qaa) (p1 p2 : List Int) (p3 : Int) (p4 : ByteArray) : runF g_f42 QDo QQn false [.t (.sl Qab) p0, .t (.sl tI) p1, .t (.sl tI) p2, .t tI p3, .t .str p4] [] = r_f42 p0 p1 p2 p3 p4 := by kernel_rfl
theorem en_f42 : Qai Tryz.prog 42 := .inr ⟨by decide, _, Tryz.func42, by kernel_rfl, by kernel_rfl⟩
theorem gk_f42 : GOk Tryz.prog g_f42 := Qal _ (gA (gC QvD QuT (gC QIR QHa (gC QIS QHb (gC en_f63 ms_f63 (gC en_f66 ms_f66 (gC Qpj QoJ (gC Qpi QoI gN))))))))
theorem QT4 (x0 : List Qaa) (x1 : List Int) (x34 : Keep) (x35 : Int) (y7 : List Int) (y8 : Int) (h : (x34 == ((13, (7, ())) : Keep) && decide (0 ≤ x35 ∧ x35 ≤ 2) && QcI x0 y7 y8 0) = true) : QgP x0 x1 x34 x35 y7 y8 = QgS x0 x1 x34 x35 y7 y8 := by
 simp only [Bool.and_eq_true, decide_eq_true_eq, beq_iff_eq] at h
 obtain ⟨⟨rfl, h1, h2⟩, hc⟩ := h
 have hc : ∀ e, QcI x0 y7 y8 e = true := fun e => hc
 obtain ⟨k, rfl⟩ := Int.eq_ofNat_of_zero_le h1
 have k2 : QgP x0 x1 (13, (7, ())) ((2 : Nat) : Int) y7 y8 = QgS x0 x1 (13, (7, ())) ((2 : Nat) : Int) y7 y8 := by
  rw [QsE]
  rfl
 have k1 : QgP x0 x1 (13, (7, ())) ((1 : Nat) : Int) y7 y8 = QgS x0 x1 (13, (7, ())) ((1 : Nat) : Int) y7 y8 := by
  rw [QsE]
  simp only [Qsl, hc, show ilt ((1 : Nat) : Int) 2 = true from rfl, show arrOk tI 2 ((13, (7, ())) : Keep) ((1 : Nat) : Int) = true from rfl, show Qbl tI 2 ((13, (7, ())) : Keep) ((1 : Nat) : Int) = 7 from rfl, Qac, show iadd .i64 ((1 : Nat) : Int) 1 = ((2 : Nat) : Int) from rfl, k2]
  simp only [QgS, heldZ, Int.toNat_natCast, List.drop_succ_cons, List.drop_zero, List.drop_nil, List.find?_cons, List.find?_nil]
  cases Qbv x0 y7 y8 7 <;> rfl
 have k0 : QgP x0 x1 (13, (7, ())) ((0 : Nat) : Int) y7 y8 = QgS x0 x1 (13, (7, ())) ((0 : Nat) : Int) y7 y8 := by
  rw [QsE]
  simp only [Qsl, hc, show ilt ((0 : Nat) : Int) 2 = true from rfl, show arrOk tI 2 ((13, (7, ())) : Keep) ((0 : Nat) : Int) = true from rfl, show Qbl tI 2 ((13, (7, ())) : Keep) ((0 : Nat) : Int) = 13 from rfl, Qac, show iadd .i64 ((0 : Nat) : Int) 1 = ((1 : Nat) : Int) from rfl, k1]
  simp only [QgS, heldZ, Int.toNat_natCast, List.drop_succ_cons, List.drop_zero, List.drop_nil, List.find?_cons, List.find?_nil]
  cases Qbv x0 y7 y8 13 <;> rfl
 have : k = 0 ∨ k = 1 ∨ k = 2 := by omega
 rcases this with rfl | rfl | rfl
 ·exact k0
 ·exact k1
 ·exact k2
theorem l_f61 (x0 : List Qaa) (x1 : List Int) (x43 : (Int × (Int × (Int × Unit)))) (x44 : Int) (h : (x43 == ((11, (15, (10, ()))) : Trip) && decide (0 ≤ x44 ∧ x44 ≤ 3) && QaI x0) = true) : QoN x0 x1 x43 x44 = QkN x0 x1 x43 x44 := by
 simp only [Bool.and_eq_true, decide_eq_true_eq, beq_iff_eq] at h
 obtain ⟨⟨rfl, h1, h2⟩, hc⟩ := h
 have hc : ∀ e, Qpb x0 e = true := fun e => hc
 obtain ⟨k, rfl⟩ := Int.eq_ofNat_of_zero_le h1
 have k3 : QoN x0 x1 (11, (15, (10, ()))) ((3 : Nat) : Int) = QkN x0 x1 (11, (15, (10, ()))) ((3 : Nat) : Int) := by
  rw [QzR]
  rfl
 have k2 : QoN x0 x1 (11, (15, (10, ()))) ((2 : Nat) : Int) = QkN x0 x1 (11, (15, (10, ()))) ((2 : Nat) : Int) := by
  rw [QzR]
  simp only [n_f61, hc, show ilt ((2 : Nat) : Int) 3 = true from rfl, show arrOk tI 3 ((11, (15, (10, ()))) : Trip) ((2 : Nat) : Int) = true from rfl, show Qbl tI 3 ((11, (15, (10, ()))) : Trip) ((2 : Nat) : Int) = 10 from rfl, Qac, show iadd .i64 ((2 : Nat) : Int) 1 = ((3 : Nat) : Int) from rfl, k3]
  simp only [QkN, failZ, Int.toNat_natCast, List.drop_succ_cons, List.drop_zero, List.drop_nil, List.find?_cons, List.find?_nil]
  cases QbH x0 10 <;> rfl
 have k1 : QoN x0 x1 (11, (15, (10, ()))) ((1 : Nat) : Int) = QkN x0 x1 (11, (15, (10, ()))) ((1 : Nat) : Int) := by
  rw [QzR]
  simp only [n_f61, hc, show ilt ((1 : Nat) : Int) 3 = true from rfl, show arrOk tI 3 ((11, (15, (10, ()))) : Trip) ((1 : Nat) : Int) = true from rfl, show Qbl tI 3 ((11, (15, (10, ()))) : Trip) ((1 : Nat) : Int) = 15 from rfl, Qac, show iadd .i64 ((1 : Nat) : Int) 1 = ((2 : Nat) : Int) from rfl, k2]
  simp only [QkN, failZ, Int.toNat_natCast, List.drop_succ_cons, List.drop_zero, List.drop_nil, List.find?_cons, List.find?_nil]
  cases QbH x0 15 <;> rfl
 have k0 : QoN x0 x1 (11, (15, (10, ()))) ((0 : Nat) : Int) = QkN x0 x1 (11, (15, (10, ()))) ((0 : Nat) : Int) := by
  rw [QzR]
  simp only [n_f61, hc, show ilt ((0 : Nat) : Int) 3 = true from rfl, show arrOk tI 3 ((11, (15, (10, ()))) : Trip) ((0 : Nat) : Int) = true from rfl, show Qbl tI 3 ((11, (15, (10, ()))) : Trip) ((0 : Nat) : Int) = 11 from rfl, Qac, show iadd .i64 ((0 : Nat) : Int) 1 = ((1 : Nat) : Int) from rfl, k1]
  simp only [QkN, failZ, Int.toNat_natCast, List.drop_succ_cons, List.drop_zero, List.drop_nil, List.find?_cons, List.find?_nil]
  cases QbH x0 11 <;> rfl
 have : k = 0 ∨ k = 1 ∨ k = 2 ∨ k = 3 := by omega
 rcases this with rfl | rfl | rfl | rfl
 ·exact k0
 ·exact k1
 ·exact k2
 ·exact k3
theorem QLV : ∀ S l p, g_f42.L 0 (fgt Qjp S) = some (true, l) → pickA l = some p → loopF (Qaj g_f42 Qjp Qlu) S = some p :=
 QaD (s := Qrg) ⟨by decide, by decide⟩ (by kernel_rfl) fun x y hok p hp => by
 simp only [Qar, Qao] at hp
 exact (QT4 x.1 x.2.1 x.2.2.2.2.1 x.2.2.2.2.2.1 y.1 y.2.1 (by simpa using hok)).trans hp
theorem lo_f61 : ∀ S l p, g_f42.L 1 (fgt Qvy S) = some (true, l) → pickA l = some p → loopF (Qaj g_f42 Qvy Qy2) S = some p :=
 QaD (s := QE0) ⟨by decide, by decide⟩ (by kernel_rfl) fun x y hok p hp => by
 simp only [Qar, Qao] at hp
 exact (l_f61 x.1 x.2.1 x.2.2.1 x.2.2.2.1 (by simpa using hok)).trans hp
theorem lk_f42 : QDo.lok g_f42 := by
 repeat (first | exact trivial | exact QLV | exact lo_f61 | refine ⟨?_, ?_⟩)
theorem s_f42 (l : List Qaa) (a h : List Int) (d : Int) (n : ByteArray) (hok : QcG l a h d n = true) : r_f42 l a h d n = some (.t tI (chkCh l a h d n), []) := by
 simp only [QcG, Bool.and_eq_true, decide_eq_true_eq] at hok
 obtain ⟨hc, ha, hh⟩ := hok
 have hl := Qev hc
 unfold chkCh
 by_cases h0 : l.length = 0
 ·simp only [r_f42, show ieq (llen l) 0 = true from beq_iff_eq.2 (by simp only [llen]; omega), Qac, if_pos h0]
 by_cases h8 : 8 < l.length
 ·simp only [r_f42, show ieq (llen l) 0 = false from beq_eq_false_iff_ne.2 (by simp only [llen]; omega), Qaf, show igt (llen l) 8 = true from decide_eq_true (by simp only [llen]; omega), Qac, if_neg h0, if_pos h8]
 have c1 : ∀ e, QcI l h d e = true := fun e => decide_eq_true ⟨hl, hh⟩
 have c2 : cIx l 0 = true := by simp only [cIx, decide_eq_true_eq]; omega
 have c3 : Qi0 (QaF (cAt l 0)) n = true := by
  have := QuP hc (show 0 < l.length by omega)
  exact decide_eq_true (by omega)
 have c4 : isub .i64 (llen l) 1 = ((l.length - 1 : Nat) : Int) := by rw [QbE (by simp only [llen]; omega)]; simp only [llen]; omega
 have c5 : cIx l ((l.length - 1 : Nat) : Int) = true := by simp only [cIx, decide_eq_true_eq]; omega
 have c6 : ∀ v, QaR a v = true := fun v => decide_eq_true ha
 have d1 : decide ((0 : Int) ≤ 0 ∧ (0 : Int) ≤ 2) = true := rfl
 have d2 : decide ((0 : Int) ≤ 0 ∧ (0 : Int) ≤ 3) = true := rfl
 simp only [r_f42, show ieq (llen l) 0 = false from beq_eq_false_iff_ne.2 (by simp only [llen]; omega), Qaf, show igt (llen l) 8 = false from decide_eq_false (by simp only [llen]; omega), if_neg h0, if_neg h8, show okBad l = true from hc, hc, c1, c2, c4, c5, c6, d1, d2, Qac, Int.toNat_natCast, Int.toNat_zero, show lgt Qab l 0 = cAt l 0 from rfl, show lgt Qab l (l.length - 1) = lastC l from rfl, beq_self_eq_true, Bool.and_self]
 rw [show (Qi0 (cAt l 0).2.2.2.2.2.2.2.2.2.2.1 n) = true from c3, Qac]
 cases QjV l with
 | true => rfl
 | false =>
  rw [Qaf, cond_false]
  cases hasS (QaF (cAt l 0)) n with
  | false => rfl
  | true =>
   rw [Bool.not_true, Qaf, cond_false]
   simp only [heldZ, failZ, List.drop_zero, List.find?_cons, List.find?_nil]
   cases Qbv l h d 13 with
   | true => rfl
   | false =>
    rw [cond_false]
    cases Qbv l h d 7 with
    | true => rfl
    | false =>
     rw [cond_false]
     simp only [Option.isSome_none, Qaf]
     cases QbH l 11 with
     | true => rfl
     | false =>
      rw [cond_false]
      cases QbH l 15 with
      | true => rfl
      | false =>
       rw [cond_false]
       cases QbH l 10 with
       | true => rfl
       | false =>
        simp only [Option.isSome_none, Qaf, cond_false]
        cases hasF a (cSeal (lastC l)).1 <;> rfl
def QPo : Ent := spec (.pr (.sl Qab) (.pr (.sl tI) (.pr (.sl tI) (.pr tI (.pr .str .nil))))) (fun x => (QcG x.1 x.2.1 x.2.2.1 x.2.2.2.1 x.2.2.2.2.1)) (fun x => (.t tI (chkCh x.1 x.2.1 x.2.2.1 x.2.2.2.1 x.2.2.2.2.1)))
theorem ms_f42 : Meets Tryz.prog 42 (strip QPo) := Qag (R := runF g_f42 QDo QQn false) (mG Tryz.func42 (by kernel_rfl) Tryz.ntmps42 (by kernel_rfl) gk_f42 lk_f42) fun x hok => (e_f42 x.1 x.2.1 x.2.2.1 x.2.2.2.1 x.2.2.2.2.1).trans (s_f42 x.1 x.2.1 x.2.2.1 x.2.2.2.1 x.2.2.2.2.1 hok)
def txtOk (l : List ByteArray) (_v : ByteArray) : Bool := decide (l.length ≤ 100000)
def Qi6 : Fg := ⟨[(0, some (.sl .str)), (1, some .str), (5, some tI)], []⟩
noncomputable def Qlb : TC := (.sq (.sq (.reg (rT Tryz.f99 2)) (.cd (.t 9) .sk (.fg ⟨[], []⟩ (.ex 0)))) (.sq (.bk 1 (.sq (.reg (rT Tryz.f99 3)) (.cd (.t 17) (.sq (.reg (rT Tryz.f99 4)) (.fg ⟨[(4, some .bool)], []⟩ .rt)) .sk))) (.reg (rT Tryz.f99 5))))
noncomputable def QCE : TC := (.sq (.reg (rT Tryz.f99 0)) (.sq (.sq (.reg (rT Tryz.f99 1)) (.bk 0 (.lp 0 Qi6 Qlb))) (.sq (.reg (rT Tryz.f99 6)) .rt)))
def QPD : List (RV × Option Ty) := [((.t 4), some .bool)]
abbrev QqX : Sh := ⟨[(0, .ty (.sl .str)), (1, .ty .str), (5, .ty tI)], []⟩
def Qqs (x0 : List ByteArray) (x1 : ByteArray) (x5 : Int) : VS := QqX.st (x0, x1, x5, ()) ()
abbrev Qty : Sh := ⟨[(4, .ty .bool)], []⟩
def Qdm (x4 : Bool) : VS := Qty.st (x4, ()) ()
abbrev Qw6 : Sh := ⟨[], []⟩
def QeB  : VS := Qw6.st () ()
def QV0 : VS → Option (Bool × List (Bool × Exit × VS)) := mkL QqX (fun x y => (idxOk x.1 x.2.2.1)) (fun x y => [(((x.1.drop x.2.2.1.toNat).any (seq x.2.1)), .ret, Qdm (true)), (true, .exit 0, QeB)])
def g_f99 : G := ⟨TYs, [], 18, EL [], keeps, (Ls [QV0]), IL [], RL []⟩
def QJ4 (x0 : List ByteArray) (x1 : ByteArray) (x5 : Int) : Option (Exit × VS) := br (ilt x5 (llen x0)) (br (cIx x0 x5) (br (seq (lgt .str x0 (Int.toNat x5)) x1) (some (.ret, Qdm true)) (some (.normal, Qqs x0 x1 (iadd .i64 x5 1)))) none) (some (.exit 0, QeB))
noncomputable def Qmb (x0 : List ByteArray) (x1 : ByteArray) (x5 : Int) : Option (Exit × VS) := loopF (Qaj g_f99 Qi6 Qlb) (Qqs x0 x1 x5)
noncomputable def Qr2 (x0 : List ByteArray) (x1 : ByteArray) (x5 : Int) : Option (Exit × VS) := br (ilt x5 (llen x0)) (br (cIx x0 x5) (br (seq (lgt .str x0 (Int.toNat x5)) x1) (some (.ret, Qdm true)) (Qmb x0 x1 (iadd .i64 x5 1))) none) (some (.exit 0, QeB))
def Qmz (x0 : List ByteArray) (x1 : ByteArray) (x5 : Int) : Option (Exit × VS) := br ((x0.drop x5.toNat).any (seq x1)) (some (.ret, Qdm (true))) <| some (.exit 0, QeB)
theorem QNP (x0 : List ByteArray) (x1 : ByteArray) (x5 : Int) : Qaj g_f99 Qi6 Qlb (Qqs x0 x1 x5) = QJ4 x0 x1 x5 := by kernel_rfl
theorem QzF (x0 : List ByteArray) (x1 : ByteArray) (x5 : Int) : Qmb x0 x1 x5 = Qr2 x0 x1 x5 := (Qap _ _).trans (by
 rw [QNP]
 simp only [QJ4, Qr2, QaB, nxt_n, nxt_r, nxt_e, nxt_0]
 rfl)
def r_f99 (p0 : List ByteArray) (p1 : ByteArray) : Option (V × List VO) := br (idxOk p0 (0 : Int)) (br ((p0.drop (0 : Int).toNat).any (seq p1)) (some (.t .bool (true), [])) (some (.t .bool false, []))) none
theorem e_f99 (p0 : List ByteArray) (p1 : ByteArray) : runF g_f99 QCE QPD false [.t (.sl .str) p0, .t .str p1] [] = r_f99 p0 p1 := by kernel_rfl
theorem en_f99 : Qai Tryz.prog 99 := .inr ⟨by decide, _, Tryz.func99, by kernel_rfl, by kernel_rfl⟩
theorem gk_f99 : GOk Tryz.prog g_f99 := Qal _ (fun p hp => by cases hp)
theorem QTL (x0 : List ByteArray) (x1 : ByteArray) (x5 : Int) (h : (idxOk x0 x5) = true) : Qmb x0 x1 x5 = Qmz x0 x1 x5 := by
 simp only [idxOk, decide_eq_true_eq] at h
 obtain ⟨h0, h1, h2⟩ := h
 obtain ⟨k, rfl⟩ := Int.eq_ofNat_of_zero_le h0
 refine Qas x0 (fun k => Qmb x0 x1 (k : Int) = Qmz x0 x1 (k : Int)) ?_ ?_ k (by omega)
 ·rw [QzF]
  simp only [Qr2, Qmz, show ilt (x0.length : Int) (llen x0) = false from decide_eq_false (by simp only [llen]; omega), Qaf, Int.toNat_natCast, List.drop_length, List.any_nil]
 ·intro k hk ih
  rw [QzF]
  have hc : seq x0[k] x1 = seq x1 x0[k] := Bool.beq_comm
  simp only [Qr2, show ilt (k : Int) (llen x0) = true from decide_eq_true (by simp only [llen]; omega), Qaw, hk, decide_true, Qac, Int.toNat_natCast, add1 (show k < 4611686018427387904 by omega), QaE (y := .str) hk, ih, hc]
  simp only [Qmz, Int.toNat_natCast, List.drop_eq_getElem_cons hk, List.any_cons]
  cases seq x1 x0[k] <;> rfl
theorem QLC : ∀ S l p, g_f99.L 0 (fgt Qi6 S) = some (true, l) → pickA l = some p → loopF (Qaj g_f99 Qi6 Qlb) S = some p :=
 QaD (s := QqX) ⟨by decide, by decide⟩ (by kernel_rfl) fun x y hok p hp => by
 simp only [Qar, Qao] at hp
 exact (QTL x.1 x.2.1 x.2.2.1 (by simpa using hok)).trans hp
theorem lk_f99 : QCE.lok g_f99 := by
 repeat (first | exact trivial | exact QLC | refine ⟨?_, ?_⟩)
theorem s_f99 (l : List ByteArray) (v : ByteArray) (h : txtOk l v = true) : r_f99 l v = some (.t .bool (hasS l v), []) := by
 simp only [txtOk, decide_eq_true_eq] at h
 simp only [r_f99, show idxOk l 0 = true from decide_eq_true (by omega), Qac, Int.toNat_zero, List.drop_zero]
 unfold hasS
 cases l.any (seq v) <;> rfl
def QOS : Ent := spec (.pr (.sl .str) (.pr .str .nil)) (fun x => (txtOk x.1 x.2.1)) (fun x => (.t .bool (hasS x.1 x.2.1)))
theorem ms_f99 : Meets Tryz.prog 99 (strip QOS) := Qag (R := runF g_f99 QCE QPD false) (mG Tryz.func99 (by kernel_rfl) Tryz.ntmps99 (by kernel_rfl) gk_f99 lk_f99) fun x hok => (e_f99 x.1 x.2.1).trans (s_f99 x.1 x.2.1 hok)
def QpO (e : Int) (l : List Qaa) (a h : List Int) (d : Int) (n : ByteArray) (k : Nat) : Bool :=
 bif ieq e 9 then badC (cAt l k) else bif ieq e 14 then ieq (k : Int) 0 && !hasS (QaF (cAt l k)) n else bif ieq e 13 then heldF (cAt l k) h d 13 else bif ieq e 7 then heldF (cAt l k) h d 7 else
 bif ieq e 11 then Qkp l 11 k else bif ieq e 15 then Qkp l 15 k else bif ieq e 10 then Qkp l 10 k else decide (k + 1 = l.length) && !hasF a (cSeal (cAt l k)).1
def QjY (e : Int) (l : List Qaa) (i : Int) (a h : List Int) (d : Int) (n : ByteArray) : Bool := QpO e l a h d n i.toNat
def Qhb (_e : Int) (l : List Qaa) (i : Int) (a h : List Int) (_d : Int) (_n : ByteArray) : Bool := QaI l && decide (0 ≤ i ∧ i < l.length ∧ a.length ≤ 100000 ∧ h.length ≤ 100000)
noncomputable def QNh : List DO := dT Tryz.f70 12
noncomputable def QNg : List DO := dT Tryz.f70 18
noncomputable def QC0 : TC := (.sq (.reg (rT Tryz.f70 0)) (.sq (.reg (rT Tryz.f70 1)) (.sq (.sq (.reg (rT Tryz.f70 2)) (.bk 0 (.sq (.reg (rT Tryz.f70 3)) (.cd (.t 27) (.sq (.reg (rT Tryz.f70 4)) .rt) (.sq (.reg (rT Tryz.f70 5)) (.cd (.t 32) (.sq (.reg (rT Tryz.f70 6)) .rt) (.sq (.reg (rT Tryz.f70 7)) (.cd (.t 43) (.sq (.reg (rT Tryz.f70 8)) .rt) (.sq (.reg (rT Tryz.f70 9)) (.cd (.t 55) (.sq (.reg (rT Tryz.f70 10)) .rt) (.sq (.reg (rT Tryz.f70 11)) (.cd (.t 63) (.sq (.dr QNh [(0, []), (1, []), (2, []), (3, [15]), (4, [15]), (5, []), (6, []), (7, []), (8, []), (9, []), (10, []), (11, []), (12, []), (13, [])] (.of [0, 1, 2, 3, 4, 5, 6, 7, 8, 9, 10, 11, 12, 13])) .rt) (.sq (.reg (rT Tryz.f70 13)) (.cd (.t 78) (.sq (.reg (rT Tryz.f70 14)) .rt) (.sq (.reg (rT Tryz.f70 15)) (.cd (.t 84) (.sq (.sq (.reg (rT Tryz.f70 16)) (.cd (.t 86) (.sq (.reg (rT Tryz.f70 17)) .rt) .sk)) (.sq (.dr QNg [(0, [15]), (1, []), (2, []), (3, []), (4, []), (5, []), (6, []), (7, []), (8, []), (9, [])] (.of [0, 1, 2, 3, 4, 5, 6, 7, 8, 9])) .rt)) .sk)))))))))))))))) (.sq (.reg (rT Tryz.f70 19)) .rt))))
def QPZ : List (RV × Option Ty) := [((.t 14), some .bool)]
def g_f70 : G := ⟨TYs, [], 111, EL [(27, Qts), (97, Qtd), (99, QOS), (100, QES), (101, QER)], keeps, (fun _ _ => none), IL [], RL []⟩
def r_f70 (p0 : Int) (p1 : List Qaa) (p2 : Int) (p3 p4 : List Int) (p5 : Int) (p6 : ByteArray) : Option (V × List VO) :=
 let a1 := lgt Qab p1 (Int.toNat p2)
 let a5 := (((((a1.2).2).2).2).2)
 let a2 := (((((a5.2).2).2).2).2)
 let a3 := (((lgt Qab p1 (Int.toNat (iadd .i64 p2 1))).2).2)
 let a4 := ieq p2 (isub .i64 (llen p1) 1)
 let a6 := (((a2.2).1).1)
 let a7 := cIx p1 (iadd .i64 p2 1)
 br (cIx p1 p2) (br (ieq p0 9) (br (QaC a1) (some (.t .bool (ine (QcK a1) 0), [])) none) (br (ieq p0 14) (br (ieq p2 0) (br (txtOk (a2.1) p6) (some (.t .bool (!(hasS (a2.1) p6)), [])) none) (some (.t .bool false, []))) (br (ieq p0 13) (br (ilt p5 ((a5.2).1)) (some (.t .bool true, [])) (some (.t .bool (ige p5 (((a5.2).2).1)), []))) (br (ieq p0 7) (br (QaR p4 ((a5.1).1)) (some (.t .bool (!(hasF p4 ((a5.1).1))), [])) none) (br (ieq p0 11) (br (!a4) (br a7 (some (.t .bool (sne ((a1.2).1) (a3.1)), [])) none) (some (.t .bool false, []))) (br (ieq p0 15) (br (QfY p1 p2) (some (.t .bool (!(pathF p1 p2)), [])) none) (br (ieq p0 10) (br a4 (br (Qa0 a1 a6) (some (.t .bool (!(Qc4 a1 a6)), [])) none) (br a7 (br (Qa0 a1 (((a3.2).2).1)) (some (.t .bool (!(Qc4 a1 (((a3.2).2).1))), [])) none) none)) (br a4 (br (QaR p3 a6) (some (.t .bool (!(hasF p3 a6)), [])) none) (some (.t .bool false, [])))))))))) none
theorem e_f70 (p0 : Int) (p1 : List Qaa) (p2 : Int) (p3 p4 : List Int) (p5 : Int) (p6 : ByteArray) : runF g_f70 QC0 QPZ false [.t tI p0, .t (.sl Qab) p1, .t tI p2, .t (.sl tI) p3, .t (.sl tI) p4, .t tI p5, .t .str p6] [] = r_f70 p0 p1 p2 p3 p4 p5 p6 := by kernel_rfl
theorem en_f70 : Qai Tryz.prog 70 := .inr ⟨by decide, _, Tryz.func70, by kernel_rfl, by kernel_rfl⟩
theorem gk_f70 : GOk Tryz.prog g_f70 := Qal _ (gA (gC QvG QzA (gC QA5 Qzx (gC en_f99 ms_f99 (gC QVJ QSK (gC QVI QSJ gN))))))
theorem lk_f70 : QC0.lok g_f70 := by repeat (first | exact trivial | refine ⟨?_, ?_⟩)
theorem s_f70 (e : Int) (l : List Qaa) (i : Int) (a h : List Int) (d : Int) (n : ByteArray) (hok : Qhb e l i a h d n = true) : r_f70 e l i a h d n = some (.t .bool (QjY e l i a h d n), []) := by
 simp only [Qhb, Bool.and_eq_true, decide_eq_true_eq] at hok
 obtain ⟨hc, h1, h2, ha, hh⟩ := hok
 obtain ⟨k, rfl⟩ := Int.eq_ofNat_of_zero_le h1
 have hl := Qev hc
 have hk : k < l.length := by omega
 have c1 : cIx l (k : Int) = true := by rw [Qaw]; exact decide_eq_true hk
 have c2 : QaC (cAt l k) = true := QyR hc hk
 have c3 : txtOk (QaF (cAt l k)) n = true := decide_eq_true (QuP hc hk)
 have c4 : ∀ v, QaR h v = true := fun v => decide_eq_true hh
 have c5 : ∀ v, QaR a v = true := fun v => decide_eq_true ha
 have c6 : QfY l (k : Int) = true := decide_eq_true hl
 have c7 : ieq (k : Int) (isub .i64 (llen l) 1) = decide (k + 1 = l.length) := by
  rw [QbE (by simp only [llen]; omega)]
  simp only [ieq, llen]
  rw [Bool.eq_iff_iff, beq_iff_eq, decide_eq_true_eq]
  omega
 have c8 : ∀ q, Qa0 (cAt l k) q = true := fun q => c2
 simp only [r_f70, c1, c2, c4, c5, c6, c7, c8, Qac, Int.toNat_natCast, show lgt Qab l k = cAt l k from rfl, Qdg, add1N (show k < 4611686018427387904 by omega), add1 (show k < 4611686018427387904 by omega), Qaw]
 rw [show (txtOk (cAt l k).2.2.2.2.2.2.2.2.2.2.1 n) = true from c3, Qac]
 unfold QjY QpO
 rw [Int.toNat_natCast]
 cases ieq e 9 with
 | true => rfl
 | false =>
  rw [Qaf, cond_false]
  cases ieq e 14 with
  | true =>
   rw [Qac, cond_true]
   exact brA rfl
  | false =>
   rw [Qaf, cond_false]
   cases ieq e 13 with
   | true =>
    rw [Qac, cond_true]
    show br (ilt d _) _ _ = some (V.t .bool (ilt d (cAt l k).2.2.2.2.2.2.1 || ige d (cAt l k).2.2.2.2.2.2.2.1), [])
    cases ilt d (cAt l k).2.2.2.2.2.2.1 <;> rfl
   | false =>
    rw [Qaf, cond_false]
    cases ieq e 7 with
    | true => rfl
    | false =>
     rw [Qaf, cond_false]
     cases ieq e 11 with
     | true =>
      rw [Qac, cond_true]
      show _ = some (V.t .bool (decide (k + 1 < l.length) && sne (cAt l k).2.1 (cAt l (k + 1)).2.2.1), [])
      by_cases hk2 : k + 1 < l.length
      ·rw [decide_eq_false (show ¬ k + 1 = l.length by omega), decide_eq_true hk2, Bool.not_false, Qac, Qac, Bool.true_and]
      ·rw [decide_eq_true (show k + 1 = l.length by omega), decide_eq_false hk2, Bool.not_true, Qaf, Bool.false_and]
     | false =>
      rw [Qaf, cond_false]
      cases ieq e 15 with
      | true => rfl
      | false =>
       rw [Qaf, cond_false]
       cases ieq e 10 with
       | true =>
        rw [Qac, cond_true]
        show _ = some (V.t .bool (!Qc4 (cAt l k) (Qj7 l k)), [])
        unfold Qj7
        by_cases hk2 : k + 1 < l.length
        ·rw [decide_eq_false (show ¬ k + 1 = l.length by omega), decide_eq_true hk2, Qaf, Qac, if_pos hk2]
        ·rw [decide_eq_true (show k + 1 = l.length by omega), Qac, if_neg hk2]
       | false =>
        rw [Qaf, cond_false]
        exact brA rfl
def QO8 : Ent := spec (.pr tI (.pr (.sl Qab) (.pr tI (.pr (.sl tI) (.pr (.sl tI) (.pr tI (.pr .str .nil))))))) (fun x => (Qhb x.1 x.2.1 x.2.2.1 x.2.2.2.1 x.2.2.2.2.1 x.2.2.2.2.2.1 x.2.2.2.2.2.2.1)) (fun x => (.t .bool (QjY x.1 x.2.1 x.2.2.1 x.2.2.2.1 x.2.2.2.2.1 x.2.2.2.2.2.1 x.2.2.2.2.2.2.1)))
theorem ms_f70 : Meets Tryz.prog 70 (strip QO8) := Qag (R := runF g_f70 QC0 QPZ false) (mG Tryz.func70 (by kernel_rfl) Tryz.ntmps70 (by kernel_rfl) gk_f70 lk_f70) fun x hok => (e_f70 x.1 x.2.1 x.2.2.1 x.2.2.2.1 x.2.2.2.2.1 x.2.2.2.2.2.1 x.2.2.2.2.2.2.1).trans (s_f70 x.1 x.2.1 x.2.2.1 x.2.2.2.1 x.2.2.2.2.1 x.2.2.2.2.2.1 x.2.2.2.2.2.2.1 hok)
def Qa3 (e : Int) (l : List Qaa) (a h : List Int) (d : Int) (n : ByteArray) (k : Nat) : Bool := (List.range' k (l.length - k)).any (QpO e l a h d n)
def Qkx (l : List Qaa) (a h : List Int) (d : Int) (n : ByteArray) (es : List Int) : Option Int := es.find? fun e => Qa3 e l a h d n 0
theorem QvX (e : Int) (l : List Qaa) (a h : List Int) (d : Int) (n : ByteArray) : Qa3 e l a h d n l.length = false := by
 unfold Qa3
 rw [Nat.sub_self]
 rfl
theorem Qs4 {e : Int} {l : List Qaa} {a h : List Int} {d : Int} {n : ByteArray} {k : Nat} (hk : k < l.length) : Qa3 e l a h d n k = (QpO e l a h d n k || Qa3 e l a h d n (k + 1)) := by
 have : l.length - k = (l.length - (k + 1)) + 1 := by omega
 unfold Qa3
 rw [this, List.range'_succ, List.any_cons]
def wLen (l : List Qaa) (a h es : List Int) : Bool := QaI l && decide (a.length ≤ 100000 ∧ h.length ≤ 100000 ∧ es.length ≤ 100)
def Qjk : Fg := ⟨[(0, some (.sl Qab)), (1, some (.sl tI)), (2, some (.sl tI)), (3, some tI), (4, some .str), (11, some (.sl tI)), (12, some tI), (13, some tI)], []⟩
noncomputable def Qlp : TC := (.sq (.sq (.reg (rT Tryz.f45 9)) (.cd (.t 30) .sk (.fg ⟨[(0, some (.sl Qab)), (1, some (.sl tI)), (2, some (.sl tI)), (3, some tI), (4, some .str), (11, some (.sl tI)), (12, some tI)], []⟩ (.ex 2)))) (.sq (.bk 3 (.sq (.reg (rT Tryz.f45 10)) (.cd (.t 43) (.sq (.reg (rT Tryz.f45 11)) (.fg ⟨[(10, some tI)], []⟩ .rt)) .sk))) (.reg (rT Tryz.f45 12))))
def Qjj : Fg := ⟨[(0, some (.sl Qab)), (1, some (.sl tI)), (2, some (.sl tI)), (3, some tI), (4, some .str), (11, some (.sl tI)), (12, some tI)], []⟩
noncomputable def Qlo : TC := (.sq (.sq (.reg (rT Tryz.f45 7)) (.cd (.t 24) .sk (.fg ⟨[], []⟩ (.ex 0)))) (.sq (.bk 1 (.sq (.reg (rT Tryz.f45 8)) (.bk 2 (.lp 0 Qjk Qlp)))) (.reg (rT Tryz.f45 13))))
noncomputable def QDl : TC := (.sq (.reg (rT Tryz.f45 0)) (.sq (.sq (.reg (rT Tryz.f45 1)) (.cd (.t 16) (.sq (.reg (rT Tryz.f45 2)) .rt) .sk)) (.sq (.sq (.reg (rT Tryz.f45 3)) (.cd (.t 19) (.sq (.reg (rT Tryz.f45 4)) .rt) .sk)) (.sq (.reg (rT Tryz.f45 5)) (.sq (.sq (.reg (rT Tryz.f45 6)) (.bk 0 (.lp 1 Qjj Qlo))) (.sq (.reg (rT Tryz.f45 14)) .rt))))))
def QQk : List (RV × Option Ty) := [((.t 10), some tI)]
abbrev Qrb : Sh := ⟨[(0, .ty (.sl Qab)), (1, .ty (.sl tI)), (2, .ty (.sl tI)), (3, .ty tI), (4, .ty .str), (11, .ty (.sl tI)), (12, .ty tI), (13, .ty tI)], []⟩
def QqD (x0 : List Qaa) (x1 x2 : List Int) (x3 : Int) (x4 : ByteArray) (x11 : List Int) (x12 x13 : Int) : VS := Qrb.st (x0, x1, x2, x3, x4, x11, x12, x13, ()) ()
abbrev QtL : Sh := ⟨[(10, .ty tI)], []⟩
def Qdx (x10 : Int) : VS := QtL.st (x10, ()) ()
abbrev Qxl : Sh := ⟨[(0, .ty (.sl Qab)), (1, .ty (.sl tI)), (2, .ty (.sl tI)), (3, .ty tI), (4, .ty .str), (11, .ty (.sl tI)), (12, .ty tI)], []⟩
def QeQ (x0 : List Qaa) (x1 x2 : List Int) (x3 : Int) (x4 : ByteArray) (x11 : List Int) (x12 : Int) : VS := Qxl.st (x0, x1, x2, x3, x4, x11, x12, ()) ()
abbrev Qra : Sh := ⟨[(0, .ty (.sl Qab)), (1, .ty (.sl tI)), (2, .ty (.sl tI)), (3, .ty tI), (4, .ty .str), (11, .ty (.sl tI)), (12, .ty tI)], []⟩
def QqC (x0 : List Qaa) (x1 x2 : List Int) (x3 : Int) (x4 : ByteArray) (x11 : List Int) (x12 : Int) : VS := Qra.st (x0, x1, x2, x3, x4, x11, x12, ()) ()
abbrev QtK : Sh := ⟨[(10, .ty tI)], []⟩
def Qdw (x10 : Int) : VS := QtK.st (x10, ()) ()
abbrev Qxk : Sh := ⟨[], []⟩
def QeP  : VS := Qxk.st () ()
def QWf : VS → Option (Bool × List (Bool × Exit × VS)) := mkL Qrb (fun x y => (wLen x.1 x.2.1 x.2.2.1 x.2.2.2.2.2.1 && decide (0 ≤ x.2.2.2.2.2.2.2.1 ∧ x.2.2.2.2.2.2.2.1 ≤ x.1.length ∧ 0 ≤ x.2.2.2.2.2.2.1 ∧ x.2.2.2.2.2.2.1 < x.2.2.2.2.2.1.length))) (fun x y => [((Qa3 (x.2.2.2.2.2.1.getD x.2.2.2.2.2.2.1.toNat 0) x.1 x.2.1 x.2.2.1 x.2.2.2.1 x.2.2.2.2.1 x.2.2.2.2.2.2.2.1.toNat), .ret, Qdx (x.2.2.2.2.2.1.getD x.2.2.2.2.2.2.1.toNat 0)), (true, .exit 2, QeQ (x.1) (x.2.1) (x.2.2.1) (x.2.2.2.1) (x.2.2.2.2.1) (x.2.2.2.2.2.1) (x.2.2.2.2.2.2.1))])
def QWe : VS → Option (Bool × List (Bool × Exit × VS)) := mkL Qra (fun x y => (wLen x.1 x.2.1 x.2.2.1 x.2.2.2.2.2.1 && decide (0 ≤ x.2.2.2.2.2.2.1 ∧ x.2.2.2.2.2.2.1 ≤ x.2.2.2.2.2.1.length))) (fun x y => [(((Qkx x.1 x.2.1 x.2.2.1 x.2.2.2.1 x.2.2.2.2.1 (x.2.2.2.2.2.1.drop x.2.2.2.2.2.2.1.toNat)).isSome), .ret, Qdw ((Qkx x.1 x.2.1 x.2.2.1 x.2.2.2.1 x.2.2.2.2.1 (x.2.2.2.2.2.1.drop x.2.2.2.2.2.2.1.toNat)).getD 0)), (true, .exit 0, QeP)])
def g_f45 : G := ⟨TYs, [], 48, EL [(70, QO8)], keeps, (Ls [QWf, QWe]), IL [], RL []⟩
def QKj (x0 : List Qaa) (x1 x2 : List Int) (x3 : Int) (x4 : ByteArray) (x11 : List Int) (x12 x13 : Int) : Option (Exit × VS) :=
 let a1 := lgt tI x11 (Int.toNat x12)
 br (ilt x13 (llen x0)) (br (cIx x11 x12) (br (Qhb a1 x0 x13 x1 x2 x3 x4) (br (QjY a1 x0 x13 x1 x2 x3 x4) (br (cIx x11 x12) (some (.ret, Qdx a1)) none) (some (.normal, QqD x0 x1 x2 x3 x4 x11 x12 (iadd .i64 x13 1)))) none) none) (some (.exit 2, QeQ x0 x1 x2 x3 x4 x11 x12))
noncomputable def Qmm (x0 : List Qaa) (x1 x2 : List Int) (x3 : Int) (x4 : ByteArray) (x11 : List Int) (x12 x13 : Int) : Option (Exit × VS) := loopF (Qaj g_f45 Qjk Qlp) (QqD x0 x1 x2 x3 x4 x11 x12 x13)
noncomputable def Qsg (x0 : List Qaa) (x1 x2 : List Int) (x3 : Int) (x4 : ByteArray) (x11 : List Int) (x12 x13 : Int) : Option (Exit × VS) :=
 let a1 := lgt tI x11 (Int.toNat x12)
 br (ilt x13 (llen x0)) (br (cIx x11 x12) (br (Qhb a1 x0 x13 x1 x2 x3 x4) (br (QjY a1 x0 x13 x1 x2 x3 x4) (br (cIx x11 x12) (some (.ret, Qdx a1)) none) (Qmm x0 x1 x2 x3 x4 x11 x12 (iadd .i64 x13 1))) none) none) (some (.exit 2, QeQ x0 x1 x2 x3 x4 x11 x12))
def QmN (x0 : List Qaa) (x1 x2 : List Int) (x3 : Int) (x4 : ByteArray) (x11 : List Int) (x12 x13 : Int) : Option (Exit × VS) := br (Qa3 (x11.getD x12.toNat 0) x0 x1 x2 x3 x4 x13.toNat) (some (.ret, Qdx (x11.getD x12.toNat 0))) <| some (.exit 2, QeQ (x0) (x1) (x2) (x3) (x4) (x11) (x12))
theorem QN4 (x0 : List Qaa) (x1 x2 : List Int) (x3 : Int) (x4 : ByteArray) (x11 : List Int) (x12 x13 : Int) : Qaj g_f45 Qjk Qlp (QqD x0 x1 x2 x3 x4 x11 x12 x13) = QKj x0 x1 x2 x3 x4 x11 x12 x13 := by kernel_rfl
theorem QzV (x0 : List Qaa) (x1 x2 : List Int) (x3 : Int) (x4 : ByteArray) (x11 : List Int) (x12 x13 : Int) : Qmm x0 x1 x2 x3 x4 x11 x12 x13 = Qsg x0 x1 x2 x3 x4 x11 x12 x13 := (Qap _ _).trans (by
 rw [QN4]
 simp only [QKj, Qsg, QaB, nxt_n, nxt_r, nxt_e, nxt_0]
 rfl)
def QKi (x0 : List Qaa) (x1 x2 : List Int) (x3 : Int) (x4 : ByteArray) (x11 : List Int) (x12 : Int) : Option (Exit × VS) := br (ilt x12 (llen x11)) (br (wLen x0 x1 x2 x11 && decide (0 ≤ (0 : Int) ∧ (0 : Int) ≤ x0.length ∧ 0 ≤ x12 ∧ x12 < x11.length)) (br (Qa3 (x11.getD x12.toNat 0) x0 x1 x2 x3 x4 (0 : Int).toNat) (some (.ret, Qdw (x11.getD x12.toNat 0))) (some (.normal, QqC (x0) (x1) (x2) (x3) (x4) (x11) (iadd .i64 (x12) 1)))) none) (some (.exit 0, QeP))
noncomputable def Qml (x0 : List Qaa) (x1 x2 : List Int) (x3 : Int) (x4 : ByteArray) (x11 : List Int) (x12 : Int) : Option (Exit × VS) := loopF (Qaj g_f45 Qjj Qlo) (QqC x0 x1 x2 x3 x4 x11 x12)
noncomputable def Qsf (x0 : List Qaa) (x1 x2 : List Int) (x3 : Int) (x4 : ByteArray) (x11 : List Int) (x12 : Int) : Option (Exit × VS) := br (ilt x12 (llen x11)) (br (wLen x0 x1 x2 x11 && decide (0 ≤ (0 : Int) ∧ (0 : Int) ≤ x0.length ∧ 0 ≤ x12 ∧ x12 < x11.length)) (br (Qa3 (x11.getD x12.toNat 0) x0 x1 x2 x3 x4 (0 : Int).toNat) (some (.ret, Qdw (x11.getD x12.toNat 0))) (Qml (x0) (x1) (x2) (x3) (x4) (x11) (iadd .i64 (x12) 1))) none) (some (.exit 0, QeP))
def QmM (x0 : List Qaa) (x1 x2 : List Int) (x3 : Int) (x4 : ByteArray) (x11 : List Int) (x12 : Int) : Option (Exit × VS) :=
 let a1 := Qkx x0 x1 x2 x3 x4 (x11.drop x12.toNat)
 br (a1.isSome) (some (.ret, Qdw (a1.getD 0))) <| some (.exit 0, QeP)
theorem QN3 (x0 : List Qaa) (x1 x2 : List Int) (x3 : Int) (x4 : ByteArray) (x11 : List Int) (x12 : Int) : Qaj g_f45 Qjj Qlo (QqC x0 x1 x2 x3 x4 x11 x12) = QKi x0 x1 x2 x3 x4 x11 x12 := by kernel_rfl
theorem QzU (x0 : List Qaa) (x1 x2 : List Int) (x3 : Int) (x4 : ByteArray) (x11 : List Int) (x12 : Int) : Qml x0 x1 x2 x3 x4 x11 x12 = Qsf x0 x1 x2 x3 x4 x11 x12 := (Qap _ _).trans (by
 rw [QN3]
 simp only [QKi, Qsf, QaB, nxt_n, nxt_r, nxt_e, nxt_0]
 rfl)
def r_f45 (p0 : List Qaa) (p1 p2 : List Int) (p3 : Int) (p4 : ByteArray) : Option (V × List VO) :=
 let a1 := (Qkx p0 p1 p2 p3 p4 (([9, 14, 13, 7, 11, 15, 10, 12]).drop (0 : Int).toNat))
 br (ieq (llen p0) 0) (some (.t tI 4, [])) (br (igt (llen p0) 8) (some (.t tI 3, [])) (br (wLen p0 p1 p2 ([9, 14, 13, 7, 11, 15, 10, 12]) && decide (0 ≤ (0 : Int) ∧ (0 : Int) ≤ ([9, 14, 13, 7, 11, 15, 10, 12]).length)) (br (a1.isSome) (some (.t tI (a1.getD 0), [])) (some (.t tI 0, []))) none))
theorem e_f45 (p0 : List Qaa) (p1 p2 : List Int) (p3 : Int) (p4 : ByteArray) : runF g_f45 QDl QQk false [.t (.sl Qab) p0, .t (.sl tI) p1, .t (.sl tI) p2, .t tI p3, .t .str p4] [] = r_f45 p0 p1 p2 p3 p4 := by kernel_rfl
theorem en_f45 : Qai Tryz.prog 45 := .inr ⟨by decide, _, Tryz.func45, by kernel_rfl, by kernel_rfl⟩
theorem gk_f45 : GOk Tryz.prog g_f45 := Qal _ (gA (gC en_f70 ms_f70 gN))
theorem QTZ (x0 : List Qaa) (x1 x2 : List Int) (x3 : Int) (x4 : ByteArray) (x11 : List Int) (x12 x13 : Int) (h : (wLen x0 x1 x2 x11 && decide (0 ≤ x13 ∧ x13 ≤ x0.length ∧ 0 ≤ x12 ∧ x12 < x11.length)) = true) : Qmm x0 x1 x2 x3 x4 x11 x12 x13 = QmN x0 x1 x2 x3 x4 x11 x12 x13 := by
 simp only [wLen, Bool.and_eq_true, decide_eq_true_eq] at h
 obtain ⟨⟨hc, ha, hh, he⟩, h0, h1, h2, h3⟩ := h
 obtain ⟨k, rfl⟩ := Int.eq_ofNat_of_zero_le h0
 obtain ⟨j, rfl⟩ := Int.eq_ofNat_of_zero_le h2
 have hl := Qev hc
 have hj : j < x11.length := by omega
 refine Qas x0 (fun k => Qmm x0 x1 x2 x3 x4 x11 (j : Int) (k : Int) = QmN x0 x1 x2 x3 x4 x11 (j : Int) (k : Int)) ?_ ?_ k (by omega)
 ·rw [QzV]
  simp only [Qsg, QmN, show ilt (x0.length : Int) (llen x0) = false from decide_eq_false (by simp only [llen]; omega), Qaf, Int.toNat_natCast, QvX]
 ·intro k hk ih
  rw [QzV]
  have hw : ∀ e, Qhb e x0 (k : Int) x1 x2 x3 x4 = true := fun e => by
   simp only [Qhb, Bool.and_eq_true, decide_eq_true_eq]
   exact ⟨hc, by omega, by omega, ha, hh⟩
  simp only [Qsg, show ilt (k : Int) (llen x0) = true from decide_eq_true (by simp only [llen]; omega), Qaw, hj, decide_true, Qac, Int.toNat_natCast, add1 (show k < 4611686018427387904 by omega), hw, ih, QjY]
  simp only [QmN, Int.toNat_natCast, Qs4 hk]
  show br (QpO (x11.getD j 0) x0 x1 x2 x3 x4 k) _ _ = _
  cases QpO (x11.getD j 0) x0 x1 x2 x3 x4 k <;> rfl
theorem QTY (x0 : List Qaa) (x1 x2 : List Int) (x3 : Int) (x4 : ByteArray) (x11 : List Int) (x12 : Int) (h : (wLen x0 x1 x2 x11 && decide (0 ≤ x12 ∧ x12 ≤ x11.length)) = true) : Qml x0 x1 x2 x3 x4 x11 x12 = QmM x0 x1 x2 x3 x4 x11 x12 := by
 simp only [wLen, Bool.and_eq_true, decide_eq_true_eq] at h
 obtain ⟨⟨hc, ha, hh, he⟩, h0, h1⟩ := h
 obtain ⟨k, rfl⟩ := Int.eq_ofNat_of_zero_le h0
 have hw : wLen x0 x1 x2 x11 = true := by
  simp only [wLen, Bool.and_eq_true, decide_eq_true_eq]
  exact ⟨hc, ha, hh, he⟩
 refine Qas x11 (fun k => Qml x0 x1 x2 x3 x4 x11 (k : Int) = QmM x0 x1 x2 x3 x4 x11 (k : Int)) ?_ ?_ k (by omega)
 ·rw [QzU]
  simp only [Qsf, QmM, show ilt (x11.length : Int) (llen x11) = false from decide_eq_false (by simp only [llen]; omega), Qaf, Int.toNat_natCast, List.drop_length]
  rfl
 ·intro k hk ih
  rw [QzU]
  have hd : decide ((0 : Int) ≤ 0 ∧ (0 : Int) ≤ x0.length ∧ (0 : Int) ≤ (k : Int) ∧ (k : Int) < x11.length) = true := decide_eq_true (by omega)
  have hg : x11.getD k 0 = x11[k] := by simp only [List.getD_eq_getElem?_getD, List.getElem?_eq_getElem hk, Option.getD_some]
  simp only [Qsf, show ilt (k : Int) (llen x11) = true from decide_eq_true (by simp only [llen]; omega), hw, hd, Bool.and_self, Qac, Int.toNat_natCast, Int.toNat_zero, add1 (show k < 4611686018427387904 by omega), ih, hg]
  simp only [QmM, Int.toNat_natCast, List.drop_eq_getElem_cons hk, Qkx, List.find?_cons]
  cases Qa3 x11[k] x0 x1 x2 x3 x4 0 <;> rfl
theorem QLQ : ∀ S l p, g_f45.L 0 (fgt Qjk S) = some (true, l) → pickA l = some p → loopF (Qaj g_f45 Qjk Qlp) S = some p :=
 QaD (s := Qrb) ⟨by decide, by decide⟩ (by kernel_rfl) fun x y hok p hp => by
 simp only [Qar, Qao] at hp
 exact (QTZ x.1 x.2.1 x.2.2.1 x.2.2.2.1 x.2.2.2.2.1 x.2.2.2.2.2.1 x.2.2.2.2.2.2.1 x.2.2.2.2.2.2.2.1 (by simpa using hok)).trans hp
theorem QLP : ∀ S l p, g_f45.L 1 (fgt Qjj S) = some (true, l) → pickA l = some p → loopF (Qaj g_f45 Qjj Qlo) S = some p :=
 QaD (s := Qra) ⟨by decide, by decide⟩ (by kernel_rfl) fun x y hok p hp => by
 simp only [Qar, Qao] at hp
 exact (QTY x.1 x.2.1 x.2.2.1 x.2.2.2.1 x.2.2.2.2.1 x.2.2.2.2.2.1 x.2.2.2.2.2.2.1 (by simpa using hok)).trans hp
theorem lk_f45 : QDl.lok g_f45 := by
 repeat (first | exact trivial | exact QLQ | exact QLP | refine ⟨?_, ?_⟩)
theorem QyZ (l : List Qaa) (p : Qaa → Bool) : ∀ k, k ≤ l.length → (List.range' k (l.length - k)).any (fun j => p (cAt l j)) = (l.drop k).any p := by
 refine Qas l _ ?_ ?_
 ·rw [Nat.sub_self, List.drop_length]; rfl
 ·intro k hk ih
  have : l.length - k = (l.length - (k + 1)) + 1 := by omega
  rw [this, List.range'_succ, List.any_cons, ih, List.drop_eq_getElem_cons hk, List.any_cons, QJA hk]
theorem QKH (n m : Nat) (hm : m < n) (q : Nat → Bool) (p : Nat → Bool) (hp : ∀ k, k < n → p k = true → k = m) (hm2 : p m = true) : (List.range' 0 n).any (fun k => p k && q k) = q m := by
 rw [Bool.eq_iff_iff, List.any_eq_true]
 constructor
 ·rintro ⟨k, hk, h⟩
  rw [List.mem_range'_1] at hk
  rw [Bool.and_eq_true] at h
  rw [← hp k (by omega) h.1]
  exact h.2
 ·intro h
  exact ⟨m, List.mem_range'_1.2 ⟨by omega, by omega⟩, by rw [hm2, h]; rfl⟩
theorem s_f45 (l : List Qaa) (a h : List Int) (d : Int) (n : ByteArray) (hok : QcG l a h d n = true) : r_f45 l a h d n = some (.t tI (chkCh l a h d n), []) := by
 simp only [QcG, Bool.and_eq_true, decide_eq_true_eq] at hok
 obtain ⟨hc, ha, hh⟩ := hok
 have hl := Qev hc
 unfold chkCh
 by_cases h0 : l.length = 0
 ·simp only [r_f45, show ieq (llen l) 0 = true from beq_iff_eq.2 (by simp only [llen]; omega), Qac, if_pos h0]
 by_cases h8 : 8 < l.length
 ·simp only [r_f45, show ieq (llen l) 0 = false from beq_eq_false_iff_ne.2 (by simp only [llen]; omega), Qaf, show igt (llen l) 8 = true from decide_eq_true (by simp only [llen]; omega), Qac, if_neg h0, if_pos h8]
 have hw : wLen l a h [9, 14, 13, 7, 11, 15, 10, 12] = true := by
  simp only [wLen, Bool.and_eq_true, decide_eq_true_eq]
  exact ⟨hc, ha, hh, by simp⟩
 have w9 : Qa3 9 l a h d n 0 = QjV l := QyZ l badC 0 (Nat.zero_le _)
 have w14 : Qa3 14 l a h d n 0 = !hasS (QaF (cAt l 0)) n := by
  unfold Qa3
  exact QKH l.length 0 (by omega) (fun k => !hasS (QaF (cAt l k)) n) (fun k => ieq (k : Int) 0) (fun k _ hk => by simp only [ieq, beq_iff_eq] at hk; omega) rfl
 have w13 : Qa3 13 l a h d n 0 = Qbv l h d 13 := QyZ l (fun c => heldF c h d 13) 0 (Nat.zero_le _)
 have w7 : Qa3 7 l a h d n 0 = Qbv l h d 7 := QyZ l (fun c => heldF c h d 7) 0 (Nat.zero_le _)
 have w11 : Qa3 11 l a h d n 0 = QbH l 11 := rfl
 have w15 : Qa3 15 l a h d n 0 = QbH l 15 := rfl
 have w10 : Qa3 10 l a h d n 0 = QbH l 10 := rfl
 have w12 : Qa3 12 l a h d n 0 = !hasF a (cSeal (lastC l)).1 := by
  unfold Qa3
  exact QKH l.length (l.length - 1) (by omega) (fun k => !hasF a (cSeal (cAt l k)).1) (fun k => decide (k + 1 = l.length)) (fun k _ hk => by simp only [decide_eq_true_eq] at hk; omega) (decide_eq_true (by omega))
 simp only [r_f45, show ieq (llen l) 0 = false from beq_eq_false_iff_ne.2 (by simp only [llen]; omega), Qaf, show igt (llen l) 8 = false from decide_eq_false (by simp only [llen]; omega), if_neg h0, if_neg h8, hw, Bool.true_and, Int.toNat_zero, List.drop_zero]
 refine Eq.trans (b := br (Qkx l a h d n [9, 14, 13, 7, 11, 15, 10, 12]).isSome (some (V.t tI ((Qkx l a h d n [9, 14, 13, 7, 11, 15, 10, 12]).getD 0), [])) (some (V.t tI 0, []))) rfl ?_
 simp only [Qkx, List.find?_cons, List.find?_nil, w9, w14, w13, w7, w11, w15, w10, w12]
 cases QjV l with
 | true => rfl
 | false =>
  cases hasS (QaF (cAt l 0)) n with
  | false => rfl
  | true =>
   cases Qbv l h d 13 with
   | true => rfl
   | false =>
    cases Qbv l h d 7 with
    | true => rfl
    | false =>
     cases QbH l 11 with
     | true => rfl
     | false =>
      cases QbH l 15 with
      | true => rfl
      | false =>
       cases QbH l 10 with
       | true => rfl
       | false => cases hasF a (cSeal (lastC l)).1 <;> rfl
def QPn : Ent := spec (.pr (.sl Qab) (.pr (.sl tI) (.pr (.sl tI) (.pr tI (.pr .str .nil))))) (fun x => (QcG x.1 x.2.1 x.2.2.1 x.2.2.2.1 x.2.2.2.2.1)) (fun x => (.t tI (chkCh x.1 x.2.1 x.2.2.1 x.2.2.2.1 x.2.2.2.2.1)))
theorem ms_f45 : Meets Tryz.prog 45 (strip QPn) := Qag (R := runF g_f45 QDl QQk false) (mG Tryz.func45 (by kernel_rfl) Tryz.ntmps45 (by kernel_rfl) gk_f45 lk_f45) fun x hok => (e_f45 x.1 x.2.1 x.2.2.1 x.2.2.2.1 x.2.2.2.2.1).trans (s_f45 x.1 x.2.1 x.2.2.1 x.2.2.2.1 x.2.2.2.2.1 hok)
end
end Go.Proofs.YtkngeegkjhipeaaGreat.K
