import Derived.Test.YtkngeegkjhipeaaGreatN13
set_option linter.unusedSimpArgs false
set_option linter.unusedVariables false
namespace Go.Proofs.YtkngeegkjhipeaaGreat.K
open Go.RowKit
noncomputable section
theorem brOr {β : Type} {a b : Bool} {X Y : Option β} : br a X (br b X Y) = br (a || b) X Y := by cases a <;> cases b <;> rfl
def idAlg (x : Qaq) (s : Suite) : Bool := ieq s.2.2.2.1.1 0 || ieq x.1.1 s.2.2.2.1.1
noncomputable def QDi : TC := (.sq (.reg (rT Tryz.f50 0)) (.sq (.reg (rT Tryz.f50 1)) .rt))
def QQh : List (RV × Option Ty) := [((.t 3), some .bool)]
def g_f50 : G := ⟨TYs, [], 17, EL [], keeps, (fun _ _ => none), IL [], RL []⟩
def r_f50 (p0 : Qaq) (d0 : Suite) : Option (V × List VO) := br (ieq d0.2.2.2.1.1 0) (some (.t .bool true, [.box (.t Qax d0)])) (some (.t .bool (ieq p0.1.1 d0.2.2.2.1.1), [.box (.t Qax d0)]))
theorem e_f50 (p0 : Qaq) (d0 : Suite) : runF g_f50 QDi QQh false [.t Qam p0, .ptr 50000 0] [.box (.t Qax d0)] = r_f50 p0 d0 := by kernel_rfl
theorem en_f50 : Qai Tryz.prog 50 := .inr ⟨by decide, _, Tryz.func50, by kernel_rfl, by kernel_rfl⟩
theorem gk_f50 : GOk Tryz.prog g_f50 := Qal _ (fun p hp => by cases hp)
theorem lk_f50 : QDi.lok g_f50 := by repeat (first | exact trivial | refine ⟨?_, ?_⟩)
theorem s_f50 (x : Qaq) (s : Suite) : r_f50 x s = some (.t .bool (idAlg x s), [.box (.t Qax s)]) := by
 simp only [r_f50]
 unfold idAlg
 cases ieq s.2.2.2.1.1 0 <;> rfl
def QPl : Ent := QpU [.ty Qam, .ptr 50000 0] [Qax] (fun x d => true) (fun x d => (.t .bool (idAlg x.1 d.1)))
theorem ms_f50 : Meets Tryz.prog 50 (strip QPl) := Qih (Qbi (R := runF g_f50 QDi QQh false) (mG Tryz.func50 (by kernel_rfl) Tryz.ntmps50 (by kernel_rfl) gk_f50 lk_f50) fun x d _ => (e_f50 x.1 d.1).trans (s_f50 x.1 d.1))
def okAlg (l : List Qaq) (_s : Suite) : Bool := decide (l.length ≤ 100000)
def ixAlg (l : List Qaq) (s : Suite) : Int := match fstG (fun x => idAlg x s) l with | some k => (k : Int) | none => -1
def Qdd : Fg := ⟨[(0, some (.sl Qam)), (1, none), (7, some tI), (8, some tI)], [(50000, some Qax)]⟩
noncomputable def Qez : TC := (.sq (.reg (rT Tryz.f49 2)) (.sq (.cd (.t 9) .sk (.fg ⟨[], [(50000, some Qax)]⟩ (.ex 0))) (.sq (.bk 1 (.sq (.reg (rT Tryz.f49 3)) (.sq (.reg (rT Tryz.f49 4)) (.cd (.t 16) (.sq (.reg (rT Tryz.f49 5)) (.fg ⟨[(4, some tI)], [(50000, some Qax)]⟩ .rt)) .sk)))) (.reg (rT Tryz.f49 6)))))
noncomputable def Qnq : TC := (.sq (.reg (rT Tryz.f49 0)) (.sq (.sq (.reg (rT Tryz.f49 1)) (.bk 0 (.lp 0 Qdd Qez))) (.sq (.reg (rT Tryz.f49 7)) .rt)))
def Qus : List (RV × Option Ty) := [((.t 4), some tI)]
abbrev Qhm : Sh := ⟨[(0, .ty (.sl Qam)), (1, .fn 50 [(50000, 0)]), (7, .ty tI), (8, .ty tI)], [(50000, .box Qax)]⟩
def Qhh (x0 : List Qaq) (x7 x8 : Int) (y50000 : Suite) : VS := Qhm.st (x0, (), x7, x8, ()) (y50000, ())
abbrev QnW : Sh := ⟨[(4, .ty tI)], [(50000, .box Qax)]⟩
def Qb5 (x4 : Int) (y50000 : Suite) : VS := QnW.st (x4, ()) (y50000, ())
abbrev QpE : Sh := ⟨[], [(50000, .box Qax)]⟩
def Qct (y50000 : Suite) : VS := QpE.st () (y50000, ())
def QCs : VS → Option (Bool × List (Bool × Exit × VS)) := mkL Qhm (fun x y => (rngOk x.1 x.2.2.1 x.2.2.2.1)) (fun x y => [(((fstG (fun x => idAlg x y.1) (x.1.drop x.2.2.2.1.toNat)).isSome), .ret, Qb5 (x.2.2.2.1 + ((fstG (fun x => idAlg x y.1) (x.1.drop x.2.2.2.1.toNat)).getD 0 : Nat)) (y.1)), (true, .exit 0, Qct (y.1))])
def Qd5 : G := ⟨TYs, [], 19, EL [(50, QPl)], keeps, (Ls [QCs]), IL [], RL []⟩
def Qqi (x0 : List Qaq) (x7 x8 : Int) (y50000 : Suite) : Option (Exit × VS) := br (ilt x8 x7) (br (cIx x0 x8) (br (idAlg (lgt Qam x0 (Int.toNat x8)) y50000) (some (.ret, Qb5 x8 y50000)) (some (.normal, Qhh x0 x7 (iadd .i64 x8 1) y50000))) none) (some (.exit 0, Qct y50000))
noncomputable def Qfk (x0 : List Qaq) (x7 x8 : Int) (y50000 : Suite) : Option (Exit × VS) := loopF (Qaj Qd5 Qdd Qez) (Qhh x0 x7 x8 y50000)
noncomputable def QgL (x0 : List Qaq) (x7 x8 : Int) (y50000 : Suite) : Option (Exit × VS) := br (ilt x8 x7) (br (cIx x0 x8) (br (idAlg (lgt Qam x0 (Int.toNat x8)) y50000) (some (.ret, Qb5 x8 y50000)) (Qfk x0 x7 (iadd .i64 x8 1) y50000)) none) (some (.exit 0, Qct y50000))
def Qfp (x0 : List Qaq) (x7 x8 : Int) (y50000 : Suite) : Option (Exit × VS) := br ((fstG (fun x => idAlg x y50000) (x0.drop x8.toNat)).isSome) (some (.ret, Qb5 (x8 + ((fstG (fun x => idAlg x y50000) (x0.drop x8.toNat)).getD 0 : Nat)) (y50000))) <| some (.exit 0, Qct (y50000))
theorem QyW (x0 : List Qaq) (x7 x8 : Int) (y50000 : Suite) : Qaj Qd5 Qdd Qez (Qhh x0 x7 x8 y50000) = Qqi x0 x7 x8 y50000 := by kernel_rfl
theorem QoU (x0 : List Qaq) (x7 x8 : Int) (y50000 : Suite) : Qfk x0 x7 x8 y50000 = QgL x0 x7 x8 y50000 := (Qap _ _).trans (by
 rw [QyW]
 simp only [Qqi, QgL, QaB, nxt_n, nxt_r, nxt_e, nxt_0]
 rfl)
def QrP (p0 : List Qaq) (d0 : Suite) : Option (V × List VO) :=
 let a1 := (p0.drop (0 : Int).toNat)
 br (rngOk p0 (llen p0) (0 : Int)) (br ((fstG (fun x => idAlg x d0) a1).isSome) (some (.t tI ((0 : Int) + ((fstG (fun x => idAlg x d0) a1).getD 0 : Nat)), [.box (.t Qax (d0))])) (some (.t tI (-1), [.box (.t Qax (d0))]))) none
theorem QM7 (p0 : List Qaq) (d0 : Suite) : runF Qd5 Qnq Qus false [.t (.sl Qam) p0, .fn 50 [(.ptr 50000 0)]] [.box (.t Qax d0)] = QrP p0 d0 := by kernel_rfl
theorem QIT : Qai Tryz.prog 49 := .inr ⟨by decide, _, Tryz.func49, by kernel_rfl, by kernel_rfl⟩
theorem QIy : GOk Tryz.prog Qd5 := Qal _ (gA (gC en_f50 ms_f50 gN))
theorem QB6 (x0 : List Qaq) (x7 x8 : Int) (y50000 : Suite) (h : (rngOk x0 x7 x8) = true) : Qfk x0 x7 x8 y50000 = Qfp x0 x7 x8 y50000 := by
 obtain ⟨rfl, h3, k, rfl, hk⟩ := rng_k h
 clear h
 refine Qas x0 (fun k => Qfk x0 (x0.length : Int) (k : Int) y50000 = Qfp x0 (x0.length : Int) (k : Int) y50000) ?_ ?_ k hk
 ·rw [QoU]
  simp [QgL, Qfp, QaA, Qaf, fstG]
 ·intro k hk ih
  rw [QoU]
  simp only [QgL, QaA, Qaw, hk, decide_true, Qac, Int.toNat_natCast, add1 (show k < 4611686018427387904 by omega), ih, QaE (y := Qam) hk]
  simp only [Qfp, Int.toNat_natCast, List.drop_eq_getElem_cons hk, fstG]
  cases h : (idAlg x0[k] y50000) with
  | true => simp [Qac]
  | false =>
   simp only [Qaf, Bool.false_eq_true, if_false]
   cases hq : fstG (fun x => idAlg x y50000) (x0.drop (k + 1)) with
   | none => rfl
   | some j =>
    simp only [Option.map_some, Option.isSome_some, Option.getD_some, Qac]
    congr 3
    omega
theorem Qym : ∀ S l p, Qd5.L 0 (fgt Qdd S) = some (true, l) → pickA l = some p → loopF (Qaj Qd5 Qdd Qez) S = some p :=
 QaD (s := Qhm) ⟨by decide, by decide⟩ (by kernel_rfl) fun x y hok p hp => by
 simp only [Qar, Qao] at hp
 exact (QB6 x.1 x.2.2.1 x.2.2.2.1 y.1 (by simpa using hok)).trans hp
theorem QH5 : Qnq.lok Qd5 := by
 repeat (first | exact trivial | exact Qym | refine ⟨?_, ?_⟩)
theorem QLb (l : List Qaq) (s : Suite) (h : okAlg l s = true) : QrP l s = some (.t tI (ixAlg l s), [.box (.t Qax s)]) := by
 have hl : l.length ≤ 100000 := of_decide_eq_true h
 simp only [QrP, rng_0 hl, Qac, Int.toNat_zero, List.drop_zero, ixAlg]
 cases fstG (fun x => idAlg x s) l <;> simp [Qac, Qaf]
def Qtn : Ent := QpU [.ty (.sl Qam), .fn 50 [(50000, 0)]] [Qax] (fun x d => (okAlg x.1 d.1)) (fun x d => (.t tI (ixAlg x.1 d.1)))
theorem QHc : Meets Tryz.prog 49 (strip Qtn) := Qih (Qbi (R := runF Qd5 Qnq Qus false) (mG Tryz.func49 (by kernel_rfl) Tryz.ntmps49 (by kernel_rfl) QIy QH5) fun x d hok => (QM7 x.1 d.1).trans (QLb x.1 d.1 hok))
def QaQ (e : Qad) (c : Int) : Int × Bool := bif ine (Qay c).2 0 then (-1, false) else (ixAlg (eIds e) (Qay c).1, ige (ixAlg (eIds e) (Qay c).1) 0)
def idnOk (e : Qad) (_c : Int) : Bool := decide ((eIds e).length ≤ 100000)
noncomputable def QDG : TC := (.sq (.reg (rT Tryz.f21 0)) (.sq (.reg (rT Tryz.f21 1)) (.sq (.sq (.reg (rT Tryz.f21 2)) (.cd (.t 15) (.sq (.reg (rT Tryz.f21 3)) .rt) .sk)) (.sq (.reg (rT Tryz.f21 4)) (.sq (.reg (rT Tryz.f21 5)) .rt)))))
def QQF : List (RV × Option Ty) := [((.t 4), some tI), ((.t 5), some .bool)]
def g_f21 : G := ⟨TYs, [], 23, EL [(48, Qto), (49, Qtn)], keeps, (fun _ _ => none), IL [], RL []⟩
def r_f21 (p0 : Qad) (p1 : Int) : Option (V × List VO) :=
 let a1 := ixAlg p0.2.2.2.2.2.1 ((Qay p1).1)
 br (ine ((Qay p1).2) 0) (some (.tu [(.t tI (-1)), (.t .bool false)], [])) (br (okAlg p0.2.2.2.2.2.1 ((Qay p1).1)) (some (.tu [(.t tI a1), (.t .bool (ige a1 0))], [])) none)
theorem e_f21 (p0 : Qad) (p1 : Int) : runF g_f21 QDG QQF false [.t Qae p0, .t tI p1] [] = r_f21 p0 p1 := by kernel_rfl
theorem QA9 : Qai Tryz.prog 21 := .inr ⟨by decide, _, Tryz.func21, by kernel_rfl, by kernel_rfl⟩
theorem gk_f21 : GOk Tryz.prog g_f21 := Qal _ (gA (gC QA6 Qzy (gC QIT QHc gN)))
theorem lk_f21 : QDG.lok g_f21 := by repeat (first | exact trivial | refine ⟨?_, ?_⟩)
theorem s_f21 (e : Qad) (c : Int) (h : idnOk e c = true) : r_f21 e c = some (.tu [.t tI (QaQ e c).1, .t .bool (QaQ e c).2], []) := by
 have hk : okAlg (eIds e) (Qay c).1 = true := h
 simp only [r_f21, hk, Qac]
 unfold QaQ
 cases ine (Qay c).2 0 <;> rfl
def Qtu : Ent := spec (.pr Qae (.pr tI .nil)) (fun x => (idnOk x.1 x.2.1)) (fun x => (.tu [(.t tI ((QaQ x.1 x.2.1).1)), (.t .bool ((QaQ x.1 x.2.1).2))]))
theorem QzC : Meets Tryz.prog 21 (strip Qtu) := Qag (R := runF g_f21 QDG QQF false) (mG Tryz.func21 (by kernel_rfl) Tryz.ntmps21 (by kernel_rfl) gk_f21 lk_f21) fun x hok => (e_f21 x.1 x.2.1).trans (s_f21 x.1 x.2.1 hok)
noncomputable def QNy : List DO := dT Tryz.f22 6
def Qjw : Fg := ⟨[(2, none), (6, none), (8, some tI)], [(2, some Qae), (6, some Qax)]⟩
noncomputable def QlB : TC := (.sq (.sq (.reg (rT Tryz.f22 5)) (.cd (.t 20) .sk (.fg ⟨[], []⟩ (.ex 0)))) (.sq (.bk 1 (.sq (.dr QNy [(0, [6]), (1, [6]), (2, [6]), (3, []), (4, []), (5, [2]), (6, [2]), (7, []), (8, []), (9, []), (10, []), (11, []), (12, [6]), (13, [6]), (14, [6]), (15, []), (16, [])] (.of [0, 1, 2, 3, 4, 5, 6, 7, 8, 9, 10, 11, 12, 13, 14, 15, 16])) (.cd (.t 39) (.sq (.reg (rT Tryz.f22 7)) (.fg ⟨[(4, some tI), (5, some .bool)], []⟩ .rt)) .sk))) (.reg (rT Tryz.f22 8))))
noncomputable def QDF : TC := (.sq (.reg (rT Tryz.f22 0)) (.sq (.reg (rT Tryz.f22 1)) (.sq (.sq (.reg (rT Tryz.f22 2)) (.cd (.t 15) (.sq (.reg (rT Tryz.f22 3)) .rt) .sk)) (.sq (.sq (.reg (rT Tryz.f22 4)) (.bk 0 (.lp 0 Qjw QlB))) (.sq (.reg (rT Tryz.f22 9)) .rt)))))
def QQE : List (RV × Option Ty) := [((.t 4), some tI), ((.t 5), some .bool)]
abbrev Qrn : Sh := ⟨[(2, .ptr 2 0), (6, .ptr 6 0), (8, .ty tI)], [(2, .box Qae), (6, .box Qax)]⟩
def QqM (x8 : Int) (y2 : Qad) (y6 : Suite) : VS := Qrn.st ((), (), x8, ()) (y2, y6, ())
abbrev QtT : Sh := ⟨[(4, .ty tI), (5, .ty .bool)], []⟩
def QbR (x4 : Int) (x5 : Bool) : VS := QtT.st (x4, x5, ()) ()
abbrev Qxz : Sh := ⟨[], []⟩
def Qe1  : VS := Qxz.st () ()
def QWr : VS → Option (Bool × List (Bool × Exit × VS)) := mkL Qrn (fun x y => (idnOk y.1 0 && decide (0 ≤ x.2.2.1 ∧ x.2.2.1 ≤ (eIds y.1).length))) (fun x y => [(((fstG (fun x => idAlg x y.2.1) ((eIds y.1).drop x.2.2.1.toNat)).isSome), .ret, QbR (x.2.2.1 + ((fstG (fun x => idAlg x y.2.1) ((eIds y.1).drop x.2.2.1.toNat)).getD 0 : Nat)) (true)), (true, .exit 0, Qe1)])
def g_f22 : G := ⟨TYs, [], 41, EL [(26, QpW)], keeps, (Ls [QWr]), IL [], RL []⟩
def QKu (x8 : Int) (y2 : Qad) (y6 : Suite) : Option (Exit × VS) := br (ilt x8 (llen y2.2.2.2.2.2.1)) (br (ieq y6.2.2.2.1.1 0) (some (.ret, QbR x8 true)) (br (cIx y2.2.2.2.2.2.1 x8) (br (ieq (((lgt Qam y2.2.2.2.2.2.1 (Int.toNat x8)).1).1) y6.2.2.2.1.1) (some (.ret, QbR x8 true)) (some (.normal, QqM (iadd .i64 x8 1) y2 y6))) none)) (some (.exit 0, Qe1))
noncomputable def Qmu (x8 : Int) (y2 : Qad) (y6 : Suite) : Option (Exit × VS) := loopF (Qaj g_f22 Qjw QlB) (QqM x8 y2 y6)
noncomputable def Qsr (x8 : Int) (y2 : Qad) (y6 : Suite) : Option (Exit × VS) := br (ilt x8 (llen y2.2.2.2.2.2.1)) (br (ieq y6.2.2.2.1.1 0) (some (.ret, QbR x8 true)) (br (cIx y2.2.2.2.2.2.1 x8) (br (ieq (((lgt Qam y2.2.2.2.2.2.1 (Int.toNat x8)).1).1) y6.2.2.2.1.1) (some (.ret, QbR x8 true)) (Qmu (iadd .i64 x8 1) y2 y6)) none)) (some (.exit 0, Qe1))
def QmX (x8 : Int) (y2 : Qad) (y6 : Suite) : Option (Exit × VS) :=
 let a1 := ((eIds y2).drop x8.toNat)
 br ((fstG (fun x => idAlg x y6) a1).isSome) (some (.ret, QbR (x8 + ((fstG (fun x => idAlg x y6) a1).getD 0 : Nat)) (true))) <| some (.exit 0, Qe1)
theorem QOg (x8 : Int) (y2 : Qad) (y6 : Suite) : Qaj g_f22 Qjw QlB (QqM x8 y2 y6) = QKu x8 y2 y6 := by kernel_rfl
theorem Qz6 (x8 : Int) (y2 : Qad) (y6 : Suite) : Qmu x8 y2 y6 = Qsr x8 y2 y6 := (Qap _ _).trans (by
 rw [QOg]
 simp only [QKu, Qsr, QaB, nxt_n, nxt_r, nxt_e, nxt_0]
 rfl)
def r_f22 (p0 : Qad) (p1 : Int) : Option (V × List VO) := br (ine ((Qay p1).2) 0) (some (.tu [(.t tI (-1)), (.t .bool false)], [])) (br (idnOk p0 0 && decide (0 ≤ (0 : Int) ∧ (0 : Int) ≤ (eIds p0).length)) (br ((fstG (fun x => idAlg x ((Qay p1).1)) ((eIds p0).drop (0 : Int).toNat)).isSome) (some (.tu [(.t tI ((0 : Int) + ((fstG (fun x => idAlg x ((Qay p1).1)) ((eIds p0).drop (0 : Int).toNat)).getD 0 : Nat))), (.t .bool (true))], [])) (some (.tu [(.t tI (-1)), (.t .bool false)], []))) none)
theorem e_f22 (p0 : Qad) (p1 : Int) : runF g_f22 QDF QQE false [.t Qae p0, .t tI p1] [] = r_f22 p0 p1 := by kernel_rfl
theorem QA8 : Qai Tryz.prog 22 := .inr ⟨by decide, _, Tryz.func22, by kernel_rfl, by kernel_rfl⟩
theorem gk_f22 : GOk Tryz.prog g_f22 := Qal _ (gA (gC QvH QuW gN))
theorem QUb (x8 : Int) (y2 : Qad) (y6 : Suite) (h : (idnOk y2 0 && decide (0 ≤ x8 ∧ x8 ≤ (eIds y2).length)) = true) : Qmu x8 y2 y6 = QmX x8 y2 y6 := by
 simp only [idnOk, Bool.and_eq_true, decide_eq_true_eq] at h
 obtain ⟨hl, h0, h1⟩ := h
 obtain ⟨k, rfl⟩ := Int.eq_ofNat_of_zero_le h0
 refine Qas (eIds y2) (fun k => Qmu (k : Int) y2 y6 = QmX (k : Int) y2 y6) ?_ ?_ k (by omega)
 ·rw [Qz6]
  simp only [Qsr, show ilt ((eIds y2).length : Int) (llen (eIds y2)) = false from decide_eq_false (by simp only [llen]; omega), Qaf, QmX, Int.toNat_natCast, List.drop_length, fstG]
  rfl
 ·intro k hk ih
  rw [Qz6]
  simp only [Qsr, show ilt (k : Int) (llen (eIds y2)) = true from decide_eq_true (by simp only [llen]; omega), Qaw, hk, decide_true, Qac, Int.toNat_natCast, add1 (show k < 4611686018427387904 by omega), QaE (y := Qam) hk, ih]
  simp only [QmX, Int.toNat_natCast, List.drop_eq_getElem_cons hk, fstG]
  rw [brOr]
  show br (idAlg (eIds y2)[k] y6) _ _ = _
  cases h : idAlg (eIds y2)[k] y6 with
  | true => simp [Qac]
  | false =>
   simp only [Qaf, Bool.false_eq_true, if_false]
   cases hq : fstG (fun x => idAlg x y6) ((eIds y2).drop (k + 1)) with
   | none => rfl
   | some j =>
    simp only [Option.map_some, Option.isSome_some, Option.getD_some, Qac]
    congr 3
    omega
theorem QL2 : ∀ S l p, g_f22.L 0 (fgt Qjw S) = some (true, l) → pickA l = some p → loopF (Qaj g_f22 Qjw QlB) S = some p :=
 QaD (s := Qrn) ⟨by decide, by decide⟩ (by kernel_rfl) fun x y hok p hp => by
 simp only [Qar, Qao] at hp
 exact (QUb x.2.2.1 y.1 y.2.1 (by simpa using hok)).trans hp
theorem lk_f22 : QDF.lok g_f22 := by
 repeat (first | exact trivial | exact QL2 | refine ⟨?_, ?_⟩)
theorem s_f22 (e : Qad) (c : Int) (h : idnOk e c = true) : r_f22 e c = some (.tu [.t tI (QaQ e c).1, .t .bool (QaQ e c).2], []) := by
 have hd : decide ((0 : Int) ≤ 0 ∧ (0 : Int) ≤ (eIds e).length) = true := decide_eq_true (by omega)
 have hk : idnOk e 0 = true := h
 simp only [r_f22, hk, hd, Bool.and_self, Qac, Int.toNat_zero, List.drop_zero]
 unfold QaQ ixAlg
 cases ine (Qay c).2 0 with
 | true => rfl
 | false =>
  rw [Qaf, cond_false]
  cases fstG (fun x => idAlg x (Qay c).1) (eIds e) with
  | none => rfl
  | some k =>
   have : ige (k : Int) 0 = true := decide_eq_true (by omega)
   simp [Qac, this]
def Qtt : Ent := spec (.pr Qae (.pr tI .nil)) (fun x => (idnOk x.1 x.2.1)) (fun x => (.tu [(.t tI ((QaQ x.1 x.2.1).1)), (.t .bool ((QaQ x.1 x.2.1).2))]))
theorem QzB : Meets Tryz.prog 22 (strip Qtt) := Qag (R := runF g_f22 QDF QQE false) (mG Tryz.func22 (by kernel_rfl) Tryz.ntmps22 (by kernel_rfl) gk_f22 lk_f22) fun x hok => (e_f22 x.1 x.2.1).trans (s_f22 x.1 x.2.1 hok)
def lenEE (e : Qad) (o : List Int) : Bool := decide ((eIds e).length ≤ 100000 ∧ (Qan e).length ≤ 100000 ∧ o.length ≤ 100000)
def posE (e : Qad) (o : List Int) (v c : Int) : Bool :=
 ieq (Qay c).2 0 && (ige v (Qay c).1.2.2.2.2.2.2.1 && (ige (Qay c).1.2.2.2.2.2.2.2.1 v && (hasF o c && (hasF (Qan e) c && (QaQ e c).2))))
def posOk (e : Qad) (o : List Int) (_v _c : Int) : Bool := lenEE e o
abbrev tkE (t : Talk) : Qad := t.1
abbrev tkV (t : Talk) : Int := t.2.1
abbrev tkO (t : Talk) : List Int := t.2.2.1
def possF (t : Talk) (c : Int) : Bool := posE (tkE t) (tkO t) (tkV t) c
def QdX (t : Talk) (_c : Int) : Bool := lenEE (tkE t) (tkO t)
noncomputable def QDp : TC := (.sq (.reg (rT Tryz.f41 0)) (.sq (.reg (rT Tryz.f41 1)) (.sq (.sq (.reg (rT Tryz.f41 2)) (.cd (.t 44) (.sq (.reg (rT Tryz.f41 3)) .rt) .sk)) (.sq (.reg (rT Tryz.f41 4)) (.sq (.reg (rT Tryz.f41 5)) .rt)))))
def QQo : List (RV × Option Ty) := [((.t 4), some .bool)]
def g_f41 : G := ⟨TYs, [], 53, EL [(21, Qtu), (48, Qto), (59, QpV)], keeps, (fun _ _ => none), IL [], RL []⟩
def r_f41 (p0 : Talk) (p1 : Int) : Option (V × List VO) :=
 let a1 := ((((((((Qay p1).1).2).2).2).2).2).2)
 br (ine ((Qay p1).2) 0) (some (.t .bool false, [])) (br (ilt p0.2.1 (a1.1)) (some (.t .bool false, [])) (br (igt p0.2.1 ((a1.2).1)) (some (.t .bool false, [])) (br (QaR p0.2.2.1 p1) (br (!(hasF p0.2.2.1 p1)) (some (.t .bool false, [])) (br (QaR p0.1.2.2.2.1 p1) (br (!(hasF p0.1.2.2.2.1 p1)) (some (.t .bool false, [])) (br (idnOk p0.1 p1) (some (.t .bool ((QaQ p0.1 p1).2), [])) none)) none)) none)))
theorem e_f41 (p0 : Talk) (p1 : Int) : runF g_f41 QDp QQo false [.t Qei p0, .t tI p1] [] = r_f41 p0 p1 := by kernel_rfl
theorem QRv : Qai Tryz.prog 41 := .inr ⟨by decide, _, Tryz.func41, by kernel_rfl, by kernel_rfl⟩
theorem gk_f41 : GOk Tryz.prog g_f41 := Qal _ (gA (gC QA9 QzC (gC QA6 Qzy (gC QvD QuT gN))))
theorem lk_f41 : QDp.lok g_f41 := by repeat (first | exact trivial | refine ⟨?_, ?_⟩)
theorem QAl (a b : Int) : ine a b = !ieq a b := rfl
theorem QAm (a b : Int) : ilt a b = !ige a b := by simp only [ilt, ige]; by_cases h : a < b <;> simp [h] <;> omega
theorem s_f41 (t : Talk) (c : Int) (h : QdX t c = true) : r_f41 t c = some (.t .bool (possF t c), []) := by
 simp only [QdX, lenEE, decide_eq_true_eq] at h
 have c1 : QaR t.2.2.1 c = true := decide_eq_true h.2.2
 have c2 : QaR t.1.2.2.2.1 c = true := decide_eq_true h.2.1
 have c3 : idnOk t.1 c = true := decide_eq_true h.1
 simp only [r_f41, c1, c2, c3, Qac, QAl, QAm]
 show _ = some (V.t .bool (posE t.1 t.2.2.1 t.2.1 c), [])
 unfold posE
 cases ieq (Qay c).2 0 with
 | false => rfl
 | true =>
  cases ige t.2.1 (Qay c).1.2.2.2.2.2.2.1 with
  | false => rfl
  | true =>
   cases ige (Qay c).1.2.2.2.2.2.2.2.1 t.2.1 with
   | false => rfl
   | true =>
    cases hasF t.2.2.1 c with
    | false => rfl
    | true => cases hasF t.1.2.2.2.1 c <;> rfl
def QD6 : Ent := spec (.pr Qei (.pr tI .nil)) (fun x => (QdX x.1 x.2.1)) (fun x => (.t .bool (possF x.1 x.2.1)))
theorem QQ9 : Meets Tryz.prog 41 (strip QD6) := Qag (R := runF g_f41 QDp QQo false) (mG Tryz.func41 (by kernel_rfl) Tryz.ntmps41 (by kernel_rfl) gk_f41 lk_f41) fun x hok => (e_f41 x.1 x.2.1).trans (s_f41 x.1 x.2.1 hok)
noncomputable def QDm : TC := (.sq (.reg (rT Tryz.f44 0)) (.sq (.reg (rT Tryz.f44 1)) (.sq (.sq (.reg (rT Tryz.f44 2)) (.cd (.t 44) (.sq (.reg (rT Tryz.f44 3)) .rt) .sk)) (.sq (.reg (rT Tryz.f44 4)) (.sq (.reg (rT Tryz.f44 5)) .rt)))))
def QQl : List (RV × Option Ty) := [((.t 8), some .bool)]
def g_f44 : G := ⟨TYs, [], 52, EL [(22, Qtt), (26, QpW), (27, Qts)], keeps, (fun _ _ => none), IL [], RL []⟩
def r_f44 (p0 : Qad) (p1 : List Int) (p2 p3 : Int) : Option (V × List VO) :=
 let a1 := ((((((((Qay p3).1).2).2).2).2).2).2)
 br (ine ((Qay p3).2) 0) (some (.t .bool false, [])) (br (QaR p1 p3) (br (!(hasF p1 p3)) (some (.t .bool false, [])) (br (QaR p0.2.2.2.1 p3) (br (!(hasF p0.2.2.2.1 p3)) (some (.t .bool false, [])) (br (ilt p2 (a1.1)) (some (.t .bool false, [])) (br (igt p2 ((a1.2).1)) (some (.t .bool false, [])) (br (idnOk p0 p3) (some (.t .bool ((QaQ p0 p3).2), [])) none)))) none)) none)
theorem e_f44 (p0 : Qad) (p1 : List Int) (p2 p3 : Int) : runF g_f44 QDm QQl false [.t Qae p0, .t (.sl tI) p1, .t tI p2, .t tI p3] [] = r_f44 p0 p1 p2 p3 := by kernel_rfl
theorem QRu : Qai Tryz.prog 44 := .inr ⟨by decide, _, Tryz.func44, by kernel_rfl, by kernel_rfl⟩
theorem gk_f44 : GOk Tryz.prog g_f44 := Qal _ (gA (gC QA8 QzB (gC QvH QuW (gC QvG QzA gN))))
theorem lk_f44 : QDm.lok g_f44 := by repeat (first | exact trivial | refine ⟨?_, ?_⟩)
theorem s_f44 (e : Qad) (o : List Int) (v c : Int) (h : posOk e o v c = true) : r_f44 e o v c = some (.t .bool (posE e o v c), []) := by
 simp only [posOk, lenEE, decide_eq_true_eq] at h
 have c1 : QaR o c = true := decide_eq_true h.2.2
 have c2 : QaR e.2.2.2.1 c = true := decide_eq_true h.2.1
 have c3 : idnOk e c = true := decide_eq_true h.1
 simp only [r_f44, c1, c2, c3, Qac, QAl, QAm]
 unfold posE
 cases ieq (Qay c).2 0 <;> cases ige v (Qay c).1.2.2.2.2.2.2.1 <;> cases ige (Qay c).1.2.2.2.2.2.2.2.1 v <;> cases hasF o c <;> cases hasF e.2.2.2.1 c <;> rfl
def QD5 : Ent := spec (.pr Qae (.pr (.sl tI) (.pr tI (.pr tI .nil)))) (fun x => (posOk x.1 x.2.1 x.2.2.1 x.2.2.2.1)) (fun x => (.t .bool (posE x.1 x.2.1 x.2.2.1 x.2.2.2.1)))
theorem QQ8 : Meets Tryz.prog 44 (strip QD5) := Qag (R := runF g_f44 QDm QQl false) (mG Tryz.func44 (by kernel_rfl) Tryz.ntmps44 (by kernel_rfl) gk_f44 lk_f44) fun x hok => (e_f44 x.1 x.2.1 x.2.2.1 x.2.2.2.1).trans (s_f44 x.1 x.2.1 x.2.2.1 x.2.2.2.1 hok)
def QdZ (t : Talk) : List Int := tkO t
def QfT (t : Talk) : List Int := Qan (tkE t)
noncomputable def QDr : TC := (.sq (.reg (rT Tryz.f38 0)) (.sq (.reg (rT Tryz.f38 1)) .rt))
def QQq : List (RV × Option Ty) := [((.t 2), some (.sl tI))]
def g_f38 : G := ⟨TYs, [], 5, EL [], keeps, (fun _ _ => none), IL [], RL []⟩
def r_f38 (p0 : Talk) : Option (V × List VO) := some (.t (.sl tI) p0.2.2.1, [])
theorem e_f38 (p0 : Talk) : runF g_f38 QDr QQq false [.t Qei p0] [] = r_f38 p0 := by kernel_rfl
theorem en_f38 : Qai Tryz.prog 38 := .inr ⟨by decide, _, Tryz.func38, by kernel_rfl, by kernel_rfl⟩
theorem gk_f38 : GOk Tryz.prog g_f38 := Qal _ (fun p hp => by cases hp)
theorem lk_f38 : QDr.lok g_f38 := by repeat (first | exact trivial | refine ⟨?_, ?_⟩)
theorem s_f38 (t : Talk) : r_f38 t = some (.t (.sl tI) (QdZ t), []) := rfl
def QPq : Ent := spec (.pr Qei .nil) (fun x => true) (fun x => (.t (.sl tI) (QdZ x.1)))
theorem ms_f38 : Meets Tryz.prog 38 (strip QPq) := Qag (R := runF g_f38 QDr QQq false) (mG Tryz.func38 (by kernel_rfl) Tryz.ntmps38 (by kernel_rfl) gk_f38 lk_f38) fun x _ => (e_f38 x.1).trans (s_f38 x.1)
noncomputable def QDq : TC := (.sq (.reg (rT Tryz.f39 0)) (.sq (.reg (rT Tryz.f39 1)) .rt))
def QQp : List (RV × Option Ty) := [((.t 2), some (.sl tI))]
def g_f39 : G := ⟨TYs, [], 6, EL [], keeps, (fun _ _ => none), IL [], RL []⟩
def r_f39 (p0 : Talk) : Option (V × List VO) := some (.t (.sl tI) p0.1.2.2.2.1, [])
theorem e_f39 (p0 : Talk) : runF g_f39 QDq QQp false [.t Qei p0] [] = r_f39 p0 := by kernel_rfl
theorem en_f39 : Qai Tryz.prog 39 := .inr ⟨by decide, _, Tryz.func39, by kernel_rfl, by kernel_rfl⟩
theorem gk_f39 : GOk Tryz.prog g_f39 := Qal _ (fun p hp => by cases hp)
theorem lk_f39 : QDq.lok g_f39 := by repeat (first | exact trivial | refine ⟨?_, ?_⟩)
theorem s_f39 (t : Talk) : r_f39 t = some (.t (.sl tI) (QfT t), []) := rfl
def QPp : Ent := spec (.pr Qei .nil) (fun x => true) (fun x => (.t (.sl tI) (QfT x.1)))
theorem ms_f39 : Meets Tryz.prog 39 (strip QPp) := Qag (R := runF g_f39 QDq QQp false) (mG Tryz.func39 (by kernel_rfl) Tryz.ntmps39 (by kernel_rfl) gk_f39 lk_f39) fun x _ => (e_f39 x.1).trans (s_f39 x.1)
def Qc5 (c s : Qad) : Bool := QaJ c && QaJ s
def Qa8 (c s : Qad) : Bool := QaS c && QaS s
noncomputable def QDs : TC := (.sq (.reg (rT Tryz.f37 0)) (.sq (.reg (rT Tryz.f37 1)) .rt))
def QQr : List (RV × Option Ty) := [((.t 4), some .bool)]
def g_f37 : G := ⟨TYs, [], 13, EL [(51, QD4)], keeps, (fun _ _ => none), IL [], RL []⟩
def r_f37 (p0 p1 : Qad) : Option (V × List VO) := br (QaS p0) (br (ieq (QbZ p0) 0) (br (QaS p1) (some (.t .bool (ieq (QbZ p1) 0), [])) none) (some (.t .bool false, []))) none
theorem e_f37 (p0 p1 : Qad) : runF g_f37 QDs QQr false [.t Qae p0, .t Qae p1] [] = r_f37 p0 p1 := by kernel_rfl
theorem QIX : Qai Tryz.prog 37 := .inr ⟨by decide, _, Tryz.func37, by kernel_rfl, by kernel_rfl⟩
theorem gk_f37 : GOk Tryz.prog g_f37 := Qal _ (gA (gC QRt QQ7 gN))
theorem lk_f37 : QDs.lok g_f37 := by repeat (first | exact trivial | refine ⟨?_, ?_⟩)
theorem s_f37 (c s : Qad) (h : Qa8 c s = true) : r_f37 c s = some (.t .bool (Qc5 c s), []) := by
 simp only [Qa8, Bool.and_eq_true] at h
 simp only [r_f37, h.1, h.2, Qac, QJv]
 unfold Qc5
 cases QaJ c <;> rfl
def Qy9 : Ent := spec (.pr Qae (.pr Qae .nil)) (fun x => (Qa8 x.1 x.2.1)) (fun x => (.t .bool (Qc5 x.1 x.2.1)))
theorem QHg : Meets Tryz.prog 37 (strip Qy9) := Qag (R := runF g_f37 QDs QQr false) (mG Tryz.func37 (by kernel_rfl) Tryz.ntmps37 (by kernel_rfl) gk_f37 lk_f37) fun x hok => (e_f37 x.1 x.2.1).trans (s_f37 x.1 x.2.1 hok)
end
end Go.Proofs.YtkngeegkjhipeaaGreat.K
