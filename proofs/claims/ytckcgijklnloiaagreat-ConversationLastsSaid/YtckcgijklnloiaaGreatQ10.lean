import Derived.Test.YtckcgijklnloiaaGreatQ9
import Derived.Test.YtckcgijklnloiaaGreatQ8
set_option linter.unusedSimpArgs false
set_option linter.unusedVariables false
namespace Go.Proofs.YtckcgijklnloiaaGreat.K
open Go.RowKit
noncomputable section
def Qc1 (u : Keep) (a : Int) : Bool := ieq u.1 a
noncomputable def QDD : TC := (.sq (.reg (rT Tryz.f52 0)) (.sq (.reg (rT Tryz.f52 1)) .rt))
def QQl : List (RV × Option Ty) := [((.t 3), some .bool)]
def g_f52 : G := ⟨TYs, [], 8, EL [], keeps, (fun _ _ => none), IL [], RL []⟩
def r_f52 (p0 : Keep) (d0 : Int) : Option (V × List VO) := some (.t .bool (ieq p0.1 d0), [.box (.t tI d0)])
theorem e_f52 (p0 : Keep) (d0 : Int) : runF g_f52 QDD QQl false [.t Qah p0, .ptr 50000 0] [.box (.t tI d0)] = r_f52 p0 d0 := by kernel_rfl
theorem en_f52 : Qai Tryz.prog 52 := .inr ⟨by decide, _, Tryz.func52, by kernel_rfl, by kernel_rfl⟩
theorem gk_f52 : GOk Tryz.prog g_f52 := Qal _ (fun p hp => by cases hp)
theorem lk_f52 : QDD.lok g_f52 := by repeat (first | exact trivial | refine ⟨?_, ?_⟩)
theorem s_f52 (u : Keep) (a : Int) : r_f52 u a = some (.t .bool (Qc1 u a), [.box (.t tI a)]) := by
 simp only [r_f52]
 rfl
def QPK : Ent := QfO [.ty Qah, .ptr 50000 0] [tI] (fun x d => true) (fun x d => (.t .bool (Qc1 x.1 d.1)))
theorem ms_f52 : Meets Tryz.prog 52 (strip QPK) := Qcn (QaQ (R := runF g_f52 QDD QQl false) (mG Tryz.func52 (by kernel_rfl) Tryz.ntmps52 (by kernel_rfl) gk_f52 lk_f52) fun x d _ => (e_f52 x.1 d.1).trans (s_f52 x.1 d.1))
def okUse (l : List Keep) (_a : Int) : Bool := decide (l.length ≤ 100000)
theorem QHX {l : List Keep} {a : Int} (h : okUse l a = true) : l.length ≤ 100000 := of_decide_eq_true h
def ixUse (l : List Keep) (d0 : Int) : Int := match fstG (fun c => Qc1 c d0) l with | some k => (k : Int) | none => -1
def QdE : Fg := ⟨[(0, some (.sl Qah)), (1, none), (7, some tI), (8, some tI)], [(50000, some tI)]⟩
noncomputable def Qe0 : TC := (.sq (.reg (rT Tryz.f86 2)) (.sq (.cd (.t 9) .sk (.fg ⟨[], [(50000, some tI)]⟩ (.ex 0))) (.sq (.bk 1 (.sq (.reg (rT Tryz.f86 3)) (.sq (.reg (rT Tryz.f86 4)) (.cd (.t 16) (.sq (.reg (rT Tryz.f86 5)) (.fg ⟨[(4, some tI)], [(50000, some tI)]⟩ .rt)) .sk)))) (.reg (rT Tryz.f86 6)))))
noncomputable def Qnw : TC := (.sq (.reg (rT Tryz.f86 0)) (.sq (.sq (.reg (rT Tryz.f86 1)) (.bk 0 (.lp 0 QdE Qe0))) (.sq (.reg (rT Tryz.f86 7)) .rt)))
def QuG : List (RV × Option Ty) := [((.t 4), some tI)]
abbrev Qic : Sh := ⟨[(0, .ty (.sl Qah)), (1, .fn 52 [(50000, 0)]), (7, .ty tI), (8, .ty tI)], [(50000, .box tI)]⟩
def Qh7 (x0 : List Keep) (x7 x8 y50000 : Int) : VS := Qic.st (x0, (), x7, x8, ()) (y50000, ())
abbrev Qoi : Sh := ⟨[(4, .ty tI)], [(50000, .box tI)]⟩
def Qch (x4 y50000 : Int) : VS := Qoi.st (x4, ()) (y50000, ())
abbrev QqD : Sh := ⟨[], [(50000, .box tI)]⟩
def QcG (y50000 : Int) : VS := QqD.st () (y50000, ())
def QC7 : VS → Option (Bool × List (Bool × Exit × VS)) := mkL Qic (fun x y => (rngOk x.1 x.2.2.1 x.2.2.2.1 && okUse x.1 y.1)) (fun x y => [(((fstG (fun c => Qc1 c y.1) (x.1.drop x.2.2.2.1.toNat)).isSome), .ret, Qch (x.2.2.2.1 + ((fstG (fun c => Qc1 c y.1) (x.1.drop x.2.2.2.1.toNat)).getD 0 : Nat)) (y.1)), (true, .exit 0, QcG (y.1))])
def Qex : G := ⟨TYs, [], 19, EL [(52, QPK)], keeps, (Ls [QC7]), IL [], RL []⟩
def Qrq (x0 : List Keep) (x7 x8 y50000 : Int) : Option (Exit × VS) := br (ilt x8 x7) (br (cIx x0 x8) (br (Qc1 (lgt Qah x0 (Int.toNat x8)) y50000) (some (.ret, Qch x8 y50000)) (some (.normal, Qh7 x0 x7 (iadd .i64 x8 1) y50000))) none) (some (.exit 0, QcG y50000))
noncomputable def Qfx (x0 : List Keep) (x7 x8 y50000 : Int) : Option (Exit × VS) := loopF (Qak Qex QdE Qe0) (Qh7 x0 x7 x8 y50000)
noncomputable def Qhn (x0 : List Keep) (x7 x8 y50000 : Int) : Option (Exit × VS) := br (ilt x8 x7) (br (cIx x0 x8) (br (Qc1 (lgt Qah x0 (Int.toNat x8)) y50000) (some (.ret, Qch x8 y50000)) (Qfx x0 x7 (iadd .i64 x8 1) y50000)) none) (some (.exit 0, QcG y50000))
def QfD (x0 : List Keep) (x7 x8 y50000 : Int) : Option (Exit × VS) := br ((fstG (fun c => Qc1 c y50000) (x0.drop x8.toNat)).isSome) (some (.ret, Qch (x8 + ((fstG (fun c => Qc1 c y50000) (x0.drop x8.toNat)).getD 0 : Nat)) (y50000))) <| some (.exit 0, QcG (y50000))
theorem Qzc (x0 : List Keep) (x7 x8 y50000 : Int) : Qak Qex QdE Qe0 (Qh7 x0 x7 x8 y50000) = Qrq x0 x7 x8 y50000 := by kernel_rfl
theorem QpG (x0 : List Keep) (x7 x8 y50000 : Int) : Qfx x0 x7 x8 y50000 = Qhn x0 x7 x8 y50000 := (Qao _ _).trans (by
 rw [Qzc]
 simp only [Qrq, Qhn, Qay, nxt_n, nxt_r, nxt_e, nxt_0]
 rfl)
def Qsx (p0 : List Keep) (d0 : Int) : Option (V × List VO) :=
 let a1 := (p0.drop (0 : Int).toNat)
 br (rngOk p0 (llen p0) (0 : Int) && okUse p0 d0) (br ((fstG (fun c => Qc1 c d0) a1).isSome) (some (.t tI ((0 : Int) + ((fstG (fun c => Qc1 c d0) a1).getD 0 : Nat)), [.box (.t tI (d0))])) (some (.t tI (-1), [.box (.t tI (d0))]))) none
theorem QOe (p0 : List Keep) (d0 : Int) : runF Qex Qnw QuG false [.t (.sl Qah) p0, .fn 52 [(.ptr 50000 0)]] [.box (.t tI d0)] = Qsx p0 d0 := by kernel_rfl
theorem QJV : Qai Tryz.prog 86 := .inr ⟨by decide, _, Tryz.func86, by kernel_rfl, by kernel_rfl⟩
theorem QJG : GOk Tryz.prog Qex := Qal _ (gA (gC en_f52 ms_f52 gN))
theorem QCt (x0 : List Keep) (x7 x8 y50000 : Int) (h : (rngOk x0 x7 x8 && okUse x0 y50000) = true) : Qfx x0 x7 x8 y50000 = QfD x0 x7 x8 y50000 := by
 simp only [Bool.and_eq_true] at h
 obtain ⟨h0, hc⟩ := h
 obtain ⟨rfl, h3, k, rfl, hk⟩ := rng_k h0
 clear h0
 refine Qat x0 (fun k => Qfx x0 (x0.length : Int) (k : Int) y50000 = QfD x0 (x0.length : Int) (k : Int) y50000) ?_ ?_ k hk
 ·rw [QpG]
  simp [Qhn, QfD, Qar, Qaf, fstG]
 ·intro k hk ih
  rw [QpG]
  simp only [Qhn, Qar, Qav, hk, decide_true, Qac, Int.toNat_natCast, add1 (show k < 4611686018427387904 by omega), ih, QaA (y := Qah) hk]
  simp only [QfD, Int.toNat_natCast, List.drop_eq_getElem_cons hk, fstG]
  cases h : (Qc1 x0[k] y50000) with
  | true => simp [Qac]
  | false =>
   simp only [Qaf, Bool.false_eq_true, if_false]
   cases hq : fstG (fun c => Qc1 c y50000) (x0.drop (k + 1)) with
   | none => rfl
   | some j =>
    simp only [Option.map_some, Option.isSome_some, Option.getD_some, Qac]
    congr 3
    omega
theorem Qym : ∀ S l p, Qex.L 0 (fgt QdE S) = some (true, l) → pickA l = some p → loopF (Qak Qex QdE Qe0) S = some p :=
 QaD (s := Qic) ⟨by decide, by decide⟩ (by kernel_rfl) fun x y hok p hp => by
 simp only [Qaq, Qan] at hp
 exact (QCt x.1 x.2.2.1 x.2.2.2.1 y.1 (by simpa using hok)).trans hp
theorem QJg : Qnw.lok Qex := by
 repeat (first | exact trivial | exact Qym | refine ⟨?_, ?_⟩)
theorem QMi (l : List Keep) (d0 : Int) (h : okUse l d0 = true) : Qsx l d0 = some (.t tI (ixUse l d0), [.box (.t tI d0)]) := by
 have hl := QHX h
 simp only [Qsx, rng_0 hl, h, Bool.and_self, Qac, Int.toNat_zero, List.drop_zero, ixUse]
 cases fstG (fun c => Qc1 c d0) l <;> simp [Qac, Qaf]
def QtS : Ent := QfO [.ty (.sl Qah), .fn 52 [(50000, 0)]] [tI] (fun x d => (okUse x.1 d.1)) (fun x d => (.t tI (ixUse x.1 d.1)))
theorem QIc : Meets Tryz.prog 86 (strip QtS) := Qcn (QaQ (R := runF Qex Qnw QuG false) (mG Tryz.func86 (by kernel_rfl) Tryz.ntmps86 (by kernel_rfl) QJG QJg) fun x d hok => (QOe x.1 d.1).trans (QMi x.1 d.1 hok))
def Qrs (l : List Keep) (d0 : Int) : Bool := l.any (fun c => Qc1 c d0)
noncomputable def Qnz : TC := (.sq (.reg (rT Tryz.f51 0)) (.sq (.reg (rT Tryz.f51 1)) .rt))
def QuJ : List (RV × Option Ty) := [((.t 4), some .bool)]
def Qnh : G := ⟨TYs, [], 9, EL [(86, QtS)], keeps, (fun _ _ => none), IL [], RL []⟩
def QsA (p0 : List Keep) (d0 : Int) : Option (V × List VO) := br (okUse p0 d0) (some (.t .bool (ige (ixUse p0 d0) 0), [.box (.t tI d0)])) none
theorem QOh (p0 : List Keep) (d0 : Int) : runF Qnh Qnz QuJ false [.t (.sl Qah) p0, .fn 52 [(.ptr 50000 0)]] [.box (.t tI d0)] = QsA p0 d0 := by kernel_rfl
theorem QJ0 : Qai Tryz.prog 51 := .inr ⟨by decide, _, Tryz.func51, by kernel_rfl, by kernel_rfl⟩
theorem QJJ : GOk Tryz.prog Qnh := Qal _ (gA (gC QJV QIc gN))
theorem QJj : Qnz.lok Qnh := by repeat (first | exact trivial | refine ⟨?_, ?_⟩)
theorem QMl (l : List Keep) (d0 : Int) (h : okUse l d0 = true) : QsA l d0 = some (.t .bool (Qrs l d0), [.box (.t tI d0)]) := by
 simp only [QsA, h, Qac]
 have e : ige (ixUse l d0) 0 = Qrs l d0 := by
  unfold ixUse Qrs
  cases hq : fstG (fun c => Qc1 c d0) l with
  | none => rw [QbW.1 hq]; rfl
  | some k =>
   rw [← QbA, hq]
   simp only [ige, Option.isSome_some, decide_eq_true_eq]
   omega
 rw [e]
def QtW : Ent := QfO [.ty (.sl Qah), .fn 52 [(50000, 0)]] [tI] (fun x d => (okUse x.1 d.1)) (fun x d => (.t .bool (Qrs x.1 d.1)))
theorem QIh : Meets Tryz.prog 51 (strip QtW) := Qcn (QaQ (R := runF Qnh Qnz QuJ false) (mG Tryz.func51 (by kernel_rfl) Tryz.ntmps51 (by kernel_rfl) QJJ QJj) fun x d hok => (QOh x.1 d.1).trans (QMl x.1 d.1 hok))
def witO (o : Keep) (s : Qab) (a : Int) : Bool := !Qrs (usesF s o).1 a
def witOk (_o : Keep) (s : Qab) (_a : Int) : Bool := Qa7 s
theorem QLS (s : Qab) (o : Keep) : (usesF s o).1.length ≤ 4 := by
 unfold usesF
 cases QaW s with
 | false => exact Nat.zero_le _
 | true =>
  cases ine (QaP o.2.1).2 0 with
  | true => exact Nat.zero_le _
  | false =>
   cases (QaT s o.2.1).2 with
   | false => exact Nat.zero_le _
   | true => exact Nat.le_refl 4
noncomputable def QDF : TC := (.sq (.reg (rT Tryz.f49 0)) (.sq (.reg (rT Tryz.f49 1)) (.sq (.reg (rT Tryz.f49 2)) .rt)))
def QQn : List (RV × Option Ty) := [((.t 4), some .bool)]
def g_f49 : G := ⟨TYs, [], 17, EL [(50, QPL), (51, QtW)], keeps, (fun _ _ => none), IL [], RL []⟩
def r_f49 (p0 : Keep) (d0 : Qab) (d1 : Int) : Option (V × List VO) := br (Qzj d0 p0) (br (okUse ((usesF d0 p0).1) d1) (some (.t .bool (!(Qrs ((usesF d0 p0).1) d1)), [.box (.t Qae d0), .box (.t tI d1)])) none) none
theorem e_f49 (p0 : Keep) (d0 : Qab) (d1 : Int) : runF g_f49 QDF QQn false [.t Qah p0, .ptr 50000 0, .ptr 50001 0] [.box (.t Qae d0), .box (.t tI d1)] = r_f49 p0 d0 d1 := by kernel_rfl
theorem en_f49 : Qai Tryz.prog 49 := .inr ⟨by decide, _, Tryz.func49, by kernel_rfl, by kernel_rfl⟩
theorem gk_f49 : GOk Tryz.prog g_f49 := Qal _ (gA (gC en_f50 ms_f50 (gC QJ0 QIh gN)))
theorem lk_f49 : QDF.lok g_f49 := by repeat (first | exact trivial | refine ⟨?_, ?_⟩)
theorem s_f49 (o : Keep) (s : Qab) (a : Int) (h : witOk o s a = true) : r_f49 o s a = some (.t .bool (witO o s a), [.box (.t Qae s), .box (.t tI a)]) := by
 have h : Qa7 s = true := h
 have hu := QLS s o
 simp only [r_f49, show Qzj s o = true from h, show okUse (usesF s o).1 a = true from decide_eq_true (by omega), Qac]
 rfl
def QPM : Ent := QfO [.ty Qah, .ptr 50000 0, .ptr 50001 0] [Qae, tI] (fun x d => (witOk x.1 d.1 d.2.1)) (fun x d => (.t .bool (witO x.1 d.1 d.2.1)))
theorem ms_f49 : Meets Tryz.prog 49 (strip QPM) := Qcn (QaQ (R := runF g_f49 QDF QQn false) (mG Tryz.func49 (by kernel_rfl) Tryz.ntmps49 (by kernel_rfl) gk_f49 lk_f49) fun x d hok => (e_f49 x.1 d.1 d.2.1).trans (s_f49 x.1 d.1 d.2.1 hok))
def okWit (l : List Keep) (s : Qab) (_a : Int) : Bool := Qa7 s && decide (l.length ≤ 100000)
theorem QHW {l : List Keep} {s : Qab} {a : Int} (h : okWit l s a = true) : l.length ≤ 100000 := of_decide_eq_true (Bool.and_eq_true_iff.1 h).2
def ixWit (l : List Keep) (d0 : Qab) (d1 : Int) : Int := match fstG (fun c => witO c d0 d1) l with | some k => (k : Int) | none => -1
def QdD : Fg := ⟨[(0, some (.sl Qah)), (1, none), (7, some tI), (8, some tI)], [(50000, some Qae), (50001, some tI)]⟩
noncomputable def QeZ : TC := (.sq (.reg (rT Tryz.f87 2)) (.sq (.cd (.t 9) .sk (.fg ⟨[], [(50000, some Qae), (50001, some tI)]⟩ (.ex 0))) (.sq (.bk 1 (.sq (.reg (rT Tryz.f87 3)) (.sq (.reg (rT Tryz.f87 4)) (.cd (.t 16) (.sq (.reg (rT Tryz.f87 5)) (.fg ⟨[(4, some tI)], [(50000, some Qae), (50001, some tI)]⟩ .rt)) .sk)))) (.reg (rT Tryz.f87 6)))))
noncomputable def Qnv : TC := (.sq (.reg (rT Tryz.f87 0)) (.sq (.sq (.reg (rT Tryz.f87 1)) (.bk 0 (.lp 0 QdD QeZ))) (.sq (.reg (rT Tryz.f87 7)) .rt)))
def QuF : List (RV × Option Ty) := [((.t 4), some tI)]
abbrev Qib : Sh := ⟨[(0, .ty (.sl Qah)), (1, .fn 49 [(50000, 0), (50001, 0)]), (7, .ty tI), (8, .ty tI)], [(50000, .box Qae), (50001, .box tI)]⟩
def Qh6 (x0 : List Keep) (x7 x8 : Int) (y50000 : Qab) (y50001 : Int) : VS := Qib.st (x0, (), x7, x8, ()) (y50000, y50001, ())
abbrev Qoh : Sh := ⟨[(4, .ty tI)], [(50000, .box Qae), (50001, .box tI)]⟩
def Qcg (x4 : Int) (y50000 : Qab) (y50001 : Int) : VS := Qoh.st (x4, ()) (y50000, y50001, ())
abbrev QqC : Sh := ⟨[], [(50000, .box Qae), (50001, .box tI)]⟩
def QcF (y50000 : Qab) (y50001 : Int) : VS := QqC.st () (y50000, y50001, ())
def QC6 : VS → Option (Bool × List (Bool × Exit × VS)) := mkL Qib (fun x y => (rngOk x.1 x.2.2.1 x.2.2.2.1 && okWit x.1 y.1 y.2.1)) (fun x y => [(((fstG (fun c => witO c y.1 y.2.1) (x.1.drop x.2.2.2.1.toNat)).isSome), .ret, Qcg (x.2.2.2.1 + ((fstG (fun c => witO c y.1 y.2.1) (x.1.drop x.2.2.2.1.toNat)).getD 0 : Nat)) (y.1) (y.2.1)), (true, .exit 0, QcF (y.1) (y.2.1))])
def Qew : G := ⟨TYs, [], 19, EL [(49, QPM)], keeps, (Ls [QC6]), IL [], RL []⟩
def Qrp (x0 : List Keep) (x7 x8 : Int) (y50000 : Qab) (y50001 : Int) : Option (Exit × VS) :=
 let a1 := lgt Qah x0 (Int.toNat x8)
 br (ilt x8 x7) (br (cIx x0 x8) (br (witOk a1 y50000 y50001) (br (witO a1 y50000 y50001) (some (.ret, Qcg x8 y50000 y50001)) (some (.normal, Qh6 x0 x7 (iadd .i64 x8 1) y50000 y50001))) none) none) (some (.exit 0, QcF y50000 y50001))
noncomputable def Qfw (x0 : List Keep) (x7 x8 : Int) (y50000 : Qab) (y50001 : Int) : Option (Exit × VS) := loopF (Qak Qew QdD QeZ) (Qh6 x0 x7 x8 y50000 y50001)
noncomputable def Qhm (x0 : List Keep) (x7 x8 : Int) (y50000 : Qab) (y50001 : Int) : Option (Exit × VS) :=
 let a1 := lgt Qah x0 (Int.toNat x8)
 br (ilt x8 x7) (br (cIx x0 x8) (br (witOk a1 y50000 y50001) (br (witO a1 y50000 y50001) (some (.ret, Qcg x8 y50000 y50001)) (Qfw x0 x7 (iadd .i64 x8 1) y50000 y50001)) none) none) (some (.exit 0, QcF y50000 y50001))
def QfC (x0 : List Keep) (x7 x8 : Int) (y50000 : Qab) (y50001 : Int) : Option (Exit × VS) := br ((fstG (fun c => witO c y50000 y50001) (x0.drop x8.toNat)).isSome) (some (.ret, Qcg (x8 + ((fstG (fun c => witO c y50000 y50001) (x0.drop x8.toNat)).getD 0 : Nat)) (y50000) (y50001))) <| some (.exit 0, QcF (y50000) (y50001))
theorem Qzb (x0 : List Keep) (x7 x8 : Int) (y50000 : Qab) (y50001 : Int) : Qak Qew QdD QeZ (Qh6 x0 x7 x8 y50000 y50001) = Qrp x0 x7 x8 y50000 y50001 := by kernel_rfl
theorem QpF (x0 : List Keep) (x7 x8 : Int) (y50000 : Qab) (y50001 : Int) : Qfw x0 x7 x8 y50000 y50001 = Qhm x0 x7 x8 y50000 y50001 := (Qao _ _).trans (by
 rw [Qzb]
 simp only [Qrp, Qhm, Qay, nxt_n, nxt_r, nxt_e, nxt_0]
 rfl)
def Qsw (p0 : List Keep) (d0 : Qab) (d1 : Int) : Option (V × List VO) :=
 let a1 := (p0.drop (0 : Int).toNat)
 br (rngOk p0 (llen p0) (0 : Int) && okWit p0 d0 d1) (br ((fstG (fun c => witO c d0 d1) a1).isSome) (some (.t tI ((0 : Int) + ((fstG (fun c => witO c d0 d1) a1).getD 0 : Nat)), [.box (.t Qae (d0)), .box (.t tI (d1))])) (some (.t tI (-1), [.box (.t Qae (d0)), .box (.t tI (d1))]))) none
theorem QOd (p0 : List Keep) (d0 : Qab) (d1 : Int) : runF Qew Qnv QuF false [.t (.sl Qah) p0, .fn 49 [(.ptr 50000 0), (.ptr 50001 0)]] [.box (.t Qae d0), .box (.t tI d1)] = Qsw p0 d0 d1 := by kernel_rfl
theorem QJU : Qai Tryz.prog 87 := .inr ⟨by decide, _, Tryz.func87, by kernel_rfl, by kernel_rfl⟩
theorem QJF : GOk Tryz.prog Qew := Qal _ (gA (gC en_f49 ms_f49 gN))
theorem QCs (x0 : List Keep) (x7 x8 : Int) (y50000 : Qab) (y50001 : Int) (h : (rngOk x0 x7 x8 && okWit x0 y50000 y50001) = true) : Qfw x0 x7 x8 y50000 y50001 = QfC x0 x7 x8 y50000 y50001 := by
 simp only [Bool.and_eq_true] at h
 obtain ⟨h0, hc⟩ := h
 obtain ⟨rfl, h3, k, rfl, hk⟩ := rng_k h0
 clear h0
 refine Qat x0 (fun k => Qfw x0 (x0.length : Int) (k : Int) y50000 y50001 = QfC x0 (x0.length : Int) (k : Int) y50000 y50001) ?_ ?_ k hk
 ·rw [QpF]
  simp [Qhm, QfC, Qar, Qaf, fstG]
 ·intro k hk ih
  rw [QpF]
  have hx : witOk x0[k] y50000 y50001 = true := (Bool.and_eq_true_iff.1 hc).1
  simp only [Qhm, Qar, Qav, hk, decide_true, Qac, Int.toNat_natCast, add1 (show k < 4611686018427387904 by omega), ih, QaA (y := Qah) hk, hx]
  simp only [QfC, Int.toNat_natCast, List.drop_eq_getElem_cons hk, fstG]
  cases h : (witO x0[k] y50000 y50001) with
  | true => simp [Qac]
  | false =>
   simp only [Qaf, Bool.false_eq_true, if_false]
   cases hq : fstG (fun c => witO c y50000 y50001) (x0.drop (k + 1)) with
   | none => rfl
   | some j =>
    simp only [Option.map_some, Option.isSome_some, Option.getD_some, Qac]
    congr 3
    omega
theorem Qyl : ∀ S l p, Qew.L 0 (fgt QdD S) = some (true, l) → pickA l = some p → loopF (Qak Qew QdD QeZ) S = some p :=
 QaD (s := Qib) ⟨by decide, by decide⟩ (by kernel_rfl) fun x y hok p hp => by
 simp only [Qaq, Qan] at hp
 exact (QCs x.1 x.2.2.1 x.2.2.2.1 y.1 y.2.1 (by simpa using hok)).trans hp
theorem QJf : Qnv.lok Qew := by
 repeat (first | exact trivial | exact Qyl | refine ⟨?_, ?_⟩)
theorem QMh (l : List Keep) (d0 : Qab) (d1 : Int) (h : okWit l d0 d1 = true) : Qsw l d0 d1 = some (.t tI (ixWit l d0 d1), [.box (.t Qae d0), .box (.t tI d1)]) := by
 have hl := QHW h
 simp only [Qsw, rng_0 hl, h, Bool.and_self, Qac, Int.toNat_zero, List.drop_zero, ixWit]
 cases fstG (fun c => witO c d0 d1) l <;> simp [Qac, Qaf]
def QtR : Ent := QfO [.ty (.sl Qah), .fn 49 [(50000, 0), (50001, 0)]] [Qae, tI] (fun x d => (okWit x.1 d.1 d.2.1)) (fun x d => (.t tI (ixWit x.1 d.1 d.2.1)))
theorem QIb : Meets Tryz.prog 87 (strip QtR) := Qcn (QaQ (R := runF Qew Qnv QuF false) (mG Tryz.func87 (by kernel_rfl) Tryz.ntmps87 (by kernel_rfl) QJF QJf) fun x d hok => (QOd x.1 d.1 d.2.1).trans (QMh x.1 d.1 d.2.1 hok))
def QlV (l : List Keep) (d0 : Qab) (d1 : Int) : Bool := l.any (fun c => witO c d0 d1)
noncomputable def Qny : TC := (.sq (.reg (rT Tryz.f53 0)) (.sq (.reg (rT Tryz.f53 1)) .rt))
def QuI : List (RV × Option Ty) := [((.t 4), some .bool)]
def Qng : G := ⟨TYs, [], 9, EL [(87, QtR)], keeps, (fun _ _ => none), IL [], RL []⟩
def Qsz (p0 : List Keep) (d0 : Qab) (d1 : Int) : Option (V × List VO) := br (okWit p0 d0 d1) (some (.t .bool (ige (ixWit p0 d0 d1) 0), [.box (.t Qae d0), .box (.t tI d1)])) none
theorem QOg (p0 : List Keep) (d0 : Qab) (d1 : Int) : runF Qng Qny QuI false [.t (.sl Qah) p0, .fn 49 [(.ptr 50000 0), (.ptr 50001 0)]] [.box (.t Qae d0), .box (.t tI d1)] = Qsz p0 d0 d1 := by kernel_rfl
theorem QJZ : Qai Tryz.prog 53 := .inr ⟨by decide, _, Tryz.func53, by kernel_rfl, by kernel_rfl⟩
theorem QJI : GOk Tryz.prog Qng := Qal _ (gA (gC QJU QIb gN))
theorem QJi : Qny.lok Qng := by repeat (first | exact trivial | refine ⟨?_, ?_⟩)
theorem QMk (l : List Keep) (d0 : Qab) (d1 : Int) (h : okWit l d0 d1 = true) : Qsz l d0 d1 = some (.t .bool (QlV l d0 d1), [.box (.t Qae d0), .box (.t tI d1)]) := by
 simp only [Qsz, h, Qac]
 have e : ige (ixWit l d0 d1) 0 = QlV l d0 d1 := by
  unfold ixWit QlV
  cases hq : fstG (fun c => witO c d0 d1) l with
  | none => rw [QbW.1 hq]; rfl
  | some k =>
   rw [← QbA, hq]
   simp only [ige, Option.isSome_some, decide_eq_true_eq]
   omega
 rw [e]
def QtV : Ent := QfO [.ty (.sl Qah), .fn 49 [(50000, 0), (50001, 0)]] [Qae, tI] (fun x d => (okWit x.1 d.1 d.2.1)) (fun x d => (.t .bool (QlV x.1 d.1 d.2.1)))
theorem QIg : Meets Tryz.prog 53 (strip QtV) := Qcn (QaQ (R := runF Qng Qny QuI false) (mG Tryz.func53 (by kernel_rfl) Tryz.ntmps53 (by kernel_rfl) QJI QJi) fun x d hok => (QOg x.1 d.1 d.2.1).trans (QMk x.1 d.1 d.2.1 hok))
def needU (a : Int) : List ERow → Int → List Int
 | [], _ => []
 | z :: r, k => bif QlV (Qa3 z.1 z.2.1) z.2.1 a then needU a r (k + 1) else k :: needU a r (k + 1)
def needF (e : Qam) (a : Int) : List Int × Int :=
 bif !estOk e then ([], 31) else bif ilt a 1 || igt a 22 then ([], 7) else (needU a (prsI e) 0, 0)
def Qez : Fg := ⟨[(3, none), (6, none), (7, none)], [(60000, some tI), (60001, none), (60002, none), (36, none), (20600, none)]⟩
noncomputable def Qmn : TC := (.sq (.reg (rT Tryz.f18 8)) (.reg (rT Tryz.f18 9)))
noncomputable def Qmh : TC := (.bk 2 (.sq (.reg (rT Tryz.f18 10)) (.sq (.sq (.reg (rT Tryz.f18 11)) (.cd (.t 32) (.reg (rT Tryz.f18 12)) .sk)) (.reg (rT Tryz.f18 13)))))
noncomputable def QDW : TC := (.sq (.reg (rT Tryz.f18 0)) (.sq (.bk 0 (.sq (.reg (rT Tryz.f18 1)) (.cd (.t 11) (.sq (.reg (rT Tryz.f18 2)) .rt) (.sq (.reg (rT Tryz.f18 3)) (.cd (.t 15) (.sq (.reg (rT Tryz.f18 4)) .rt) .sk))))) (.sq (.reg (rT Tryz.f18 5)) (.sq (.reg (rT Tryz.f18 6)) (.sq (.sq (.reg (rT Tryz.f18 7)) (.bk 1 (.nf 6 0 3 20600 (.rf 0 Qez (.t 23) (.pr Qae (.pr Qae .nil)) [24, 25] [3, 6, 7] Qmn Qmh)))) (.sq (.reg (rT Tryz.f18 14)) .rt))))))
def QQE : List (RV × Option Ty) := [((.t 4), some (.sl tI)), ((.t 5), some tI)]
abbrev Qr4 : Sh := ⟨[(3, .ptr 60000 0), (6, .ptr 60001 0), (7, .ptr 60002 0)], [(60000, .box tI), (60001, .bag [.ms 20600]), (60002, .bag [.ty tI]), (36, .no), (20600, .arr 3 tI)]⟩
def Qms (y60000 y60002_0 : Int) (y20600 : List Int) : VS := Qr4.st ((), (), (), ()) (y60000, ((), ()), (y60002_0, ()), (), y20600, ())
abbrev Qou : Sh := ⟨[(3, .ptr 60000 0), (6, .ptr 60001 0), (7, .ptr 60002 0)], [(60000, .box tI), (60001, .bag [.ms 20600]), (60002, .bag [.ty tI]), (36, .no), (20600, .arr 3 tI)]⟩
def Qdu (y60000 y60002_0 : Int) (y20600 : List Int) : VS := Qou.st ((), (), (), ()) (y60000, ((), ()), (y60002_0, ()), (), y20600, ())
def QtD : VS → List (Ty.T (.pr Qae (.pr Qae .nil))) → Option (Bool × List (Bool × Exit × VS)) := mkR Qr4 (fun zs x y => (QhP zs && decide (0 ≤ y.2.2.1.1 ∧ y.2.2.1.1 + zs.length ≤ 1000 ∧ y.2.2.2.2.1.length ≤ y.2.2.1.1))) (fun zs x y => [(true, .normal, Qdu (y.1) (y.2.2.1.1 + zs.length) (y.2.2.2.2.1 ++ needU y.1 zs y.2.2.1.1))])
def g_f18 : G := ⟨TYs, [], 40, EL [(39, Qzp), (41, QEg), (53, QtV), (54, QEc)], keeps, (Ls [fun _ => none]), IL [(81, Qhy)], (RL [⟨(.pr Qae (.pr Qae .nil)), QtD⟩])⟩
def QLC (z : (Qab × (Qab × Unit))) (y60000 y60002_0 : Int) (y20600 : List Int) : Option (Exit × VS) := br (Qbw z.1 z.2.1) (br (okWit (Qa3 z.1 z.2.1) z.2.1 y60000) (br (!(QlV (Qa3 z.1 z.2.1) z.2.1 y60000)) (br (cApp y20600 ([y60002_0]) 8) (some (.normal, Qms y60000 (iadd .i64 y60002_0 1) (y20600 ++ ([y60002_0])))) none) (some (.normal, Qms y60000 (iadd .i64 y60002_0 1) y20600))) none) none
noncomputable def Qjl (zs : List (Qab × (Qab × Unit))) (y60000 y60002_0 : Int) (y20600 : List Int) : Option (Exit × VS) := Qc4 (Qeh g_f18 Qez (.pr Qae (.pr Qae .nil)) [24, 25] Qmn Qmh) zs (Qms y60000 y60002_0 y20600)
noncomputable def QxY (z : (Qab × (Qab × Unit))) (zs : List (Qab × (Qab × Unit))) (y60000 y60002_0 : Int) (y20600 : List Int) : Option (Exit × VS) := br (Qbw z.1 z.2.1) (br (okWit (Qa3 z.1 z.2.1) z.2.1 y60000) (br (!(QlV (Qa3 z.1 z.2.1) z.2.1 y60000)) (br (cApp y20600 ([y60002_0]) 8) (Qjl zs y60000 (iadd .i64 y60002_0 1) (y20600 ++ ([y60002_0]))) none) (Qjl zs y60000 (iadd .i64 y60002_0 1) y20600)) none) none
def Qtd (zs : List (Qab × (Qab × Unit))) (y60000 y60002_0 : Int) (y20600 : List Int) : Option (Exit × VS) := some (.normal, Qdu (y60000) (y60002_0 + zs.length) (y20600 ++ needU y60000 zs y60002_0))
theorem QOR (z : (Qab × (Qab × Unit))) (y60000 y60002_0 : Int) (y20600 : List Int) : Qeh g_f18 Qez (.pr Qae (.pr Qae .nil)) [24, 25] Qmn Qmh z (Qms y60000 y60002_0 y20600) = QLC z y60000 y60002_0 y20600 := by kernel_rfl
theorem QJa (y60000 : Int) (y60002_0 : Int) (y20600 : (List Int)) : Qjl [] y60000 y60002_0 y20600 = some (.normal, Qdu y60000 y60002_0 y20600) := rfl
theorem QM3 (z : (Qab × (Qab × Unit))) (zs : List (Qab × (Qab × Unit))) (y60000 y60002_0 : Int) (y20600 : List Int) : Qjl (z :: zs) y60000 y60002_0 y20600 = QxY z zs y60000 y60002_0 y20600 := (Qif _ _ _ _).trans (by
 rw [QOR]
 simp only [QLC, QxY, Qay, nxt_n, nxt_r, nxt_e, nxt_0]
 rfl)
def r_f18 (p0 : Qam) (p1 : Int) : Option (V × List VO) := br (QbS p0) (br (ine (QlQ p0) 0) (some (.tu [(.t (.sl tI) ([] : List Int)), (.t tI 31)], [])) (br (ilt p1 1) (some (.tu [(.t (.sl tI) ([] : List Int)), (.t tI 7)], [])) (br (igt p1 22) (some (.tu [(.t (.sl tI) ([] : List Int)), (.t tI 7)], [])) (br (prsOk p0) (br (QhP (prsI p0) && decide (0 ≤ (0 : Int) ∧ (0 : Int) + (prsI p0).length ≤ 1000 ∧ ([] : List Int).length ≤ (0 : Int))) (some (.tu [(.t (.sl tI) (([] : List Int) ++ needU p1 (prsI p0) (0 : Int))), (.t tI 0)], [])) none) none)))) none
theorem e_f18 (p0 : Qam) (p1 : Int) : runF g_f18 QDW QQE false [.t Qap p0, .t tI p1] [] = r_f18 p0 p1 := by kernel_rfl
theorem en_f18 : Qai Tryz.prog 18 := .inr ⟨by decide, _, Tryz.func18, by kernel_rfl, by kernel_rfl⟩
theorem gk_f18 : GOk Tryz.prog g_f18 := Qal _ (gA (gC QJ2 QIj (gC QRo QQ8 (gC QJZ QIg (gC QRk QQ4 gN)))))
 [(81, Qhy)] (by
 intro p hp
 simp only [List.mem_cons, List.not_mem_nil, or_false] at hp
 rcases hp with rfl
 ·exact Qz9)
theorem QUr (zs : List (Qab × (Qab × Unit))) (y60000 y60002_0 : Int) (y20600 : List Int) (h : (QhP zs && decide (0 ≤ y60002_0 ∧ y60002_0 + zs.length ≤ 1000 ∧ y20600.length ≤ y60002_0)) = true) : Qjl zs y60000 y60002_0 y20600 = Qtd zs y60000 y60002_0 y20600 := by
 simp only [Bool.and_eq_true, decide_eq_true_eq] at h
 obtain ⟨hr, h0, h1, h2⟩ := h
 induction zs generalizing y60002_0 y20600 with
 | nil =>
  rw [QJa]
  simp only [Qtd, List.length_nil, List.append_nil, needU, Int.natCast_zero, Int.add_zero]
 | cons z zs ih =>
  simp only [QhP, List.all_cons, Bool.and_eq_true] at hr
  simp only [List.length_cons] at h1
  rw [QM3]
  have c1 : Qbw z.1 z.2.1 = true := hr.1
  have hl := Qik (c := z.1) (s := z.2.1)
  have c2 : okWit (Qa3 z.1 z.2.1) z.2.1 y60000 = true := Bool.and_eq_true_iff.2 ⟨(Bool.and_eq_true_iff.1 hr.1).2, decide_eq_true (by omega)⟩
  have c3 : cApp y20600 [y60002_0] 8 = true := cAppN (by omega) (by simp only [List.length_singleton]; omega)
  have e1 : iadd .i64 y60002_0 1 = y60002_0 + 1 := Qa4 (by omega)
  simp only [QxY, c1, c2, c3, e1, Qac]
  rw [ih _ _ hr.2 (by omega) (by omega) (by simp only [List.length_append, List.length_singleton]; omega), ih _ _ hr.2 (by omega) (by omega) (by omega)]
  simp only [Qtd, needU, List.append_assoc, List.singleton_append, List.length_cons, Int.natCast_add, Int.natCast_one, show y60002_0 + ((zs.length : Int) + 1) = y60002_0 + 1 + zs.length by omega]
  cases QlV (Qa3 z.1 z.2.1) z.2.1 y60000 <;> rfl
theorem QMX : ∀ S (rows : List (Ty.T (.pr Qae (.pr Qae .nil)))) l p, g_f18.R 0 (fgt Qez S) (.pr Qae (.pr Qae .nil)) rows = some (true, l) → pickA l = some p → Qc4 (Qeh g_f18 Qez (.pr Qae (.pr Qae .nil)) [24, 25] Qmn Qmh) rows (fgt Qez S) = some p := by
 intro S rows l p hR hp
 rw [show g_f18.R 0 (fgt Qez S) (.pr Qae (.pr Qae .nil)) rows = QtD (fgt Qez S) rows from RL_at (l := [⟨(.pr Qae (.pr Qae .nil)), QtD⟩]) (j := 0) (F := QtD) rfl _ _] at hR
 refine Qyj (s := Qr4) ⟨by decide, by decide⟩ (by kernel_rfl) (fun zs x y hok p hp => ?_) S rows l p hR hp
 simp only [Qaq, Qan] at hp
 exact (QUr zs y.1 y.2.2.1.1 y.2.2.2.2.1 (by first | rfl | simpa using hok)).trans hp
theorem lk_f18 : QDW.lok g_f18 := by
 repeat (first | exact trivial | exact QMX | refine ⟨?_, ?_⟩)
theorem s_f18 (e : Qam) (a : Int) (h : QfU e a = true) : r_f18 e a = some (.tu [.t (.sl tI) (needF e a).1, .t tI (needF e a).2], []) := by
 have hl : QbS e = true := h
 simp only [r_f18, hl, Qac, Qqq, List.nil_append, List.length_nil]
 unfold needF
 cases he : estOk e with
 | false => rfl
 | true =>
  obtain ⟨h1, h2, h3⟩ := QA1 hl he
  rw [Bool.not_true, Qaf]
  cases ilt a 1 with
  | true => rfl
  | false =>
   cases igt a 22 with
   | true => rfl
   | false =>
    rw [Qaf, Qaf, h1, Qac, h2, Bool.true_and]
    exact brY (decide_eq_true ⟨Int.le_refl _, by omega, Int.le_refl _⟩) rfl
def QPV : Ent := spec (.pr Qap (.pr tI .nil)) (fun x => (QfU x.1 x.2.1)) (fun x => (.tu [(.t (.sl tI) ((needF x.1 x.2.1).1)), (.t tI ((needF x.1 x.2.1).2))]))
theorem ms_f18 : Meets Tryz.prog 18 (strip QPV) := Qag (R := runF g_f18 QDW QQE false) (mG Tryz.func18 (by kernel_rfl) Tryz.ntmps18 (by kernel_rfl) gk_f18 lk_f18) fun x hok => (e_f18 x.1 x.2.1).trans (s_f18 x.1 x.2.1 hok)
end
end Go.Proofs.YtckcgijklnloiaaGreat.K
namespace Go.Proofs.YtckcgijklnloiaaGreat.K
open Go.RowKit
noncomputable section
def useL : List Keep := [(2, (0, ())), (1, (0, ())), (5, (2048, ())), (16, (128, ())), (3, (0, ())), (15, (168, ()))]
def linkZ : Nat → Int → Dice → List Link × Dice
 | 0, _, d => ([], d)
 | n + 1, day, d => ((lgt Qah useL (dval d 6).toNat, (day, ())) :: (linkZ n (iadd .i64 (iadd .i64 day 1) (dof (dnext d 6) [5, 30, 0, 100])) (dofN (dnext d 6) [5, 30, 0, 100])).1, (linkZ n (iadd .i64 (iadd .i64 day 1) (dof (dnext d 6) [5, 30, 0, 100])) (dofN (dnext d 6) [5, 30, 0, 100])).2)
def itD3 (d : Dice) : Dice := dnext (dnext (dnext (dnext d 2) 4) 20) 3
def itLk (d : Dice) : List Link × Dice := linkZ (iadd .i64 1 (dval (dnext (dnext (dnext d 2) 4) 20) 3)).toNat (dval (dnext (dnext d 2) 4) 20) (itD3 d)
def itemV (d : Dice) (s : ByteArray) : Item := (s, (iadd .i64 1 (dval d 2), (iadd .i64 1 (dval (dnext d 2) 4), ((itLk d).1, (iadd .i64 (lgt Qbz (itLk d).1 0).2.1 (dof (itLk d).2 [50, 300, 0, 3000]), ())))))
def itemN (d : Dice) (_s : ByteArray) : Dice := dofN (itLk d).2 [50, 300, 0, 3000]
def dOkS (d : Dice) (_s : ByteArray) : Bool := dOk d
theorem QOz {n : Nat} : ∀ {day : Int} {d : Dice}, dOk d = true → dOk (linkZ n day d).2 = true := by
 induction n with
 | zero => exact fun h => h
 | succ n ih => exact fun h => ih (QvQ (l := [5, 30, 0, 100]) (QaH h))
theorem QBb {d : Dice} (h : dOk d = true) : dOk (itLk d).2 = true := QOz (QaH (QaH (QaH (QaH h))))
theorem QOA {d : Dice} {s : ByteArray} (h : dOk d = true) : dOk (itemN d s) = true := QvQ (QBb h)
theorem Qtb : ∀ (n : Nat) (day : Int) (d : Dice), (linkZ n day d).1.length = n
 | 0, _, _ => rfl
 | n + 1, day, d => by simp only [linkZ, List.length_cons, Qtb n]
theorem QBV : useL.all QbV = true := by kernel_rfl
theorem QUe {y : Ty} {l : List y.T} {i : Nat} (h : i < l.length) : lgt y l i ∈ l := by
 rw [QaA (y := y) h]
 exact List.getElem_mem h
theorem QRD {e : Dice} : 0 ≤ dof e [5, 30, 0, 100] ∧ dof e [5, 30, 0, 100] ≤ 100 := by
 have h := Qy3 (d := e) (l := [5, 30, 0, 100]) (by decide)
 simp only [List.mem_cons, List.not_mem_nil, or_false] at h
 omega
theorem Qz5 : ∀ (n : Nat) (day : Int) (d : Dice) (pv : Option Int), n ≤ 3 → 0 ≤ day → day + 101 * n ≤ 1000 → (∀ e, pv = some e → e < day) → QhS pv (linkZ n day d).1 = true
 | 0, _, _, pv, _, _, _, _ => by cases pv <;> rfl
 | n + 1, day, d, pv, h1, h2, h3, h4 => by
  have hv := Qbs (d := d) (n := 6) (by omega)
  have hs := QRD (e := dnext d 6)
  have e1 : iadd .i64 (iadd .i64 day 1) (dof (dnext d 6) [5, 30, 0, 100]) = day + 1 + dof (dnext d 6) [5, 30, 0, 100] := by rw [Qa4 (a := day) (b := 1) (by omega), Qa4 (by omega)]
  unfold linkZ
  rw [QpM, e1]
  have hu : QbV (lgt Qah useL (dval d 6).toNat) = true := List.all_eq_true.1 QBV _ (QUe (y := Qah) (by have : useL.length = 6 := rfl; omega))
  have hr := Qz5 n (day + 1 + dof (dnext d 6) [5, 30, 0, 100]) (dofN (dnext d 6) [5, 30, 0, 100]) (some day) (by omega) (by omega) (by omega) (fun e he => by injection he; omega)
  simp only [hu, hr, decide_eq_true (show 0 ≤ day ∧ day ≤ 40000 by omega), Bool.true_and, Bool.and_true]
  cases pv with
  | none => rfl
  | some e => exact decide_eq_true (h4 e rfl)
theorem QCq : ∀ (n : Nat) (day : Int) (d : Dice), 0 < n → ((linkZ n day d).1.headD ((0, (0, ())), (0, ()))).2.1 = day
 | 0, _, _, h => by omega
 | n + 1, day, d, _ => rfl
theorem QNG (d : Dice) : 1 ≤ (itLk d).1.length ∧ (itLk d).1.length ≤ 3 := by
 have b3 := Qbs (d := dnext (dnext (dnext d 2) 4) 20) (n := 3) (by omega)
 have e3 : iadd .i64 1 (dval (dnext (dnext (dnext d 2) 4) 20) 3) = 1 + dval (dnext (dnext (dnext d 2) 4) 20) 3 := Qa4 (by omega)
 unfold itLk
 rw [Qtb, e3]
 omega
theorem QUz (d : Dice) {s : ByteArray} (hs : Qa9 s = true) : Qeu (itemV d s) = true := by
 have b2 := Qbs (d := d) (n := 2) (by omega)
 have b4 := Qbs (d := dnext d 2) (n := 4) (by omega)
 have b20 := Qbs (d := dnext (dnext d 2) 4) (n := 20) (by omega)
 have b3 := Qbs (d := dnext (dnext (dnext d 2) 4) 20) (n := 3) (by omega)
 have e2 : iadd .i64 1 (dval d 2) = 1 + dval d 2 := Qa4 (by omega)
 have e4 : iadd .i64 1 (dval (dnext d 2) 4) = 1 + dval (dnext d 2) 4 := Qa4 (by omega)
 have e3 : iadd .i64 1 (dval (dnext (dnext (dnext d 2) 4) 20) 3) = 1 + dval (dnext (dnext (dnext d 2) 4) 20) 3 := Qa4 (by omega)
 have hl := QNG d
 have hh : ((itLk d).1.headD ((0, (0, ())), (0, ()))).2.1 = dval (dnext (dnext d 2) 4) 20 := QCq _ _ _ (by rw [e3]; omega)
 have e0 : lgt Qbz (itLk d).1 0 = (itLk d).1.headD ((0, (0, ())), (0, ())) := by
  cases hq : (itLk d).1 with
  | nil => rw [hq] at hl; simp at hl
  | cons a l => rfl
 have hu : 0 ≤ dof (itLk d).2 [50, 300, 0, 3000] ∧ dof (itLk d).2 [50, 300, 0, 3000] ≤ 3000 := by
  have h := Qy3 (d := (itLk d).2) (l := [50, 300, 0, 3000]) (by decide)
  simp only [List.mem_cons, List.not_mem_nil, or_false] at h
  omega
 have eu : iadd .i64 (lgt Qbz (itLk d).1 0).2.1 (dof (itLk d).2 [50, 300, 0, 3000]) = (lgt Qbz (itLk d).1 0).2.1 + dof (itLk d).2 [50, 300, 0, 3000] := Qa4 (by rw [e0, hh]; omega)
 refine Qbb.2 ⟨hs, ?_, ?_, ?_, ?_, ?_⟩
 ·show 1 ≤ iadd .i64 1 (dval d 2) ∧ iadd .i64 1 (dval d 2) ≤ 2
  omega
 ·show 1 ≤ iadd .i64 1 (dval (dnext d 2) 4) ∧ iadd .i64 1 (dval (dnext d 2) 4) ≤ 4
  omega
 ·show 1 ≤ (itLk d).1.length ∧ (itLk d).1.length ≤ 8
  omega
 ·exact Qz5 _ _ _ none (by rw [e3]; omega) (by omega) (by omega) (fun e he => by cases he)
 ·show ((itLk d).1.headD ((0, (0, ())), (0, ()))).2.1 ≤ iadd .i64 (lgt Qbz (itLk d).1 0).2.1 (dof (itLk d).2 [50, 300, 0, 3000]) ∧ iadd .i64 (lgt Qbz (itLk d).1 0).2.1 (dof (itLk d).2 [50, 300, 0, 3000]) ≤ 40000
  rw [eu, e0, hh]
  omega
noncomputable def QOr : List DO := dT Tryz.f37 9
def Qkk : Fg := ⟨[(0, none), (4, none), (5, none), (6, some tI), (7, some tI)], [(4, some QaX), (5, none), (43, none), (20503, none), (50000, some QaJ)]⟩
noncomputable def Qmf : TC := (.sq (.sq (.reg (rT Tryz.f37 4)) (.cd (.t 23) .sk (.fg ⟨[(0, none), (4, none), (5, none)], [(4, some QaX), (5, some QaX), (43, none), (20503, none), (50000, some QaJ)]⟩ (.ex 0)))) (.sq (.bk 1 (.sq (.reg (rT Tryz.f37 5)) (.sq (.reg (rT Tryz.f37 6)) (.reg (rT Tryz.f37 7))))) (.reg (rT Tryz.f37 8))))
noncomputable def QDR : TC := (.sq (.reg (rT Tryz.f37 0)) (.sq (.reg (rT Tryz.f37 1)) (.sq (.reg (rT Tryz.f37 2)) (.sq (.sq (.reg (rT Tryz.f37 3)) (.bk 0 (.nf 5 3 128 20503 (.lp 0 Qkk Qmf)))) (.sq (.dr QOr [(0, [5, 43, 20503]), (1, [5, 43, 20503]), (2, [43, 20503]), (3, [43, 20503]), (4, [43, 20503]), (5, [50000]), (6, []), (7, [58, 5058, 10058, 15058, 50000]), (8, []), (9, [5, 43, 20503]), (10, [4, 5, 43, 20503])] (.of [0, 1, 2, 3, 4, 5, 6, 7, 8, 9, 10])) (.sq (.reg (rT Tryz.f37 10)) .rt))))))
def QQz : List (RV × Option Ty) := [((.c 4 true 5), some QaX)]
abbrev Qr1 : Sh := ⟨[(0, .ptr 50000 0), (4, .ptr 4 0), (5, .ptr 5 0), (6, .ty tI), (7, .ty tI)], [(4, .box QaX), (5, .bag [.ty .str, .ty tI, .ty tI, .ms 20503, .ty tI]), (43, .no), (20503, .arr 128 Qbz), (50000, .box QaJ)]⟩
def QrH (x6 x7 : Int) (y4 : Item) (y5_0 : ByteArray) (y5_1 y5_2 y5_4 : Int) (y20503 : List Link) (y50000 : Dice) : VS := Qr1.st ((), (), (), x6, x7, ()) (y4, (y5_0, y5_1, y5_2, (), y5_4, ()), (), y20503, y50000, ())
abbrev QxF : Sh := ⟨[(0, .ptr 50000 0), (4, .ptr 4 0), (5, .ptr 5 0)], [(4, .box QaX), (5, .bag [.ty .str, .ty tI, .ty tI, .ms 20503, .ty tI]), (43, .no), (20503, .arr 128 Qbz), (50000, .box QaJ)]⟩
def Qfa (y4 : Item) (y5_0 : ByteArray) (y5_1 y5_2 y5_4 : Int) (y20503 : List Link) (y50000 : Dice) : VS := QxF.st ((), (), (), ()) (y4, (y5_0, y5_1, y5_2, (), y5_4, ()), (), y20503, y50000, ())
def QW1 : VS → Option (Bool × List (Bool × Exit × VS)) := mkL Qr1 (fun x y => (dOk y.2.2.2.2.1 && decide (0 ≤ x.2.2.2.2.1 ∧ x.2.2.2.2.1 ≤ 100 ∧ y.2.2.2.1.length + x.2.2.2.2.1.toNat ≤ 1000))) (fun x y => [(true, .exit 0, Qfa (y.1) (y.2.1.1) (y.2.1.2.1) (y.2.1.2.2.1) (y.2.1.2.2.2.2.1) (y.2.2.2.1 ++ (linkZ x.2.2.2.2.1.toNat x.2.2.2.1 y.2.2.2.2.1).1) ((linkZ x.2.2.2.2.1.toNat x.2.2.2.1 y.2.2.2.2.1).2))])
def g_f37 : G := ⟨TYs, [], 62, EL [(35, QqW), (45, QEd)], keeps, (Ls [QW1]), IL [], RL []⟩
def QLA (x6 x7 : Int) (y4 : Item) (y5_0 : ByteArray) (y5_1 y5_2 y5_4 : Int) (y20503 : List Link) (y50000 : Dice) : Option (Exit × VS) :=
 let a1 := (lgt Qah ([(2, (0, ())), (1, (0, ())), (5, (2048, ())), (16, (128, ())), (3, (0, ())), (15, (168, ()))]) (Int.toNat (dval y50000 6)))
 let a2 := ((a1.1, ((a1.2).1, ())), (x6, ()))
 let a3 := dnext y50000 6
 br (igt x7 0) (br (QaS y50000 6) (br (cIx ([(2, (0, ())), (1, (0, ())), (5, (2048, ())), (16, (128, ())), (3, (0, ())), (15, (168, ()))]) (dval y50000 6)) (br (cApp y20503 ([a2]) 24) (br (ofOk a3 ([5, 30, 0, 100])) (some (.normal, QrH (iadd .i64 (iadd .i64 x6 1) (dof a3 ([5, 30, 0, 100]))) (isub .i64 x7 1) y4 y5_0 y5_1 y5_2 y5_4 (y20503 ++ ([a2])) (dofN a3 ([5, 30, 0, 100])))) none) none) none) none) (some (.exit 0, Qfa y4 y5_0 y5_1 y5_2 y5_4 y20503 y50000))
noncomputable def Qs4 (x6 x7 : Int) (y4 : Item) (y5_0 : ByteArray) (y5_1 y5_2 y5_4 : Int) (y20503 : List Link) (y50000 : Dice) : Option (Exit × VS) := loopF (Qak g_f37 Qkk Qmf) (QrH x6 x7 y4 y5_0 y5_1 y5_2 y5_4 y20503 y50000)
noncomputable def QsV (x6 x7 : Int) (y4 : Item) (y5_0 : ByteArray) (y5_1 y5_2 y5_4 : Int) (y20503 : List Link) (y50000 : Dice) : Option (Exit × VS) :=
 let a1 := (lgt Qah ([(2, (0, ())), (1, (0, ())), (5, (2048, ())), (16, (128, ())), (3, (0, ())), (15, (168, ()))]) (Int.toNat (dval y50000 6)))
 let a2 := ((a1.1, ((a1.2).1, ())), (x6, ()))
 let a3 := dnext y50000 6
 br (igt x7 0) (br (QaS y50000 6) (br (cIx ([(2, (0, ())), (1, (0, ())), (5, (2048, ())), (16, (128, ())), (3, (0, ())), (15, (168, ()))]) (dval y50000 6)) (br (cApp y20503 ([a2]) 24) (br (ofOk a3 ([5, 30, 0, 100])) (Qs4 (iadd .i64 (iadd .i64 x6 1) (dof a3 ([5, 30, 0, 100]))) (isub .i64 x7 1) y4 y5_0 y5_1 y5_2 y5_4 (y20503 ++ ([a2])) (dofN a3 ([5, 30, 0, 100]))) none) none) none) none) (some (.exit 0, Qfa y4 y5_0 y5_1 y5_2 y5_4 y20503 y50000))
def QjG (x6 x7 : Int) (y4 : Item) (y5_0 : ByteArray) (y5_1 y5_2 y5_4 : Int) (y20503 : List Link) (y50000 : Dice) : Option (Exit × VS) :=
 let a1 := linkZ x7.toNat x6 y50000
 some (.exit 0, Qfa (y4) (y5_0) (y5_1) (y5_2) (y5_4) (y20503 ++ a1.1) (a1.2))
theorem QOP (x6 x7 : Int) (y4 : Item) (y5_0 : ByteArray) (y5_1 y5_2 y5_4 : Int) (y20503 : List Link) (y50000 : Dice) : Qak g_f37 Qkk Qmf (QrH x6 x7 y4 y5_0 y5_1 y5_2 y5_4 y20503 y50000) = QLA x6 x7 y4 y5_0 y5_1 y5_2 y5_4 y20503 y50000 := by kernel_rfl
theorem QzZ (x6 x7 : Int) (y4 : Item) (y5_0 : ByteArray) (y5_1 y5_2 y5_4 : Int) (y20503 : List Link) (y50000 : Dice) : Qs4 x6 x7 y4 y5_0 y5_1 y5_2 y5_4 y20503 y50000 = QsV x6 x7 y4 y5_0 y5_1 y5_2 y5_4 y20503 y50000 := (Qao _ _).trans (by
 rw [QOP]
 simp only [QLA, QsV, Qay, nxt_n, nxt_r, nxt_e, nxt_0]
 rfl)
def r_f37 (d0 : Dice) (p1 : ByteArray) : Option (V × List VO) :=
 let a2 := dnext (dnext (dnext d0 2) 4) 20
 let a3 := iadd .i64 1 (dval a2 3)
 let a1 := linkZ a3.toNat (dval (dnext (dnext d0 2) 4) 20) (dnext a2 3)
 br (QaS d0 2) (br (QaS (dnext d0 2) 4) (br (QaS (dnext (dnext d0 2) 4) 20) (br (QaS a2 3) (br (dOk (dnext a2 3) && decide (0 ≤ a3 ∧ a3 ≤ 100 ∧ ([] : List Link).length + a3.toNat ≤ 1000)) (br (cIx (([] : List Link) ++ a1.1) 0) (br (cLd (([] : List Link) ++ a1.1) (Int.toNat 0)) (br (ofOk (a1.2) ([50, 300, 0, 3000])) (some (.t QaX ((p1), ((iadd .i64 1 (dval d0 2)), ((iadd .i64 1 (dval (dnext d0 2) 4)), ((([] : List Link) ++ a1.1), ((iadd .i64 (((lgt Qbz (([] : List Link) ++ a1.1) (Int.toNat 0)).2).1) (dof (a1.2) ([50, 300, 0, 3000]))), ()))))), [.box (.t QaJ (dofN (a1.2) ([50, 300, 0, 3000])))])) none) none) none) none) none) none) none) none
theorem e_f37 (d0 : Dice) (p1 : ByteArray) : runF g_f37 QDR QQz false [.ptr 50000 0, .t .str p1] [.box (.t QaJ d0)] = r_f37 d0 p1 := by kernel_rfl
theorem en_f37 : Qai Tryz.prog 37 := .inr ⟨by decide, _, Tryz.func37, by kernel_rfl, by kernel_rfl⟩
theorem gk_f37 : GOk Tryz.prog g_f37 := Qal _ (gA (gC QvL QuZ (gC QRl QQ5 gN)))
theorem QUp (x6 x7 : Int) (y4 : Item) (y5_0 : ByteArray) (y5_1 y5_2 y5_4 : Int) (y20503 : List Link) (y50000 : Dice) (h : (dOk y50000 && decide (0 ≤ x7 ∧ x7 ≤ 100 ∧ y20503.length + x7.toNat ≤ 1000)) = true) : Qs4 x6 x7 y4 y5_0 y5_1 y5_2 y5_4 y20503 y50000 = QjG x6 x7 y4 y5_0 y5_1 y5_2 y5_4 y20503 y50000 := by
 simp only [Bool.and_eq_true, decide_eq_true_eq] at h
 obtain ⟨hd, h1, h2q, h3⟩ := h
 obtain ⟨k, rfl⟩ := Int.eq_ofNat_of_zero_le h1
 rw [Int.toNat_natCast] at h3
 have h2 : k ≤ 100 := by omega
 clear h1 h2q
 induction k generalizing y20503 y50000 x6 with
 | zero =>
  rw [QzZ]
  have e1 : igt ((0 : Nat) : Int) 0 = false := rfl
  simp only [QsV, e1, Qaf, QjG, Int.toNat_natCast, linkZ, List.append_nil]
 | succ k ih =>
  rw [QzZ]
  have e1 : igt ((k + 1 : Nat) : Int) 0 = true := by simp only [igt, decide_eq_true_eq]; omega
  have e2 : isub .i64 ((k + 1 : Nat) : Int) 1 = (k : Int) := by rw [QbU (by omega)]; omega
  have hv := Qbs (d := y50000) (n := 6) (by omega)
  have hc : cIx useL (dval y50000 6) = true := by
   have : useL.length = 6 := rfl
   simp only [cIx, decide_eq_true_eq]
   omega
  have hla : QjG x6 ((k + 1 : Nat) : Int) y4 y5_0 y5_1 y5_2 y5_4 y20503 y50000 = QjG (iadd .i64 (iadd .i64 x6 1) (dof (dnext y50000 6) [5, 30, 0, 100])) (k : Int) y4 y5_0 y5_1 y5_2 y5_4 (y20503 ++ [(lgt Qah useL (dval y50000 6).toNat, (x6, ()))]) (dofN (dnext y50000 6) [5, 30, 0, 100]) := by
   simp only [QjG, Int.toNat_natCast, linkZ, List.append_assoc]
   rfl
  rw [hla, ← ih _ _ _ (QvQ (QaH hd)) (by simp; omega) (by omega)]
  have n6 : QaS y50000 6 = true := by simp [QaS, hd]
  have f1 : ofOk (dnext y50000 6) [5, 30, 0, 100] = true := by simp [ofOk, QaH hd]
  simp only [QsV, e1, e2, n6, f1, Qac, show ([(2, (0, ())), (1, (0, ())), (5, (2048, ())), (16, (128, ())), (3, (0, ())), (15, (168, ()))] : List Keep) = useL from rfl, hc]
  rw [QWI (by simp; omega) (by omega), Qac]
  show br (cIx useL (dval y50000 6)) _ _ = _
  rw [hc, Qac]
theorem QMV : ∀ S l p, g_f37.L 0 (fgt Qkk S) = some (true, l) → pickA l = some p → loopF (Qak g_f37 Qkk Qmf) S = some p :=
 QaD (s := Qr1) ⟨by decide, by decide⟩ (by kernel_rfl) fun x y hok p hp => by
 simp only [Qaq, Qan] at hp
 exact (QUp x.2.2.2.1 x.2.2.2.2.1 y.1 y.2.1.1 y.2.1.2.1 y.2.1.2.2.1 y.2.1.2.2.2.2.1 y.2.2.2.1 y.2.2.2.2.1 (by simpa using hok)).trans hp
theorem lk_f37 : QDR.lok g_f37 := by
 repeat (first | exact trivial | exact QMV | refine ⟨?_, ?_⟩)
theorem s_f37 (d : Dice) (s : ByteArray) (h : dOkS d s = true) : r_f37 d s = some (.t QaX (itemV d s), [.box (.t QaJ (itemN d s))]) := by
 have h : dOk d = true := h
 have n2 : QaS d 2 = true := by simp [QaS, h]
 have n4 : QaS (dnext d 2) 4 = true := by simp [QaS, QaH h]
 have n20 : QaS (dnext (dnext d 2) 4) 20 = true := by simp [QaS, QaH (QaH h)]
 have n3 : QaS (dnext (dnext (dnext d 2) 4) 20) 3 = true := by simp [QaS, QaH (QaH (QaH h))]
 have b3 := Qbs (d := dnext (dnext (dnext d 2) 4) 20) (n := 3) (by omega)
 have e3 : iadd .i64 1 (dval (dnext (dnext (dnext d 2) 4) 20) 3) = 1 + dval (dnext (dnext (dnext d 2) 4) 20) 3 := Qa4 (by omega)
 have hl := Qtb (iadd .i64 1 (dval (dnext (dnext (dnext d 2) 4) 20) 3)).toNat (dval (dnext (dnext d 2) 4) 20) (itD3 d)
 have hd3 : dOk (itD3 d) = true := QaH (QaH (QaH (QaH h)))
 have hL : dOk (itLk d).2 = true := QBb h
 have f5 : ofOk (itLk d).2 [50, 300, 0, 3000] = true := by simp [ofOk, hL]
 have hlen : 0 < (itLk d).1.length := by
  show 0 < (linkZ _ _ _).1.length
  rw [hl]
  omega
 have c1 : cIx (itLk d).1 0 = true := by simp only [cIx, decide_eq_true_eq]; omega
 have c2 : cLd (itLk d).1 (Int.toNat 0) = true := by simp only [cLd, decide_eq_true_eq]; exact hlen
 simp only [r_f37, n2, n4, n20, n3, Qac, List.nil_append, show dnext (dnext (dnext (dnext d 2) 4) 20) 3 = itD3 d from rfl, hd3, Bool.true_and]
 rw [Qnm ⟨by omega, by omega, by simp; omega⟩, Qac]
 simp only [show linkZ (iadd .i64 1 (dval (dnext (dnext (dnext d 2) 4) 20) 3)).toNat (dval (dnext (dnext d 2) 4) 20) (itD3 d) = itLk d from rfl, c1, c2, f5, Qac]
 rfl
def QPR : Ent := specP QaJ (.pr .str .nil) (fun d x => (dOkS d x.1)) (fun d x => (.t QaX (itemV d x.1))) (fun d x => (itemN d x.1))
theorem ms_f37 : Meets Tryz.prog 37 (strip QPR) := QcB (R := runF g_f37 QDR QQz false) (mG Tryz.func37 (by kernel_rfl) Tryz.ntmps37 (by kernel_rfl) gk_f37 lk_f37) rfl fun d x hok => (e_f37 d x.1).trans (s_f37 d x.1 hok)
def rsaK : Keep := (5, (2048, ()))
noncomputable def QDG : TC := (.sq (.reg (rT Tryz.f48 0)) (.sq (.reg (rT Tryz.f48 1)) .rt))
def QQo : List (RV × Option Ty) := [((.c 0 true 2), some Qah)]
def g_f48 : G := ⟨TYs, [], 2, EL [], keeps, (fun _ _ => none), IL [], RL []⟩
def r_f48  : Option (V × List VO) := some (.t Qah (5, (2048, ())), [])
theorem e_f48  : runF g_f48 QDG QQo false [] [] = r_f48  := by kernel_rfl
theorem en_f48 : Qai Tryz.prog 48 := .inr ⟨by decide, _, Tryz.func48, by kernel_rfl, by kernel_rfl⟩
theorem gk_f48 : GOk Tryz.prog g_f48 := Qal _ (fun p hp => by cases hp)
theorem lk_f48 : QDG.lok g_f48 := by repeat (first | exact trivial | refine ⟨?_, ?_⟩)
theorem s_f48 : r_f48 = some (.t Qah rsaK, []) := rfl
def QPN : Ent := spec .nil (fun x => true) (fun x => (.t Qah rsaK))
theorem ms_f48 : Meets Tryz.prog 48 (strip QPN) := Qag (R := runF g_f48 QDG QQo false) (mG Tryz.func48 (by kernel_rfl) Tryz.ntmps48 (by kernel_rfl) gk_f48 lk_f48) fun x _ => (e_f48 ).trans (s_f48 )
def leafC (nm : ByteArray) (k : Keep) (id to : Int) : Qaa := (id, (sRoot, (nm, (k, (id, ((3, (0, ())), (0, (to, (false, (0, ([nm], ((0, (0, ())), ()))))))))))))
def leafV (nm : ByteArray) (k : Keep) (id a to : Int) : QaC := (k, (id, ([(signC (leafC nm k id to) a).1], ())))
def Qrd (nm : ByteArray) (_k : Keep) (_id _a _to : Int) : Bool := decide (nm.size ≤ 1000)
noncomputable def QDH : TC := (.sq (.reg (rT Tryz.f47 0)) (.sq (.reg (rT Tryz.f47 1)) (.sq (.reg (rT Tryz.f47 2)) (.sq (.reg (rT Tryz.f47 3)) .rt))))
def QQp : List (RV × Option Ty) := [((.c 10 true 4), some Qau)]
def g_f47 : G := ⟨TYs, [], 32, EL [(84, QPE)], keeps, (fun _ _ => none), IL [], RL []⟩
def r_f47 (p0 : ByteArray) (p1 : Keep) (p2 p3 p4 : Int) : Option (V × List VO) :=
 let a1 := ((signC (p2, ((ByteArray.mk #[114, 111, 111, 116]), (p0, ((p1.1, (p1.2.1, ())), (p2, ((3, (0, ())), (0, (p4, (false, (0, ([p0], ((0, (0, ())), ())))))))))))) p3).1)
 let a4 := (((a1.2).2).2)
 let a2 := ((a4.2).2)
 let a3 := ((((a2.2).2).2).2)
 br (QeC (p2, ((ByteArray.mk #[114, 111, 111, 116]), (p0, ((p1.1, (p1.2.1, ())), (p2, ((3, (0, ())), (0, (p4, (false, (0, ([p0], ((0, (0, ())), ())))))))))))) p3) (some (.t Qau ((p1.1, (p1.2.1, ())), (p2, ([(a1.1, ((a1.2).1, (((a1.2).2).1, (((a4.1).1, (((a4.1).2).1, ())), ((a4.2).1, (((a2.1).1, (((a2.1).2).1, ())), ((a2.2).1, (((a2.2).2).1, ((((a2.2).2).2).1, (a3.1, ((a3.2).1, (((((a3.2).2).1).1, (((((a3.2).2).1).2).1, ())), ()))))))))))))], ()))), [])) none
theorem e_f47 (p0 : ByteArray) (p1 : Keep) (p2 p3 p4 : Int) : runF g_f47 QDH QQp false [.t .str p0, .t Qah p1, .t tI p2, .t tI p3, .t tI p4] [] = r_f47 p0 p1 p2 p3 p4 := by kernel_rfl
theorem en_f47 : Qai Tryz.prog 47 := .inr ⟨by decide, _, Tryz.func47, by kernel_rfl, by kernel_rfl⟩
theorem gk_f47 : GOk Tryz.prog g_f47 := Qal _ (gA (gC en_f84 ms_f84 gN))
theorem lk_f47 : QDH.lok g_f47 := by repeat (first | exact trivial | refine ⟨?_, ?_⟩)
theorem s_f47 (nm : ByteArray) (k : Keep) (id a to : Int) (h : Qrd nm k id a to = true) : r_f47 nm k id a to = some (.t Qau (leafV nm k id a to), []) := by
 have hs : nm.size ≤ 1000 := of_decide_eq_true h
 unfold r_f47
 exact brY (Qy5 (by decide) hs (l := [nm]) (Nat.le_succ 1) (fun t ht => by rw [List.mem_singleton.1 ht]; omega)) rfl
def QPO : Ent := spec (.pr .str (.pr Qah (.pr tI (.pr tI (.pr tI .nil))))) (fun x => (Qrd x.1 x.2.1 x.2.2.1 x.2.2.2.1 x.2.2.2.2.1)) (fun x => (.t Qau (leafV x.1 x.2.1 x.2.2.1 x.2.2.2.1 x.2.2.2.2.1)))
theorem ms_f47 : Meets Tryz.prog 47 (strip QPO) := Qag (R := runF g_f47 QDH QQp false) (mG Tryz.func47 (by kernel_rfl) Tryz.ntmps47 (by kernel_rfl) gk_f47 lk_f47) fun x hok => (e_f47 x.1 x.2.1 x.2.2.1 x.2.2.2.1 x.2.2.2.2.1).trans (s_f47 x.1 x.2.1 x.2.2.1 x.2.2.2.1 x.2.2.2.2.1 hok)
def Qno : Bool := true
noncomputable def QD2 : TC := (.sq (.reg (rT Tryz.f10 0)) (.sq (.reg (rT Tryz.f10 1)) (.sq (.reg (rT Tryz.f10 2)) (.sq (.reg (rT Tryz.f10 3)) (.sq (.reg (rT Tryz.f10 4)) .rt)))))
def QQK : List (RV × Option Ty) := [((.t 0), some .bool)]
def g_f10 : G := ⟨TYs, [], 44, EL [(14, QPX), (15, QtX), (18, QPV)], keeps, (fun _ _ => none), IL [], RL []⟩
def r_f10  : Option (V × List VO) :=
 let a1 := (allF (([] : List Qab), (([] : List Keep), (([] : List Item), ()))) 0)
 br (Qct (([] : List Qab), (([] : List Keep), (([] : List Item), ()))) 0 0) (br (QfU (([] : List Qab), (([] : List Keep), (([] : List Item), ()))) 0) (br (QfU (([] : List Qab), (([] : List Keep), (([] : List Item), ()))) 99) (br (ieq ((Qa0 (([] : List Qab), (([] : List Keep), (([] : List Item), ()))) 0 0).2) 4) (br (ieq ((a1.2).2) 0) (br (ieq (llen (a1.1)) 0) (br (ieq (llen ((a1.2).1)) 0) (some (.t .bool (ieq ((needF (([] : List Qab), (([] : List Keep), (([] : List Item), ()))) 99).2) 7), [])) (some (.t .bool false, []))) (some (.t .bool false, []))) (some (.t .bool false, []))) (some (.t .bool false, []))) none) none) none
theorem e_f10  : runF g_f10 QD2 QQK false [] [] = r_f10  := by kernel_rfl
theorem en_f10 : Qai Tryz.prog 10 := .inr ⟨by decide, _, Tryz.func10, by kernel_rfl, by kernel_rfl⟩
theorem gk_f10 : GOk Tryz.prog g_f10 := Qal _ (gA (gC en_f14 ms_f14 (gC QA5 QzP (gC en_f18 ms_f18 gN))))
theorem lk_f10 : QD2.lok g_f10 := by repeat (first | exact trivial | refine ⟨?_, ?_⟩)
set_option maxRecDepth 100000 in
theorem s_f10 : r_f10 = some (.t .bool Qno, []) := by kernel_rfl
def QPZ : Ent := spec .nil (fun x => true) (fun x => (.t .bool Qno))
theorem ms_f10 : Meets Tryz.prog 10 (strip QPZ) := Qag (R := runF g_f10 QD2 QQK false) (mG Tryz.func10 (by kernel_rfl) Tryz.ntmps10 (by kernel_rfl) gk_f10 lk_f10) fun x _ => (e_f10 ).trans (s_f10 )
end
end Go.Proofs.YtckcgijklnloiaaGreat.K
namespace Go.Proofs.YtckcgijklnloiaaGreat.K
open Go.RowKit
noncomputable section
abbrev sAll : List ByteArray := [(ByteArray.mk #[97, 112, 112]), (ByteArray.mk #[100, 98]), (ByteArray.mk #[119, 101, 98])]
abbrev sSu : List (List Int) := [[10, 8, 2], [8, 2], [2, 10, 8, 3]]
abbrev sIt : List ByteArray := [(ByteArray.mk #[98, 97, 99, 107, 117, 112]), (ByteArray.mk #[100, 101, 101, 100])]
def nm1 (s : ByteArray) : Bool := decide (s.size ≤ 1000)
def sndSu (d : Dice) : List Int := bif ieq (dof d [3, 3, 4]) 4 then [14] ++ lgt (.sl tI) sSu (dval (dofN d [3, 3, 4]) 3).toNat else lgt (.sl tI) sSu (dval (dofN d [3, 3, 4]) 3).toNat
def sndE (d : Dice) (k : Nat) (s : ByteArray) : Qab := (s, (1, (dof d [3, 3, 4], (sndSu d, (done (dnext (dofN d [3, 3, 4]) 3) 2, ([leafV s rsaK (iadd .i64 100 (k : Int)) 1 901], ([1], ([2, 3], (done (dnext (dnext (dofN d [3, 3, 4]) 3) 2) 3, ())))))))))
def sndD (d : Dice) : Dice := dnext (dnext (dnext (dofN d [3, 3, 4]) 3) 2) 3
def sndZ : List ByteArray → Nat → Dice → List Qab × Dice
 | [], _, d => ([], d)
 | s :: r, k, d => (sndE d k s :: (sndZ r (k + 1) (sndD d)).1, (sndZ r (k + 1) (sndD d)).2)
def edZ : Nat → Int → Int → List Keep → Dice → List Keep × Dice
 | 0, _, _, l, d => (l, d)
 | m + 1, i, k, l, d => bif ine i k then (bif igt (dval d 3) 0 && ilt (llen l) 3 then edZ m i (k + 1) (l ++ [(i, (k, ()))]) (dnext d 3) else edZ m i (k + 1) l (dnext d 3)) else edZ m i (k + 1) l d
def edY : Nat → Nat → Int → List Keep → Dice → List Keep × Dice
 | 0, _, _, l, d => (l, d)
 | m + 1, n, i, l, d => edY m n (i + 1) (edZ n i 0 l d).1 (edZ n i 0 l d).2
def itZ : Nat → Dice → List Item × Dice
 | 0, d => ([], d)
 | n + 1, d => (itemV (dwdGN d sIt) (dwdG d sIt) :: (itZ n (itemN (dwdGN d sIt) (dwdG d sIt))).1, (itZ n (itemN (dwdGN d sIt) (dwdG d sIt))).2)
def sndNm (d : Dice) : List ByteArray := lsl sAll 0 (iadd .i64 2 (dval d 2))
def sndEd (d : Dice) : List Keep × Dice := edY (sndNm d).length (sndNm d).length 0 [] (sndZ (sndNm d) 0 (dnext d 2)).2
def sndEg (d : Dice) : List Keep := bif ieq (llen (sndEd d).1) 0 then [(0, (1, ()))] else (sndEd d).1
def sndIt (d : Dice) : List Item × Dice := itZ (dval (sndEd d).2 3).toNat (dnext (sndEd d).2 3)
def sndV (d : Dice) : Qam := ((sndZ (sndNm d) 0 (dnext d 2)).1, (sndEg d, ((sndIt d).1, ())))
def sndN (d : Dice) : Dice := (sndIt d).2
theorem QKI {d : Dice} (h : dOk d = true) : dOk (sndD d) = true := QaH (QaH (QaH (QvQ (l := [3, 3, 4]) h)))
theorem QFk : ∀ (l : List ByteArray) (k : Nat) (d : Dice), dOk d = true → dOk (sndZ l k d).2 = true
 | [], _, _, h => h
 | _ :: r, k, d, h => QFk r (k + 1) (sndD d) (QKI h)
theorem Qri : ∀ (m : Nat) (i k : Int) (l : List Keep) (d : Dice), dOk d = true → l.length ≤ 3 → dOk (edZ m i k l d).2 = true ∧ (edZ m i k l d).1.length ≤ 3
 | 0, _, _, _, _, h, hl => ⟨h, hl⟩
 | m + 1, i, k, l, d, h, hl => by
  unfold edZ
  cases ine i k with
  | false => exact Qri m i (k + 1) l d h hl
  | true =>
   cases h1 : igt (dval d 3) 0 with
   | false => exact Qri m i (k + 1) l (dnext d 3) (QaH h) hl
   | true =>
    cases h2 : ilt (llen l) 3 with
    | false => exact Qri m i (k + 1) l (dnext d 3) (QaH h) hl
    | true =>
     have : l.length < 3 := by have := of_decide_eq_true h2; simp only [llen] at this; omega
     exact Qri m i (k + 1) _ (dnext d 3) (QaH h) (by simp only [List.length_append, List.length_singleton]; omega)
theorem QRs : ∀ (m n : Nat) (i : Int) (l : List Keep) (d : Dice), dOk d = true → l.length ≤ 3 → dOk (edY m n i l d).2 = true ∧ (edY m n i l d).1.length ≤ 3
 | 0, _, _, _, _, h, hl => ⟨h, hl⟩
 | m + 1, n, i, l, d, h, hl => by
  have := Qri n i 0 l d h hl
  exact QRs m n (i + 1) _ _ this.1 this.2
theorem QBa {d : Dice} (h : dOk d = true) : dOk (dwdGN d sIt) = true := QaH (n := 2) h
theorem Qh9 (d : Dice) : sndNm d = sAll.take 2 ∨ sndNm d = sAll := by
 have hv := Qbs (d := d) (n := 2) (by omega)
 have e : iadd .i64 2 (dval d 2) = 2 + dval d 2 := Qa4 (by omega)
 unfold sndNm
 rw [e]
 rcases (show dval d 2 = 0 ∨ dval d 2 = 1 by omega) with h | h <;> rw [h]
 ·exact .inl rfl
 ·exact .inr rfl
theorem Qmv (d : Dice) : 2 ≤ (sndNm d).length ∧ (sndNm d).length ≤ 3 ∧ (sndNm d).all nm1 = true := by
 rcases Qh9 d with h | h <;> rw [h] <;> exact ⟨by decide, by decide, by decide⟩
noncomputable def QOw : List DO := dT Tryz.f17 6
noncomputable def QOv : List DO := dT Tryz.f17 26
def Qkp : Fg := ⟨[(0, none), (2, none), (3, none), (4, some (.sl .str)), (16, some (.sl .str)), (17, some tI), (18, some tI)], [(2, some Qap), (3, none), (61, none), (94, none), (103, none), (119, none), (20300, none), (20301, none), (20302, none), (50000, some QaJ)]⟩
noncomputable def Qml : TC := (.sq (.reg (rT Tryz.f17 4)) (.sq (.cd (.t 19) .sk (.fg ⟨[(0, none), (2, none), (3, none), (4, some (.sl .str))], [(2, some Qap), (3, some Qap), (61, none), (94, none), (103, none), (119, none), (20300, none), (20301, none), (20302, none), (50000, some QaJ)]⟩ (.ex 0))) (.sq (.bk 1 (.sq (.reg (rT Tryz.f17 5)) (.sq (.dr QOw [(0, []), (1, [50000]), (2, []), (3, [26, 5026, 10026, 15026, 50000]), (4, []), (5, []), (6, []), (7, []), (8, [50000]), (9, [32, 5032, 10032, 15032, 50000]), (10, []), (11, []), (12, [50000]), (13, [36, 5036, 10036, 15036, 50000]), (14, []), (15, []), (16, [50000]), (17, [40, 5040, 10040, 15040, 50000]), (18, []), (19, [7, 5007, 10007, 15007]), (20, [7, 45, 48, 20703])] (.one 0 (.one 1 (.one 2 (.one 4 (.one 5 (.one 6 (.one 7 (.one 8 (.one 12 (.one 14 (.one 15 (.one 16 (.alt 3 (.alt 9 (.one 10 (.one 11 (.alt 13 (.alt 17 (.of [18, 19, 20]) (.of [19, 17, 18, 20])) (.of [19, 13, 17, 18, 20])))) (.of [19, 9, 10, 11, 13, 17, 18, 20])) (.of [19, 3, 9, 10, 11, 13, 17, 18, 20]))))))))))))))) (.sq (.sq (.reg (rT Tryz.f17 7)) (.cd (.t 44) (.reg (rT Tryz.f17 8)) .sk)) (.sq (.reg (rT Tryz.f17 9)) (.reg (rT Tryz.f17 10))))))) (.reg (rT Tryz.f17 11)))))
def Qko : Fg := ⟨[(0, none), (2, none), (3, none), (4, some (.sl .str)), (8, some tI), (65, some tI), (66, some tI), (70, some tI), (71, some tI)], [(2, some Qap), (3, none), (61, none), (94, none), (103, none), (119, none), (20300, none), (20301, none), (20302, none), (50000, some QaJ)]⟩
noncomputable def Qmk : TC := (.sq (.reg (rT Tryz.f17 16)) (.sq (.cd (.t 72) .sk (.fg ⟨[(0, none), (2, none), (3, none), (4, some (.sl .str)), (65, some tI), (66, some tI)], [(2, some Qap), (3, some Qap), (61, none), (94, none), (103, none), (119, none), (20300, none), (20301, none), (20302, none), (50000, some QaJ)]⟩ (.ex 4))) (.sq (.bk 5 (.sq (.reg (rT Tryz.f17 17)) (.sq (.reg (rT Tryz.f17 18)) (.cd (.t 87) (.reg (rT Tryz.f17 19)) .sk)))) (.reg (rT Tryz.f17 20)))))
def Qkn : Fg := ⟨[(0, none), (2, none), (3, none), (4, some (.sl .str)), (65, some tI), (66, some tI)], [(2, some Qap), (3, none), (61, none), (94, none), (103, none), (119, none), (20300, none), (20301, none), (20302, none), (50000, some QaJ)]⟩
noncomputable def Qmj : TC := (.sq (.reg (rT Tryz.f17 13)) (.sq (.cd (.t 67) .sk (.fg ⟨[(0, none), (2, none), (3, none)], [(2, some Qap), (3, some Qap), (61, none), (94, none), (103, none), (119, none), (20300, none), (20301, none), (20302, none), (50000, some QaJ)]⟩ (.ex 2))) (.sq (.bk 3 (.sq (.reg (rT Tryz.f17 14)) (.sq (.reg (rT Tryz.f17 15)) (.bk 4 (.nf 3 2 79 20302 (.nf 3 0 49 20300 (.nf 3 1 46 20301 (.lp 1 Qko Qmk)))))))) (.reg (rT Tryz.f17 21)))))
def Qkm : Fg := ⟨[(0, none), (2, none), (3, none), (10, some tI)], [(2, some Qap), (3, none), (61, none), (94, none), (103, none), (119, none), (20300, none), (20301, none), (20302, none), (50000, some QaJ)]⟩
noncomputable def Qmi : TC := (.sq (.sq (.reg (rT Tryz.f17 25)) (.cd (.t 108) .sk (.fg ⟨[(2, none), (3, none)], [(2, some Qap), (3, some Qap), (61, none), (94, none), (103, none), (119, none), (20300, none), (20301, none), (20302, none), (50000, some QaJ)]⟩ (.ex 6)))) (.sq (.bk 7 (.dr QOv [(0, [3, 61, 94, 103, 119, 20300, 20301, 20302]), (1, [3, 61, 94, 103, 119, 20300, 20301, 20302]), (2, [50000]), (3, [50000]), (4, []), (5, [116, 5116, 10116, 15116, 50000]), (6, [117, 5117, 10117, 15117, 50000]), (7, []), (8, [2, 3, 61, 94, 103, 119, 5119, 10119, 15119, 20300, 20301, 20302]), (9, [3, 61, 94, 103, 119, 20300, 20301, 20302]), (10, [2, 3, 61, 94, 103, 119, 20300, 20301, 20302])] (.of [0, 1, 2, 3, 4, 5, 6, 7, 8, 9, 10]))) (.reg (rT Tryz.f17 27))))
noncomputable def QDX : TC := (.sq (.reg (rT Tryz.f17 0)) (.sq (.reg (rT Tryz.f17 1)) (.sq (.reg (rT Tryz.f17 2)) (.sq (.sq (.reg (rT Tryz.f17 3)) (.bk 0 (.nf 3 2 79 20302 (.nf 3 1 46 20301 (.nf 3 0 49 20300 (.nf 7 3 3 20703 (.lp 0 Qkp Qml))))))) (.sq (.sq (.reg (rT Tryz.f17 12)) (.bk 2 (.nf 3 2 79 20302 (.nf 3 0 49 20300 (.nf 3 1 46 20301 (.lp 2 Qkn Qmj)))))) (.sq (.sq (.reg (rT Tryz.f17 22)) (.cd (.t 101) (.reg (rT Tryz.f17 23)) .sk)) (.sq (.sq (.reg (rT Tryz.f17 24)) (.bk 6 (.fz [20301, 103] (.nf 3 1 46 20301 (.nf 3 0 49 20300 (.nf 3 2 79 20302 (.lp 3 Qkm Qmi))))))) (.sq (.reg (rT Tryz.f17 28)) .rt))))))))
def QQF : List (RV × Option Ty) := [((.c 2 true 3), some Qap)]
abbrev Qsa : Sh := ⟨[(0, .ptr 50000 0), (2, .ptr 2 0), (3, .ptr 3 0), (4, .ty (.sl .str)), (16, .ty (.sl .str)), (17, .ty tI), (18, .ty tI)], [(2, .box Qap), (3, .bag [.ms 20300, .ms 20301, .ms 20302]), (61, .no), (94, .no), (103, .no), (119, .no), (20300, .arr 49 Qae), (20301, .arr 46 Qah), (20302, .arr 79 QaX), (50000, .box QaJ)]⟩
def Qmt (x4 x16 : List ByteArray) (x17 x18 : Int) (y2 : Qam) (y20300 : List Qab) (y20301 : List Keep) (y20302 : List Item) (y50000 : Dice) : VS := Qsa.st ((), (), (), x4, x16, x17, x18, ()) (y2, ((), (), (), ()), (), (), (), (), y20300, y20301, y20302, y50000, ())
abbrev QxK : Sh := ⟨[(0, .ptr 50000 0), (2, .ptr 2 0), (3, .ptr 3 0), (4, .ty (.sl .str))], [(2, .box Qap), (3, .bag [.ms 20300, .ms 20301, .ms 20302]), (61, .no), (94, .no), (103, .no), (119, .no), (20300, .arr 49 Qae), (20301, .arr 46 Qah), (20302, .arr 79 QaX), (50000, .box QaJ)]⟩
def Qfg (x4 : List ByteArray) (y2 : Qam) (y20300 : List Qab) (y20301 : List Keep) (y20302 : List Item) (y50000 : Dice) : VS := QxK.st ((), (), (), x4, ()) (y2, ((), (), (), ()), (), (), (), (), y20300, y20301, y20302, y50000, ())
abbrev Qr9 : Sh := ⟨[(0, .ptr 50000 0), (2, .ptr 2 0), (3, .ptr 3 0), (4, .ty (.sl .str)), (8, .ty tI), (65, .ty tI), (66, .ty tI), (70, .ty tI), (71, .ty tI)], [(2, .box Qap), (3, .bag [.ms 20300, .ms 20301, .ms 20302]), (61, .no), (94, .no), (103, .no), (119, .no), (20300, .arr 49 Qae), (20301, .arr 46 Qah), (20302, .arr 79 QaX), (50000, .box QaJ)]⟩
def Qhb (x4 : List ByteArray) (x8 x65 x66 x70 x71 : Int) (y2 : Qam) (y20300 : List Qab) (y20301 : List Keep) (y20302 : List Item) (y50000 : Dice) : VS := Qr9.st ((), (), (), x4, x8, x65, x66, x70, x71, ()) (y2, ((), (), (), ()), (), (), (), (), y20300, y20301, y20302, y50000, ())
abbrev QxJ : Sh := ⟨[(0, .ptr 50000 0), (2, .ptr 2 0), (3, .ptr 3 0), (4, .ty (.sl .str)), (65, .ty tI), (66, .ty tI)], [(2, .box Qap), (3, .bag [.ms 20300, .ms 20301, .ms 20302]), (61, .no), (94, .no), (103, .no), (119, .no), (20300, .arr 49 Qae), (20301, .arr 46 Qah), (20302, .arr 79 QaX), (50000, .box QaJ)]⟩
def Qff (x4 : List ByteArray) (x65 x66 : Int) (y2 : Qam) (y20300 : List Qab) (y20301 : List Keep) (y20302 : List Item) (y50000 : Dice) : VS := QxJ.st ((), (), (), x4, x65, x66, ()) (y2, ((), (), (), ()), (), (), (), (), y20300, y20301, y20302, y50000, ())
abbrev Qr8 : Sh := ⟨[(0, .ptr 50000 0), (2, .ptr 2 0), (3, .ptr 3 0), (4, .ty (.sl .str)), (65, .ty tI), (66, .ty tI)], [(2, .box Qap), (3, .bag [.ms 20300, .ms 20301, .ms 20302]), (61, .no), (94, .no), (103, .no), (119, .no), (20300, .arr 49 Qae), (20301, .arr 46 Qah), (20302, .arr 79 QaX), (50000, .box QaJ)]⟩
def QrJ (x4 : List ByteArray) (x65 x66 : Int) (y2 : Qam) (y20300 : List Qab) (y20301 : List Keep) (y20302 : List Item) (y50000 : Dice) : VS := Qr8.st ((), (), (), x4, x65, x66, ()) (y2, ((), (), (), ()), (), (), (), (), y20300, y20301, y20302, y50000, ())
abbrev QxI : Sh := ⟨[(0, .ptr 50000 0), (2, .ptr 2 0), (3, .ptr 3 0)], [(2, .box Qap), (3, .bag [.ms 20300, .ms 20301, .ms 20302]), (61, .no), (94, .no), (103, .no), (119, .no), (20300, .arr 49 Qae), (20301, .arr 46 Qah), (20302, .arr 79 QaX), (50000, .box QaJ)]⟩
def Qfe (y2 : Qam) (y20300 : List Qab) (y20301 : List Keep) (y20302 : List Item) (y50000 : Dice) : VS := QxI.st ((), (), (), ()) (y2, ((), (), (), ()), (), (), (), (), y20300, y20301, y20302, y50000, ())
abbrev Qr7 : Sh := ⟨[(0, .ptr 50000 0), (2, .ptr 2 0), (3, .ptr 3 0), (10, .ty tI)], [(2, .box Qap), (3, .bag [.ms 20300, .ty (.sl Qah), .ms 20302]), (61, .no), (94, .no), (103, .no), (119, .no), (20300, .arr 49 Qae), (20301, .no), (20302, .arr 79 QaX), (50000, .box QaJ)]⟩
def QrI (x10 : Int) (y2 : Qam) (y3_1 : List Keep) (y20300 : List Qab) (y20302 : List Item) (y50000 : Dice) : VS := Qr7.st ((), (), (), x10, ()) (y2, ((), y3_1, (), ()), (), (), (), (), y20300, (), y20302, y50000, ())
abbrev QxH : Sh := ⟨[(2, .ptr 2 0), (3, .ptr 3 0)], [(2, .box Qap), (3, .bag [.ms 20300, .ty (.sl Qah), .ms 20302]), (61, .no), (94, .no), (103, .no), (119, .no), (20300, .arr 49 Qae), (20301, .no), (20302, .arr 79 QaX), (50000, .box QaJ)]⟩
def Qfd (y2 : Qam) (y3_1 : List Keep) (y20300 : List Qab) (y20302 : List Item) (y50000 : Dice) : VS := QxH.st ((), (), ()) (y2, ((), y3_1, (), ()), (), (), (), (), y20300, (), y20302, y50000, ())
def QW6 : VS → Option (Bool × List (Bool × Exit × VS)) := mkL Qsa (fun x y => (rngOk x.2.2.2.2.1 x.2.2.2.2.2.1 x.2.2.2.2.2.2.1 && (dOk y.2.2.2.2.2.2.2.2.2.1 && (decide (y.2.2.2.2.2.2.1.length ≤ x.2.2.2.2.2.2.1) && x.2.2.2.2.1.all nm1)))) (fun x y => [(true, .exit 0, Qfg (x.2.2.2.1) (y.1) (y.2.2.2.2.2.2.1 ++ (sndZ (x.2.2.2.2.1.drop x.2.2.2.2.2.2.1.toNat) x.2.2.2.2.2.2.1.toNat y.2.2.2.2.2.2.2.2.2.1).1) (y.2.2.2.2.2.2.2.1) (y.2.2.2.2.2.2.2.2.1) ((sndZ (x.2.2.2.2.1.drop x.2.2.2.2.2.2.1.toNat) x.2.2.2.2.2.2.1.toNat y.2.2.2.2.2.2.2.2.2.1).2))])
def QW5 : VS → Option (Bool × List (Bool × Exit × VS)) := mkL Qr9 (fun x y => (dOk y.2.2.2.2.2.2.2.2.2.1 && decide (0 ≤ x.2.2.2.2.2.2.2.2.1 ∧ x.2.2.2.2.2.2.2.2.1 ≤ x.2.2.2.2.2.2.2.1 ∧ x.2.2.2.2.2.2.2.1 ≤ 3 ∧ y.2.2.2.2.2.2.2.1.length ≤ 3))) (fun x y => [(true, .exit 4, Qff (x.2.2.2.1) (x.2.2.2.2.2.1) (x.2.2.2.2.2.2.1) (y.1) (y.2.2.2.2.2.2.1) ((edZ (x.2.2.2.2.2.2.2.1 - x.2.2.2.2.2.2.2.2.1).toNat x.2.2.2.2.1 x.2.2.2.2.2.2.2.2.1 y.2.2.2.2.2.2.2.1 y.2.2.2.2.2.2.2.2.2.1).1) (y.2.2.2.2.2.2.2.2.1) ((edZ (x.2.2.2.2.2.2.2.1 - x.2.2.2.2.2.2.2.2.1).toNat x.2.2.2.2.1 x.2.2.2.2.2.2.2.2.1 y.2.2.2.2.2.2.2.1 y.2.2.2.2.2.2.2.2.2.1).2))])
def QW4 : VS → Option (Bool × List (Bool × Exit × VS)) := mkL Qr8 (fun x y => (dOk y.2.2.2.2.2.2.2.2.2.1 && decide (0 ≤ x.2.2.2.2.2.1 ∧ x.2.2.2.2.2.1 ≤ x.2.2.2.2.1 ∧ x.2.2.2.2.1 ≤ 3 ∧ x.2.2.2.1.length ≤ 3 ∧ y.2.2.2.2.2.2.2.1.length ≤ 3))) (fun x y => [(true, .exit 2, Qfe (y.1) (y.2.2.2.2.2.2.1) ((edY (x.2.2.2.2.1 - x.2.2.2.2.2.1).toNat x.2.2.2.1.length x.2.2.2.2.2.1 y.2.2.2.2.2.2.2.1 y.2.2.2.2.2.2.2.2.2.1).1) (y.2.2.2.2.2.2.2.2.1) ((edY (x.2.2.2.2.1 - x.2.2.2.2.2.1).toNat x.2.2.2.1.length x.2.2.2.2.2.1 y.2.2.2.2.2.2.2.1 y.2.2.2.2.2.2.2.2.2.1).2))])
def QW3 : VS → Option (Bool × List (Bool × Exit × VS)) := mkL Qr7 (fun x y => (dOk y.2.2.2.2.2.2.2.2.2.1 && decide (0 ≤ x.2.2.2.1 ∧ x.2.2.2.1 ≤ 3 ∧ y.2.2.2.2.2.2.2.2.1.length + x.2.2.2.1.toNat ≤ 100))) (fun x y => [(true, .exit 6, Qfd (y.1) (y.2.1.2.1) (y.2.2.2.2.2.2.1) (y.2.2.2.2.2.2.2.2.1 ++ (itZ x.2.2.2.1.toNat y.2.2.2.2.2.2.2.2.2.1).1) ((itZ x.2.2.2.1.toNat y.2.2.2.2.2.2.2.2.2.1).2))])
def g_f17 : G := ⟨TYs, [45, 103], 122, EL [(35, QqW), (37, QPR), (38, QPQ), (45, QEd), (46, QPP), (47, QPO), (48, QPN)], keeps, (Ls [QW6, QW5, QW4, QW3]), IL [], RL []⟩
def Qg7 (x4 x16 : List ByteArray) (x17 x18 : Int) (y2 : Qam) (y20300 : List Qab) (y20301 : List Keep) (y20302 : List Item) (y50000 : Dice) : Option (Exit × VS) :=
 let a5 := lgt .str x16 (Int.toNat x18)
 let a1 := leafV a5 rsaK (iadd .i64 100 x18) 1 901
 let a2 := (lgt (.sl tI) ([[10, 8, 2], [8, 2], [2, 10, 8, 3]]) (Int.toNat (dval (dofN y50000 ([3, 3, 4])) 3)))
 let a3 := (dnext (dofN y50000 ([3, 3, 4])) 3)
 let a4 := ((done a3 2), ([(((a1.1).1, (((a1.1).2).1, ())), ((a1.2).1, (((a1.2).2).1, ())))], ([1], ([2, 3], ((done (dnext a3 2) 3), ())))))
 let a6 := (dof y50000 ([3, 3, 4]))
 let a7 := Qrd a5 rsaK (iadd .i64 100 x18) 1 901
 br (oneOk (dnext a3 2) 3) (br (ieq a6 4) (br (cApp ([14]) a2 8) (br a7 (br (cApp y20300 ([(a5, (1, (a6, ((([14]) ++ a2), a4))))]) 144) (some (.normal, Qmt x4 x16 x17 (iadd .i64 x18 1) y2 (y20300 ++ ([(a5, (1, (a6, ((([14]) ++ a2), a4))))])) y20301 y20302 (dnext (dnext a3 2) 3))) none) none) none) (br a7 (br (cApp y20300 ([(a5, (1, (a6, (a2, a4))))]) 144) (some (.normal, Qmt x4 x16 x17 (iadd .i64 x18 1) y2 (y20300 ++ ([(a5, (1, (a6, (a2, a4))))])) y20301 y20302 (dnext (dnext a3 2) 3))) none) none)) none
def Qkw (x4 x16 : List ByteArray) (x17 x18 : Int) (y2 : Qam) (y20300 : List Qab) (y20301 : List Keep) (y20302 : List Item) (y50000 : Dice) : Option (Exit × VS) := br (oneOk (dnext (dofN y50000 ([3, 3, 4])) 3) 2) (Qg7 x4 x16 x17 x18 y2 y20300 y20301 y20302 y50000) none
def Qkv (x4 x16 : List ByteArray) (x17 x18 : Int) (y2 : Qam) (y20300 : List Qab) (y20301 : List Keep) (y20302 : List Item) (y50000 : Dice) : Option (Exit × VS) :=
 let a1 := (dofN y50000 ([3, 3, 4]))
 br (QaS a1 3) (br (cIx ([[10, 8, 2], [8, 2], [2, 10, 8, 3]]) (dval a1 3)) (Qkw x4 x16 x17 x18 y2 y20300 y20301 y20302 y50000) none) none
def Qzd (x4 x16 : List ByteArray) (x17 x18 : Int) (y2 : Qam) (y20300 : List Qab) (y20301 : List Keep) (y20302 : List Item) (y50000 : Dice) : Option (Exit × VS) :=
 let a1 := (dofN y50000 ([3, 3, 4]))
 let a2 := (ofOk y50000 ([3, 3, 4]))
 br (ilt x18 x17) (br (cIx x16 x18) (frk (br a2 (frk (br (QaS a1 3) (br (cIx ([[10, 8, 2], [8, 2], [2, 10, 8, 3]]) (dval a1 3)) (frk (br (oneOk (dnext a1 3) 2) (frk (Qg7 x4 x16 x17 x18 y2 y20300 y20301 y20302 y50000) (Qg7 x4 x16 x17 x18 y2 y20300 y20301 y20302 y50000)) none) (Qkw x4 x16 x17 x18 y2 y20300 y20301 y20302 y50000)) none) none) (Qkv x4 x16 x17 x18 y2 y20300 y20301 y20302 y50000)) none) (br a2 (Qkv x4 x16 x17 x18 y2 y20300 y20301 y20302 y50000) none)) none) (some (.exit 0, Qfg x4 y2 y20300 y20301 y20302 y50000))
noncomputable def Qht (x4 x16 : List ByteArray) (x17 x18 : Int) (y2 : Qam) (y20300 : List Qab) (y20301 : List Keep) (y20302 : List Item) (y50000 : Dice) : Option (Exit × VS) := loopF (Qak g_f17 Qkp Qml) (Qmt x4 x16 x17 x18 y2 y20300 y20301 y20302 y50000)
noncomputable def Qdx (x4 x16 : List ByteArray) (x17 x18 : Int) (y2 : Qam) (y20300 : List Qab) (y20301 : List Keep) (y20302 : List Item) (y50000 : Dice) : Option (Exit × VS) :=
 let a5 := lgt .str x16 (Int.toNat x18)
 let a1 := leafV a5 rsaK (iadd .i64 100 x18) 1 901
 let a2 := (lgt (.sl tI) ([[10, 8, 2], [8, 2], [2, 10, 8, 3]]) (Int.toNat (dval (dofN y50000 ([3, 3, 4])) 3)))
 let a3 := (dnext (dofN y50000 ([3, 3, 4])) 3)
 let a4 := ((done a3 2), ([(((a1.1).1, (((a1.1).2).1, ())), ((a1.2).1, (((a1.2).2).1, ())))], ([1], ([2, 3], ((done (dnext a3 2) 3), ())))))
 let a6 := (dof y50000 ([3, 3, 4]))
 let a7 := Qrd a5 rsaK (iadd .i64 100 x18) 1 901
 br (oneOk (dnext a3 2) 3) (br (ieq a6 4) (br (cApp ([14]) a2 8) (br a7 (br (cApp y20300 ([(a5, (1, (a6, ((([14]) ++ a2), a4))))]) 144) (Qht x4 x16 x17 (iadd .i64 x18 1) y2 (y20300 ++ ([(a5, (1, (a6, ((([14]) ++ a2), a4))))])) y20301 y20302 (dnext (dnext a3 2) 3)) none) none) none) (br a7 (br (cApp y20300 ([(a5, (1, (a6, (a2, a4))))]) 144) (Qht x4 x16 x17 (iadd .i64 x18 1) y2 (y20300 ++ ([(a5, (1, (a6, (a2, a4))))])) y20301 y20302 (dnext (dnext a3 2) 3)) none) none)) none
noncomputable def QeS (x4 x16 : List ByteArray) (x17 x18 : Int) (y2 : Qam) (y20300 : List Qab) (y20301 : List Keep) (y20302 : List Item) (y50000 : Dice) : Option (Exit × VS) := br (oneOk (dnext (dofN y50000 ([3, 3, 4])) 3) 2) (Qdx x4 x16 x17 x18 y2 y20300 y20301 y20302 y50000) none
noncomputable def QeR (x4 x16 : List ByteArray) (x17 x18 : Int) (y2 : Qam) (y20300 : List Qab) (y20301 : List Keep) (y20302 : List Item) (y50000 : Dice) : Option (Exit × VS) :=
 let a1 := (dofN y50000 ([3, 3, 4]))
 br (QaS a1 3) (br (cIx ([[10, 8, 2], [8, 2], [2, 10, 8, 3]]) (dval a1 3)) (QeS x4 x16 x17 x18 y2 y20300 y20301 y20302 y50000) none) none
noncomputable def Qpl (x4 x16 : List ByteArray) (x17 x18 : Int) (y2 : Qam) (y20300 : List Qab) (y20301 : List Keep) (y20302 : List Item) (y50000 : Dice) : Option (Exit × VS) :=
 let a1 := (dofN y50000 ([3, 3, 4]))
 let a2 := (ofOk y50000 ([3, 3, 4]))
 br (ilt x18 x17) (br (cIx x16 x18) (frk (br a2 (frk (br (QaS a1 3) (br (cIx ([[10, 8, 2], [8, 2], [2, 10, 8, 3]]) (dval a1 3)) (frk (br (oneOk (dnext a1 3) 2) (frk (Qdx x4 x16 x17 x18 y2 y20300 y20301 y20302 y50000) (Qdx x4 x16 x17 x18 y2 y20300 y20301 y20302 y50000)) none) (QeS x4 x16 x17 x18 y2 y20300 y20301 y20302 y50000)) none) none) (QeR x4 x16 x17 x18 y2 y20300 y20301 y20302 y50000)) none) (br a2 (QeR x4 x16 x17 x18 y2 y20300 y20301 y20302 y50000) none)) none) (some (.exit 0, Qfg x4 y2 y20300 y20301 y20302 y50000))
def QfG (x4 x16 : List ByteArray) (x17 x18 : Int) (y2 : Qam) (y20300 : List Qab) (y20301 : List Keep) (y20302 : List Item) (y50000 : Dice) : Option (Exit × VS) :=
 let a1 := sndZ (x16.drop x18.toNat) x18.toNat y50000
 some (.exit 0, Qfg (x4) (y2) (y20300 ++ a1.1) (y20301) (y20302) (a1.2))
theorem QOV (x4 x16 : List ByteArray) (x17 x18 : Int) (y2 : Qam) (y20300 : List Qab) (y20301 : List Keep) (y20302 : List Item) (y50000 : Dice) : Qak g_f17 Qkp Qml (Qmt x4 x16 x17 x18 y2 y20300 y20301 y20302 y50000) = Qzd x4 x16 x17 x18 y2 y20300 y20301 y20302 y50000 := by kernel_rfl
theorem Qz4 (x4 x16 : List ByteArray) (x17 x18 : Int) (y2 : Qam) (y20300 : List Qab) (y20301 : List Keep) (y20302 : List Item) (y50000 : Dice) : Qht x4 x16 x17 x18 y2 y20300 y20301 y20302 y50000 = Qpl x4 x16 x17 x18 y2 y20300 y20301 y20302 y50000 := (Qao _ _).trans (by
 rw [QOV]
 first
 |(simp only [Qzd, Qg7, Qkw, Qkv, Qey, Qpl, Qdx, QeS, QeR, Qey, Qay, nxt_n, nxt_r, nxt_e, nxt_0]
   rfl)
 |(simp only [Qzd, Qg7, Qkw, Qkv, Qey, Qpl, Qdx, QeS, QeR, Qey]
   try generalize (cApp y20300 ([((lgt .str x16 (Int.toNat x18)), (1, ((dof y50000 ([3, 3, 4])), ((([14]) ++ (lgt (.sl tI) ([[10, 8, 2], [8, 2], [2, 10, 8, 3]]) (Int.toNat (dval (dofN y50000 ([3, 3, 4])) 3)))), ((done (dnext (dofN y50000 ([3, 3, 4])) 3) 2), ([((((leafV (lgt .str x16 (Int.toNat x18)) rsaK (iadd .i64 100 x18) 1 901).1).1, ((((leafV (lgt .str x16 (Int.toNat x18)) rsaK (iadd .i64 100 x18) 1 901).1).2).1, ())), (((leafV (lgt .str x16 (Int.toNat x18)) rsaK (iadd .i64 100 x18) 1 901).2).1, ((((leafV (lgt .str x16 (Int.toNat x18)) rsaK (iadd .i64 100 x18) 1 901).2).2).1, ())))], ([1], ([2, 3], ((done (dnext (dnext (dofN y50000 ([3, 3, 4])) 3) 2) 3), ())))))))))]) 144) = cq0
   try generalize ((Qrd (lgt .str x16 (Int.toNat x18)) rsaK (iadd .i64 100 x18) 1 901)) = cq1
   try generalize (cApp ([14]) (lgt (.sl tI) ([[10, 8, 2], [8, 2], [2, 10, 8, 3]]) (Int.toNat (dval (dofN y50000 ([3, 3, 4])) 3))) 8) = cq2
   try generalize (cApp y20300 ([((lgt .str x16 (Int.toNat x18)), (1, ((dof y50000 ([3, 3, 4])), ((lgt (.sl tI) ([[10, 8, 2], [8, 2], [2, 10, 8, 3]]) (Int.toNat (dval (dofN y50000 ([3, 3, 4])) 3))), ((done (dnext (dofN y50000 ([3, 3, 4])) 3) 2), ([((((leafV (lgt .str x16 (Int.toNat x18)) rsaK (iadd .i64 100 x18) 1 901).1).1, ((((leafV (lgt .str x16 (Int.toNat x18)) rsaK (iadd .i64 100 x18) 1 901).1).2).1, ())), (((leafV (lgt .str x16 (Int.toNat x18)) rsaK (iadd .i64 100 x18) 1 901).2).1, ((((leafV (lgt .str x16 (Int.toNat x18)) rsaK (iadd .i64 100 x18) 1 901).2).2).1, ())))], ([1], ([2, 3], ((done (dnext (dnext (dofN y50000 ([3, 3, 4])) 3) 2) 3), ())))))))))]) 144) = cq3
   try generalize ((oneOk (dnext (dnext (dofN y50000 ([3, 3, 4])) 3) 2) 3)) = cq4
   try generalize ((oneOk (dnext (dofN y50000 ([3, 3, 4])) 3) 2)) = cq5
   try generalize (cIx ([[10, 8, 2], [8, 2], [2, 10, 8, 3]]) (dval (dofN y50000 ([3, 3, 4])) 3)) = cq6
   try generalize ((QaS (dofN y50000 ([3, 3, 4])) 3)) = cq7
   try generalize ((ofOk y50000 ([3, 3, 4]))) = cq8
   try generalize (cIx x16 x18) = cq9
   simp only [brN, Qey, Bool.and_assoc, Bool.and_comm, Bool.and_left_comm, Bool.and_self, Bool.and_self_left, Qay, nxt_n, nxt_r, nxt_e, nxt_0]
   try rfl))
def QLF (x4 : List ByteArray) (x8 x65 x66 x70 x71 : Int) (y2 : Qam) (y20300 : List Qab) (y20301 : List Keep) (y20302 : List Item) (y50000 : Dice) : Option (Exit × VS) :=
 let a1 := iadd .i64 x71 1
 let a2 := dnext y50000 3
 br (ilt x71 x70) (br (ine x8 x71) (br (QaS y50000 3) (br (igt (dval y50000 3) 0) (br (ilt (llen y20301) 3) (br (cApp y20301 ([(x8, (x71, ()))]) 16) (some (.normal, Qhb x4 x8 x65 x66 x70 a1 y2 y20300 (y20301 ++ ([(x8, (x71, ()))])) y20302 a2)) none) (some (.normal, Qhb x4 x8 x65 x66 x70 a1 y2 y20300 y20301 y20302 a2))) (some (.normal, Qhb x4 x8 x65 x66 x70 a1 y2 y20300 y20301 y20302 a2))) none) (some (.normal, Qhb x4 x8 x65 x66 x70 a1 y2 y20300 y20301 y20302 y50000))) (some (.exit 4, Qff x4 x65 x66 y2 y20300 y20301 y20302 y50000))
noncomputable def Qfz (x4 : List ByteArray) (x8 x65 x66 x70 x71 : Int) (y2 : Qam) (y20300 : List Qab) (y20301 : List Keep) (y20302 : List Item) (y50000 : Dice) : Option (Exit × VS) := loopF (Qak g_f17 Qko Qmk) (Qhb x4 x8 x65 x66 x70 x71 y2 y20300 y20301 y20302 y50000)
noncomputable def Qs1 (x4 : List ByteArray) (x8 x65 x66 x70 x71 : Int) (y2 : Qam) (y20300 : List Qab) (y20301 : List Keep) (y20302 : List Item) (y50000 : Dice) : Option (Exit × VS) :=
 let a1 := iadd .i64 x71 1
 let a2 := dnext y50000 3
 br (ilt x71 x70) (br (ine x8 x71) (br (QaS y50000 3) (br (igt (dval y50000 3) 0) (br (ilt (llen y20301) 3) (br (cApp y20301 ([(x8, (x71, ()))]) 16) (Qfz x4 x8 x65 x66 x70 a1 y2 y20300 (y20301 ++ ([(x8, (x71, ()))])) y20302 a2) none) (Qfz x4 x8 x65 x66 x70 a1 y2 y20300 y20301 y20302 a2)) (Qfz x4 x8 x65 x66 x70 a1 y2 y20300 y20301 y20302 a2)) none) (Qfz x4 x8 x65 x66 x70 a1 y2 y20300 y20301 y20302 y50000)) (some (.exit 4, Qff x4 x65 x66 y2 y20300 y20301 y20302 y50000))
def QfF (x4 : List ByteArray) (x8 x65 x66 x70 x71 : Int) (y2 : Qam) (y20300 : List Qab) (y20301 : List Keep) (y20302 : List Item) (y50000 : Dice) : Option (Exit × VS) :=
 let a1 := edZ (x70 - x71).toNat x8 x71 y20301 y50000
 some (.exit 4, Qff (x4) (x65) (x66) (y2) (y20300) (a1.1) (y20302) (a1.2))
theorem QOU (x4 : List ByteArray) (x8 x65 x66 x70 x71 : Int) (y2 : Qam) (y20300 : List Qab) (y20301 : List Keep) (y20302 : List Item) (y50000 : Dice) : Qak g_f17 Qko Qmk (Qhb x4 x8 x65 x66 x70 x71 y2 y20300 y20301 y20302 y50000) = QLF x4 x8 x65 x66 x70 x71 y2 y20300 y20301 y20302 y50000 := by kernel_rfl
theorem Qz3 (x4 : List ByteArray) (x8 x65 x66 x70 x71 : Int) (y2 : Qam) (y20300 : List Qab) (y20301 : List Keep) (y20302 : List Item) (y50000 : Dice) : Qfz x4 x8 x65 x66 x70 x71 y2 y20300 y20301 y20302 y50000 = Qs1 x4 x8 x65 x66 x70 x71 y2 y20300 y20301 y20302 y50000 := (Qao _ _).trans (by
 rw [QOU]
 simp only [QLF, Qs1, Qay, nxt_n, nxt_r, nxt_e, nxt_0]
 rfl)
def QLE (x4 : List ByteArray) (x65 x66 : Int) (y2 : Qam) (y20300 : List Qab) (y20301 : List Keep) (y20302 : List Item) (y50000 : Dice) : Option (Exit × VS) :=
 let a1 := (edZ ((llen x4) - (0 : Int)).toNat x66 (0 : Int) y20301 y50000)
 br (ilt x66 x65) (br (dOk y50000 && decide (0 ≤ (0 : Int) ∧ (0 : Int) ≤ (llen x4) ∧ (llen x4) ≤ 3 ∧ y20301.length ≤ 3)) (some (.normal, QrJ (x4) (x65) (iadd .i64 (x66) 1) (y2) (y20300) (a1.1) (y20302) (a1.2))) none) (some (.exit 2, Qfe y2 y20300 y20301 y20302 y50000))
noncomputable def Qm2 (x4 : List ByteArray) (x65 x66 : Int) (y2 : Qam) (y20300 : List Qab) (y20301 : List Keep) (y20302 : List Item) (y50000 : Dice) : Option (Exit × VS) := loopF (Qak g_f17 Qkn Qmj) (QrJ x4 x65 x66 y2 y20300 y20301 y20302 y50000)
noncomputable def Qs0 (x4 : List ByteArray) (x65 x66 : Int) (y2 : Qam) (y20300 : List Qab) (y20301 : List Keep) (y20302 : List Item) (y50000 : Dice) : Option (Exit × VS) :=
 let a1 := (edZ ((llen x4) - (0 : Int)).toNat x66 (0 : Int) y20301 y50000)
 br (ilt x66 x65) (br (dOk y50000 && decide (0 ≤ (0 : Int) ∧ (0 : Int) ≤ (llen x4) ∧ (llen x4) ≤ 3 ∧ y20301.length ≤ 3)) (Qm2 (x4) (x65) (iadd .i64 (x66) 1) (y2) (y20300) (a1.1) (y20302) (a1.2)) none) (some (.exit 2, Qfe y2 y20300 y20301 y20302 y50000))
def Qm9 (x4 : List ByteArray) (x65 x66 : Int) (y2 : Qam) (y20300 : List Qab) (y20301 : List Keep) (y20302 : List Item) (y50000 : Dice) : Option (Exit × VS) :=
 let a1 := edY (x65 - x66).toNat x4.length x66 y20301 y50000
 some (.exit 2, Qfe (y2) (y20300) (a1.1) (y20302) (a1.2))
theorem QOT (x4 : List ByteArray) (x65 x66 : Int) (y2 : Qam) (y20300 : List Qab) (y20301 : List Keep) (y20302 : List Item) (y50000 : Dice) : Qak g_f17 Qkn Qmj (QrJ x4 x65 x66 y2 y20300 y20301 y20302 y50000) = QLE x4 x65 x66 y2 y20300 y20301 y20302 y50000 := by kernel_rfl
theorem Qz2 (x4 : List ByteArray) (x65 x66 : Int) (y2 : Qam) (y20300 : List Qab) (y20301 : List Keep) (y20302 : List Item) (y50000 : Dice) : Qm2 x4 x65 x66 y2 y20300 y20301 y20302 y50000 = Qs0 x4 x65 x66 y2 y20300 y20301 y20302 y50000 := (Qao _ _).trans (by
 rw [QOT]
 simp only [QLE, Qs0, Qay, nxt_n, nxt_r, nxt_e, nxt_0]
 rfl)
def QLD (x10 : Int) (y2 : Qam) (y3_1 : List Keep) (y20300 : List Qab) (y20302 : List Item) (y50000 : Dice) : Option (Exit × VS) :=
 let a2 := (ByteArray.mk #[98, 97, 99, 107, 117, 112])
 let a3 := (ByteArray.mk #[100, 101, 101, 100])
 let a5 := (dwdGN y50000 ([a2, a3]))
 let a6 := (dwdG y50000 ([a2, a3]))
 let a1 := itemV a5 a6
 let a4 := ((a1.2).1, (((a1.2).2).1, ((((a1.2).2).2).1, (((((a1.2).2).2).2).1, ()))))
 br (igt x10 0) (br (wdGOk y50000 ([a2, a3])) (br (dOkS a5 a6) (br (cApp y20302 ([(a1.1, a4)]) 64) (some (.normal, QrI (isub .i64 x10 1) y2 y3_1 y20300 (y20302 ++ ([(a1.1, a4)])) (itemN a5 a6))) none) none) none) (some (.exit 6, Qfd y2 y3_1 y20300 y20302 y50000))
noncomputable def Qm1 (x10 : Int) (y2 : Qam) (y3_1 : List Keep) (y20300 : List Qab) (y20302 : List Item) (y50000 : Dice) : Option (Exit × VS) := loopF (Qak g_f17 Qkm Qmi) (QrI x10 y2 y3_1 y20300 y20302 y50000)
noncomputable def QsZ (x10 : Int) (y2 : Qam) (y3_1 : List Keep) (y20300 : List Qab) (y20302 : List Item) (y50000 : Dice) : Option (Exit × VS) :=
 let a2 := (ByteArray.mk #[98, 97, 99, 107, 117, 112])
 let a3 := (ByteArray.mk #[100, 101, 101, 100])
 let a5 := (dwdGN y50000 ([a2, a3]))
 let a6 := (dwdG y50000 ([a2, a3]))
 let a1 := itemV a5 a6
 let a4 := ((a1.2).1, (((a1.2).2).1, ((((a1.2).2).2).1, (((((a1.2).2).2).2).1, ()))))
 br (igt x10 0) (br (wdGOk y50000 ([a2, a3])) (br (dOkS a5 a6) (br (cApp y20302 ([(a1.1, a4)]) 64) (Qm1 (isub .i64 x10 1) y2 y3_1 y20300 (y20302 ++ ([(a1.1, a4)])) (itemN a5 a6)) none) none) none) (some (.exit 6, Qfd y2 y3_1 y20300 y20302 y50000))
def Qm8 (x10 : Int) (y2 : Qam) (y3_1 : List Keep) (y20300 : List Qab) (y20302 : List Item) (y50000 : Dice) : Option (Exit × VS) := some (.exit 6, Qfd (y2) (y3_1) (y20300) (y20302 ++ (itZ x10.toNat y50000).1) ((itZ x10.toNat y50000).2))
theorem QOS (x10 : Int) (y2 : Qam) (y3_1 : List Keep) (y20300 : List Qab) (y20302 : List Item) (y50000 : Dice) : Qak g_f17 Qkm Qmi (QrI x10 y2 y3_1 y20300 y20302 y50000) = QLD x10 y2 y3_1 y20300 y20302 y50000 := by kernel_rfl
theorem Qz1 (x10 : Int) (y2 : Qam) (y3_1 : List Keep) (y20300 : List Qab) (y20302 : List Item) (y50000 : Dice) : Qm1 x10 y2 y3_1 y20300 y20302 y50000 = QsZ x10 y2 y3_1 y20300 y20302 y50000 := (Qao _ _).trans (by
 rw [QOS]
 simp only [QLD, QsZ, Qay, nxt_n, nxt_r, nxt_e, nxt_0]
 rfl)
def r_f17 (d0 : Dice) : Option (V × List VO) :=
 let a6 := (ByteArray.mk #[97, 112, 112])
 let a8 := (ByteArray.mk #[100, 98])
 let a7 := (ByteArray.mk #[119, 101, 98])
 let a2 := (lsl ([a6, a8, a7]) 0 (iadd .i64 2 (dval d0 2)))
 let a5 := (sndZ (a2.drop (0 : Int).toNat) (0 : Int).toNat (dnext d0 2))
 let a1 := (edY ((llen a2) - (0 : Int)).toNat a2.length (0 : Int) ([] : List Keep) (a5.2))
 let a3 := (dOk (dnext (a1.2) 3) && decide (0 ≤ (dval (a1.2) 3) ∧ (dval (a1.2) 3) ≤ 3 ∧ ([] : List Item).length + (dval (a1.2) 3).toNat ≤ 100))
 let a4 := itZ (dval (a1.2) 3).toNat (dnext (a1.2) 3)
 br (QaS d0 2) (br (cSl ([a6, a8, a7]) 0 (iadd .i64 2 (dval d0 2)) ((List.length ([a6, a8, a7]) : Nat) : Int)) (br (rngOk a2 (llen a2) (0 : Int) && (dOk (dnext d0 2) && (decide (([] : List Qab).length ≤ (0 : Int)) && a2.all nm1))) (br (dOk (a5.2) && decide (0 ≤ (0 : Int) ∧ (0 : Int) ≤ (llen a2) ∧ (llen a2) ≤ 3 ∧ a2.length ≤ 3 ∧ ([] : List Keep).length ≤ 3)) (br (ieq (llen (a1.1)) 0) (br (QaS (a1.2) 3) (br a3 (some (.t Qap ((([] : List Qab) ++ a5.1), (([(0, (1, ()))]), ((([] : List Item) ++ a4.1), ()))), [.box (.t QaJ (a4.2))])) none) none) (br (QaS (a1.2) 3) (br a3 (some (.t Qap ((([] : List Qab) ++ a5.1), ((a1.1), ((([] : List Item) ++ a4.1), ()))), [.box (.t QaJ (a4.2))])) none) none)) none) none) none) none
theorem e_f17 (d0 : Dice) : runF g_f17 QDX QQF false [.ptr 50000 0] [.box (.t QaJ d0)] = r_f17 d0 := by kernel_rfl
theorem en_f17 : Qai Tryz.prog 17 := .inr ⟨by decide, _, Tryz.func17, by kernel_rfl, by kernel_rfl⟩
theorem gk_f17 : GOk Tryz.prog g_f17 := Qal _ (gA (gC QvL QuZ (gC en_f37 ms_f37 (gC en_f38 ms_f38 (gC QRl QQ5 (gC en_f46 ms_f46 (gC en_f47 ms_f47 (gC en_f48 ms_f48 gN))))))))
theorem QUv (x4 x16 : List ByteArray) (x17 x18 : Int) (y2 : Qam) (y20300 : List Qab) (y20301 : List Keep) (y20302 : List Item) (y50000 : Dice) (h : (rngOk x16 x17 x18 && (dOk y50000 && (decide (y20300.length ≤ x18) && x16.all nm1))) = true) : Qht x4 x16 x17 x18 y2 y20300 y20301 y20302 y50000 = QfG x4 x16 x17 x18 y2 y20300 y20301 y20302 y50000 := by
 simp only [Bool.and_eq_true, decide_eq_true_eq] at h
 obtain ⟨h0, hd, hl, ha⟩ := h
 obtain ⟨rfl, h3, k, rfl, hk⟩ := rng_k h0
 clear h0
 revert y20300 y50000
 refine Qat x16 (fun k => ∀ (y20300 : List Qab) (y50000 : Dice), dOk y50000 = true → (y20300.length : Int) ≤ (k : Int) → Qht x4 x16 (x16.length : Int) (k : Int) y2 y20300 y20301 y20302 y50000 = QfG x4 x16 (x16.length : Int) (k : Int) y2 y20300 y20301 y20302 y50000) ?_ ?_ k hk
 ·intro y20300 y50000 _ _
  rw [Qz4]
  simp only [Qpl, Qdx, QeS, QeR, Qey, QfG, Qar, Nat.lt_irrefl, decide_false, Qaf, Int.toNat_natCast, List.drop_length, sndZ, List.append_nil]
 ·intro k hk ih y20300 y50000 hd hl
  rw [Qz4]
  have c1 : ofOk y50000 [3, 3, 4] = true := QRQ hd (by decide) (by decide)
  have d1 := QvQ (l := [3, 3, 4]) hd
  have c2 : QaS (dofN y50000 [3, 3, 4]) 3 = true := Qgr d1 (by omega)
  have d2 := QaH (n := 3) d1
  have c3 : oneOk (dnext (dofN y50000 [3, 3, 4]) 3) 2 = true := QzI d2 (by omega) (by omega)
  have c4 : oneOk (dnext (dnext (dofN y50000 [3, 3, 4]) 3) 2) 3 = true := QzI (QaH d2) (by omega) (by omega)
  have b3 := Qbs (d := dofN y50000 [3, 3, 4]) (n := 3) (by omega)
  have c5 : cIx ([[10, 8, 2], [8, 2], [2, 10, 8, 3]] : List (List Int)) (dval (dofN y50000 [3, 3, 4]) 3) = true := decide_eq_true ⟨b3.1, b3.2⟩
  have c6 : Qrd x16[k] rsaK (iadd .i64 100 (k : Int)) 1 901 = true := List.all_eq_true.1 ha _ (List.getElem_mem hk)
  have c7 : ∀ v, cApp y20300 [v] 144 = true := fun v => cAppN (by omega) (by simp only [List.length_singleton]; omega)
  have b4 : ∀ q, (lgt (.sl tI) [[10, 8, 2], [8, 2], [2, 10, 8, 3]] q).length ≤ 4 := fun q => QUf (by simp) q
  have c8 : cApp ([14] : List Int) (lgt (.sl tI) [[10, 8, 2], [8, 2], [2, 10, 8, 3]] (dval (dofN y50000 [3, 3, 4]) 3).toNat) 8 = true := cAppN (by decide) (by have := b4 (dval (dofN y50000 [3, 3, 4]) 3).toNat; simp only [List.length_singleton]; omega)
  simp only [Qpl, Qdx, QeS, QeR, Qey, Qar, Qav, hk, decide_true, Qac, Int.toNat_natCast, add1 (show k < 4611686018427387904 by omega), QaA (y := .str) hk, c1, c2, c3, c4, c6, c7, Qey]
  have hi : ∀ v, Qht x4 x16 (x16.length : Int) ((k + 1 : Nat) : Int) y2 (y20300 ++ [v]) y20301 y20302 (sndD y50000) = QfG x4 x16 (x16.length : Int) ((k + 1 : Nat) : Int) y2 (y20300 ++ [v]) y20301 y20302 (sndD y50000) := fun v => ih _ _ (QKI hd) (by simp only [List.length_append, List.length_singleton]; omega)
  have goal2 : QfG x4 x16 (x16.length : Int) ((k + 1 : Nat) : Int) y2 (y20300 ++ [sndE y50000 k x16[k]]) y20301 y20302 (sndD y50000) = QfG x4 x16 (x16.length : Int) (k : Int) y2 y20300 y20301 y20302 y50000 := by
   simp only [QfG, Int.toNat_natCast, List.drop_eq_getElem_cons hk, sndZ, List.append_assoc, List.singleton_append]
  refine Eq.trans ?_ ((hi _).trans goal2)
  unfold sndE sndSu
  refine brY c5 ?_
  cases ieq (dof y50000 [3, 3, 4]) 4 with
  | false => rfl
  | true => exact brY rfl (brY c8 rfl)
theorem QUu (x4 : List ByteArray) (x8 x65 x66 x70 x71 : Int) (y2 : Qam) (y20300 : List Qab) (y20301 : List Keep) (y20302 : List Item) (y50000 : Dice) (h : (dOk y50000 && decide (0 ≤ x71 ∧ x71 ≤ x70 ∧ x70 ≤ 3 ∧ y20301.length ≤ 3)) = true) : Qfz x4 x8 x65 x66 x70 x71 y2 y20300 y20301 y20302 y50000 = QfF x4 x8 x65 x66 x70 x71 y2 y20300 y20301 y20302 y50000 := by
 simp only [Bool.and_eq_true, decide_eq_true_eq] at h
 obtain ⟨hd, h0, h1, h2, hl⟩ := h
 have key : ∀ (m : Nat) (x71 : Int) (y20301 : List Keep) (y50000 : Dice), x71 + m = x70 → 0 ≤ x71 → dOk y50000 = true → y20301.length ≤ 3 → Qfz x4 x8 x65 x66 x70 x71 y2 y20300 y20301 y20302 y50000 = QfF x4 x8 x65 x66 x70 x71 y2 y20300 y20301 y20302 y50000 := by
  intro m
  induction m with
  | zero =>
   intro x71 y20301 y50000 e _ _ _
   rw [Qz3]
   have : x70 = x71 := by omega
   subst this
   simp only [Qs1, QfF, show ilt x70 x70 = false from decide_eq_false (by omega), Qaf, Int.sub_self, Int.toNat_zero, edZ]
  | succ m ih =>
   intro x71 y20301 y50000 e h0 hd hl
   rw [Qz3]
   have c1 : QaS y50000 3 = true := Qgr hd (by omega)
   have c2 : cApp y20301 [(x8, (x71, ()))] 16 = true := cAppN (by omega) (by simp only [List.length_singleton]; omega)
   have e1 : iadd .i64 x71 1 = x71 + 1 := Qa4 (by omega)
   have e2 : (x70 - x71).toNat = m + 1 := by omega
   have e3 : (x70 - (x71 + 1)).toNat = m := by omega
   simp only [Qs1, show ilt x71 x70 = true from decide_eq_true (by omega), Qac, c1, c2, e1]
   have i0 := ih (x71 + 1) y20301 y50000 (by omega) (by omega) hd hl
   have i1 := ih (x71 + 1) y20301 (dnext y50000 3) (by omega) (by omega) (QaH hd) hl
   rw [i0, i1]
   cases hn : ine x8 x71 with
   | false => simp only [Qaf, QfF, e2, e3, edZ, hn, cond_false]
   | true =>
    cases hg : igt (dval y50000 3) 0 with
    | false => simp only [Qac, Qaf, QfF, e2, e3, edZ, hn, hg, cond_true, Bool.false_and, cond_false]
    | true =>
     cases hq : ilt (llen y20301) 3 with
     | false => simp only [Qac, Qaf, QfF, e2, e3, edZ, hn, hg, hq, cond_true, Bool.and_false, cond_false]
     | true =>
      have hl3 : y20301.length < 3 := by have := of_decide_eq_true hq; simp only [llen] at this; omega
      have i2 := ih (x71 + 1) (y20301 ++ [(x8, (x71, ()))]) (dnext y50000 3) (by omega) (by omega) (QaH hd) (by simp only [List.length_append, List.length_singleton]; omega)
      rw [i2]
      simp only [Qac, QfF, e2, e3, edZ, hn, hg, hq, cond_true, Bool.and_self]
 exact key (x70 - x71).toNat x71 y20301 y50000 (by omega) h0 hd hl
theorem QUt (x4 : List ByteArray) (x65 x66 : Int) (y2 : Qam) (y20300 : List Qab) (y20301 : List Keep) (y20302 : List Item) (y50000 : Dice) (h : (dOk y50000 && decide (0 ≤ x66 ∧ x66 ≤ x65 ∧ x65 ≤ 3 ∧ x4.length ≤ 3 ∧ y20301.length ≤ 3)) = true) : Qm2 x4 x65 x66 y2 y20300 y20301 y20302 y50000 = Qm9 x4 x65 x66 y2 y20300 y20301 y20302 y50000 := by
 simp only [Bool.and_eq_true, decide_eq_true_eq] at h
 obtain ⟨hd, h0, h1, h2, h3, hl⟩ := h
 have key : ∀ (m : Nat) (x66 : Int) (y20301 : List Keep) (y50000 : Dice), x66 + m = x65 → 0 ≤ x66 → dOk y50000 = true → y20301.length ≤ 3 → Qm2 x4 x65 x66 y2 y20300 y20301 y20302 y50000 = Qm9 x4 x65 x66 y2 y20300 y20301 y20302 y50000 := by
  intro m
  induction m with
  | zero =>
   intro x66 y20301 y50000 e _ _ _
   rw [Qz2]
   have : x65 = x66 := by omega
   subst this
   simp only [Qs0, Qm9, show ilt x65 x65 = false from decide_eq_false (by omega), Qaf, Int.sub_self, Int.toNat_zero, edY]
  | succ m ih =>
   intro x66 y20301 y50000 e h0 hd hl
   rw [Qz2]
   have e1 : iadd .i64 x66 1 = x66 + 1 := Qa4 (by omega)
   have e2 : (x65 - x66).toNat = m + 1 := by omega
   have e3 : (x65 - (x66 + 1)).toNat = m := by omega
   have e4 : (llen x4 - 0).toNat = x4.length := by simp only [llen]; omega
   have hz := Qri x4.length x66 0 y20301 y50000 hd hl
   simp only [Qs0, show ilt x66 x65 = true from decide_eq_true (by omega), Qac, e1, e4, hd, Bool.true_and]
   refine brY (decide_eq_true (by simp only [llen]; omega)) ?_
   rw [ih (x66 + 1) _ _ (by omega) (by omega) hz.1 hz.2]
   simp only [Qm9, e2, e3, edY]
 exact key (x65 - x66).toNat x66 y20301 y50000 (by omega) h0 hd hl
theorem QUs (x10 : Int) (y2 : Qam) (y3_1 : List Keep) (y20300 : List Qab) (y20302 : List Item) (y50000 : Dice) (h : (dOk y50000 && decide (0 ≤ x10 ∧ x10 ≤ 3 ∧ y20302.length + x10.toNat ≤ 100)) = true) : Qm1 x10 y2 y3_1 y20300 y20302 y50000 = Qm8 x10 y2 y3_1 y20300 y20302 y50000 := by
 simp only [Bool.and_eq_true, decide_eq_true_eq] at h
 obtain ⟨hd, h0, h1, hl⟩ := h
 obtain ⟨n, rfl⟩ := Int.eq_ofNat_of_zero_le h0
 rw [Int.toNat_natCast] at hl
 have key : ∀ (n : Nat) (y20302 : List Item) (y50000 : Dice), dOk y50000 = true → y20302.length + n ≤ 100 → Qm1 (n : Int) y2 y3_1 y20300 y20302 y50000 = Qm8 (n : Int) y2 y3_1 y20300 y20302 y50000 := by
  intro n
  induction n with
  | zero =>
   intro y20302 y50000 _ _
   rw [Qz1]
   simp only [QsZ, Qm8, show igt ((0 : Nat) : Int) 0 = false from rfl, Qaf, Int.toNat_natCast, itZ, List.append_nil]
  | succ n ih =>
   intro y20302 y50000 hd hl
   rw [Qz1]
   have e2 : isub .i64 ((n + 1 : Nat) : Int) 1 = (n : Int) := (QbU (by omega)).trans (by omega)
   have c1 : wdGOk y50000 sIt = true := by simp [wdGOk, hd]
   have c2 : dOkS (dwdGN y50000 sIt) (dwdG y50000 sIt) = true := QBa hd
   have c3 : ∀ v, cApp y20302 [v] 64 = true := fun v => cAppN (by omega) (by simp only [List.length_singleton]; omega)
   simp only [QsZ, show igt ((n + 1 : Nat) : Int) 0 = true from decide_eq_true (by omega), Qac, e2, c1, c2, c3]
   refine Eq.trans (ih _ _ (QOA (s := dwdG y50000 sIt) (QBa hd)) (by simp only [List.length_append, List.length_singleton]; omega)) ?_
   simp only [Qm8, Int.toNat_natCast, itZ, List.append_assoc, List.singleton_append]
 exact key n y20302 y50000 hd (by omega)
theorem QM1 : ∀ S l p, g_f17.L 0 (fgt Qkp S) = some (true, l) → pickA l = some p → loopF (Qak g_f17 Qkp Qml) S = some p :=
 QaD (s := Qsa) ⟨by decide, by decide⟩ (by kernel_rfl) fun x y hok p hp => by
 simp only [Qaq, Qan] at hp
 exact (QUv x.2.2.2.1 x.2.2.2.2.1 x.2.2.2.2.2.1 x.2.2.2.2.2.2.1 y.1 y.2.2.2.2.2.2.1 y.2.2.2.2.2.2.2.1 y.2.2.2.2.2.2.2.2.1 y.2.2.2.2.2.2.2.2.2.1 (by simpa using hok)).trans hp
theorem QM0 : ∀ S l p, g_f17.L 1 (fgt Qko S) = some (true, l) → pickA l = some p → loopF (Qak g_f17 Qko Qmk) S = some p :=
 QaD (s := Qr9) ⟨by decide, by decide⟩ (by kernel_rfl) fun x y hok p hp => by
 simp only [Qaq, Qan] at hp
 exact (QUu x.2.2.2.1 x.2.2.2.2.1 x.2.2.2.2.2.1 x.2.2.2.2.2.2.1 x.2.2.2.2.2.2.2.1 x.2.2.2.2.2.2.2.2.1 y.1 y.2.2.2.2.2.2.1 y.2.2.2.2.2.2.2.1 y.2.2.2.2.2.2.2.2.1 y.2.2.2.2.2.2.2.2.2.1 (by simpa using hok)).trans hp
theorem QMZ : ∀ S l p, g_f17.L 2 (fgt Qkn S) = some (true, l) → pickA l = some p → loopF (Qak g_f17 Qkn Qmj) S = some p :=
 QaD (s := Qr8) ⟨by decide, by decide⟩ (by kernel_rfl) fun x y hok p hp => by
 simp only [Qaq, Qan] at hp
 exact (QUt x.2.2.2.1 x.2.2.2.2.1 x.2.2.2.2.2.1 y.1 y.2.2.2.2.2.2.1 y.2.2.2.2.2.2.2.1 y.2.2.2.2.2.2.2.2.1 y.2.2.2.2.2.2.2.2.2.1 (by simpa using hok)).trans hp
theorem QMY : ∀ S l p, g_f17.L 3 (fgt Qkm S) = some (true, l) → pickA l = some p → loopF (Qak g_f17 Qkm Qmi) S = some p :=
 QaD (s := Qr7) ⟨by decide, by decide⟩ (by kernel_rfl) fun x y hok p hp => by
 simp only [Qaq, Qan] at hp
 exact (QUs x.2.2.2.1 y.1 y.2.1.2.1 y.2.2.2.2.2.2.1 y.2.2.2.2.2.2.2.2.1 y.2.2.2.2.2.2.2.2.2.1 (by simpa using hok)).trans hp
theorem lk_f17 : QDX.lok g_f17 := by
 repeat (first | exact trivial | exact QM1 | exact QM0 | exact QMZ | exact QMY | refine ⟨?_, ?_⟩)
set_option maxRecDepth 100000 in
theorem s_f17 (d : Dice) (h : dOk d = true) : r_f17 d = some (.t Qap (sndV d), [.box (.t QaJ (sndN d))]) := by
 have hv := Qbs (d := d) (n := 2) (by omega)
 have e : iadd .i64 2 (dval d 2) = 2 + dval d 2 := Qa4 (by omega)
 have c1 : QaS d 2 = true := Qgr h (by omega)
 have hn := Qmv d
 have hd := QaH (n := 2) h
 have hz := QFk (sndNm d) 0 (dnext d 2) hd
 have hy := QRs (sndNm d).length (sndNm d).length 0 [] _ hz (Nat.zero_le _)
 have hy1 : dOk (sndEd d).2 = true := hy.1
 have hv3 := Qbs (d := (sndEd d).2) (n := 3) (by omega)
 simp only [r_f17, show lsl sAll 0 (iadd .i64 2 (dval d 2)) = sndNm d from rfl, List.nil_append, Int.toNat_zero, List.drop_zero, Int.sub_zero, show (llen (sndNm d)).toNat = (sndNm d).length by simp only [llen]; omega]
 simp only [show edY (sndNm d).length (sndNm d).length 0 [] (sndZ (sndNm d) 0 (dnext d 2)).2 = sndEd d from rfl]
 refine brY c1 (brY (decide_eq_true (by rw [e]; refine ⟨by omega, by omega, ?_, ?_⟩ <;> simp <;> omega)) (brY ?_ (brY ?_ ?_)))
 ·rw [rng_0 (by omega), hd, hn.2.2]
  rfl
 ·rw [hz]
  exact decide_eq_true (by simp only [llen, List.length_nil]; omega)
 ·have c2 : QaS (sndEd d).2 3 = true := Qgr hy1 (by omega)
  have c3 : (dOk (dnext (sndEd d).2 3) && decide (0 ≤ dval (sndEd d).2 3 ∧ dval (sndEd d).2 3 ≤ 3 ∧ ([] : List Item).length + (dval (sndEd d).2 3).toNat ≤ 100)) = true := by
   rw [QaH hy1, decide_eq_true (by simp only [List.length_nil]; omega)]
   rfl
  cases hq : ieq (llen (sndEd d).1) 0 with
  | true =>
   rw [Qac]
   refine brY c2 (brY c3 ?_)
   unfold sndV sndEg
   rw [hq]
   rfl
  | false =>
   rw [Qaf]
   refine brY c2 (brY c3 ?_)
   unfold sndV sndEg
   rw [hq]
   rfl
def QPW : Ent := specP QaJ .nil (fun d x => (dOk d)) (fun d x => (.t Qap (sndV d))) (fun d x => (sndN d))
theorem ms_f17 : Meets Tryz.prog 17 (strip QPW) := QcB (R := runF g_f17 QDX QQF false) (mG Tryz.func17 (by kernel_rfl) Tryz.ntmps17 (by kernel_rfl) gk_f17 lk_f17) rfl fun d x hok => (e_f17 d).trans (s_f17 d hok)
end
end Go.Proofs.YtckcgijklnloiaaGreat.K
namespace Go.Proofs.YtckcgijklnloiaaGreat.K
open Go.RowKit
noncomputable section
attribute [local irreducible] epV epN prZ
end
end Go.Proofs.YtckcgijklnloiaaGreat.K
namespace Go.Proofs.YtckcgijklnloiaaGreat.K
open Go.RowKit
noncomputable section
theorem QMa {k : Keep} {id : Int} {l : List Qaa} (hk : kindU k 2 = true) (hd : keyI id = true) (hl : l.length ≤ 8) (h1 : l.all QaE = true) (h2 : Qp4 k id l = true) : Qi1 k id l = true := by
 simp only [kindU, Bool.and_eq_true] at hk
 have h8 : igt (llen l) 8 = false := decide_eq_false (by simp only [llen]; omega)
 have hi : ine (kindF k.1) 2 = false := by rw [QyA, hk.2]; rfl
 unfold Qi1
 rw [hk.1, hi, hd, h8, h1, h2]
 rfl
theorem QL1 {c : Int} (h : 1 ≤ c ∧ c ≤ 16) : ieq (QaP c).2 0 = true := by
 unfold QaP
 rw [if_neg (by omega)]
 rfl
theorem QRA {l : List Int} (hn : l.Nodup) (hr : ∀ x ∈ l, 1 ≤ x ∧ x ≤ 16) : suitF l = true := by
 have key : ∀ (k : Nat) (hk : k < l.length), (ieq (QaP l[k]).2 0 && !hasF (l.take k) l[k]) = true := by
  intro k hk
  rw [QL1 (hr _ (List.getElem_mem hk)), Bool.true_and, Bool.not_eq_true']
  unfold hasF
  rw [Bool.eq_false_iff]
  intro hc
  have hm := List.contains_iff_mem.1 hc
  obtain ⟨j, hj, he⟩ := List.mem_iff_getElem.1 hm
  rw [List.length_take] at hj
  rw [List.getElem_take] at he
  have := (List.nodup_iff_pairwise_ne.1 hn)
  rw [List.pairwise_iff_getElem] at this
  exact this j k (by omega) hk (by omega) he
 simp only [suitF, QfN, List.all_eq_true, List.mem_range'_1]
 intro k hk
 have hk2 : k < l.length := by omega
 simp only [List.getD_eq_getElem?_getD, List.getElem?_eq_getElem hk2, Option.getD_some]
 exact key k hk2
def goodS (l : List Int) : Prop := l.Nodup ∧ ∀ x ∈ l, 1 ≤ x ∧ x ≤ 16
def anOk (l : List Int) : Bool := !igt (llen l) 16 && (ascF l && l.all keyI)
def hsOk (l : List Int) : Bool := ascF l && l.all hashF
theorem QDd {e : Qab} (hw : wordF e.1 = true) (h1 : 1 ≤ e.2.1) (h2 : e.2.1 ≤ e.2.2.1) (h3 : e.2.2.1 ≤ 4) (hs : goodS (Qax e)) (hi : (eIds e).length ≤ 4) (hv : (eIds e).all idOk = true) (ha : anOk (eAnch e) = true) (hh : hsOk (eHash e) = true) : QaW e = true := by
 simp only [anOk, hsOk, Bool.and_eq_true] at ha hh
 have g1 : ilt e.2.1 1 = false := decide_eq_false (by omega)
 have g2 : igt e.2.1 e.2.2.1 = false := decide_eq_false (by omega)
 have g3 : igt e.2.2.1 4 = false := decide_eq_false (by omega)
 have g4 : igt (llen (eIds e)) 4 = false := decide_eq_false (by simp only [llen]; omega)
 unfold QaW
 rw [hw, g1, g2, g3, QRA hs.1 hs.2, g4, ha.1, ha.2.1, ha.2.2, hv, hh.1, hh.2]
 rfl
attribute [local irreducible] epV epN prZ
end
end Go.Proofs.YtckcgijklnloiaaGreat.K
namespace Go.Proofs.YtckcgijklnloiaaGreat.K
open Go.RowKit
noncomputable section
theorem QCS {c s : Qab} {x : Keep} (hx : x ∈ Qa3 c s) : posE s (Qax c) x.1 x.2.1 = true ∧ loC c s ≤ x.1 ∧ x.1 ≤ hiC c s := by
 unfold Qa3 at hx
 cases hr : QcM c s with
 | false => rw [hr] at hx; cases hx
 | true =>
  rw [hr] at hx
  obtain ⟨hv, hw⟩ := Bool.and_eq_true_iff.1 hr
  have v1 := Qbv hv
  have v2 := Qbv hw
  have b1 : 1 ≤ loC c s := by simp only [loC, imx]; omega
  change x ∈ verC s (Qax c) (loC c s).toNat (hiC c s + 1 - loC c s).toNat at hx
  unfold verC rowC at hx
  simp only [List.mem_flatMap, List.mem_range'_1, List.mem_map, List.mem_filter] at hx
  obtain ⟨j, hj, k, ⟨_, hp⟩, rfl⟩ := hx
  exact ⟨hp, by show loC c s ≤ (j : Int); omega, by show (j : Int) ≤ hiC c s; omega⟩
theorem QCT {c s : Qab} {v k : Int} (hr : QcM c s = true) (h1 : loC c s ≤ v) (h2 : v ≤ hiC c s) (hp : posE s (Qax c) v k = true) : (v, (k, ())) ∈ Qa3 c s := by
 have hk : 1 ≤ k ∧ k ≤ 16 := by
  simp only [posE, Bool.and_eq_true] at hp
  exact QnB hp.1
 obtain ⟨hv, hw⟩ := Bool.and_eq_true_iff.1 hr
 have v1 := Qbv hv
 have v2 := Qbv hw
 have b1 : 1 ≤ loC c s := by simp only [loC, imx]; omega
 unfold Qa3
 rw [hr]
 show _ ∈ verC s (Qax c) (loC c s).toNat (hiC c s + 1 - loC c s).toNat
 unfold verC rowC
 simp only [List.mem_flatMap, List.mem_range'_1, List.mem_map, List.mem_filter]
 refine ⟨v.toNat, by omega, k.toNat, ⟨by omega, ?_⟩, ?_⟩
 ·rw [Int.toNat_of_nonneg (by omega), Int.toNat_of_nonneg (by omega)]
  exact hp
 ·rw [Int.toNat_of_nonneg (by omega), Int.toNat_of_nonneg (by omega)]
theorem QvT {c s : Qab} {d : Int} (hr : QcM c s = true) (hd : 0 ≤ d ∧ d ≤ 40000) : QaM c s d = if hiC c s < loC c s then (zK, 27) else overF c s (hiC c s) d (Qax c) (outL s (Qax c)) := by
 obtain ⟨hv, hw⟩ := Bool.and_eq_true_iff.1 hr
 have v1 := Qbv hv
 have v2 := Qbv hw
 have g1 : ilt d 0 = false := decide_eq_false (by omega)
 have g2 : igt d 40000 = false := decide_eq_false (by omega)
 have g3 : ilt c.2.2.1 1 = false := decide_eq_false (by omega)
 have g4 : igt c.2.2.1 4 = false := decide_eq_false (by omega)
 unfold QaM withF
 rw [hr, g1, g2, g3, g4]
 simp only [Bool.not_true, cond_false]
 by_cases h : hiC c s < loC c s
 ·rw [if_pos h]
  by_cases h1 : imn c.2.2.1 s.2.2.1 < c.2.1
  ·rw [show ilt (imn c.2.2.1 s.2.2.1) c.2.1 = true from decide_eq_true h1, cond_true]
  ·have h2 : imn c.2.2.1 s.2.2.1 < s.2.1 := by
    simp only [hiC, loC, imx] at h
    omega
   rw [show ilt (imn c.2.2.1 s.2.2.1) c.2.1 = false from decide_eq_false h1, show ilt (imn c.2.2.1 s.2.2.1) s.2.1 = true from decide_eq_true h2]
   rfl
 ·rw [if_neg h]
  have h1 : ¬ imn c.2.2.1 s.2.2.1 < c.2.1 := by
   simp only [hiC, loC, imx] at h
   omega
  have h2 : ¬ imn c.2.2.1 s.2.2.1 < s.2.1 := by
   simp only [hiC, loC, imx] at h
   omega
  rw [show ilt (imn c.2.2.1 s.2.2.1) c.2.1 = false from decide_eq_false h1, show ilt (imn c.2.2.1 s.2.2.1) s.2.1 = false from decide_eq_false h2]
  rfl
end
end Go.Proofs.YtckcgijklnloiaaGreat.K
namespace Go.Proofs.YtckcgijklnloiaaGreat.K
open Go.RowKit
abbrev leafS (s : ByteArray) (k : Nat) : Qaa := (signC (leafC s rsaK (iadd .i64 100 (k : Int)) 901) 1).1
def Qhv (s : ByteArray) (k : Nat) : Bool :=
 QaG (leafS s k) && (QaE (leafS s k) && (Qp4 rsaK (iadd .i64 100 (k : Int)) [leafS s k] && (keyI (iadd .i64 100 (k : Int)) && (hasS (Qaz (leafS s k)) s && (!Qcs [leafS s k] 11 && (!Qcs [leafS s k] 15 && (!Qcs [leafS s k] 10 && (ieq (cSeal (leafS s k)).1 1 && (ieq (leafS s k).2.2.2.2.2.2.1 0 && (ieq (leafS s k).2.2.2.2.2.2.2.1 901 && (ieq (leafS s k).2.2.2.2.2.1.1 3 && (wordF s && nameG s))))))))))))
set_option maxRecDepth 100000 in
theorem QM8 : (sAll.all fun s => (List.range 3).all fun k => Qhv s k) = true := by kernel_rfl
theorem QjD {s : ByteArray} {k : Nat} (hs : s ∈ sAll) (hk : k < 3) : Qhv s k = true :=
 List.all_eq_true.1 (List.all_eq_true.1 QM8 s hs) k (List.mem_range.2 hk)
def sndP (e : Qab) : Prop := ∃ d k s, e = sndE d k s ∧ s ∈ sAll ∧ k < 3
theorem QMn : kindU rsaK 2 = true := by kernel_rfl
theorem Qs3 (d : Dice) : dof d [3, 3, 4] = 3 ∨ dof d [3, 3, 4] = 4 := by
 have h := Qy3 (d := d) (l := [3, 3, 4]) (by decide)
 simp only [List.mem_cons, List.not_mem_nil, or_false] at h
 omega
def goodB (l : List Int) : Bool := decide l.Nodup && l.all fun x => decide (1 ≤ x ∧ x ≤ 16)
theorem QUB {l : List Int} (h : goodB l = true) : goodS l := by
 simp only [goodB, Bool.and_eq_true, decide_eq_true_eq, List.all_eq_true] at h
 exact h
theorem QL4 (d : Dice) : sndSu d ∈ [[10, 8, 2], [8, 2], [2, 10, 8, 3], [14, 10, 8, 2], [14, 8, 2], ([14, 2, 10, 8, 3] : List Int)] := by
 have b3 := Qbs (d := dofN d [3, 3, 4]) (n := 3) (by omega)
 unfold sndSu
 rcases (show dval (dofN d [3, 3, 4]) 3 = 0 ∨ dval (dofN d [3, 3, 4]) 3 = 1 ∨ dval (dofN d [3, 3, 4]) 3 = 2 by omega) with h | h | h <;> rw [h] <;> cases ieq (dof d [3, 3, 4]) 4 <;> decide
theorem Qzl {p : List Int → Bool} (h : [[10, 8, 2], [8, 2], [2, 10, 8, 3], [14, 10, 8, 2], [14, 8, 2], ([14, 2, 10, 8, 3] : List Int)].all p = true) (d : Dice) : p (sndSu d) = true := List.all_eq_true.1 h _ (QL4 d)
theorem QRG {e : Qab} (h : sndP e) : Qa7 e = true := by
 obtain ⟨d, k, s, rfl, hs, hk⟩ := h
 have hg := QjD hs hk
 simp only [Qhv, Bool.and_eq_true] at hg
 have hsu : (sndSu d).length ≤ 5 := of_decide_eq_true (Qzl (p := fun l => decide (l.length ≤ 5)) (by decide) d)
 have hc : QaV [leafS s k] = true := by
  simp only [QaV, List.all_cons, List.all_nil, hg.1, Bool.and_true]
  rfl
 unfold Qa7
 simp only [Bool.and_eq_true, decide_eq_true_eq]
 refine ⟨⟨hg.2.2.2.2.2.2.2.2.2.2.2.2.2, ⟨?_, ?_, ?_, ?_⟩⟩, ?_⟩
 ·show (sndSu d).length ≤ 100000
  omega
 ·exact (show 1 ≤ 100000 by decide)
 ·exact (show 1 ≤ 100000 by decide)
 ·exact (show 2 ≤ 100000 by decide)
 ·show (idLen (leafV s rsaK (iadd .i64 100 (k : Int)) 1 901) && true) = true
  rw [Bool.and_true]
  exact hc
theorem Qod {e : Qab} (h : sndP e) : QaW e = true := by
 obtain ⟨d, k, s, rfl, hs, hk⟩ := h
 have hg := QjD hs hk
 simp only [Qhv, Bool.and_eq_true] at hg
 have hm := Qs3 d
 refine QDd (e := sndE d k s) hg.2.2.2.2.2.2.2.2.2.2.2.2.1 (Int.le_refl _) ?_ ?_ (QUB (Qzl (p := goodB) (by decide) d)) (show 1 ≤ 4 by decide) ?_ (show anOk [1] = true by decide) (show hsOk [2, 3] = true by kernel_rfl)
 ·show (1 : Int) ≤ dof d [3, 3, 4]
  omega
 ·show dof d [3, 3, 4] ≤ 4
  omega
 ·show (idOk (leafV s rsaK (iadd .i64 100 (k : Int)) 1 901) && true) = true
  rw [Bool.and_true]
  refine QMa QMn hg.2.2.2.1 (show 1 ≤ 8 by decide) ?_ hg.2.2.1
  show (QaE (leafS s k) && true) = true
  rw [hg.2.1]
  rfl
theorem QOC {s : ByteArray} {k : Nat} (hs : s ∈ sAll) (hk : k < 3) (d : Int) : chkCh [leafS s k] [1] [2, 3] d s = if 0 ≤ d ∧ d < 901 then 0 else 13 := by
 have hg := QjD hs hk
 simp only [Qhv, Bool.and_eq_true, Bool.not_eq_true'] at hg
 obtain ⟨_, g2, _, _, g5, g6, g7, g8, g9, ga, gb, gc, _⟩ := hg
 simp only [QcD, decide_eq_true_eq] at g9 ga gb gc
 unfold chkCh
 rw [if_neg (by simp), if_neg (by simp)]
 have a1 : QlW [leafS s k] = false := by
  show (badC (leafS s k) || false) = false
  unfold badC
  rw [g2]
  rfl
 have a2 : Qb6 [leafS s k] [2, 3] d 13 = (ilt d 0 || ige d 901) := by
  show (heldF (leafS s k) [2, 3] d 13 || false) = _
  unfold heldF
  rw [ga, gb, Bool.or_false]
  rfl
 have a3 : Qb6 [leafS s k] [2, 3] d 7 = false := by
  show (heldF (leafS s k) [2, 3] d 7 || false) = _
  unfold heldF
  rw [gc]
  rfl
 have a4 : hasF [1] (cSeal (lastC [leafS s k])).1 = true := by
  show hasF [1] (cSeal (leafS s k)).1 = true
  rw [g9]
  rfl
 have a5 : hasS (Qaz (cAt [leafS s k] 0)) s = true := g5
 rw [a1, a5, a2, a3, g6, g7, g8, a4]
 by_cases h : 0 ≤ d ∧ d < 901
 ·rw [if_pos h, show ilt d 0 = false from decide_eq_false (by omega), show ige d 901 = false from decide_eq_false (by omega)]
  rfl
 ·rw [if_neg h]
  have : (ilt d 0 || ige d 901) = true := by
   by_cases h0 : d < 0
   ·rw [show ilt d 0 = true from decide_eq_true h0]; rfl
   ·rw [show ige d 901 = true from decide_eq_true (by omega), Bool.or_true]
  rw [this]
  rfl
theorem Qj5 {e : Qab} (h : sndP e) {x : Int} (hi : (QaT e x).2 = true) (d : Int) (c : Qab) (hc : sndP c) : pickE c e d x = if 0 ≤ d ∧ d < 901 then 0 else 13 := by
 obtain ⟨dd, k, s, rfl, hs, hk⟩ := h
 obtain ⟨dc, kc, sc, rfl, _, _⟩ := hc
 obtain ⟨j, hj, hl⟩ := Qj6 hi
 have hl : j < 1 := hl
 have hj0 : j = 0 := by omega
 subst hj0
 unfold pickE QdA
 rw [hj]
 exact QOC hs hk d
theorem QLT {e : Qab} (h : sndP e) {x : Int} (hi : (QaT e x).2 = true) : untC (QdA e x) = 901 := by
 obtain ⟨dd, k, s, rfl, hs, hk⟩ := h
 obtain ⟨j, hj, hl⟩ := Qj6 hi
 have hl : j < 1 := hl
 have hj0 : j = 0 := by omega
 subst hj0
 have hg := QjD hs hk
 simp only [Qhv, Bool.and_eq_true, Bool.not_eq_true'] at hg
 obtain ⟨_, _, _, _, _, _, _, _, _, _, gb, _, _⟩ := hg
 simp only [QcD, decide_eq_true_eq] at gb
 unfold QdA
 rw [hj]
 show imn (leafS s k).2.2.2.2.2.2.2.1 (leafS s k).2.2.2.2.2.2.2.1 = 901
 rw [gb]
 rfl
theorem QRF {c e : Qab} (hc : sndP c) (he : sndP e) {x : Int} (hx : x = 2 ∨ x = 8) : posE e (Qax c) 3 x = true ∧ loC c e ≤ 3 ∧ 3 ≤ hiC c e := by
 obtain ⟨d, k, s, rfl, hs, hk⟩ := he
 obtain ⟨dc, kc, sc, rfl, _, _⟩ := hc
 have m1 := Qs3 d
 have m2 := Qs3 dc
 refine ⟨?_, ?_, ?_⟩
 ·have h1 : ∀ dd, hasF (sndSu dd) 2 = true ∧ hasF (sndSu dd) 8 = true := fun dd => ⟨Qzl (p := fun l => hasF l 2) (by decide) dd, Qzl (p := fun l => hasF l 8) (by decide) dd⟩
  have h2 : Qax (sndE dc kc sc) = sndSu dc := rfl
  have h3 : Qax (sndE d k s) = sndSu d := rfl
  unfold posE
  rw [h2, h3]
  rcases hx with rfl | rfl
  ·rw [(h1 d).1, (h1 dc).1]
   rfl
  ·rw [(h1 d).2, (h1 dc).2]
   rfl
 ·show imx 1 1 ≤ 3
  decide
 ·show 3 ≤ imn (dof dc [3, 3, 4]) (dof d [3, 3, 4])
  unfold imn
  split <;> omega
theorem Qzt : ∀ (l : List ByteArray) (k : Nat) (d : Dice), (sndZ l k d).1.length = l.length
 | [], _, _ => rfl
 | _ :: r, k, d => by simp only [sndZ, List.length_cons, Qzt r (k + 1) (sndD d)]
theorem Qzu : ∀ (l : List ByteArray) (k : Nat) (d : Dice), (∀ s ∈ l, s ∈ sAll) → k + l.length ≤ 3 → ∀ e ∈ (sndZ l k d).1, sndP e
 | [], _, _, _, _, e, he => by cases he
 | s :: r, k, d, h, hk, e, he => by
  simp only [sndZ, List.mem_cons] at he
  simp only [List.length_cons] at hk
  rcases he with rfl | he
  ·exact ⟨d, k, s, rfl, h s List.mem_cons_self, by omega⟩
  ·exact Qzu r (k + 1) (sndD d) (fun s hs => h s (List.mem_cons_of_mem _ hs)) (by omega) e he
theorem QFl (d : Dice) : ∀ s ∈ sndNm d, s ∈ sAll := by
 rcases Qh9 d with h | h <;> rw [h]
 ·exact fun s hs => List.mem_of_mem_take hs
 ·exact fun s hs => hs
theorem QFi (d : Dice) : ∀ e ∈ xEps (sndV d), sndP e := Qzu (sndNm d) 0 (dnext d 2) (QFl d) (by have := Qmv d; omega)
theorem Qt1 (d : Dice) : (xEps (sndV d)).length = (sndNm d).length := Qzt _ _ _
theorem snd_up (d : Dice) : epUp (xEps (sndV d)) 0 = true := by
 have hv : ∀ d k s, s ∈ sAll → k < 3 → QaW (sndE d k s) = true := fun d k s hs hk => Qod ⟨d, k, s, rfl, hs, hk⟩
 have q1 : slt (ByteArray.mk #[97, 112, 112]) (ByteArray.mk #[100, 98]) = true := by kernel_rfl
 have q2 : slt (ByteArray.mk #[100, 98]) (ByteArray.mk #[119, 101, 98]) = true := by kernel_rfl
 show epUp2 (sndZ (sndNm d) 0 (dnext d 2)).1 (sndZ (sndNm d) 0 (dnext d 2)).1 0 = true
 rcases Qh9 d with h | h <;> rw [h]
 ·show (QaW (sndE _ 0 _) && true && (QaW (sndE _ 1 _) && (false || slt (ByteArray.mk #[97, 112, 112]) (ByteArray.mk #[100, 98])) && true)) = true
  rw [hv _ _ _ (by simp) (by decide), hv _ _ _ (by simp) (by decide), q1]
  rfl
 ·show (QaW (sndE _ 0 _) && true && (QaW (sndE _ 1 _) && (false || slt (ByteArray.mk #[97, 112, 112]) (ByteArray.mk #[100, 98])) && (QaW (sndE _ 2 _) && (false || slt (ByteArray.mk #[100, 98]) (ByteArray.mk #[119, 101, 98])) && true))) = true
  rw [hv _ _ _ (by simp) (by decide), hv _ _ _ (by simp) (by decide), hv _ _ _ (by simp) (by decide), q1, q2]
  rfl
def lexL (a b : Keep) : Prop := a.1 < b.1 ∨ (a.1 = b.1 ∧ a.2.1 < b.2.1)
def edG (n : Int) (l : List Keep) (i k : Int) : Prop := (∀ x ∈ l, egIn n x = true) ∧ l.Pairwise lexL ∧ ∀ x ∈ l, lexL x (i, (k, ()))
theorem Qnl {n : Int} {l : List Keep} {i k i' k' : Int} (h : edG n l i k) (hl : i < i' ∨ (i = i' ∧ k ≤ k')) : edG n l i' k' := by
 refine ⟨h.1, h.2.1, fun x hx => ?_⟩
 have := h.2.2 x hx
 simp only [lexL] at this ⊢
 omega
theorem Qnk {n : Int} : ∀ (m : Nat) (i k : Int) (l : List Keep) (d : Dice), 0 ≤ i → i < n → 0 ≤ k → k + m ≤ n → edG n l i k → edG n (edZ m i k l d).1 i (k + m)
 | 0, i, k, l, d, _, _, _, _, h => Qnl h (.inr ⟨rfl, by omega⟩)
 | m + 1, i, k, l, d, h0, h1, h2, h3, h => by
  have hs : edG n l i (k + 1) := Qnl h (.inr ⟨rfl, by omega⟩)
  have e : k + ((m + 1 : Nat) : Int) = k + 1 + m := by omega
  unfold edZ
  rw [e]
  cases hn : ine i k with
  | false => exact Qnk m i (k + 1) l d h0 h1 (by omega) (by omega) hs
  | true =>
   cases h4 : (igt (dval d 3) 0 && ilt (llen l) 3) with
   | false => exact Qnk m i (k + 1) l (dnext d 3) h0 h1 (by omega) (by omega) hs
   | true =>
    have hne : i ≠ k := by simpa [ine] using hn
    refine Qnk m i (k + 1) (l ++ [(i, (k, ()))]) (dnext d 3) h0 h1 (by omega) (by omega) ⟨fun x hx => ?_, ?_, fun x hx => ?_⟩
    ·rcases List.mem_append.1 hx with hx | hx
     ·exact h.1 x hx
     ·rw [List.mem_singleton.1 hx]
      simp only [egIn, ilt, ige, QcD, Bool.and_eq_true, Bool.not_eq_true', decide_eq_false_iff_not]
      exact ⟨by omega, by omega, by omega, by omega, hne⟩
    ·rw [List.pairwise_append]
     refine ⟨h.2.1, List.pairwise_singleton _ _, fun x hx y hy => ?_⟩
     rw [List.mem_singleton.1 hy]
     exact h.2.2 x hx
    ·rcases List.mem_append.1 hx with hx | hx
     ·exact hs.2.2 x hx
     ·rw [List.mem_singleton.1 hx]
      exact .inr ⟨rfl, by show k < k + 1; omega⟩
theorem QA6 {n : Int} : ∀ (m nn : Nat) (i : Int) (l : List Keep) (d : Dice), (nn : Int) ≤ n → 0 ≤ i → i + m ≤ n → edG n l i 0 → edG n (edY m nn i l d).1 (i + m) 0
 | 0, nn, i, l, d, _, _, _, h => Qnl h (by omega)
 | m + 1, nn, i, l, d, hnn, h0, h1, h => by
  have := Qnk nn i 0 l d h0 (by omega) (by omega) (by omega) h
  have e : i + ((m + 1 : Nat) : Int) = i + 1 + m := by omega
  unfold edY
  rw [e]
  exact QA6 m nn (i + 1) _ _ hnn (by omega) (by omega) (Qnl this (.inl (by omega)))
theorem QKl {n i k : Int} {l : List Keep} (h : edG n l i k) : egUp n l 0 = true := by
 unfold egUp
 rw [List.all_eq_true]
 intro j hj
 have hj : j < l.length := by
  rw [List.mem_range'] at hj
  obtain ⟨a, ha, rfl⟩ := hj
  omega
 have at_ : ∀ q (hq : q < l.length), egAt l q = l[q] := fun q hq => by simp only [egAt, List.getD_eq_getElem?_getD, List.getElem?_eq_getElem hq, Option.getD_some]
 unfold egOk
 rw [at_ j hj, h.1 _ (List.getElem_mem hj), Bool.true_and]
 by_cases h0 : j = 0
 ·rw [decide_eq_true h0, Bool.true_or]
 ·rw [decide_eq_false h0, Bool.false_or, at_ (j - 1) (by omega)]
  have hp := List.pairwise_iff_getElem.1 h.2.1 (j - 1) j (by omega) hj (by omega)
  simp only [lexL] at hp
  simp only [egLt, igt, ige, QcD, Bool.and_eq_true, Bool.not_eq_true', decide_eq_false_iff_not, Bool.and_eq_false_imp, decide_eq_true_eq]
  refine ⟨by omega, fun he => by omega⟩
theorem Qoe (d : Dice) : egUp (llen (xEps (sndV d))) (xEdg (sndV d)) 0 = true ∧ (xEdg (sndV d)).length ≤ 3 ∧ 0 < (xEdg (sndV d)).length := by
 have hn := Qmv d
 have hl : llen (xEps (sndV d)) = ((sndNm d).length : Int) := by rw [llen, Qt1]
 rw [hl]
 show egUp _ (sndEg d) 0 = true ∧ (sndEg d).length ≤ 3 ∧ 0 < (sndEg d).length
 unfold sndEg
 cases hq : ieq (llen (sndEd d).1) 0 with
 | true =>
  refine ⟨?_, (show 1 ≤ 3 by decide), (show 0 < 1 by decide)⟩
  show egUp _ [(0, (1, ()))] 0 = true
  refine QKl (i := 5) (k := 5) ⟨fun x hx => ?_, List.pairwise_singleton _ _, fun x hx => ?_⟩ <;> rw [List.mem_singleton.1 hx]
  ·simp only [egIn, ilt, ige, QcD, Bool.and_eq_true, Bool.not_eq_true', decide_eq_false_iff_not]
   exact ⟨by omega, by omega, by omega, by omega, by omega⟩
  ·exact .inl (by decide)
 | false =>
  have hy := QA6 (n := ((sndNm d).length : Int)) (sndNm d).length (sndNm d).length 0 [] (sndZ (sndNm d) 0 (dnext d 2)).2 (Int.le_refl _) (Int.le_refl _) (by omega) (⟨fun x hx => (nomatch hx), List.Pairwise.nil, fun x hx => (nomatch hx)⟩ : edG _ [] 0 0)
  refine ⟨QKl hy, ?_, ?_⟩
  ·have hp : ∀ (m : Nat) (i k : Int) (l : List Keep) (d : Dice), l.length ≤ 3 → (edZ m i k l d).1.length ≤ 3 := by
    intro m
    induction m with
    | zero => exact fun _ _ _ _ h => h
    | succ m ih =>
     intro i k l d h
     unfold edZ
     cases ine i k with
     | false => exact ih _ _ _ _ h
     | true =>
      cases h1 : igt (dval d 3) 0 with
      | false => exact ih _ _ _ _ h
      | true =>
       cases h2 : ilt (llen l) 3 with
       | false => exact ih _ _ _ _ h
       | true =>
        have := of_decide_eq_true h2
        simp only [llen] at this
        exact ih _ _ _ _ (by simp only [List.length_append, List.length_singleton]; omega)
   have hr : ∀ (m n : Nat) (i : Int) (l : List Keep) (d : Dice), l.length ≤ 3 → (edY m n i l d).1.length ≤ 3 := by
    intro m
    induction m with
    | zero => exact fun _ _ _ _ h => h
    | succ m ih => exact fun n i l d h => ih n (i + 1) _ _ (hp n i 0 l d h)
   exact hr _ _ _ [] _ (by decide)
  ·simp only [QcD, llen, decide_eq_false_iff_not] at hq
   show 0 < (sndEd d).1.length
   omega
theorem QBS {d : Dice} : Qa9 (dwdG d sIt) = true := by
 have hv := Qbs (d := d) (n := 2) (by omega)
 unfold dwdG
 show Qa9 (sIt.getD (dval d 2).toNat ByteArray.empty) = true
 rcases (show dval d 2 = 0 ∨ dval d 2 = 1 by omega) with h | h <;> rw [h] <;> kernel_rfl
theorem QLP {d : Dice} : nameG (dwdG d sIt) = true := by
 have hv := Qbs (d := d) (n := 2) (by omega)
 unfold dwdG
 show nameG (sIt.getD (dval d 2).toNat ByteArray.empty) = true
 rcases (show dval d 2 = 0 ∨ dval d 2 = 1 by omega) with h | h <;> rw [h] <;> kernel_rfl
theorem QJo : ∀ (n : Nat) (d : Dice), (itZ n d).1.all Qeu = true ∧ (itZ n d).1.all QeL = true ∧ (itZ n d).1.length = n
 | 0, _ => ⟨rfl, rfl, rfl⟩
 | n + 1, d => by
  have := QJo n (itemN (dwdGN d sIt) (dwdG d sIt))
  simp only [itZ, List.all_cons, List.length_cons, this, Bool.and_true, and_true]
  exact ⟨QUz _ QBS, QLP⟩
theorem Qzs (d : Dice) : estOk (sndV d) = true ∧ QbS (sndV d) = true := by
 have hn := Qmv d
 have h1 := snd_up d
 obtain ⟨h2, h3, h4⟩ := Qoe d
 have hv3 := Qbs (d := (sndEd d).2) (n := 3) (by omega)
 have hi := QJo (dval (sndEd d).2 3).toNat (dnext (sndEd d).2 3)
 have hl : (xEps (sndV d)).length ≤ 3 := by rw [Qt1]; omega
 have hx : xItm (sndV d) = (itZ (dval (sndEd d).2 3).toNat (dnext (sndEd d).2 3)).1 := rfl
 constructor
 ·unfold estOk
  rw [h1, h2, hx, hi.1, show ile (llen (xEps (sndV d))) 16 = true from decide_eq_true (by simp only [llen]; omega), show ile (llen (xEdg (sndV d))) 40 = true from decide_eq_true (by simp only [llen]; omega), show ile (llen (itZ (dval (sndEd d).2 3).toNat (dnext (sndEd d).2 3)).1) 30 = true from decide_eq_true (by simp only [llen]; omega)]
  rfl
 ·unfold QbS Qb4
  rw [hx, hi.2.1, decide_eq_true (show (xEps (sndV d)).length ≤ 99999 ∧ (xEdg (sndV d)).length ≤ 99999 by omega), decide_eq_true (show (itZ (dval (sndEd d).2 3).toNat (dnext (sndEd d).2 3)).1.length ≤ 100000 by omega), Bool.true_and, Bool.true_and, Bool.and_true]
  exact List.all_eq_true.2 fun e he => QRG (QFi d e he)
theorem QFj (d : Dice) {k : Nat} (hk : k < (xEdg (sndV d)).length) : sndP (endsF (sndV d) (k : Int)).1 ∧ sndP (endsF (sndV d) (k : Int)).2 := by
 have he := Qto (Qzs d).1 hk
 have at_ : ∀ a : Int, 0 ≤ a → a < (xEps (sndV d)).length → sndP (epAt (xEps (sndV d)) a.toNat) := fun a h0 h1 => by
  have hq : a.toNat < (xEps (sndV d)).length := by omega
  rw [show epAt (xEps (sndV d)) a.toNat = (xEps (sndV d))[a.toNat] by simp only [epAt, List.getD_eq_getElem?_getD, List.getElem?_eq_getElem hq, Option.getD_some]]
  exact QFi d _ (List.getElem_mem hq)
 unfold endsF
 rw [Int.toNat_natCast]
 exact ⟨at_ _ he.1.1 he.1.2, at_ _ he.2.1.1 he.2.1.2⟩
end Go.Proofs.YtckcgijklnloiaaGreat.K
