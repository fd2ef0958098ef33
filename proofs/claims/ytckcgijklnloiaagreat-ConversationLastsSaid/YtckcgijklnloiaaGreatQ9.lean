import Derived.Test.YtckcgijklnloiaaGreatQ8
import Derived.RangeFuncCalls
import Derived.RangeFuncBound
import Derived.Shelf.RegionOpen
import Derived.OwnWalkIn
import Derived.TacticsInMore
import Derived.LoopNIn
import Derived.LoopIn
import Derived.Lib.SliceRun
set_option linter.unusedSimpArgs false
set_option linter.unusedVariables false
namespace Go.Proofs.YtckcgijklnloiaaGreat.K
open Go.RowKit
noncomputable section
abbrev egAt (l : List Keep) (k : Nat) : Keep := l.getD k zK
def egLt (a b : Keep) : Bool := !igt a.1 b.1 && !(ieq a.1 b.1 && ige a.2.1 b.2.1)
def egIn (n : Int) (x : Keep) : Bool := !ilt x.1 0 && (!ige x.1 n && (!ilt x.2.1 0 && (!ige x.2.1 n && !ieq x.1 x.2.1)))
def egOk (n : Int) (l : List Keep) (k : Nat) : Bool := egIn n (egAt l k) && (decide (k = 0) || egLt (egAt l (k - 1)) (egAt l k))
def egUp (n : Int) (l : List Keep) (k : Nat) : Bool := (List.range' k (l.length - k)).all (egOk n l)
theorem QN9 (n : Int) (l : List Keep) : egUp n l l.length = true := by
 unfold egUp
 rw [Nat.sub_self]
 rfl
theorem QKk {n : Int} {l : List Keep} {k : Nat} (hk : k < l.length) : egUp n l k = (egOk n l k && egUp n l (k + 1)) := by
 have : l.length - k = (l.length - (k + 1)) + 1 := by omega
 unfold egUp
 rw [this, List.range'_succ, List.all_cons]
theorem QN8 {β : Type} (c1 c2 c3 c4 c5 u : Bool) (R E : Option β) : br c1 R (br c2 R (br c3 R (br c4 R (br c5 R (br (!u) R E))))) = br (!(((!c1 && (!c2 && (!c3 && (!c4 && !c5)))) && true) && u)) R E := by
 cases c1 <;> cases c2 <;> cases c3 <;> cases c4 <;> cases c5 <;> rfl
theorem QN7 {β : Type} (c1 c2 c3 c4 c5 a b c u : Bool) (R E : Option β) : br c1 R (br c2 R (br c3 R (br c4 R (br c5 R (br a R (br b (br c R (br (!u) R E)) (br (!u) R E))))))) = br (!(((!c1 && (!c2 && (!c3 && (!c4 && !c5)))) && (!a && !(b && c))) && u)) R E := by
 cases c1 <;> cases c2 <;> cases c3 <;> cases c4 <;> cases c5 <;> cases a <;> cases b <;> cases c <;> rfl
theorem QHT {k : Nat} (hk : k < 100000) (h0 : k ≠ 0) : isub .i64 (k : Int) 1 = ((k - 1 : Nat) : Int) := by
 rw [QbU (by omega)]
 omega
def QpN (l : List Keep) (n : Int) : Bool := egUp n l 0 && ile (llen l) 40
def Qz6 (l : List Keep) (_n : Int) : Bool := decide (l.length ≤ 99999)
noncomputable def QOl : List DO := dT Tryz.f80 6
def Qkc : Fg := ⟨[(0, some (.sl Qah)), (1, some tI), (7, some (.sl Qah)), (8, some tI), (9, some tI)], []⟩
noncomputable def Ql7 : TC := (.sq (.reg (rT Tryz.f80 2)) (.sq (.cd (.t 10) .sk (.fg ⟨[(0, some (.sl Qah))], []⟩ (.ex 0))) (.sq (.bk 1 (.sq (.reg (rT Tryz.f80 3)) (.sq (.sq (.reg (rT Tryz.f80 4)) (.cd (.t 40) (.sq (.reg (rT Tryz.f80 5)) (.fg ⟨[(4, some .bool)], []⟩ .rt)) .sk)) (.sq (.dr QOl [(0, []), (1, []), (2, []), (3, []), (4, []), (5, []), (6, []), (7, []), (8, []), (9, [6]), (10, [6]), (11, []), (12, []), (13, []), (14, []), (15, []), (16, []), (17, []), (18, []), (19, [6]), (20, [6]), (21, []), (22, []), (23, []), (24, []), (25, []), (26, []), (27, []), (28, []), (29, [6]), (30, [6]), (31, []), (32, []), (33, []), (34, [])] (.of [0, 1, 2, 3, 4, 5, 6, 7, 8, 9, 10, 11, 12, 13, 14, 15, 16, 17, 18, 19, 20, 21, 22, 23, 24, 25, 26, 27, 28, 29, 30, 31, 32, 33, 34])) (.cd (.t 75) (.sq (.reg (rT Tryz.f80 7)) (.fg ⟨[(4, some .bool)], []⟩ .rt)) .sk))))) (.reg (rT Tryz.f80 8)))))
noncomputable def QDu : TC := (.sq (.reg (rT Tryz.f80 0)) (.sq (.sq (.reg (rT Tryz.f80 1)) (.bk 0 (.lp 0 Qkc Ql7))) (.sq (.reg (rT Tryz.f80 9)) .rt)))
def QQc : List (RV × Option Ty) := [((.t 4), some .bool)]
abbrev QrT : Sh := ⟨[(0, .ty (.sl Qah)), (1, .ty tI), (7, .ty (.sl Qah)), (8, .ty tI), (9, .ty tI)], []⟩
def QiW (x0 : List Keep) (x1 : Int) (x7 : List Keep) (x8 x9 : Int) : VS := QrT.st (x0, x1, x7, x8, x9, ()) ()
abbrev Qt2 : Sh := ⟨[(4, .ty .bool)], []⟩
def QaK (x4 : Bool) : VS := Qt2.st (x4, ()) ()
abbrev Qxx : Sh := ⟨[(0, .ty (.sl Qah))], []⟩
def Qe2 (x0 : List Keep) : VS := Qxx.st (x0, ()) ()
def QWT : VS → Option (Bool × List (Bool × Exit × VS)) := mkL QrT (fun x y => (x.2.2.1 == x.1 && (rngOk x.2.2.1 x.2.2.2.1 x.2.2.2.2.1 && decide (x.2.2.1.length ≤ 99999)))) (fun x y => [((!egUp x.2.1 x.2.2.1 x.2.2.2.2.1.toNat), .ret, QaK (false)), (true, .exit 0, Qe2 (x.1))])
def g_f80 : G := ⟨TYs, [], 80, EL [], keeps, (Ls [QWT]), IL [], RL []⟩
def QLs (x0 : List Keep) (x1 : Int) (x7 : List Keep) (x8 x9 : Int) : Option (Exit × VS) :=
 let a1 := lgt Qah x7 (Int.toNat x9)
 let a2 := lgt Qah x0 (Int.toNat (isub .i64 x9 1))
 let a3 := cIx x0 (isub .i64 x9 1)
 let a4 := iadd .i64 x9 1
 br (ilt x9 x8) (br (cIx x7 x9) (br (ilt (a1.1) 0) (some (.ret, QaK false)) (br (ige (a1.1) x1) (some (.ret, QaK false)) (br (ilt ((a1.2).1) 0) (some (.ret, QaK false)) (br (ige ((a1.2).1) x1) (some (.ret, QaK false)) (br (ieq (a1.1) ((a1.2).1)) (some (.ret, QaK false)) (br (igt x9 0) (br a3 (br (igt (a2.1) (a1.1)) (some (.ret, QaK false)) (br a3 (br (ieq (a2.1) (a1.1)) (br a3 (br (ige ((a2.2).1) ((a1.2).1)) (some (.ret, QaK false)) (some (.normal, QiW x0 x1 x7 x8 a4))) none) (some (.normal, QiW x0 x1 x7 x8 a4))) none)) none) (some (.normal, QiW x0 x1 x7 x8 a4)))))))) none) (some (.exit 0, Qe2 x0))
noncomputable def Qhq (x0 : List Keep) (x1 : Int) (x7 : List Keep) (x8 x9 : Int) : Option (Exit × VS) := loopF (Qak g_f80 Qkc Ql7) (QiW x0 x1 x7 x8 x9)
noncomputable def QsO (x0 : List Keep) (x1 : Int) (x7 : List Keep) (x8 x9 : Int) : Option (Exit × VS) :=
 let a1 := lgt Qah x7 (Int.toNat x9)
 let a2 := lgt Qah x0 (Int.toNat (isub .i64 x9 1))
 let a3 := cIx x0 (isub .i64 x9 1)
 let a4 := iadd .i64 x9 1
 br (ilt x9 x8) (br (cIx x7 x9) (br (ilt (a1.1) 0) (some (.ret, QaK false)) (br (ige (a1.1) x1) (some (.ret, QaK false)) (br (ilt ((a1.2).1) 0) (some (.ret, QaK false)) (br (ige ((a1.2).1) x1) (some (.ret, QaK false)) (br (ieq (a1.1) ((a1.2).1)) (some (.ret, QaK false)) (br (igt x9 0) (br a3 (br (igt (a2.1) (a1.1)) (some (.ret, QaK false)) (br a3 (br (ieq (a2.1) (a1.1)) (br a3 (br (ige ((a2.2).1) ((a1.2).1)) (some (.ret, QaK false)) (Qhq x0 x1 x7 x8 a4)) none) (Qhq x0 x1 x7 x8 a4)) none)) none) (Qhq x0 x1 x7 x8 a4))))))) none) (some (.exit 0, Qe2 x0))
def Qm3 (x0 : List Keep) (x1 : Int) (x7 : List Keep) (x8 x9 : Int) : Option (Exit × VS) := br (!egUp x1 x7 x9.toNat) (some (.ret, QaK (false))) <| some (.exit 0, Qe2 (x0))
theorem QOH (x0 : List Keep) (x1 : Int) (x7 : List Keep) (x8 x9 : Int) : Qak g_f80 Qkc Ql7 (QiW x0 x1 x7 x8 x9) = QLs x0 x1 x7 x8 x9 := by kernel_rfl
theorem QzS (x0 : List Keep) (x1 : Int) (x7 : List Keep) (x8 x9 : Int) : Qhq x0 x1 x7 x8 x9 = QsO x0 x1 x7 x8 x9 := (Qao _ _).trans (by
 rw [QOH]
 simp only [QLs, QsO, Qay, nxt_n, nxt_r, nxt_e, nxt_0]
 rfl)
def r_f80 (p0 : List Keep) (p1 : Int) : Option (V × List VO) := br (p0 == p0 && (rngOk p0 (llen p0) (0 : Int) && decide (p0.length ≤ 99999))) (br (!egUp p1 p0 (0 : Int).toNat) (some (.t .bool (false), [])) (some (.t .bool (ile (llen (p0)) 40), []))) none
theorem e_f80 (p0 : List Keep) (p1 : Int) : runF g_f80 QDu QQc false [.t (.sl Qah) p0, .t tI p1] [] = r_f80 p0 p1 := by kernel_rfl
theorem en_f80 : Qai Tryz.prog 80 := .inr ⟨by decide, _, Tryz.func80, by kernel_rfl, by kernel_rfl⟩
theorem gk_f80 : GOk Tryz.prog g_f80 := Qal _ (fun p hp => by cases hp)
theorem QUh (x0 : List Keep) (x1 : Int) (x7 : List Keep) (x8 x9 : Int) (h : (x7 == x0 && (rngOk x7 x8 x9 && decide (x7.length ≤ 99999))) = true) : Qhq x0 x1 x7 x8 x9 = Qm3 x0 x1 x7 x8 x9 := by
 simp only [Bool.and_eq_true, beq_iff_eq, decide_eq_true_eq] at h
 obtain ⟨rfl, h0, hl⟩ := h
 obtain ⟨rfl, h3, k, rfl, hk⟩ := rng_k h0
 clear h0
 refine Qat x7 (fun k => Qhq x7 x1 x7 (x7.length : Int) (k : Int) = Qm3 x7 x1 x7 (x7.length : Int) (k : Int)) ?_ ?_ k hk
 ·rw [QzS]
  simp only [QsO, Qm3, Qar, Nat.lt_irrefl, decide_false, Qaf, Int.toNat_natCast, QN9, Bool.not_true]
 ·intro k hk ih
  rw [QzS]
  simp only [QsO, Qar, Qav, hk, decide_true, Qac, Int.toNat_natCast, add1 (show k < 4611686018427387904 by omega), ih]
  simp only [Qm3, Int.toNat_natCast, QKk hk]
  by_cases hk0 : k = 0
  ·subst hk0
   rw [show igt ((0 : Nat) : Int) 0 = false from rfl]
   simp only [Qaf]
   exact QN8 ..
  ·rw [show igt (k : Int) 0 = true from decide_eq_true (by omega), QHT (by omega) hk0]
   simp only [Qac, Qav, show k - 1 < x7.length by omega, decide_true, Int.toNat_natCast]
   unfold egOk
   rw [show decide (k = 0) = false from decide_eq_false hk0, Bool.false_or]
   exact QN7 ..
theorem QMN : ∀ S l p, g_f80.L 0 (fgt Qkc S) = some (true, l) → pickA l = some p → loopF (Qak g_f80 Qkc Ql7) S = some p :=
 QaD (s := QrT) ⟨by decide, by decide⟩ (by kernel_rfl) fun x y hok p hp => by
 simp only [Qaq, Qan] at hp
 exact (QUh x.1 x.2.1 x.2.2.1 x.2.2.2.1 x.2.2.2.2.1 (by simpa using hok)).trans hp
theorem lk_f80 : QDu.lok g_f80 := by
 repeat (first | exact trivial | exact QMN | refine ⟨?_, ?_⟩)
theorem s_f80 (l : List Keep) (n : Int) (h : Qz6 l n = true) : r_f80 l n = some (.t .bool (QpN l n), []) := by
 have hl : l.length ≤ 99999 := of_decide_eq_true h
 simp only [r_f80, beq_self_eq_true, Bool.true_and, rng_0 (show l.length ≤ 100000 by omega), decide_eq_true hl, Qac, Int.toNat_zero]
 unfold QpN
 cases egUp n l 0 <;> rfl
def QPG : Ent := spec (.pr (.sl Qah) (.pr tI .nil)) (fun x => (Qz6 x.1 x.2.1)) (fun x => (.t .bool (QpN x.1 x.2.1)))
theorem ms_f80 : Meets Tryz.prog 80 (strip QPG) := Qag (R := runF g_f80 QDu QQc false) (mG Tryz.func80 (by kernel_rfl) Tryz.ntmps80 (by kernel_rfl) gk_f80 lk_f80) fun x hok => (e_f80 x.1 x.2.1).trans (s_f80 x.1 x.2.1 hok)
def badI (i : Item) : Bool := ine (Qks i) 0
theorem QWQ (i : Item) : badI i = !Qeu i := by
 unfold badI Qks
 cases Qeu i <;> rfl
noncomputable def QDw : TC := (.sq (.reg (rT Tryz.f78 0)) (.sq (.reg (rT Tryz.f78 1)) .rt))
def QQe : List (RV × Option Ty) := [((.t 2), some .bool)]
def g_f78 : G := ⟨TYs, [], 6, EL [(79, QPH)], keeps, (fun _ _ => none), IL [], RL []⟩
def r_f78 (p0 : Item) : Option (V × List VO) := br (QeL p0) (some (.t .bool (ine (Qks p0) 0), [])) none
theorem e_f78 (p0 : Item) : runF g_f78 QDw QQe false [.t QaX p0] [] = r_f78 p0 := by kernel_rfl
theorem en_f78 : Qai Tryz.prog 78 := .inr ⟨by decide, _, Tryz.func78, by kernel_rfl, by kernel_rfl⟩
theorem gk_f78 : GOk Tryz.prog g_f78 := Qal _ (gA (gC en_f79 ms_f79 gN))
theorem lk_f78 : QDw.lok g_f78 := by repeat (first | exact trivial | refine ⟨?_, ?_⟩)
theorem s_f78 (i : Item) (h : QeL i = true) : r_f78 i = some (.t .bool (badI i), []) := by
 simp only [r_f78, h, Qac]
 rfl
def QPI : Ent := spec (.pr QaX .nil) (fun x => (QeL x.1)) (fun x => (.t .bool (badI x.1)))
theorem ms_f78 : Meets Tryz.prog 78 (strip QPI) := Qag (R := runF g_f78 QDw QQe false) (mG Tryz.func78 (by kernel_rfl) Tryz.ntmps78 (by kernel_rfl) gk_f78 lk_f78) fun x hok => (e_f78 x.1).trans (s_f78 x.1 hok)
def Qb4 (l : List Item) : Bool := decide (l.length ≤ 100000) && l.all QeL
theorem QJn {l : List Item} (h : Qb4 l = true) {k : Nat} (hk : k < l.length) : QeL l[k] = true := by
 simp only [Qb4, Bool.and_eq_true, List.all_eq_true] at h
 exact h.2 _ (List.getElem_mem hk)
theorem QxW {l : List Item} (h : Qb4 l = true) : l.length ≤ 100000 := by
 simp only [Qb4, Bool.and_eq_true, decide_eq_true_eq] at h
 exact h.1
def Qre (l : List Item) : Int := match fstG badI l with | some k => (k : Int) | none => -1
def QcY : Fg := ⟨[(0, some (.sl QaX)), (1, none), (7, some tI), (8, some tI)], []⟩
noncomputable def QdL : TC := (.sq (.reg (rT Tryz.f123 2)) (.sq (.cd (.t 9) .sk (.fg ⟨[], []⟩ (.ex 0))) (.sq (.bk 1 (.sq (.reg (rT Tryz.f123 3)) (.sq (.reg (rT Tryz.f123 4)) (.cd (.t 16) (.sq (.reg (rT Tryz.f123 5)) (.fg ⟨[(4, some tI)], []⟩ .rt)) .sk)))) (.reg (rT Tryz.f123 6)))))
noncomputable def QkG : TC := (.sq (.reg (rT Tryz.f123 0)) (.sq (.sq (.reg (rT Tryz.f123 1)) (.bk 0 (.lp 0 QcY QdL))) (.sq (.reg (rT Tryz.f123 7)) .rt)))
def Qq5 : List (RV × Option Ty) := [((.t 4), some tI)]
abbrev Qgg : Sh := ⟨[(0, .ty (.sl QaX)), (1, .cf 78), (7, .ty tI), (8, .ty tI)], []⟩
def Qf2 (x0 : List Item) (x7 x8 : Int) : VS := Qgg.st (x0, (), x7, x8, ()) ()
abbrev Ql1 : Sh := ⟨[(4, .ty tI)], []⟩
def Qb1 (x4 : Int) : VS := Ql1.st (x4, ()) ()
abbrev QoO : Sh := ⟨[], []⟩
def Qcl  : VS := QoO.st () ()
def Qzh : VS → Option (Bool × List (Bool × Exit × VS)) := mkL Qgg (fun x y => (rngOk x.1 x.2.2.1 x.2.2.2.1 && Qb4 x.1)) (fun x y => [(((fstG badI (x.1.drop x.2.2.2.1.toNat)).isSome), .ret, Qb1 (x.2.2.2.1 + ((fstG badI (x.1.drop x.2.2.2.1.toNat)).getD 0 : Nat))), (true, .exit 0, Qcl)])
def QcT : G := ⟨TYs, [], 19, EL [(78, QPI)], keeps, (Ls [Qzh]), IL [], RL []⟩
def Qqx (x0 : List Item) (x7 x8 : Int) : Option (Exit × VS) :=
 let a1 := lgt QaX x0 (Int.toNat x8)
 br (ilt x8 x7) (br (cIx x0 x8) (br (QeL a1) (br (badI a1) (some (.ret, Qb1 x8)) (some (.normal, Qf2 x0 x7 (iadd .i64 x8 1)))) none) none) (some (.exit 0, Qcl))
noncomputable def Qep (x0 : List Item) (x7 x8 : Int) : Option (Exit × VS) := loopF (Qak QcT QcY QdL) (Qf2 x0 x7 x8)
noncomputable def Qft (x0 : List Item) (x7 x8 : Int) : Option (Exit × VS) :=
 let a1 := lgt QaX x0 (Int.toNat x8)
 br (ilt x8 x7) (br (cIx x0 x8) (br (QeL a1) (br (badI a1) (some (.ret, Qb1 x8)) (Qep x0 x7 (iadd .i64 x8 1))) none) none) (some (.exit 0, Qcl))
def Qet (x0 : List Item) (x7 x8 : Int) : Option (Exit × VS) :=
 let a1 := fstG badI (x0.drop x8.toNat)
 br (a1.isSome) (some (.ret, Qb1 (x8 + (a1.getD 0 : Nat)))) <| some (.exit 0, Qcl)
theorem QvZ (x0 : List Item) (x7 x8 : Int) : Qak QcT QcY QdL (Qf2 x0 x7 x8) = Qqx x0 x7 x8 := by kernel_rfl
theorem Qll (x0 : List Item) (x7 x8 : Int) : Qep x0 x7 x8 = Qft x0 x7 x8 := (Qao _ _).trans (by
 rw [QvZ]
 simp only [Qqx, Qft, Qay, nxt_n, nxt_r, nxt_e, nxt_0]
 rfl)
def Qpe (p0 : List Item) : Option (V × List VO) :=
 let a1 := (fstG badI (p0.drop (0 : Int).toNat))
 br (rngOk p0 (llen p0) (0 : Int) && Qb4 p0) (br (a1.isSome) (some (.t tI ((0 : Int) + (a1.getD 0 : Nat)), [])) (some (.t tI (-1), []))) none
theorem QKq (p0 : List Item) : runF QcT QkG Qq5 false [.t (.sl QaX) p0, .c (.func (.func 78) ⟨[]⟩ ⟨[]⟩)] [] = Qpe p0 := by kernel_rfl
theorem QCI : Qai Tryz.prog 123 := .inr ⟨by decide, _, Tryz.func123, by kernel_rfl, by kernel_rfl⟩
theorem QCz : GOk Tryz.prog QcT := Qal _ (gA (gC en_f78 ms_f78 gN))
theorem Qyz (x0 : List Item) (x7 x8 : Int) (h : (rngOk x0 x7 x8 && Qb4 x0) = true) : Qep x0 x7 x8 = Qet x0 x7 x8 := by
 simp only [Bool.and_eq_true] at h
 obtain ⟨h0, hc⟩ := h
 obtain ⟨rfl, h3, k, rfl, hk⟩ := rng_k h0
 clear h0
 refine Qat x0 (fun k => Qep x0 (x0.length : Int) (k : Int) = Qet x0 (x0.length : Int) (k : Int)) ?_ ?_ k hk
 ·rw [Qll]
  simp [Qft, Qet, Qar, Qaf, fstG]
 ·intro k hk ih
  rw [Qll]
  have hx := QJn hc hk
  simp only [Qft, Qar, Qav, hk, decide_true, Qac, Int.toNat_natCast, add1 (show k < 4611686018427387904 by omega), ih, QaA (y := QaX) hk, hx]
  simp only [Qet, Int.toNat_natCast, List.drop_eq_getElem_cons hk, fstG]
  cases h : (badI x0[k]) with
  | true => simp [Qac]
  | false =>
   simp only [Qaf, Bool.false_eq_true, if_false]
   cases hq : fstG badI (x0.drop (k + 1)) with
   | none => rfl
   | some j =>
    simp only [Option.map_some, Option.isSome_some, Option.getD_some, Qac]
    congr 3
    omega
theorem Qu4 : ∀ S l p, QcT.L 0 (fgt QcY S) = some (true, l) → pickA l = some p → loopF (Qak QcT QcY QdL) S = some p :=
 QaD (s := Qgg) ⟨by decide, by decide⟩ (by kernel_rfl) fun x y hok p hp => by
 simp only [Qaq, Qan] at hp
 exact (Qyz x.1 x.2.2.1 x.2.2.2.1 (by simpa using hok)).trans hp
theorem QCp : QkG.lok QcT := by
 repeat (first | exact trivial | exact Qu4 | refine ⟨?_, ?_⟩)
theorem QFw (l : List Item) (h : Qb4 l = true) : Qpe l = some (.t tI (Qre l), []) := by
 have hl := QxW h
 simp only [Qpe, rng_0 hl, h, Bool.and_self, Qac, Int.toNat_zero, List.drop_zero, Qre]
 cases fstG badI l <;> simp [Qac, Qaf]
def Qq0 : Ent := specH [.ty (.sl QaX), .cf 78] [] (fun x d => (Qb4 x.1)) (fun x d => (.t tI (Qre x.1)))
theorem QCj : Meets Tryz.prog 123 (strip Qq0) := (QaQ (R := runF QcT QkG Qq5 false) (mG Tryz.func123 (by kernel_rfl) Tryz.ntmps123 (by kernel_rfl) QCz QCp) fun x d hok => (QKq x.1).trans (QFw x.1 hok))
def Qil (l : List Item) : Bool := l.any badI
noncomputable def Qnx : TC := (.sq (.reg (rT Tryz.f77 0)) (.sq (.reg (rT Tryz.f77 1)) .rt))
def QuH : List (RV × Option Ty) := [((.t 4), some .bool)]
def Qnf : G := ⟨TYs, [], 9, EL [(123, Qq0)], keeps, (fun _ _ => none), IL [], RL []⟩
def Qsy (p0 : List Item) : Option (V × List VO) := br (Qb4 p0) (some (.t .bool (ige (Qre p0) 0), [])) none
theorem QOf (p0 : List Item) : runF Qnf Qnx QuH false [.t (.sl QaX) p0, .c (.func (.func 78) ⟨[]⟩ ⟨[]⟩)] [] = Qsy p0 := by kernel_rfl
theorem QJX : Qai Tryz.prog 77 := .inr ⟨by decide, _, Tryz.func77, by kernel_rfl, by kernel_rfl⟩
theorem QJH : GOk Tryz.prog Qnf := Qal _ (gA (gC QCI QCj gN))
theorem QJh : Qnx.lok Qnf := by repeat (first | exact trivial | refine ⟨?_, ?_⟩)
theorem QMj (l : List Item) (h : Qb4 l = true) : Qsy l = some (.t .bool (Qil l), []) := by
 simp only [Qsy, h, Qac]
 have e : ige (Qre l) 0 = Qil l := by
  unfold Qre Qil
  cases hq : fstG badI l with
  | none => rw [QbW.1 hq]; rfl
  | some k =>
   rw [← QbA, hq]
   simp only [ige, Option.isSome_some, decide_eq_true_eq]
   omega
 rw [e]
def QtU : Ent := specH [.ty (.sl QaX), .cf 78] [] (fun x d => (Qb4 x.1)) (fun x d => (.t .bool (Qil x.1)))
theorem QIe : Meets Tryz.prog 77 (strip QtU) := (QaQ (R := runF Qnf Qnx QuH false) (mG Tryz.func77 (by kernel_rfl) Tryz.ntmps77 (by kernel_rfl) QJH QJh) fun x d hok => (QOf x.1).trans (QMj x.1 hok))
abbrev zEp : Qab := Ty.zero Qae
abbrev epAt (l : List Qab) (k : Nat) : Qab := l.getD k zEp
def epOkK (l m : List Qab) (k : Nat) : Bool := QaW (epAt l k) && (decide (k = 0) || slt (epAt m (k - 1)).1 (epAt l k).1)
def epUp2 (l m : List Qab) (k : Nat) : Bool := (List.range' k (l.length - k)).all (epOkK l m)
abbrev epUp (l : List Qab) (k : Nat) : Bool := epUp2 l l k
theorem QNU (l m : List Qab) : epUp2 l m l.length = true := by
 unfold epUp2
 rw [Nat.sub_self]
 rfl
theorem QJP {l m : List Qab} {k : Nat} (hk : k < l.length) : epUp2 l m k = (epOkK l m k && epUp2 l m (k + 1)) := by
 have : l.length - k = (l.length - (k + 1)) + 1 := by omega
 unfold epUp2
 rw [this, List.range'_succ, List.all_cons]
abbrev xEps (e : Qam) : List Qab := e.1
abbrev xEdg (e : Qam) : List Keep := e.2.1
abbrev xItm (e : Qam) : List Item := e.2.2.1
def estOk (e : Qam) : Bool := epUp (xEps e) 0 && ((xItm e).all Qeu && (ile (llen (xEps e)) 16 && (ile (llen (xItm e)) 30 && (egUp (llen (xEps e)) (xEdg e) 0 && ile (llen (xEdg e)) 40))))
def QlQ (e : Qam) : Int := bif estOk e then 0 else 31
theorem Qqq (e : Qam) : ine (QlQ e) 0 = !estOk e := by
 unfold QlQ
 cases estOk e <;> rfl
def QbS (e : Qam) : Bool := decide ((xEps e).length ≤ 99999 ∧ (xEdg e).length ≤ 99999) && ((xEps e).all Qa7 && Qb4 (xItm e))
theorem QLL (l : List Item) : Qil l = !l.all Qeu := by
 unfold Qil
 rw [List.not_all_eq_any_not]
 congr 1
 funext x
 exact QWQ x
theorem QJz (a b : Int) : ile a b = !igt a b := by
 simp only [ile, igt, ← decide_not, Int.not_lt]
theorem QNT {β : Type} (v s u : Bool) (R E : Option β) : br (!v) R (br (!s) R (br (!u) R E)) = br (!((v && s) && u)) R E := by
 cases v <;> cases s <;> rfl
theorem QNS {β : Type} (v u : Bool) (R E : Option β) : br (!v) R (br (!u) R E) = br (!((v && true) && u)) R E := by
 cases v <;> rfl
noncomputable def QOq : List DO := dT Tryz.f39 4
def Qkj : Fg := ⟨[(1, none), (7, some (.sl Qae)), (8, some tI), (9, some tI)], [(1, some Qap)]⟩
noncomputable def Qme : TC := (.sq (.reg (rT Tryz.f39 2)) (.sq (.cd (.t 10) .sk (.fg ⟨[(1, none)], [(1, some Qap)]⟩ (.ex 0))) (.sq (.bk 1 (.sq (.reg (rT Tryz.f39 3)) (.sq (.dr QOq [(0, [4]), (1, []), (2, []), (3, []), (4, []), (5, []), (6, []), (7, [1]), (8, [1]), (9, []), (10, []), (11, []), (12, []), (13, []), (14, [4]), (15, [4]), (16, []), (17, []), (18, [])] (.of [0, 1, 2, 3, 4, 5, 6, 7, 8, 9, 10, 11, 12, 13, 14, 15, 16, 17, 18])) (.cd (.t 32) (.sq (.reg (rT Tryz.f39 5)) (.fg ⟨[(2, some tI)], []⟩ .rt)) .sk)))) (.reg (rT Tryz.f39 6)))))
noncomputable def QDP : TC := (.sq (.reg (rT Tryz.f39 0)) (.sq (.sq (.reg (rT Tryz.f39 1)) (.bk 0 (.lp 0 Qkj Qme))) (.sq (.reg (rT Tryz.f39 7)) (.sq (.sq (.reg (rT Tryz.f39 8)) (.cd (.t 58) (.sq (.reg (rT Tryz.f39 9)) .rt) .sk)) (.sq (.reg (rT Tryz.f39 10)) .rt)))))
def QQx : List (RV × Option Ty) := [((.t 2), some tI)]
abbrev Qr0 : Sh := ⟨[(1, .ptr 1 0), (7, .ty (.sl Qae)), (8, .ty tI), (9, .ty tI)], [(1, .box Qap)]⟩
def Qmr (x7 : List Qab) (x8 x9 : Int) (y1 : Qam) : VS := Qr0.st ((), x7, x8, x9, ()) (y1, ())
abbrev Qt6 : Sh := ⟨[(2, .ty tI)], []⟩
def Qb7 (x2 : Int) : VS := Qt6.st (x2, ()) ()
abbrev QxE : Sh := ⟨[(1, .ptr 1 0)], [(1, .box Qap)]⟩
def Qe9 (y1 : Qam) : VS := QxE.st ((), ()) (y1, ())
def QW0 : VS → Option (Bool × List (Bool × Exit × VS)) := mkL Qr0 (fun x y => (decide (x.2.1.length = y.1.1.length ∧ x.2.1.length ≤ 99999) && (rngOk x.2.1 x.2.2.1 x.2.2.2.1 && x.2.1.all Qa7))) (fun x y => [((!epUp2 x.2.1 y.1.1 x.2.2.2.1.toNat), .ret, Qb7 (31)), (true, .exit 0, Qe9 (y.1))])
def g_f39 : G := ⟨TYs, [], 59, EL [(76, Qzn), (77, QtU), (80, QPG)], keeps, (Ls [QW0]), IL [], RL []⟩
def QLz (x7 : List Qab) (x8 x9 : Int) (y1 : Qam) : Option (Exit × VS) :=
 let a1 := lgt Qae x7 (Int.toNat x9)
 br (ilt x9 x8) (br (cIx x7 x9) (br (Qa7 a1) (br (ine (QeB a1) 0) (some (.ret, Qb7 31)) (br (igt x9 0) (br (cIx y1.1 (isub .i64 x9 1)) (br (!slt ((lgt Qae y1.1 (Int.toNat (isub .i64 x9 1))).1) (a1.1)) (some (.ret, Qb7 31)) (some (.normal, Qmr x7 x8 (iadd .i64 x9 1) y1))) none) (some (.normal, Qmr x7 x8 (iadd .i64 x9 1) y1)))) none) none) (some (.exit 0, Qe9 y1))
noncomputable def Qjc (x7 : List Qab) (x8 x9 : Int) (y1 : Qam) : Option (Exit × VS) := loopF (Qak g_f39 Qkj Qme) (Qmr x7 x8 x9 y1)
noncomputable def QsU (x7 : List Qab) (x8 x9 : Int) (y1 : Qam) : Option (Exit × VS) :=
 let a1 := lgt Qae x7 (Int.toNat x9)
 br (ilt x9 x8) (br (cIx x7 x9) (br (Qa7 a1) (br (ine (QeB a1) 0) (some (.ret, Qb7 31)) (br (igt x9 0) (br (cIx y1.1 (isub .i64 x9 1)) (br (!slt ((lgt Qae y1.1 (Int.toNat (isub .i64 x9 1))).1) (a1.1)) (some (.ret, Qb7 31)) (Qjc x7 x8 (iadd .i64 x9 1) y1)) none) (Qjc x7 x8 (iadd .i64 x9 1) y1))) none) none) (some (.exit 0, Qe9 y1))
def Qm6 (x7 : List Qab) (x8 x9 : Int) (y1 : Qam) : Option (Exit × VS) := br (!epUp2 x7 y1.1 x9.toNat) (some (.ret, Qb7 (31))) <| some (.exit 0, Qe9 (y1))
theorem QOO (x7 : List Qab) (x8 x9 : Int) (y1 : Qam) : Qak g_f39 Qkj Qme (Qmr x7 x8 x9 y1) = QLz x7 x8 x9 y1 := by kernel_rfl
theorem QzY (x7 : List Qab) (x8 x9 : Int) (y1 : Qam) : Qjc x7 x8 x9 y1 = QsU x7 x8 x9 y1 := (Qao _ _).trans (by
 rw [QOO]
 simp only [QLz, QsU, Qay, nxt_n, nxt_r, nxt_e, nxt_0]
 rfl)
def r_f39 (p0 : Qam) : Option (V × List VO) :=
 let a1 := ((((p0).2).2).1)
 let a2 := llen ((p0).1)
 br (decide (p0.1.length = p0.1.length ∧ p0.1.length ≤ 99999) && (rngOk p0.1 (llen p0.1) (0 : Int) && p0.1.all Qa7)) (br (!epUp2 p0.1 p0.1 (0 : Int).toNat) (some (.t tI (31), [])) (br (Qb4 a1) (br (Qil a1) (some (.t tI 31, [])) (br (igt a2 16) (some (.t tI 31, [])) (br (igt (llen a1) 30) (some (.t tI 31, [])) (br (Qz6 (((p0).2).1) a2) (br (!(QpN (((p0).2).1) a2)) (some (.t tI 31, [])) (some (.t tI 0, []))) none)))) none)) none
theorem e_f39 (p0 : Qam) : runF g_f39 QDP QQx false [.t Qap p0] [] = r_f39 p0 := by kernel_rfl
theorem QJ2 : Qai Tryz.prog 39 := .inr ⟨by decide, _, Tryz.func39, by kernel_rfl, by kernel_rfl⟩
theorem gk_f39 : GOk Tryz.prog g_f39 := Qal _ (gA (gC QJY QIf (gC QJX QIe (gC en_f80 ms_f80 gN))))
theorem QUo (x7 : List Qab) (x8 x9 : Int) (y1 : Qam) (h : (decide (x7.length = y1.1.length ∧ x7.length ≤ 99999) && (rngOk x7 x8 x9 && x7.all Qa7)) = true) : Qjc x7 x8 x9 y1 = Qm6 x7 x8 x9 y1 := by
 simp only [Bool.and_eq_true, decide_eq_true_eq, List.all_eq_true] at h
 obtain ⟨⟨hx, hl⟩, h0, ha⟩ := h
 obtain ⟨rfl, h3, k, rfl, hk⟩ := rng_k h0
 clear h0
 refine Qat x7 (fun k => Qjc x7 (x7.length : Int) (k : Int) y1 = Qm6 x7 (x7.length : Int) (k : Int) y1) ?_ ?_ k hk
 ·rw [QzY]
  simp only [QsU, Qm6, Qar, Nat.lt_irrefl, decide_false, Qaf, Int.toNat_natCast, QNU, Bool.not_true]
 ·intro k hk ih
  rw [QzY]
  have he : Qa7 (lgt Qae x7 k) = true := by rw [QaA (y := Qae) hk]; exact ha _ (List.getElem_mem hk)
  simp only [QsU, Qar, Qav, hk, decide_true, Qac, Int.toNat_natCast, add1 (show k < 4611686018427387904 by omega), ih, he, QvU]
  simp only [Qm6, Int.toNat_natCast, QJP hk]
  by_cases hk0 : k = 0
  ·subst hk0
   rw [show igt ((0 : Nat) : Int) 0 = false from rfl]
   simp only [Qaf]
   exact QNS ..
  ·rw [show igt (k : Int) 0 = true from decide_eq_true (by omega), QHT (by omega) hk0]
   simp only [Qac, Qav, show k - 1 < y1.1.length by omega, decide_true, Int.toNat_natCast]
   unfold epOkK
   rw [show decide (k = 0) = false from decide_eq_false hk0, Bool.false_or]
   exact QNT ..
theorem QMU : ∀ S l p, g_f39.L 0 (fgt Qkj S) = some (true, l) → pickA l = some p → loopF (Qak g_f39 Qkj Qme) S = some p :=
 QaD (s := Qr0) ⟨by decide, by decide⟩ (by kernel_rfl) fun x y hok p hp => by
 simp only [Qaq, Qan] at hp
 exact (QUo x.2.1 x.2.2.1 x.2.2.2.1 y.1 (by simpa using hok)).trans hp
theorem lk_f39 : QDP.lok g_f39 := by
 repeat (first | exact trivial | exact QMU | refine ⟨?_, ?_⟩)
theorem s_f39 (e : Qam) (h : QbS e = true) : r_f39 e = some (.t tI (QlQ e), []) := by
 simp only [QbS, Bool.and_eq_true, decide_eq_true_eq] at h
 obtain ⟨⟨h1, h2⟩, h3, h4⟩ := h
 have h5 : Qz6 (xEdg e) (llen (xEps e)) = true := decide_eq_true h2
 simp only [xEps, xEdg, xItm] at h1 h2 h3 h4 h5
 simp only [r_f39, rng_0 (show e.1.length ≤ 100000 by omega), decide_eq_true h1, true_and, Bool.true_and, h3, h4, h5, Qac, Int.toNat_zero, QLL]
 unfold QlQ estOk QpN
 simp only [xEps, xEdg, xItm, epUp]
 rw [QJz (llen e.1), QJz (llen e.2.2.1)]
 cases epUp2 e.1 e.1 0 <;> cases e.2.2.1.all Qeu <;> cases igt (llen e.1) 16 <;> cases igt (llen e.2.2.1) 30 <;> cases (egUp (llen e.1) e.2.1 0 && ile (llen e.2.1) 40) <;> rfl
def Qzp : Ent := spec (.pr Qap .nil) (fun x => (QbS x.1)) (fun x => (.t tI (QlQ x.1)))
theorem QIj : Meets Tryz.prog 39 (strip Qzp) := Qag (R := runF g_f39 QDP QQx false) (mG Tryz.func39 (by kernel_rfl) Tryz.ntmps39 (by kernel_rfl) gk_f39 lk_f39) fun x hok => (e_f39 x.1).trans (s_f39 x.1 hok)
end
end Go.Proofs.YtckcgijklnloiaaGreat.K
namespace Go.Proofs.YtckcgijklnloiaaGreat.K
open Go.RowKit
noncomputable section
theorem brY {β : Type} {c : Bool} {a b r : Option β} (h : c = true) (k : a = r) : br c a b = r := by
 subst h
 exact k
def endsF (e : Qam) (i : Int) : Qab × Qab := (epAt (xEps e) (egAt (xEdg e) i.toNat).1.toNat, epAt (xEps e) (egAt (xEdg e) i.toNat).2.1.toNat)
def QhU (e : Qam) (i : Int) : Bool := cIx (xEdg e) i && (cIx (xEps e) (egAt (xEdg e) i.toNat).1 && cIx (xEps e) (egAt (xEdg e) i.toNat).2.1)
noncomputable def QOp : List DO := dT Tryz.f44 2
noncomputable def QDK : TC := (.sq (.reg (rT Tryz.f44 0)) (.sq (.reg (rT Tryz.f44 1)) (.sq (.dr QOp [(0, [2]), (1, [2]), (2, [6]), (3, [6]), (4, []), (5, []), (6, [2]), (7, [2]), (8, [6]), (9, [6]), (10, []), (11, []), (12, [4]), (13, [5])] (.of [0, 1, 2, 3, 4, 5, 6, 7, 8, 9, 10, 11, 12, 13])) .rt)))
def QQs : List (RV × Option Ty) := [((.c 4 true 9), some Qae), ((.c 5 true 9), some Qae)]
def g_f44 : G := ⟨TYs, [], 24, EL [], keeps, (fun _ _ => none), IL [], RL []⟩
def r_f44 (p0 : Qam) (p1 : Int) : Option (V × List VO) :=
 let a1 := lgt Qah p0.2.1 (Int.toNat p1)
 br (cIx p0.2.1 p1) (br (cIx p0.1 (a1.1)) (br (cIx p0.1 ((a1.2).1)) (some (.tu [(.t Qae (lgt Qae p0.1 (Int.toNat (a1.1)))), (.t Qae (lgt Qae p0.1 (Int.toNat ((a1.2).1))))], [])) none) none) none
theorem e_f44 (p0 : Qam) (p1 : Int) : runF g_f44 QDK QQs false [.t Qap p0, .t tI p1] [] = r_f44 p0 p1 := by kernel_rfl
theorem QJ1 : Qai Tryz.prog 44 := .inr ⟨by decide, _, Tryz.func44, by kernel_rfl, by kernel_rfl⟩
theorem gk_f44 : GOk Tryz.prog g_f44 := Qal _ (fun p hp => by cases hp)
theorem lk_f44 : QDK.lok g_f44 := by repeat (first | exact trivial | refine ⟨?_, ?_⟩)
theorem s_f44 (e : Qam) (i : Int) (h : QhU e i = true) : r_f44 e i = some (.tu [.t Qae (endsF e i).1, .t Qae (endsF e i).2], []) := by
 simp only [QhU, Bool.and_eq_true] at h
 obtain ⟨h1, h2, h3⟩ := h
 simp only [r_f44]
 exact brY h1 (brY h2 (brY h3 rfl))
def Qzo : Ent := spec (.pr Qap (.pr tI .nil)) (fun x => (QhU x.1 x.2.1)) (fun x => (.tu [(.t Qae ((endsF x.1 x.2.1).1)), (.t Qae ((endsF x.1 x.2.1).2))]))
theorem QIi : Meets Tryz.prog 44 (strip Qzo) := Qag (R := runF g_f44 QDK QQs false) (mG Tryz.func44 (by kernel_rfl) Tryz.ntmps44 (by kernel_rfl) gk_f44 lk_f44) fun x hok => (e_f44 x.1 x.2.1).trans (s_f44 x.1 x.2.1 hok)
theorem eg_all {n : Int} {l : List Keep} (h : egUp n l 0 = true) {k : Nat} (hk : k < l.length) : egIn n (egAt l k) = true := by
 unfold egUp at h
 rw [List.all_eq_true] at h
 have := h k (by rw [List.mem_range']; exact ⟨k, by omega, by omega⟩)
 unfold egOk at this
 exact (Bool.and_eq_true_iff.1 this).1
theorem eg_in {n : Int} {x : Keep} (h : egIn n x = true) : (0 ≤ x.1 ∧ x.1 < n) ∧ (0 ≤ x.2.1 ∧ x.2.1 < n) ∧ x.1 ≠ x.2.1 := by
 simp only [egIn, ilt, ige, QcD, Bool.and_eq_true, Bool.not_eq_true', decide_eq_false_iff_not] at h
 refine ⟨⟨by omega, by omega⟩, ⟨by omega, by omega⟩, h.2.2.2.2⟩
theorem QvG {e : Qam} (h : estOk e = true) : epUp (xEps e) 0 = true ∧ (xItm e).all Qeu = true ∧ (xEps e).length ≤ 16 ∧ (xItm e).length ≤ 30 ∧ egUp (llen (xEps e)) (xEdg e) 0 = true ∧ (xEdg e).length ≤ 40 := by
 simp only [estOk, ile, llen, Bool.and_eq_true, decide_eq_true_eq] at h
 exact ⟨h.1, h.2.1, by omega, by omega, h.2.2.2.2.1, by omega⟩
theorem Qto {e : Qam} (h : estOk e = true) {k : Nat} (hk : k < (xEdg e).length) : (0 ≤ (egAt (xEdg e) k).1 ∧ (egAt (xEdg e) k).1 < (xEps e).length) ∧ (0 ≤ (egAt (xEdg e) k).2.1 ∧ (egAt (xEdg e) k).2.1 < (xEps e).length) ∧ (egAt (xEdg e) k).1 ≠ (egAt (xEdg e) k).2.1 :=
 eg_in (eg_all (QvG h).2.2.2.2.1 hk)
theorem Qtn {e : Qam} {i : Int} (h : estOk e = true) (h0 : 0 ≤ i) (h1 : i < (xEdg e).length) : QhU e i = true := by
 obtain ⟨k, rfl⟩ := Int.eq_ofNat_of_zero_le h0
 have := Qto h (k := k) (by omega)
 simp only [QhU, cIx, Int.toNat_natCast, Bool.and_eq_true, decide_eq_true_eq]
 exact ⟨⟨by omega, by omega⟩, ⟨this.1.1, this.1.2⟩, this.2.1.1, this.2.1.2⟩
theorem Qtm {e : Qam} (h : QbS e = true) : (xEps e).all Qa7 = true := by
 simp only [QbS, Bool.and_eq_true] at h
 exact h.2.1
theorem Qtp {l : List Qab} (h : l.all Qa7 = true) {c : Int} (hc : cIx l c = true) : Qa7 (epAt l c.toNat) = true := by
 simp only [cIx, decide_eq_true_eq] at hc
 obtain ⟨k, rfl⟩ := Int.eq_ofNat_of_zero_le hc.1
 have hk : k < l.length := by omega
 rw [Int.toNat_natCast, show epAt l k = l[k] by simp only [epAt, List.getD_eq_getElem?_getD, List.getElem?_eq_getElem hk, Option.getD_some]]
 exact List.all_eq_true.1 h _ (List.getElem_mem hk)
theorem Qtq {e : Qam} {i : Int} (h : QbS e = true) (hi : QhU e i = true) : Qbw (endsF e i).1 (endsF e i).2 = true := by
 simp only [QhU, Bool.and_eq_true] at hi
 exact Bool.and_eq_true_iff.2 ⟨Qtp (Qtm h) hi.2.1, Qtp (Qtm h) hi.2.2⟩
def Qcq (e : Qam) (i : Int) : Int := bif !estOk e then 31 else bif ilt i 0 || ige i (llen (xEdg e)) then 4 else 0
def QfU (e : Qam) (_i : Int) : Bool := QbS e
def Qct (e : Qam) (_i _d : Int) : Bool := QbS e
def QvH (e : Qam) (_i _d _f : Int) : Bool := QbS e
noncomputable def QDL : TC := (.sq (.reg (rT Tryz.f43 0)) (.sq (.bk 0 (.sq (.reg (rT Tryz.f43 1)) (.cd (.t 5) (.sq (.reg (rT Tryz.f43 2)) .rt) (.sq (.reg (rT Tryz.f43 3)) (.cd (.t 9) (.sq (.reg (rT Tryz.f43 4)) .rt) .sk))))) (.sq (.reg (rT Tryz.f43 5)) .rt)))
def QQt : List (RV × Option Ty) := [((.t 4), some tI)]
def g_f43 : G := ⟨TYs, [], 19, EL [(39, Qzp)], keeps, (fun _ _ => none), IL [], RL []⟩
def r_f43 (p0 : Qam) (p1 : Int) : Option (V × List VO) := br (QbS p0) (br (ine (QlQ p0) 0) (some (.t tI 31, [])) (br (ilt p1 0) (some (.t tI 4, [])) (br (ige p1 (llen p0.2.1)) (some (.t tI 4, [])) (some (.t tI 0, []))))) none
theorem e_f43 (p0 : Qam) (p1 : Int) : runF g_f43 QDL QQt false [.t Qap p0, .t tI p1] [] = r_f43 p0 p1 := by kernel_rfl
theorem QRm : Qai Tryz.prog 43 := .inr ⟨by decide, _, Tryz.func43, by kernel_rfl, by kernel_rfl⟩
theorem gk_f43 : GOk Tryz.prog g_f43 := Qal _ (gA (gC QJ2 QIj gN))
theorem lk_f43 : QDL.lok g_f43 := by repeat (first | exact trivial | refine ⟨?_, ?_⟩)
theorem s_f43 (e : Qam) (i : Int) (h : QfU e i = true) : r_f43 e i = some (.t tI (Qcq e i), []) := by
 have h : QbS e = true := h
 simp only [r_f43, h, Qac, Qqq]
 unfold Qcq
 cases estOk e <;> cases ilt i 0 <;> cases ige i (llen (xEdg e)) <;> rfl
def QEe : Ent := spec (.pr Qap (.pr tI .nil)) (fun x => (QfU x.1 x.2.1)) (fun x => (.t tI (Qcq x.1 x.2.1)))
theorem QQ6 : Meets Tryz.prog 43 (strip QEe) := Qag (R := runF g_f43 QDL QQt false) (mG Tryz.func43 (by kernel_rfl) Tryz.ntmps43 (by kernel_rfl) gk_f43 lk_f43) fun x hok => (e_f43 x.1 x.2.1).trans (s_f43 x.1 x.2.1 hok)
theorem QhW (e : Qam) (i : Int) : (ine (Qcq e i) 0 = false ∧ Qcq e i = 0 ∧ estOk e = true ∧ 0 ≤ i ∧ i < (xEdg e).length) ∨ ine (Qcq e i) 0 = true := by
 unfold Qcq
 cases h1 : estOk e with
 | false => exact .inr rfl
 | true =>
  cases h2 : ilt i 0 with
  | true => exact .inr rfl
  | false =>
   cases h3 : ige i (llen (xEdg e)) with
   | true => exact .inr rfl
   | false =>
    simp only [ilt, ige, llen, decide_eq_false_iff_not] at h2 h3
    exact .inl ⟨rfl, rfl, rfl, by omega, by omega⟩
def Qa0 (e : Qam) (i d : Int) : Keep × Int := bif ine (Qcq e i) 0 then (zK, Qcq e i) else QaM (endsF e i).1 (endsF e i).2 d
noncomputable def QDY : TC := (.sq (.reg (rT Tryz.f15 0)) (.sq (.sq (.reg (rT Tryz.f15 1)) (.sq (.reg (rT Tryz.f15 2)) (.cd (.t 15) (.sq (.reg (rT Tryz.f15 3)) .rt) .sk))) (.sq (.reg (rT Tryz.f15 4)) (.sq (.reg (rT Tryz.f15 5)) .rt))))
def QQG : List (RV × Option Ty) := [((.c 6 true 2), some Qah), ((.t 7), some tI)]
def g_f15 : G := ⟨TYs, [], 30, EL [(42, QEf), (43, QEe), (44, Qzo)], keeps, (fun _ _ => none), IL [], RL []⟩
def r_f15 (p0 : Qam) (p1 p2 : Int) : Option (V × List VO) :=
 let a1 := QaM ((endsF p0 p1).1) ((endsF p0 p1).2) p2
 br (QfU p0 p1) (br (ine (Qcq p0 p1) 0) (some (.tu [(.t Qah (0, (0, ()))), (.t tI (Qcq p0 p1))], [])) (br (QhU p0 p1) (br (QfK ((endsF p0 p1).1) ((endsF p0 p1).2) p2) (some (.tu [(.t Qah (a1.1)), (.t tI (a1.2))], [])) none) none)) none
theorem e_f15 (p0 : Qam) (p1 p2 : Int) : runF g_f15 QDY QQG false [.t Qap p0, .t tI p1, .t tI p2] [] = r_f15 p0 p1 p2 := by kernel_rfl
theorem QA5 : Qai Tryz.prog 15 := .inr ⟨by decide, _, Tryz.func15, by kernel_rfl, by kernel_rfl⟩
theorem gk_f15 : GOk Tryz.prog g_f15 := Qal _ (gA (gC QRn QQ7 (gC QRm QQ6 (gC QJ1 QIi gN))))
theorem lk_f15 : QDY.lok g_f15 := by repeat (first | exact trivial | refine ⟨?_, ?_⟩)
theorem s_f15 (e : Qam) (i d : Int) (h : Qct e i d = true) : r_f15 e i d = some (.tu [.t Qah (Qa0 e i d).1, .t tI (Qa0 e i d).2], []) := by
 have h : QbS e = true := h
 simp only [r_f15, show QfU e i = true from h, Qac]
 unfold Qa0
 rcases QhW e i with ⟨h1, _, h2, h3, h4⟩ | h1
 ·have h5 := Qtn h2 h3 h4
  rw [h1, Qaf, h5, Qac, show QfK (endsF e i).1 (endsF e i).2 d = true from Qtq h h5, Qac]
  rfl
 ·rw [h1]
  rfl
def QtX : Ent := spec (.pr Qap (.pr tI (.pr tI .nil))) (fun x => (Qct x.1 x.2.1 x.2.2.1)) (fun x => (.tu [(.t Qah ((Qa0 x.1 x.2.1 x.2.2.1).1)), (.t tI ((Qa0 x.1 x.2.1 x.2.2.1).2))]))
theorem QzP : Meets Tryz.prog 15 (strip QtX) := Qag (R := runF g_f15 QDY QQG false) (mG Tryz.func15 (by kernel_rfl) Tryz.ntmps15 (by kernel_rfl) gk_f15 lk_f15) fun x hok => (e_f15 x.1 x.2.1 x.2.2.1).trans (s_f15 x.1 x.2.1 x.2.2.1 hok)
def dayF (n : Int) : Bool := ige n 0 && ile n 40000
noncomputable def QDO : TC := (.sq (.reg (rT Tryz.f40 0)) (.sq (.reg (rT Tryz.f40 1)) .rt))
def QQw : List (RV × Option Ty) := [((.t 2), some .bool)]
def g_f40 : G := ⟨TYs, [], 9, EL [], keeps, (fun _ _ => none), IL [], RL []⟩
def r_f40 (p0 : Int) : Option (V × List VO) := br (ige p0 0) (some (.t .bool (ile p0 40000), [])) (some (.t .bool false, []))
theorem e_f40 (p0 : Int) : runF g_f40 QDO QQw false [.t tI p0] [] = r_f40 p0 := by kernel_rfl
theorem QRp : Qai Tryz.prog 40 := .inr ⟨by decide, _, Tryz.func40, by kernel_rfl, by kernel_rfl⟩
theorem gk_f40 : GOk Tryz.prog g_f40 := Qal _ (fun p hp => by cases hp)
theorem lk_f40 : QDO.lok g_f40 := by repeat (first | exact trivial | refine ⟨?_, ?_⟩)
theorem s_f40 (n : Int) : r_f40 n = some (.t .bool (dayF n), []) := by
 simp only [r_f40]
 unfold dayF
 cases ige n 0 <;> rfl
def QEh : Ent := spec (.pr tI .nil) (fun x => true) (fun x => (.t .bool (dayF x.1)))
theorem QQ9 : Meets Tryz.prog 40 (strip QEh) := Qag (R := runF g_f40 QDO QQw false) (mG Tryz.func40 (by kernel_rfl) Tryz.ntmps40 (by kernel_rfl) gk_f40 lk_f40) fun x _ => (e_f40 x.1).trans (s_f40 x.1)
def durF (e : Qam) (i f t : Int) : Keep × Int :=
 bif ine (Qa0 e i f).2 0 then (zK, (Qa0 e i f).2) else bif ine (Qa0 e i t).2 0 then (zK, (Qa0 e i t).2) else bif ilt t f then (zK, 13) else ((Qa0 e i f).1, 0)
noncomputable def QDU : TC := (.sq (.reg (rT Tryz.f27 0)) (.sq (.reg (rT Tryz.f27 1)) (.sq (.sq (.reg (rT Tryz.f27 2)) (.cd (.t 22) (.sq (.reg (rT Tryz.f27 3)) .rt) .sk)) (.sq (.sq (.reg (rT Tryz.f27 4)) (.sq (.reg (rT Tryz.f27 5)) (.cd (.t 33) (.sq (.reg (rT Tryz.f27 6)) .rt) .sk))) (.sq (.sq (.reg (rT Tryz.f27 7)) (.cd (.t 38) (.sq (.reg (rT Tryz.f27 8)) .rt) .sk)) (.sq (.reg (rT Tryz.f27 9)) .rt))))))
def QQC : List (RV × Option Ty) := [((.c 8 true 2), some Qah), ((.t 9), some tI)]
def g_f27 : G := ⟨TYs, [], 41, EL [(15, QtX)], keeps, (fun _ _ => none), IL [], RL []⟩
def r_f27 (p0 : Qam) (p1 p2 p3 : Int) : Option (V × List VO) :=
 let a1 := Qa0 p0 p1 p2
 br (Qct p0 p1 p2) (br (ine (a1.2) 0) (some (.tu [(.t Qah (0, (0, ()))), (.t tI (a1.2))], [])) (br (Qct p0 p1 p3) (br (ine ((Qa0 p0 p1 p3).2) 0) (some (.tu [(.t Qah (0, (0, ()))), (.t tI ((Qa0 p0 p1 p3).2))], [])) (br (ilt p3 p2) (some (.tu [(.t Qah (0, (0, ()))), (.t tI 13)], [])) (some (.tu [(.t Qah (a1.1)), (.t tI 0)], [])))) none)) none
theorem e_f27 (p0 : Qam) (p1 p2 p3 : Int) : runF g_f27 QDU QQC false [.t Qap p0, .t tI p1, .t tI p2, .t tI p3] [] = r_f27 p0 p1 p2 p3 := by kernel_rfl
theorem en_f27 : Qai Tryz.prog 27 := .inr ⟨by decide, _, Tryz.func27, by kernel_rfl, by kernel_rfl⟩
theorem gk_f27 : GOk Tryz.prog g_f27 := Qal _ (gA (gC QA5 QzP gN))
theorem lk_f27 : QDU.lok g_f27 := by repeat (first | exact trivial | refine ⟨?_, ?_⟩)
theorem s_f27 (e : Qam) (i f t : Int) (h : QvH e i f t = true) : r_f27 e i f t = some (.tu [.t Qah (durF e i f t).1, .t tI (durF e i f t).2], []) := by
 have h : QbS e = true := h
 simp only [r_f27, show ∀ t, Qct e i t = true from fun _ => h, Qac]
 unfold durF
 cases ine (Qa0 e i f).2 0 <;> cases ine (Qa0 e i t).2 0 <;> cases ilt t f <;> rfl
def QPT : Ent := spec (.pr Qap (.pr tI (.pr tI (.pr tI .nil)))) (fun x => (QvH x.1 x.2.1 x.2.2.1 x.2.2.2.1)) (fun x => (.tu [(.t Qah ((durF x.1 x.2.1 x.2.2.1 x.2.2.2.1).1)), (.t tI ((durF x.1 x.2.1 x.2.2.1 x.2.2.2.1).2))]))
theorem ms_f27 : Meets Tryz.prog 27 (strip QPT) := Qag (R := runF g_f27 QDU QQC false) (mG Tryz.func27 (by kernel_rfl) Tryz.ntmps27 (by kernel_rfl) gk_f27 lk_f27) fun x hok => (e_f27 x.1 x.2.1 x.2.2.1 x.2.2.2.1).trans (s_f27 x.1 x.2.1 x.2.2.1 x.2.2.2.1 hok)
def minTo (m : Int) (c : Qaa) : Int := imn m c.2.2.2.2.2.2.2.1
def untC (l : List Qaa) : Int := match l with | [] => 0 | c :: r => (c :: r).foldl minTo c.2.2.2.2.2.2.2.1
def Qkf : Fg := ⟨[(3, some tI), (13, some (.sl Qad)), (14, some tI), (15, some tI)], []⟩
noncomputable def Qma : TC := (.sq (.reg (rT Tryz.f66 5)) (.sq (.cd (.t 16) .sk (.fg ⟨[(3, some tI)], []⟩ (.ex 0))) (.sq (.bk 1 (.sq (.reg (rT Tryz.f66 6)) (.reg (rT Tryz.f66 7)))) (.reg (rT Tryz.f66 8)))))
noncomputable def QDz : TC := (.sq (.reg (rT Tryz.f66 0)) (.sq (.sq (.reg (rT Tryz.f66 1)) (.cd (.t 8) (.sq (.reg (rT Tryz.f66 2)) .rt) .sk)) (.sq (.reg (rT Tryz.f66 3)) (.sq (.sq (.reg (rT Tryz.f66 4)) (.bk 0 (.lp 0 Qkf Qma))) (.sq (.reg (rT Tryz.f66 9)) .rt)))))
def QQh : List (RV × Option Ty) := [((.t 2), some tI)]
abbrev QrW : Sh := ⟨[(3, .ty tI), (13, .ty (.sl Qad)), (14, .ty tI), (15, .ty tI)], []⟩
def QrE (x3 : Int) (x13 : List Qaa) (x14 x15 : Int) : VS := QrW.st (x3, x13, x14, x15, ()) ()
abbrev QxA : Sh := ⟨[(3, .ty tI)], []⟩
def Qe5 (x3 : Int) : VS := QxA.st (x3, ()) ()
def QWW : VS → Option (Bool × List (Bool × Exit × VS)) := mkL QrW (fun x y => (rngOk x.2.1 x.2.2.1 x.2.2.2.1)) (fun x y => [(true, .exit 0, Qe5 ((x.2.1.drop x.2.2.2.1.toNat).foldl minTo x.1))])
def g_f66 : G := ⟨TYs, [], 25, EL [], keeps, (Ls [QWW]), IL [], RL []⟩
def QLv (x3 : Int) (x13 : List Qaa) (x14 x15 : Int) : Option (Exit × VS) := br (ilt x15 x14) (br (cIx x13 x15) (some (.normal, QrE (imn x3 (((((((((lgt Qad x13 (Int.toNat x15)).2).2).2).2).2).2).2).1)) x13 x14 (iadd .i64 x15 1))) none) (some (.exit 0, Qe5 x3))
noncomputable def QmZ (x3 : Int) (x13 : List Qaa) (x14 x15 : Int) : Option (Exit × VS) := loopF (Qak g_f66 Qkf Qma) (QrE x3 x13 x14 x15)
noncomputable def QsR (x3 : Int) (x13 : List Qaa) (x14 x15 : Int) : Option (Exit × VS) := br (ilt x15 x14) (br (cIx x13 x15) (QmZ (imn x3 (((((((((lgt Qad x13 (Int.toNat x15)).2).2).2).2).2).2).2).1)) x13 x14 (iadd .i64 x15 1)) none) (some (.exit 0, Qe5 x3))
def Qm5 (x3 : Int) (x13 : List Qaa) (x14 x15 : Int) : Option (Exit × VS) := some (.exit 0, Qe5 ((x13.drop x15.toNat).foldl minTo x3))
theorem QOK (x3 : Int) (x13 : List Qaa) (x14 x15 : Int) : Qak g_f66 Qkf Qma (QrE x3 x13 x14 x15) = QLv x3 x13 x14 x15 := by kernel_rfl
theorem QzV (x3 : Int) (x13 : List Qaa) (x14 x15 : Int) : QmZ x3 x13 x14 x15 = QsR x3 x13 x14 x15 := (Qao _ _).trans (by
 rw [QOK]
 simp only [QLv, QsR, Qay, nxt_n, nxt_r, nxt_e, nxt_0]
 rfl)
def r_f66 (p0 : List Qaa) : Option (V × List VO) := br (ieq (llen p0) 0) (some (.t tI 0, [])) (br (cIx p0 0) (br (rngOk p0 (llen p0) (0 : Int)) (some (.t tI ((p0.drop (0 : Int).toNat).foldl minTo (((((((((lgt Qad p0 (Int.toNat 0)).2).2).2).2).2).2).2).1)), [])) none) none)
theorem e_f66 (p0 : List Qaa) : runF g_f66 QDz QQh false [.t (.sl Qad) p0] [] = r_f66 p0 := by kernel_rfl
theorem en_f66 : Qai Tryz.prog 66 := .inr ⟨by decide, _, Tryz.func66, by kernel_rfl, by kernel_rfl⟩
theorem gk_f66 : GOk Tryz.prog g_f66 := Qal _ (fun p hp => by cases hp)
theorem QUk (x3 : Int) (x13 : List Qaa) (x14 x15 : Int) (h : (rngOk x13 x14 x15) = true) : QmZ x3 x13 x14 x15 = Qm5 x3 x13 x14 x15 := by
 obtain ⟨rfl, h3, k, rfl, hk⟩ := rng_k h
 clear h
 revert x3
 refine Qat x13 (fun k => ∀ x3, QmZ x3 x13 (x13.length : Int) (k : Int) = Qm5 x3 x13 (x13.length : Int) (k : Int)) ?_ ?_ k hk
 ·intro x3
  rw [QzV]
  simp only [QsR, Qm5, Qar, Nat.lt_irrefl, decide_false, Qaf, Int.toNat_natCast, List.drop_length, List.foldl_nil]
 ·intro k hk ih x3
  rw [QzV]
  simp only [QsR, Qar, Qav, hk, decide_true, Qac, Int.toNat_natCast, add1 (show k < 4611686018427387904 by omega), ih, QaA (y := Qad) hk]
  simp only [Qm5, Int.toNat_natCast, List.drop_eq_getElem_cons hk, List.foldl_cons]
  rfl
theorem QMQ : ∀ S l p, g_f66.L 0 (fgt Qkf S) = some (true, l) → pickA l = some p → loopF (Qak g_f66 Qkf Qma) S = some p :=
 QaD (s := QrW) ⟨by decide, by decide⟩ (by kernel_rfl) fun x y hok p hp => by
 simp only [Qaq, Qan] at hp
 exact (QUk x.1 x.2.1 x.2.2.1 x.2.2.2.1 (by simpa using hok)).trans hp
theorem lk_f66 : QDz.lok g_f66 := by
 repeat (first | exact trivial | exact QMQ | refine ⟨?_, ?_⟩)
theorem s_f66 (l : List Qaa) (h : QaV l = true) : r_f66 l = some (.t tI (untC l), []) := by
 have hl := Qkt h
 simp only [r_f66, rng_0 hl, Qac, Int.toNat_zero, List.drop_zero]
 cases l with
 | nil => rfl
 | cons c r =>
  rw [show ieq (llen (c :: r)) 0 = false by simp only [QcD, llen, List.length_cons, decide_eq_false_iff_not]; omega, Qaf, show cIx (c :: r) 0 = true by simp only [cIx, List.length_cons, decide_eq_true_eq]; omega]
  rfl
def QPJ : Ent := spec (.pr (.sl Qad) .nil) (fun x => (QaV x.1)) (fun x => (.t tI (untC x.1)))
theorem ms_f66 : Meets Tryz.prog 66 (strip QPJ) := Qag (R := runF g_f66 QDz QQh false) (mG Tryz.func66 (by kernel_rfl) Tryz.ntmps66 (by kernel_rfl) gk_f66 lk_f66) fun x hok => (e_f66 x.1).trans (s_f66 x.1 hok)
end
end Go.Proofs.YtckcgijklnloiaaGreat.K
namespace Go.Proofs.YtckcgijklnloiaaGreat.K
open Go.RowKit
noncomputable section
theorem QlR {b : Bool} {x : Int} {y : Keep × Int} (hx : x ≠ 0) (h : (bif b then (zK, x) else y).2 = 0) : b = false ∧ y.2 = 0 := by
 cases b with
 | true => exact absurd h hx
 | false => exact ⟨rfl, h⟩
theorem QlP {c s : Qab} {d : Int} (h : (QaM c s d).2 = 0) : QcM c s = true ∧ (0 ≤ d ∧ d ≤ 40000) ∧ (QaT s (QaM c s d).1.2.1).2 = true ∧ pickE c s d (QaM c s d).1.2.1 = 0 := by
 unfold QaM withF at h
 obtain ⟨h1, k1⟩ := QlR (by decide) h
 obtain ⟨h2, k2⟩ := QlR (by decide) k1
 obtain ⟨h3, k3⟩ := QlR (by decide) k2
 obtain ⟨h4, k4⟩ := QlR (by decide) k3
 obtain ⟨h5, k5⟩ := QlR (by decide) k4
 obtain ⟨h6, k6⟩ := QlR (by decide) k5
 obtain ⟨h7, k7⟩ := QlR (by decide) k6
 have hr : QcM c s = true := by simpa using h1
 have hd : 0 ≤ d ∧ d ≤ 40000 := by
  simp only [ilt, igt, decide_eq_false_iff_not] at h2 h3
  omega
 refine ⟨hr, hd, ?_⟩
 unfold QaM withF
 rw [h1, h2, h3, h4, h5, h6, h7]
 simp only [cond_false]
 unfold overF at k7 ⊢
 cases hq : fstG (posE s (Qax c) (imn c.2.2.1 s.2.2.1)) (outL s (Qax c)) with
 | none => rw [hq] at k7; exact absurd (show (28 : Int) = 0 from k7) (by decide)
 | some k =>
  rw [hq] at k7
  obtain ⟨hk, hp⟩ := QeW hq
  have e : (outL s (Qax c)).getD k 0 = (outL s (Qax c))[k] := by simp only [List.getD_eq_getElem?_getD, List.getElem?_eq_getElem hk, Option.getD_some]
  simp only [e] at k7 ⊢
  unfold pickF at k7 ⊢
  obtain ⟨h8, _⟩ := QlR (by decide) k7
  rw [h8]
  refine ⟨Qpf hp, ?_⟩
  simp only [ine, bne_eq_false_iff_eq] at h8
  exact h8
theorem Qnc {x : Int} (h : ine x 0 = false) : x = 0 := by
 simpa [ine] using h
theorem QLO {e : Qam} {i d : Int} (h : (Qa0 e i d).2 = 0) : estOk e = true ∧ 0 ≤ i ∧ i < (xEdg e).length ∧ Qa0 e i d = QaM (endsF e i).1 (endsF e i).2 d := by
 unfold Qa0 at h ⊢
 rcases QhW e i with ⟨h1, _, h2, h3, h4⟩ | h1
 ·rw [h1]
  exact ⟨h2, h3, h4, rfl⟩
 ·rw [h1] at h
  have : Qcq e i = 0 := h
  rw [this] at h1
  exact absurd h1 (by decide)
theorem QBh {s : Qab} {x : Int} (hs : Qa7 s = true) (h : (QaT s x).2 = true) : cIx (eIds s) (QaT s x).1 = true ∧ QaV (QdA s x) = true := by
 obtain ⟨k, hk, hl⟩ := Qj6 h
 have hi := (Qbu hs).2.2.2.2.2
 refine ⟨by rw [hk]; exact decide_eq_true ⟨by omega, by omega⟩, ?_⟩
 unfold QdA
 rw [hk, Int.toNat_natCast, QaA (y := Qau) hl]
 exact List.all_eq_true.1 hi _ (List.getElem_mem hl)
def untF (e : Qam) (i d : Int) : Int × Int := bif ine (Qa0 e i d).2 0 then (0, (Qa0 e i d).2) else (untC (QdA (endsF e i).2 (Qa0 e i d).1.2.1), 0)
noncomputable def QDT : TC := (.sq (.reg (rT Tryz.f29 0)) (.sq (.reg (rT Tryz.f29 1)) (.sq (.sq (.reg (rT Tryz.f29 2)) (.cd (.t 22) (.sq (.reg (rT Tryz.f29 3)) .rt) .sk)) (.sq (.reg (rT Tryz.f29 4)) (.sq (.reg (rT Tryz.f29 5)) (.sq (.reg (rT Tryz.f29 6)) .rt))))))
def QQB : List (RV × Option Ty) := [((.t 6), some tI), ((.t 7), some tI)]
def g_f29 : G := ⟨TYs, [], 44, EL [(15, QtX), (44, Qzo), (56, QqV), (66, QPJ)], keeps, (fun _ _ => none), IL [], RL []⟩
def r_f29 (p0 : Qam) (p1 p2 : Int) : Option (V × List VO) :=
 let a3 := ((endsF p0 p1).2)
 let a2 := Qa0 p0 p1 p2
 let a1 := ((((lgt Qau ((((((a3.2).2).2).2).2).1) (Int.toNat ((QaT a3 (((a2.1).2).1)).1))).2).2).1)
 br (Qct p0 p1 p2) (br (ine (a2.2) 0) (some (.tu [(.t tI 0), (.t tI (a2.2))], [])) (br (QhU p0 p1) (br (idnOk a3 (((a2.1).2).1)) (br (cIx ((((((a3.2).2).2).2).2).1) ((QaT a3 (((a2.1).2).1)).1)) (br (QaV a1) (some (.tu [(.t tI (untC a1)), (.t tI 0)], [])) none) none) none) none)) none
theorem e_f29 (p0 : Qam) (p1 p2 : Int) : runF g_f29 QDT QQB false [.t Qap p0, .t tI p1, .t tI p2] [] = r_f29 p0 p1 p2 := by kernel_rfl
theorem en_f29 : Qai Tryz.prog 29 := .inr ⟨by decide, _, Tryz.func29, by kernel_rfl, by kernel_rfl⟩
theorem gk_f29 : GOk Tryz.prog g_f29 := Qal _ (gA (gC QA5 QzP (gC QJ1 QIi (gC QvK QuY (gC en_f66 ms_f66 gN)))))
theorem lk_f29 : QDT.lok g_f29 := by repeat (first | exact trivial | refine ⟨?_, ?_⟩)
theorem s_f29 (e : Qam) (i d : Int) (h : Qct e i d = true) : r_f29 e i d = some (.tu [.t tI (untF e i d).1, .t tI (untF e i d).2], []) := by
 have hl : QbS e = true := h
 simp only [r_f29, h, Qac]
 unfold untF
 cases hw : ine (Qa0 e i d).2 0 with
 | true => rfl
 | false =>
  obtain ⟨h1, h2, h3, h4⟩ := QLO (Qnc hw)
  have h5 := Qtn h1 h2 h3
  have h6 := (Bool.and_eq_true_iff.1 (Qtq hl h5)).2
  have h7 : (QaT (endsF e i).2 (Qa0 e i d).1.2.1).2 = true := by rw [h4]; exact (QlP (by rw [← h4]; exact Qnc hw)).2.2.1
  obtain ⟨h8, h9⟩ := QBh h6 h7
  have ha : idnOk (endsF e i).2 (Qa0 e i d).1.2.1 = true := decide_eq_true (Qbu h6).2.2.1
  rw [Qaf, h5, Qac, ha, Qac]
  exact brY h8 (brY h9 rfl)
def QPS : Ent := spec (.pr Qap (.pr tI (.pr tI .nil))) (fun x => (Qct x.1 x.2.1 x.2.2.1)) (fun x => (.tu [(.t tI ((untF x.1 x.2.1 x.2.2.1).1)), (.t tI ((untF x.1 x.2.1 x.2.2.1).2))]))
theorem ms_f29 : Meets Tryz.prog 29 (strip QPS) := Qag (R := runF g_f29 QDT QQB false) (mG Tryz.func29 (by kernel_rfl) Tryz.ntmps29 (by kernel_rfl) gk_f29 lk_f29) fun x hok => (e_f29 x.1 x.2.1 x.2.2.1).trans (s_f29 x.1 x.2.1 x.2.2.1 hok)
def metOk (c s : Qab) (d : Int) (o : Keep) : Bool := (QaT s o.2.1).2 && ieq (pickE c s d o.2.1) 0
def metF (c s : Qab) (d : Int) : List Keep := (Qa3 c s).filter (metOk c s d)
def metLk (c s : Qab) (l m : List Keep) (k : Int) : Bool := Qa7 c && (Qa7 s && decide (l.length ≤ 1000 ∧ m.length ≤ k))
def methF (e : Qam) (i d : Int) : List Keep × Int :=
 bif ine (Qcq e i) 0 then ([], Qcq e i) else bif !dayF d then ([], 2) else (metF (endsF e i).1 (endsF e i).2 d, 0)
theorem QDb (s : Qab) (o : List Int) : ∀ (n v : Nat), (verC s o v n).length ≤ 16 * n := by
 intro n
 induction n with
 | zero => intro v; simp [verC]
 | succ n ih =>
  intro v
  have h1 : (rowC s o (v : Int) 1).length ≤ 16 := by
   unfold rowC
   rw [List.length_map]
   exact Nat.le_trans (List.length_filter_le _ _) (by rw [List.length_range']; omega)
  have h2 := ih (v + 1)
  unfold verC at h2 ⊢
  rw [List.range'_succ, List.flatMap_cons, List.length_append]
  omega
theorem Qik {c s : Qab} : (Qa3 c s).length ≤ 64 := by
 unfold Qa3
 cases h : QcM c s with
 | false => exact Nat.zero_le _
 | true =>
  obtain ⟨hv, hw⟩ := Bool.and_eq_true_iff.1 h
  have v1 := Qbv hv
  have v2 := Qbv hw
  refine Nat.le_trans (QDb _ _ _ _) ?_
  simp only [hiC, loC, imn, imx]
  split <;> split <;> omega
theorem QIv {c s : Qab} {l m : List Keep} {d : Int} {k : Nat} (hk : k < l.length) (h : metLk c s l m k = true) {β : Type} (K : List Keep → Option β) :
  br (idnOk s (lgt Qah l k).2.1) (br (QaT s (lgt Qah l k).2.1).2 (br (cIx (eIds s) (QaT s (lgt Qah l k).2.1).1) (br (QdF (QdA s (lgt Qah l k).2.1) (eAnch c) (eHash c) d s.1) (br (ieq (pickE c s d (lgt Qah l k).2.1) 0) (br (cApp m [lgt Qah l k] 16) (K (m ++ [lgt Qah l k])) none) (K m)) none) none) (K m)) none = (bif metOk c s d (lgt Qah l k) then K (m ++ [lgt Qah l k]) else K m) := by
 simp only [metLk, Bool.and_eq_true, decide_eq_true_eq] at h
 obtain ⟨hc, hs, hl, hm⟩ := h
 have ha : idnOk s (lgt Qah l k).2.1 = true := decide_eq_true (Qbu hs).2.2.1
 have hb : cApp m [lgt Qah l k] 16 = true := cAppN (by omega) (by simp only [List.length_singleton]; omega)
 rw [ha, Qac]
 unfold metOk
 cases hi : (QaT s (lgt Qah l k).2.1).2 with
 | false => rfl
 | true =>
  obtain ⟨h8, h9⟩ := QBh hs hi
  have hg : QdF (QdA s (lgt Qah l k).2.1) (eAnch c) (eHash c) d s.1 = true := Bool.and_eq_true_iff.2 ⟨h9, decide_eq_true ⟨(Qbu hc).2.2.2.1, (Qbu hc).2.2.2.2.1⟩⟩
  rw [Qac, h8, Qac, hg, Qac, hb, Qac]
  cases ieq (pickE c s d (lgt Qah l k).2.1) 0 <;> rfl
noncomputable def QOu : List DO := dT Tryz.f20 12
def Qkl : Fg := ⟨[(2, some tI), (9, none), (10, none), (11, none), (33, some (.sl Qah)), (34, some tI), (35, some tI)], [(9, some Qae), (10, some Qae), (11, none), (67, none)]⟩
noncomputable def Qmg : TC := (.sq (.reg (rT Tryz.f20 9)) (.sq (.cd (.t 36) .sk (.fg ⟨[(11, none)], [(11, none), (67, none)]⟩ (.ex 0))) (.sq (.bk 1 (.sq (.reg (rT Tryz.f20 10)) (.sq (.reg (rT Tryz.f20 11)) (.sq (.dr QOu [(0, []), (1, []), (2, [10]), (3, [10]), (4, []), (5, []), (6, []), (7, []), (8, [9]), (9, [9]), (10, [9]), (11, [9]), (12, []), (13, [10]), (14, [10]), (15, []), (16, []), (17, [])] (.of [0, 1, 2, 3, 4, 5, 6, 7, 8, 9, 10, 11, 12, 13, 14, 15, 16, 17])) (.cd (.t 63) (.reg (rT Tryz.f20 13)) .sk))))) (.reg (rT Tryz.f20 14)))))
noncomputable def QDV : TC := (.sq (.reg (rT Tryz.f20 0)) (.sq (.sq (.reg (rT Tryz.f20 1)) (.sq (.reg (rT Tryz.f20 2)) (.cd (.t 20) (.sq (.reg (rT Tryz.f20 3)) .rt) .sk))) (.sq (.sq (.reg (rT Tryz.f20 4)) (.cd (.t 24) (.sq (.reg (rT Tryz.f20 5)) .rt) .sk)) (.sq (.reg (rT Tryz.f20 6)) (.sq (.reg (rT Tryz.f20 7)) (.sq (.sq (.reg (rT Tryz.f20 8)) (.bk 0 (.nw 11 39 (.lp 0 Qkl Qmg)))) (.sq (.reg (rT Tryz.f20 15)) .rt)))))))
def QQD : List (RV × Option Ty) := [((.t 6), some (.sl Qah)), ((.t 7), some tI)]
abbrev Qr2 : Sh := ⟨[(2, .ty tI), (9, .ptr 9 0), (10, .ptr 10 0), (11, .ms 11), (33, .ty (.sl Qah)), (34, .ty tI), (35, .ty tI)], [(9, .box Qae), (10, .box Qae), (11, .arr 39 Qah), (67, .no)]⟩
def QiX (x2 : Int) (x33 : List Keep) (x34 x35 : Int) (y9 y10 : Qab) (y11 : List Keep) : VS := Qr2.st (x2, (), (), (), x33, x34, x35, ()) (y9, y10, y11, (), ())
abbrev QxG : Sh := ⟨[(11, .ms 11)], [(11, .arr 39 Qah), (67, .no)]⟩
def Qfc (y11 : List Keep) : VS := QxG.st ((), ()) (y11, (), ())
def QW2 : VS → Option (Bool × List (Bool × Exit × VS)) := mkL Qr2 (fun x y => (rngOk x.2.2.2.2.1 x.2.2.2.2.2.1 x.2.2.2.2.2.2.1 && metLk y.1 y.2.1 x.2.2.2.2.1 y.2.2.1 x.2.2.2.2.2.2.1)) (fun x y => [(true, .exit 0, Qfc (y.2.2.1 ++ (x.2.2.2.2.1.drop x.2.2.2.2.2.2.1.toNat).filter (metOk y.1 y.2.1 x.1)))])
def g_f20 : G := ⟨TYs, [], 70, EL [(40, QEh), (43, QEe), (44, Qzo), (54, QEc), (56, QqV), (57, QEb)], keeps, (Ls [QW2]), IL [], RL []⟩
def QLB (x2 : Int) (x33 : List Keep) (x34 x35 : Int) (y9 y10 : Qab) (y11 : List Keep) : Option (Exit × VS) :=
 let a1 := lgt Qah x33 (Int.toNat x35)
 let a4 := QaT y10 ((a1.2).1)
 let a2 := ((((lgt Qau y10.2.2.2.2.2.1 (Int.toNat (a4.1))).2).2).1)
 let a3 := iadd .i64 x35 1
 br (ilt x35 x34) (br (cIx x33 x35) (br (idnOk y10 ((a1.2).1)) (br (a4.2) (br (cIx y10.2.2.2.2.2.1 (a4.1)) (br (QdF a2 y9.2.2.2.2.2.2.1 y9.2.2.2.2.2.2.2.1 x2 y10.1) (br (ieq (chkCh a2 y9.2.2.2.2.2.2.1 y9.2.2.2.2.2.2.2.1 x2 y10.1) 0) (br (cApp y11 ([(a1.1, ((a1.2).1, ()))]) 16) (some (.normal, QiX x2 x33 x34 a3 y9 y10 (y11 ++ ([(a1.1, ((a1.2).1, ()))])))) none) (some (.normal, QiX x2 x33 x34 a3 y9 y10 y11))) none) none) (some (.normal, QiX x2 x33 x34 a3 y9 y10 y11))) none) none) (some (.exit 0, Qfc y11))
noncomputable def Qfy (x2 : Int) (x33 : List Keep) (x34 x35 : Int) (y9 y10 : Qab) (y11 : List Keep) : Option (Exit × VS) := loopF (Qak g_f20 Qkl Qmg) (QiX x2 x33 x34 x35 y9 y10 y11)
noncomputable def QsW (x2 : Int) (x33 : List Keep) (x34 x35 : Int) (y9 y10 : Qab) (y11 : List Keep) : Option (Exit × VS) :=
 let a1 := lgt Qah x33 (Int.toNat x35)
 let a4 := QaT y10 ((a1.2).1)
 let a2 := ((((lgt Qau y10.2.2.2.2.2.1 (Int.toNat (a4.1))).2).2).1)
 let a3 := iadd .i64 x35 1
 br (ilt x35 x34) (br (cIx x33 x35) (br (idnOk y10 ((a1.2).1)) (br (a4.2) (br (cIx y10.2.2.2.2.2.1 (a4.1)) (br (QdF a2 y9.2.2.2.2.2.2.1 y9.2.2.2.2.2.2.2.1 x2 y10.1) (br (ieq (chkCh a2 y9.2.2.2.2.2.2.1 y9.2.2.2.2.2.2.2.1 x2 y10.1) 0) (br (cApp y11 ([(a1.1, ((a1.2).1, ()))]) 16) (Qfy x2 x33 x34 a3 y9 y10 (y11 ++ ([(a1.1, ((a1.2).1, ()))]))) none) (Qfy x2 x33 x34 a3 y9 y10 y11)) none) none) (Qfy x2 x33 x34 a3 y9 y10 y11)) none) none) (some (.exit 0, Qfc y11))
def Qm7 (x2 : Int) (x33 : List Keep) (x34 x35 : Int) (y9 y10 : Qab) (y11 : List Keep) : Option (Exit × VS) := some (.exit 0, Qfc (y11 ++ (x33.drop x35.toNat).filter (metOk y9 y10 x2)))
theorem QOQ (x2 : Int) (x33 : List Keep) (x34 x35 : Int) (y9 y10 : Qab) (y11 : List Keep) : Qak g_f20 Qkl Qmg (QiX x2 x33 x34 x35 y9 y10 y11) = QLB x2 x33 x34 x35 y9 y10 y11 := by kernel_rfl
theorem Qz0 (x2 : Int) (x33 : List Keep) (x34 x35 : Int) (y9 y10 : Qab) (y11 : List Keep) : Qfy x2 x33 x34 x35 y9 y10 y11 = QsW x2 x33 x34 x35 y9 y10 y11 := (Qao _ _).trans (by
 rw [QOQ]
 simp only [QLB, QsW, Qay, nxt_n, nxt_r, nxt_e, nxt_0]
 rfl)
def r_f20 (p0 : Qam) (p1 p2 : Int) : Option (V × List VO) :=
 let a2 := ((endsF p0 p1).1)
 let a3 := ((endsF p0 p1).2)
 let a1 := Qa3 a2 a3
 br (QfU p0 p1) (br (ine (Qcq p0 p1) 0) (some (.tu [(.t (.sl Qah) ([] : List Keep)), (.t tI (Qcq p0 p1))], [])) (br (!(dayF p2)) (some (.tu [(.t (.sl Qah) ([] : List Keep)), (.t tI 2)], [])) (br (QhU p0 p1) (br (Qbw a2 a3) (br (rngOk a1 (llen a1) (0 : Int) && metLk a2 a3 a1 ([] : List Keep) (0 : Int)) (some (.tu [(.t (.sl Qah) (([] : List Keep) ++ (a1.drop (0 : Int).toNat).filter (metOk a2 a3 p2))), (.t tI 0)], [])) none) none) none))) none
theorem e_f20 (p0 : Qam) (p1 p2 : Int) : runF g_f20 QDV QQD false [.t Qap p0, .t tI p1, .t tI p2] [] = r_f20 p0 p1 p2 := by kernel_rfl
theorem en_f20 : Qai Tryz.prog 20 := .inr ⟨by decide, _, Tryz.func20, by kernel_rfl, by kernel_rfl⟩
theorem gk_f20 : GOk Tryz.prog g_f20 := Qal _ (gA (gC QRp QQ9 (gC QRm QQ6 (gC QJ1 QIi (gC QRk QQ4 (gC QvK QuY (gC QRj QQ3 gN)))))))
theorem QUq (x2 : Int) (x33 : List Keep) (x34 x35 : Int) (y9 y10 : Qab) (y11 : List Keep) (h : (rngOk x33 x34 x35 && metLk y9 y10 x33 y11 x35) = true) : Qfy x2 x33 x34 x35 y9 y10 y11 = Qm7 x2 x33 x34 x35 y9 y10 y11 := by
 obtain ⟨h0, hm⟩ := Bool.and_eq_true_iff.1 h
 obtain ⟨rfl, h3, k, rfl, hk⟩ := rng_k h0
 clear h h0
 revert y11
 refine Qat x33 (fun k => ∀ y11, metLk y9 y10 x33 y11 (k : Int) = true → Qfy x2 x33 (x33.length : Int) (k : Int) y9 y10 y11 = Qm7 x2 x33 (x33.length : Int) (k : Int) y9 y10 y11) ?_ ?_ k hk
 ·intro y11 _
  rw [Qz0]
  simp only [QsW, Qm7, Qar, Nat.lt_irrefl, decide_false, Qaf, Int.toNat_natCast, List.drop_length, List.filter_nil, List.append_nil]
 ·intro k hk ih y11 hm
  rw [Qz0]
  have hm2 := hm
  simp only [metLk, Bool.and_eq_true, decide_eq_true_eq] at hm2
  obtain ⟨hc, hs, hl, hy⟩ := hm2
  simp only [QsW, Qar, Qav, hk, decide_true, Qac, Int.toNat_natCast, add1 (show k < 4611686018427387904 by omega)]
  refine Eq.trans (QIv hk hm (fun m => Qfy x2 x33 (x33.length : Int) ((k + 1 : Nat) : Int) y9 y10 m)) ?_
  rw [ih _ (by simp only [metLk, Bool.and_eq_true, decide_eq_true_eq]; exact ⟨hc, hs, hl, by simp only [List.length_append, List.length_singleton]; omega⟩), ih _ (by simp only [metLk, Bool.and_eq_true, decide_eq_true_eq]; exact ⟨hc, hs, hl, by omega⟩)]
  simp only [Qm7, Int.toNat_natCast, List.drop_eq_getElem_cons hk, QaA (y := Qah) hk, List.filter_cons]
  cases metOk y9 y10 x2 x33[k] with
  | true => simp only [cond_true, if_true, List.append_assoc, List.singleton_append]
  | false => rfl
theorem QMW : ∀ S l p, g_f20.L 0 (fgt Qkl S) = some (true, l) → pickA l = some p → loopF (Qak g_f20 Qkl Qmg) S = some p :=
 QaD (s := Qr2) ⟨by decide, by decide⟩ (by kernel_rfl) fun x y hok p hp => by
 simp only [Qaq, Qan] at hp
 exact (QUq x.1 x.2.2.2.2.1 x.2.2.2.2.2.1 x.2.2.2.2.2.2.1 y.1 y.2.1 y.2.2.1 (by simpa using hok)).trans hp
theorem lk_f20 : QDV.lok g_f20 := by
 repeat (first | exact trivial | exact QMW | refine ⟨?_, ?_⟩)
theorem QIu {c s : Qab} (h : Qbw c s = true) : (rngOk (Qa3 c s) (llen (Qa3 c s)) (0 : Int) && metLk c s (Qa3 c s) [] 0) = true := by
 have hl := Qik (c := c) (s := s)
 obtain ⟨h1, h2⟩ := Bool.and_eq_true_iff.1 h
 rw [rng_0 (by omega), Bool.true_and]
 simp only [metLk, Bool.and_eq_true, decide_eq_true_eq]
 exact ⟨h1, h2, by omega, by simp⟩
theorem s_f20 (e : Qam) (i d : Int) (h : Qct e i d = true) : r_f20 e i d = some (.tu [.t (.sl Qah) (methF e i d).1, .t tI (methF e i d).2], []) := by
 have hl : QbS e = true := h
 simp only [r_f20, show QfU e i = true from h, Qac, Int.toNat_zero, List.drop_zero, List.nil_append]
 unfold methF
 rcases QhW e i with ⟨h1, h0, h2, h3, h4⟩ | h1
 ·rw [h1, Qaf]
  cases dayF d with
  | false => rfl
  | true =>
   have h5 := Qtn h2 h3 h4
   have h6 := Qtq hl h5
   rw [Bool.not_true, Qaf, h5, Qac, h6, Qac, QIu h6, Qac]
   rfl
 ·rw [h1]
  rfl
def QPU : Ent := spec (.pr Qap (.pr tI (.pr tI .nil))) (fun x => (Qct x.1 x.2.1 x.2.2.1)) (fun x => (.tu [(.t (.sl Qah) ((methF x.1 x.2.1 x.2.2.1).1)), (.t tI ((methF x.1 x.2.1 x.2.2.1).2))]))
theorem ms_f20 : Meets Tryz.prog 20 (strip QPU) := Qag (R := runF g_f20 QDV QQD false) (mG Tryz.func20 (by kernel_rfl) Tryz.ntmps20 (by kernel_rfl) gk_f20 lk_f20) fun x hok => (e_f20 x.1 x.2.1 x.2.2.1).trans (s_f20 x.1 x.2.1 x.2.2.1 hok)
end
end Go.Proofs.YtckcgijklnloiaaGreat.K
namespace Go.Proofs.YtckcgijklnloiaaGreat.K
open Go.RowKit Go.Shelf
attribute [local go_sem] Oper.semAt_some
def cut9 (vs : List Value) (k : Nat) : Value := .agg ((vs.drop (k * 9)).take 9).toArray
def encP (vs : List Value) (l : List Keep) : List (Array Value) := l.map fun x => #[cut9 vs x.1.toNat, cut9 vs x.2.1.toNat]
theorem QKJ {vs : List Value} {q : Nat} {v0 v1 v2 v3 v4 v5 v6 v7 v8 : Value} (e0 : vs[q * 9]? = some v0) (e1 : vs[q * 9 + 1]? = some v1) (e2 : vs[q * 9 + 2]? = some v2) (e3 : vs[q * 9 + 3]? = some v3) (e4 : vs[q * 9 + 4]? = some v4) (e5 : vs[q * 9 + 5]? = some v5) (e6 : vs[q * 9 + 6]? = some v6) (e7 : vs[q * 9 + 7]? = some v7) (e8 : vs[q * 9 + 8]? = some v8) : cut9 vs q = .agg #[v0, v1, v2, v3, v4, v5, v6, v7, v8] := by
 have hag : ((vs.drop (q * 9)).take 9) = [v0, v1, v2, v3, v4, v5, v6, v7, v8] := by
  apply List.ext_getElem?
  intro i
  rcases Nat.lt_or_ge i 9 with hi | hi
  ·rw [List.getElem?_take_of_lt hi, List.getElem?_drop]
   rcases i with _ | _ | _ | _ | _ | _ | _ | _ | _ | i
   ·rw [Nat.add_zero, e0]; rfl
   ·rw [e1]; rfl
   ·rw [e2]; rfl
   ·rw [e3]; rfl
   ·rw [e4]; rfl
   ·rw [e5]; rfl
   ·rw [e6]; rfl
   ·rw [e7]; rfl
   ·rw [e8]; rfl
   ·omega
  ·rw [List.getElem?_take_eq_none hi, List.getElem?_eq_none (by simpa using hi)]
 unfold cut9
 rw [hag]
set_option maxRecDepth 100000 in
set_option maxHeartbeats 8000000 in
theorem QVN {n : Nat} {b0 off0 c0 n0 b1 off1 c1 n1 k a s : Nat} {it : Value} {w : World} {v0 v1 v2 v3 v4 v5 v6 v7 v8 u0 u1 u2 u3 u4 u5 u6 u7 u8 : Value} (hk : k < n1) (ka : a < n0) (ks : s < n0) (hn0 : n0 ≤ 99999) (hn1 : n1 ≤ 99999) (hb0 : b0 < w.heap.size) (hb1 : b1 < w.heap.size)
  (da : w.cell? ⟨b1, off1 + k * 2, none⟩ = some (.int .i64 (a : Int))) (db : w.cell? ⟨b1, off1 + k * 2 + 1, none⟩ = some (.int .i64 (s : Int)))
  (w0 : w.cell? ⟨b0, off0 + a * 9, none⟩ = some v0) (w1 : w.cell? ⟨b0, off0 + a * 9 + 1, none⟩ = some v1) (w2 : w.cell? ⟨b0, off0 + a * 9 + 2, none⟩ = some v2) (w3 : w.cell? ⟨b0, off0 + a * 9 + 3, none⟩ = some v3) (w4 : w.cell? ⟨b0, off0 + a * 9 + 4, none⟩ = some v4) (w5 : w.cell? ⟨b0, off0 + a * 9 + 5, none⟩ = some v5) (w6 : w.cell? ⟨b0, off0 + a * 9 + 6, none⟩ = some v6) (w7 : w.cell? ⟨b0, off0 + a * 9 + 7, none⟩ = some v7) (w8 : w.cell? ⟨b0, off0 + a * 9 + 8, none⟩ = some v8) (x0 : w.cell? ⟨b0, off0 + s * 9, none⟩ = some u0) (x1 : w.cell? ⟨b0, off0 + s * 9 + 1, none⟩ = some u1) (x2 : w.cell? ⟨b0, off0 + s * 9 + 2, none⟩ = some u2) (x3 : w.cell? ⟨b0, off0 + s * 9 + 3, none⟩ = some u3) (x4 : w.cell? ⟨b0, off0 + s * 9 + 4, none⟩ = some u4) (x5 : w.cell? ⟨b0, off0 + s * 9 + 5, none⟩ = some u5) (x6 : w.cell? ⟨b0, off0 + s * 9 + 6, none⟩ = some u6) (x7 : w.cell? ⟨b0, off0 + s * 9 + 7, none⟩ = some u7) (x8 : w.cell? ⟨b0, off0 + s * 9 + 8, none⟩ = some u8) (ov0 : v0.oneCell' = true) (ov1 : v1.oneCell' = true) (ov2 : v2.oneCell' = true) (ov3 : v3.oneCell' = true) (ov4 : v4.oneCell' = true) (ov5 : v5.oneCell' = true) (ov6 : v6.oneCell' = true) (ov7 : v7.oneCell' = true) (ov8 : v8.oneCell' = true) (ou0 : u0.oneCell' = true) (ou1 : u1.oneCell' = true) (ou2 : u2.oneCell' = true) (ou3 : u3.oneCell' = true) (ou4 : u4.oneCell' = true) (ou5 : u5.oneCell' = true) (ou6 : u6.oneCell' = true) (ou7 : u7.oneCell' = true) (ou8 : u8.oneCell' = true) :
  CallsIn (Fw none) n Tryz.prog 44 #[.agg #[.slice (some ⟨b0, off0, none⟩) n0 c0, .slice (some ⟨b1, off1, none⟩) n1 c1, it], .int .i64 (k : Int)] w fun e w' => e = .returned (.tuple #[.agg #[v0, v1, v2, v3, v4, v5, v6, v7, v8], .agg #[u0, u1, u2, u3, u4, u5, u6, u7, u8]]) ∧ Below w.heap.size w w' := by
 refine callsIn_of_wp (F := Fw none) Tryz.func44 rfl trivial ?_ rfl
 simp only [Tryz.ntmps44, List.size_toArray, List.length_cons, List.length_nil, Nat.reduceAdd, Nat.reduceSub, Array.replicate_succ, Array.replicate_zero, List.push_toArray, List.append_toArray, List.nil_append, List.cons_append]
 have up : ∀ {p : Addr} {v : Value}, w.cell? p = some v → ∀ o1 o2 o3, (((w.alloc o1).alloc o2).alloc o3).cell? p = some v := fun h o1 o2 o3 => Lib.cell?_alloc_some _ (Lib.cell?_alloc_some _ (Lib.cell?_alloc_some _ h))
 replace da := up da
 replace db := up db
 replace w0 := fun o1 o2 o3 o4 => Lib.cell?_alloc_some o4 (up w0 o1 o2 o3)
 replace w1 := fun o1 o2 o3 o4 => Lib.cell?_alloc_some o4 (up w1 o1 o2 o3)
 replace w2 := fun o1 o2 o3 o4 => Lib.cell?_alloc_some o4 (up w2 o1 o2 o3)
 replace w3 := fun o1 o2 o3 o4 => Lib.cell?_alloc_some o4 (up w3 o1 o2 o3)
 replace w4 := fun o1 o2 o3 o4 => Lib.cell?_alloc_some o4 (up w4 o1 o2 o3)
 replace w5 := fun o1 o2 o3 o4 => Lib.cell?_alloc_some o4 (up w5 o1 o2 o3)
 replace w6 := fun o1 o2 o3 o4 => Lib.cell?_alloc_some o4 (up w6 o1 o2 o3)
 replace w7 := fun o1 o2 o3 o4 => Lib.cell?_alloc_some o4 (up w7 o1 o2 o3)
 replace w8 := fun o1 o2 o3 o4 => Lib.cell?_alloc_some o4 (up w8 o1 o2 o3)
 replace x0 := fun o1 o2 o3 o4 => Lib.cell?_alloc_some o4 (up x0 o1 o2 o3)
 replace x1 := fun o1 o2 o3 o4 => Lib.cell?_alloc_some o4 (up x1 o1 o2 o3)
 replace x2 := fun o1 o2 o3 o4 => Lib.cell?_alloc_some o4 (up x2 o1 o2 o3)
 replace x3 := fun o1 o2 o3 o4 => Lib.cell?_alloc_some o4 (up x3 o1 o2 o3)
 replace x4 := fun o1 o2 o3 o4 => Lib.cell?_alloc_some o4 (up x4 o1 o2 o3)
 replace x5 := fun o1 o2 o3 o4 => Lib.cell?_alloc_some o4 (up x5 o1 o2 o3)
 replace x6 := fun o1 o2 o3 o4 => Lib.cell?_alloc_some o4 (up x6 o1 o2 o3)
 replace x7 := fun o1 o2 o3 o4 => Lib.cell?_alloc_some o4 (up x7 o1 o2 o3)
 replace x8 := fun o1 o2 o3 o4 => Lib.cell?_alloc_some o4 (up x8 o1 o2 o3)
 clear up
 gi_wp2
 have sv0 := fun a m W => run_store Tryz.prog W a v0 m ov0
 have sv1 := fun a m W => run_store Tryz.prog W a v1 m ov1
 have sv2 := fun a m W => run_store Tryz.prog W a v2 m ov2
 have sv3 := fun a m W => run_store Tryz.prog W a v3 m ov3
 have sv4 := fun a m W => run_store Tryz.prog W a v4 m ov4
 have sv5 := fun a m W => run_store Tryz.prog W a v5 m ov5
 have sv6 := fun a m W => run_store Tryz.prog W a v6 m ov6
 have sv7 := fun a m W => run_store Tryz.prog W a v7 m ov7
 have sv8 := fun a m W => run_store Tryz.prog W a v8 m ov8
 have su0 := fun a m W => run_store Tryz.prog W a u0 m ou0
 have su1 := fun a m W => run_store Tryz.prog W a u1 m ou1
 have su2 := fun a m W => run_store Tryz.prog W a u2 m ou2
 have su3 := fun a m W => run_store Tryz.prog W a u3 m ou3
 have su4 := fun a m W => run_store Tryz.prog W a u4 m ou4
 have su5 := fun a m W => run_store Tryz.prog W a u5 m ou5
 have su6 := fun a m W => run_store Tryz.prog W a u6 m ou6
 have su7 := fun a m W => run_store Tryz.prog W a u7 m ou7
 have su8 := fun a m W => run_store Tryz.prog W a u8 m ou8
 have fz : ∀ (d : Nat) (q : Nat) (p : Option Nat), w.frozen? ⟨w.heap.size + d, q, none⟩ = false := fun d q _ => by
  have : w.heap[w.heap.size + d]? = none := Array.getElem?_eq_none (by omega)
  simp [World.frozen?, this]
 have fr : ∀ (d q : Nat) c1 t1 c2 t2 c3 t3 c4 t4, ((((w.alloc (.cells c1 t1)).alloc (.cells c2 t2)).alloc (.cells c3 t3)).alloc (.cells c4 t4)).drew.frozen? ⟨w.heap.size + d, q, none⟩ = false := fun d q c1 t1 c2 t2 c3 t3 c4 t4 => by
  rw [frozen_drew_own, frozen?_alloc_cells, frozen?_alloc_cells, frozen?_alloc_cells, frozen?_alloc_cells]
  exact fz d q none
 have hm : Tryz.prog.follows .mixedOrders = true := mixed
 gi_region_o
 gi_wp2
 refine bodyPost_ret (by simp [results, Tryz.results44, go_sem]; rfl) rfl ?_
 exact ⟨rfl, ((((Below.refl _ _).alloc (Nat.le_refl _) _).alloc (by simp) _).alloc (by simp; omega) _).alloc (by simp; omega) _ |>.drew⟩
set_option maxRecDepth 100000 in
set_option maxHeartbeats 4000000 in
theorem QMt (Bs b0 off0 c0 n0 b1 off1 c1 n1 : Nat) (A0 A1 : Option Addr) (it : Value) (vs : List Value) (l1 : List Keep) (Xf : Nat → Nat → Prop) (w : World) (hn0 : n0 ≤ 99999) (hn1 : n1 ≤ 99999) (hl1 : l1.length = n1)
  (hB0 : w.cell? ⟨Bs, 0, none⟩ = some (.slice A0 n0 c0)) (hB1 : w.cell? ⟨Bs, 1, none⟩ = some (.slice A1 n1 c1)) (hB2 : w.cell? ⟨Bs, 2, none⟩ = some it) (hBl : Bs < w.heap.size) (hBx : ∀ q, ¬ Xf Bs q)
  (hE : 0 < n1 → A1 = some ⟨b1, off1, none⟩ ∧ b1 < w.heap.size ∧ (∀ j, j < n1 * 2 → ¬ Xf b1 (off1 + j)) ∧ ∀ k (hk : k < l1.length), w.cell? ⟨b1, off1 + k * 2, none⟩ = some (.int .i64 l1[k].1) ∧ w.cell? ⟨b1, off1 + k * 2 + 1, none⟩ = some (.int .i64 l1[k].2.1))
  (hP : 0 < n0 → A0 = some ⟨b0, off0, none⟩ ∧ vs.length = n0 * 9 ∧ b0 < w.heap.size ∧ (∀ j, j < vs.length → ¬ Xf b0 (off0 + j)) ∧ (∀ v ∈ vs, v.oneCell' = true) ∧ ∀ j v, vs[j]? = some v → w.cell? ⟨b0, off0 + j, none⟩ = some v)
  (hin : ∀ k (hk : k < l1.length), (0 ≤ l1[k].1 ∧ l1[k].1 < n0) ∧ 0 ≤ l1[k].2.1 ∧ l1[k].2.1 < n0) :
  ItOk Tryz.prog 81 [.pointer (some ⟨Bs, 0, none⟩)] (encP vs l1) Xf w := by
 intro l J Jx W hJ hJx hK hY h0 _
 have HE := Lib.hid hE
 have HP := Lib.hid hP
 have HI := Lib.hid hin
 clear hE hP hin
 refine callsIn_of_wp (F := Fw none) Tryz.func81 rfl trivial ?_ rfl
 simp only [Tryz.ntmps81, List.size_toArray, List.length_cons, List.length_nil, Nat.reduceAdd, Nat.reduceSub, Array.replicate_succ, Array.replicate_zero, List.push_toArray, List.append_toArray, List.nil_append, List.cons_append]
 have hb1 : W.cell? ⟨Bs, 1, none⟩ = some (.slice A1 n1 c1) := ((hK _ W h0).2 Bs 1 hBl (hBx 1)).trans hB1
 gi_wp2
 gi_loopw [7] (fun i wr => ∃ k : Nat, k ≤ n1 ∧ i = .int .i64 (k : Int) ∧ J ((encP vs l1).drop k) wr)
  (fun i _ => n1 - (intOf i).toNat)
 case atStart => exact ⟨0, Nat.zero_le _, rfl, h0⟩
 case round =>
  obtain ⟨k, hk, rfl, hJs⟩ := hrel
  by_cases hlt : k < n1
  ·have hlt2 : k < l1.length := by omega
   obtain ⟨rfl, hbl, hnx, hcl⟩ := HE.out (by omega)
   obtain ⟨⟨a0, a1⟩, s0, s1⟩ := HI.out k hlt2
   obtain ⟨rfl, hvl, hpl, hpx, hpo, hpc⟩ := HP.out (by omega)
   obtain ⟨ca, cb⟩ := hcl k hlt2
   have hJ2 := hJs
   have hlen : k < (encP vs l1).length := by simpa [encP] using hlt2
   rw [List.drop_eq_getElem_cons hlen] at hJ2
   have hrow : (encP vs l1)[k] = #[cut9 vs l1[k].1.toNat, cut9 vs l1[k].2.1.toNat] := by simp [encP]
   rw [hrow] at hJ2
   have keep : ∀ b q, b < w.heap.size → ¬ Xf b q → wr.cell? ⟨b, q, none⟩ = w.cell? ⟨b, q, none⟩ := fun b q h1 h2 => (hK _ wr hJs).2 b q h1 h2
   have hsz : w.heap.size ≤ wr.heap.size := (hK _ wr hJs).1
   generalize hxa : l1[k].1 = xa at *
   generalize hxs : l1[k].2.1 = xs at *
   obtain ⟨a, rfl⟩ := Int.eq_ofNat_of_zero_le a0
   obtain ⟨s, rfl⟩ := Int.eq_ofNat_of_zero_le s0
   have ka : a < n0 := by omega
   have ks : s < n0 := by omega
   have cel : ∀ q, q < n0 → ∀ i, i < 9 → ∃ v, vs[q * 9 + i]? = some v ∧ wr.cell? ⟨b0, off0 + (q * 9 + i), none⟩ = some v ∧ v.oneCell' = true := by
    intro q hq i hi
    have hlt : q * 9 + i < vs.length := by omega
    exact ⟨_, List.getElem?_eq_getElem hlt, (keep b0 _ hpl (hpx _ hlt)).trans (hpc _ _ (List.getElem?_eq_getElem hlt)), hpo _ (List.getElem_mem hlt)⟩
   have da : wr.cell? ⟨b1, off1 + k * 2, none⟩ = some (.int .i64 (a : Int)) := (keep b1 _ hbl (hnx _ (by omega))).trans ca
   have db : wr.cell? ⟨b1, off1 + k * 2 + 1, none⟩ = some (.int .i64 (s : Int)) := (keep b1 _ hbl (by rw [Nat.add_assoc]; exact hnx _ (by omega))).trans cb
   have dB0 : wr.cell? ⟨Bs, 0, none⟩ = some (.slice (some ⟨b0, off0, none⟩) n0 c0) := (keep Bs 0 hBl (hBx 0)).trans hB0
   have dB1 : wr.cell? ⟨Bs, 1, none⟩ = some (.slice (some ⟨b1, off1, none⟩) n1 c1) := (keep Bs 1 hBl (hBx 1)).trans hB1
   have dB2 : wr.cell? ⟨Bs, 2, none⟩ = some it := (keep Bs 2 hBl (hBx 2)).trans hB2
   clear keep hnx hpx hpc hcl ca cb hB0 hB1 hB2 hb1
   obtain ⟨v0, e0, w0, ov0⟩ := cel a ka 0 (by omega)
   obtain ⟨v1, e1, w1, ov1⟩ := cel a ka 1 (by omega)
   obtain ⟨v2, e2, w2, ov2⟩ := cel a ka 2 (by omega)
   obtain ⟨v3, e3, w3, ov3⟩ := cel a ka 3 (by omega)
   obtain ⟨v4, e4, w4, ov4⟩ := cel a ka 4 (by omega)
   obtain ⟨v5, e5, w5, ov5⟩ := cel a ka 5 (by omega)
   obtain ⟨v6, e6, w6, ov6⟩ := cel a ka 6 (by omega)
   obtain ⟨v7, e7, w7, ov7⟩ := cel a ka 7 (by omega)
   obtain ⟨v8, e8, w8, ov8⟩ := cel a ka 8 (by omega)
   obtain ⟨u0, f0, x0, ou0⟩ := cel s ks 0 (by omega)
   obtain ⟨u1, f1, x1, ou1⟩ := cel s ks 1 (by omega)
   obtain ⟨u2, f2, x2, ou2⟩ := cel s ks 2 (by omega)
   obtain ⟨u3, f3, x3, ou3⟩ := cel s ks 3 (by omega)
   obtain ⟨u4, f4, x4, ou4⟩ := cel s ks 4 (by omega)
   obtain ⟨u5, f5, x5, ou5⟩ := cel s ks 5 (by omega)
   obtain ⟨u6, f6, x6, ou6⟩ := cel s ks 6 (by omega)
   obtain ⟨u7, f7, x7, ou7⟩ := cel s ks 7 (by omega)
   obtain ⟨u8, f8, x8, ou8⟩ := cel s ks 8 (by omega)
   rw [Nat.add_zero] at e0 w0 f0 x0
   rw [← Nat.add_assoc] at w1 w2 w3 w4 w5 w6 w7 w8 x1 x2 x3 x4 x5 x6 x7 x8
   clear cel hrow
   gi_wp2_with fail
   refine (QVN hlt ka ks hn0 hn1 (Nat.lt_of_lt_of_le hpl hsz) (Nat.lt_of_lt_of_le hbl hsz) da db w0 w1 w2 w3 w4 w5 w6 w7 w8 x0 x1 x2 x3 x4 x5 x6 x7 x8 ov0 ov1 ov2 ov3 ov4 ov5 ov6 ov7 ov8 ou0 ou1 ou2 ou3 ou4 ou5 ou6 ou7 ou8).mono ?_
   rintro e W2 ⟨rfl, hbel⟩
   obtain ⟨fn, tmps, assign, body, hy, hR⟩ := hY _ _ W2 (hJ _ _ _ hJ2 hbel)
   rw [Int.toNat_natCast, Int.toNat_natCast, QKJ e0 e1 e2 e3 e4 e5 e6 e7 e8, QKJ f0 f1 f2 f3 f4 f5 f6 f7 f8] at hy
   clear w0 w1 w2 w3 w4 w5 w6 w7 w8 x0 x1 x2 x3 x4 x5 x6 x7 x8 da db dB0 dB1 dB2 hY hJ2
   gi_wp2
   refine hR.mono ?_
   rintro e W3 (⟨rfl, hJ3⟩ | ⟨rfl, hJx3⟩)
   ·gi_wp2
    go_roundw
    case rel => exact ⟨k + 1, by omega, by simp, hJ3⟩
    case measure => simp [intOf]; omega
   ·gi_wp2
    refine bodyPost_ret (results_none rfl _ _ _) rfl ?_
    exact ⟨⟨_, rfl⟩, .inr hJx3⟩
  ·obtain rfl : k = n1 := by omega
   rw [List.drop_of_length_le (by simp [encP]; omega)] at hJs
   gi_wp2
   go_end0
   exact ⟨⟨_, rfl⟩, .inl hJs⟩
def prsI (e : Qam) : List (Qab × Qab × Unit) := (xEdg e).map fun x => (epAt (xEps e) x.1.toNat, (epAt (xEps e) x.2.1.toNat, ()))
def prsOk (e : Qam) : Bool := decide ((xEps e).length ≤ 99999 ∧ (xEdg e).length ≤ 99999) && (xEdg e).all fun x => decide ((0 ≤ x.1 ∧ x.1 < (xEps e).length) ∧ 0 ≤ x.2.1 ∧ x.2.1 < (xEps e).length)
def Qhy : Itr := mkIt [.ptr 50000 0] [Qap] (.pr Qae (.pr Qae .nil)) (fun d => (prsOk d.1)) (fun d => (prsI d.1))
noncomputable def QDN : TC := (.sq (.reg (rT Tryz.f41 0)) (.sq (.reg (rT Tryz.f41 1)) .rt))
def QQv : List (RV × Option Ty) := [((.t 2), none)]
def g_f41 : G := ⟨TYs, [], 4, EL [], keeps, (fun _ _ => none), IL [], RL []⟩
def r_f41 (p0 : Qam) : Option (V × List VO) := some (.fn 81 [(.ptr 50000 0)], [.box (.t Qap p0)])
theorem e_f41 (p0 : Qam) : runF g_f41 QDN QQv true [.t Qap p0] [] = r_f41 p0 := by kernel_rfl
theorem QRo : Qai Tryz.prog 41 := .inr ⟨by decide, _, Tryz.func41, by kernel_rfl, by kernel_rfl⟩
theorem gk_f41 : GOk Tryz.prog g_f41 := Qal _ (fun p hp => by cases hp)
theorem lk_f41 : QDN.lok g_f41 := by repeat (first | exact trivial | refine ⟨?_, ?_⟩)
def QEg : Ent := specO (.pr Qap .nil) (fun _ => true) (fun x => .fn 81 [.ptr 50000 0]) (fun x => [.box (.t Qap x.1)])
theorem QQ8 : Meets Tryz.prog 41 (strip QEg) := Qpw (R := runF g_f41 QDN QQv true) (mG Tryz.func41 (by kernel_rfl) Tryz.ntmps41 (by kernel_rfl) gk_f41 lk_f41) fun x _ => (e_f41 x.1).trans rfl
theorem QJO {X : Nat → Nat → Prop} {w : World} {l : List Qab} {vs : List Value} (h : Cs X w nowhere (l.flatMap Qae.cells) vs) {a : Nat} (ha : a < l.length) : C X w nowhere (V.t Qae (epAt l a)).d (cut9 vs a) := by
 rw [show epAt l a = l[a] by simp only [epAt, List.getD_eq_getElem?_getD, List.getElem?_eq_getElem ha, Option.getD_some]]
 simp only [V.d]
 rw [Ty.d_row Qae _ rfl]
 simp only [C]
 refine ⟨_, rfl, ?_⟩
 have k1 := h.drop_ (a * Qae.sz)
 rw [QcU, List.drop_eq_getElem_cons ha, List.flatMap_cons] at k1
 have k2 := k1.take_ Qae.sz
 rw [List.take_left' (Qae.cells_len _)] at k2
 exact k2
theorem QUx {X : Nat → Nat → Prop} {w : World} {l : List Keep} {vs : List Value} (h : Cs X w nowhere (l.flatMap Qah.cells) vs) {k : Nat} (hk : k < l.length) : vs[k * 2]? = some (.int .i64 l[k].1) ∧ vs[k * 2 + 1]? = some (.int .i64 l[k].2.1) := by
 have k1 := h.drop_ (k * Qah.sz)
 rw [QcU, List.drop_eq_getElem_cons hk, List.flatMap_cons] at k1
 have k3 : Cs X w nowhere (D.v (.int .i64 l[k].1) :: D.v (.int .i64 l[k].2.1) :: (l.drop (k + 1)).flatMap Qah.cells) (vs.drop (k * 2)) := k1
 simp only [Cs] at k3
 obtain ⟨u0, r0, q0, c0, u1, r1, q1, c1, _⟩ := k3
 have d0 : (vs.drop (k * 2))[0]? = some u0 := by rw [q0]; rfl
 have d1 : (vs.drop (k * 2))[1]? = some u1 := by rw [q0, q1]; rfl
 rw [List.getElem?_drop] at d0 d1
 rw [(C.v c0).1] at d0
 rw [(C.v c1).1] at d1
 exact ⟨d0, d1⟩
theorem Qz9 : Iters Tryz.prog 81 Qhy := by
 refine Iters.weak (by decide) (enters_of Tryz.func81 (by kernel_rfl) rfl) fun caps objs yr rows h X w σ lb hfin hl hc => ?_
 unfold Qhy mkIt at h
 split at h
 ·rename_i x d hx hd
  simp only [Option.some.injEq, Prod.mk.injEq] at h
  obtain ⟨hok, h⟩ := h
  cases h
  have hcaps := QkN hx
  subst hcaps
  cases objs with
  | nil => simp [Qbt] at hd
  | cons o os =>
   cases o with
   | box cv =>
    cases os with
    | cons o2 os => simp [Qbt] at hd
    | nil =>
     simp only [Qbt] at hd
     split at hd
     ·rename_i l u hl1 _
      simp only [Option.some.injEq] at hd
      subst hd
      have hl2 : V.as Qap cv = some l := hl1
      simp only [prsOk, Bool.and_eq_true, decide_eq_true_eq, List.all_eq_true] at hok
      obtain ⟨⟨n0, n1⟩, hin⟩ := hok
      obtain ⟨Bs, ty, us, h1, h2, h3, h4⟩ := Qv0 (show Qap.row = true from rfl) hl2 (hl.at_ 0 _ rfl).1
      have h3' : Cs X w σ [.sl (List.length l.1) (List.flatMap Qae.cells l.1), .sl (List.length l.2.1) (List.flatMap Qah.cells l.2.1), .sl (List.length l.2.2.1) (List.flatMap QaX.cells l.2.2.1)] us := h3
      simp only [Cs] at h3'
      obtain ⟨u0, r0, rfl, k0, u1, r1, rfl, k1, u2, r2, rfl, k2, rfl⟩ := h3'
      simp only [C] at k0 k1
      obtain ⟨A0, c0, rfl, _, _, _, g4⟩ := k0
      obtain ⟨A1, c1, rfl, _, _, _, e4⟩ := k1
      simp only [mkVt, SV.mk, V.ds, V.d, Cs, C] at hc
      obtain ⟨p, ps, rfl, ⟨b', q1, rfl⟩, rfl⟩ := hc
      have h1 : σ 50000 = .box Bs := h1
      rw [h1] at q1
      injection q1 with q1
      subst q1
      have hBl := (Array.getElem?_eq_some_iff.1 h2).1
      have hBx : ∀ q, ¬ (X Bs q ∧ ∀ j, j < [VO.box cv].length → (σ (50000 + j)).blk ≠ some Bs) := fun q hq => hq.2 0 (by simp) (by rw [h1]; rfl)
      obtain ⟨b0, off0, vs, hP⟩ : ∃ b0 off0 vs, 0 < List.length l.1 → A0 = some ⟨b0, off0, none⟩ ∧ Cs X w nowhere (List.flatMap Qae.cells l.1) vs ∧ Fix X w b0 off0 vs := by
       rcases Nat.eq_zero_or_pos (List.length l.1) with h0 | hp
       ·exact ⟨0, 0, [], fun h => absurd h (by omega)⟩
       ·obtain ⟨b0, off0, vs, x1, x2, x3⟩ := g4 hp
        exact ⟨b0, off0, vs, fun _ => ⟨x1, x2, x3⟩⟩
      obtain ⟨b1, off1, ws, hE⟩ : ∃ b1 off1 ws, 0 < List.length l.2.1 → A1 = some ⟨b1, off1, none⟩ ∧ Cs X w nowhere (List.flatMap Qah.cells l.2.1) ws ∧ Fix X w b1 off1 ws := by
       rcases Nat.eq_zero_or_pos (List.length l.2.1) with h0 | hp
       ·exact ⟨0, 0, [], fun h => absurd h (by omega)⟩
       ·obtain ⟨b0, off0, vs, x1, x2, x3⟩ := e4 hp
        exact ⟨b0, off0, vs, fun _ => ⟨x1, x2, x3⟩⟩
      have hin2 : ∀ k (hk : k < l.2.1.length), (0 ≤ (l.2.1[k]).1 ∧ (l.2.1[k]).1 < (l.1.length : Int)) ∧ 0 ≤ (l.2.1[k]).2.1 ∧ (l.2.1[k]).2.1 < (l.1.length : Int) := fun k hk => hin _ (List.getElem_mem hk)
      refine ⟨encP vs l.2.1, ⟨by simp [prsI, encP, xEdg], fun i r v hr hv => ?_⟩, QMt Bs b0 off0 c0 (List.length l.1) b1 off1 c1 (List.length l.2.1) A0 A1 u2 vs l.2.1 _ w n0 n1 rfl (by simp [World.cell?, h2]) (by simp [World.cell?, h2]) (by simp [World.cell?, h2]) hBl hBx (fun hp => ?_) (fun hp => ?_) hin2⟩
      ·simp only [prsI, encP, xEdg, List.getElem?_map, Option.map_eq_some_iff] at hr hv
       obtain ⟨x, hx, rfl⟩ := hr
       obtain ⟨y, hy, rfl⟩ := hv
       rw [hx] at hy
       injection hy with hy
       subst hy
       have hb := hin x (List.mem_of_getElem? hx)
       obtain ⟨⟨a0, a1⟩, s0, s1⟩ := hb
       simp only [xEps] at a1 s1
       obtain ⟨_, g5, _⟩ := hP (by omega)
       simp only [Ty.canon, V.ds, Cs]
       exact ⟨_, _, rfl, QJO g5 (by omega), _, _, rfl, QJO g5 (by omega), rfl⟩
      ·obtain ⟨x1, x2, x3⟩ := hE hp
       have hvl := x2.len
       rw [QcK] at hvl
       have hvl : ws.length = List.length l.2.1 * 2 := hvl
       refine ⟨x1, x3.lt, fun j hj hx => x3.nx j (by omega) hx.1, fun k hk => ?_⟩
       obtain ⟨y1, y2⟩ := QUx x2 hk
       refine ⟨x3.at_ _ _ y1, ?_⟩
       rw [Nat.add_assoc]
       exact x3.at_ _ _ y2
      ·obtain ⟨x1, x2, x3⟩ := hP hp
       have hvl := x2.len
       rw [QcK] at hvl
       have hvl : vs.length = List.length l.1 * 9 := hvl
       exact ⟨x1, hvl, x3.lt, fun j hj hx => x3.nx j hj hx.1, x3.one, fun j v hv => x3.at_ j v hv⟩
     ·cases hd
   | no => simp [Qbt] at hd
   | arr e t l => simp [Qbt] at hd
 ·cases h
end Go.Proofs.YtckcgijklnloiaaGreat.K
namespace Go.Proofs.YtckcgijklnloiaaGreat.K
open Go.RowKit
noncomputable section
abbrev ERow : Type := Qab × Qab × Unit
def prow (e : Qam) (x : Keep) : ERow := (epAt (xEps e) x.1.toNat, (epAt (xEps e) x.2.1.toNat, ()))
theorem QzF (e : Qam) : prsI e = (xEdg e).map (prow e) := rfl
def QGJ (d : Int) (z : ERow) : Bool := ine (QaM z.1 z.2.1 d).2 0
def outO (d : Int) (z : ERow) : Keep := bif QGJ d z then zK else (QaM z.1 z.2.1 d).1
def brkU (d : Int) : List ERow → Nat → List Int
 | [], _ => []
 | z :: r, k => bif QGJ d z then (k : Int) :: brkU d r (k + 1) else brkU d r (k + 1)
def QhP (zs : List ERow) : Bool := zs.all fun z => Qbw z.1 z.2.1
def allF (e : Qam) (d : Int) : List Keep × List Int × Int :=
 bif !estOk e then ([], [], 31) else bif !dayF d then ([], [], 2) else ((prsI e).map (outO d), brkU d (prsI e) 0, 0)
theorem QA1 {e : Qam} (hl : QbS e = true) (h : estOk e = true) : prsOk e = true ∧ QhP (prsI e) = true ∧ (prsI e).length ≤ 40 := by
 have hp := QvG h
 have hlen : (xEps e).length ≤ 99999 ∧ (xEdg e).length ≤ 99999 := ⟨by omega, by omega⟩
 have hin : ∀ x ∈ xEdg e, (0 ≤ x.1 ∧ x.1 < (xEps e).length) ∧ 0 ≤ x.2.1 ∧ x.2.1 < (xEps e).length := fun x hx => by
  obtain ⟨k, hk⟩ := List.mem_iff_getElem?.1 hx
  obtain ⟨hk1, rfl⟩ := List.getElem?_eq_some_iff.1 hk
  have := Qto h hk1
  have he : egAt (xEdg e) k = (xEdg e)[k] := by simp only [egAt, List.getD_eq_getElem?_getD, List.getElem?_eq_getElem hk1, Option.getD_some]
  rw [he] at this
  exact ⟨this.1, this.2.1⟩
 refine ⟨?_, ?_, ?_⟩
 ·simp only [prsOk, Bool.and_eq_true, decide_eq_true_eq, List.all_eq_true]
  exact ⟨hlen, hin⟩
 ·rw [QzF]
  simp only [QhP, List.all_eq_true, List.mem_map]
  rintro z ⟨x, hx, rfl⟩
  obtain ⟨⟨a0, a1⟩, s0, s1⟩ := hin x hx
  exact Bool.and_eq_true_iff.2 ⟨Qtp (Qtm hl) (decide_eq_true ⟨a0, by omega⟩), Qtp (Qtm hl) (decide_eq_true ⟨s0, by omega⟩)⟩
 ·rw [QzF, List.length_map]
  exact hp.2.2.2.2.2
noncomputable def QOx : List DO := dT Tryz.f14 14
def QeA : Fg := ⟨[(3, none), (7, none), (8, none)], [(60000, some tI), (60001, none), (60002, none), (39, none), (43, none), (20700, none), (20800, none)]⟩
noncomputable def Qmo : TC := (.sq (.reg (rT Tryz.f14 8)) (.reg (rT Tryz.f14 9)))
noncomputable def Qmm : TC := (.bk 2 (.sq (.reg (rT Tryz.f14 10)) (.sq (.sq (.reg (rT Tryz.f14 11)) (.cd (.t 33) (.reg (rT Tryz.f14 12)) .sk)) (.reg (rT Tryz.f14 13)))))
noncomputable def QDZ : TC := (.sq (.reg (rT Tryz.f14 0)) (.sq (.bk 0 (.sq (.reg (rT Tryz.f14 1)) (.cd (.t 13) (.sq (.reg (rT Tryz.f14 2)) .rt) (.sq (.reg (rT Tryz.f14 3)) (.cd (.t 17) (.sq (.reg (rT Tryz.f14 4)) .rt) .sk))))) (.sq (.reg (rT Tryz.f14 5)) (.sq (.reg (rT Tryz.f14 6)) (.sq (.sq (.reg (rT Tryz.f14 7)) (.bk 1 (.nf 7 0 39 20700 (.nf 8 0 3 20800 (.rf 0 QeA (.t 22) (.pr Qae (.pr Qae .nil)) [23, 24] [3, 7, 8] Qmo Qmm))))) (.sq (.dr QOx [(0, [7, 43, 20700]), (1, [8, 39, 20800]), (2, [43, 20700]), (3, [39, 20800]), (4, [])] (.of [0, 1, 2, 3, 4])) .rt))))))
def QQH : List (RV × Option Ty) := [((.t 4), some (.sl Qah)), ((.t 5), some (.sl tI)), ((.t 6), some tI)]
abbrev Qsc : Sh := ⟨[(3, .ptr 60000 0), (7, .ptr 60001 0), (8, .ptr 60002 0)], [(60000, .box tI), (60001, .bag [.ms 20700]), (60002, .bag [.ms 20800]), (39, .no), (43, .no), (20700, .arr 39 Qah), (20800, .arr 3 tI)]⟩
def Qmu (y60000 : Int) (y20700 : List Keep) (y20800 : List Int) : VS := Qsc.st ((), (), (), ()) (y60000, ((), ()), ((), ()), (), (), y20700, y20800, ())
abbrev QoD : Sh := ⟨[(3, .ptr 60000 0), (7, .ptr 60001 0), (8, .ptr 60002 0)], [(60000, .box tI), (60001, .bag [.ms 20700]), (60002, .bag [.ms 20800]), (39, .no), (43, .no), (20700, .arr 39 Qah), (20800, .arr 3 tI)]⟩
def Qdv (y60000 : Int) (y20700 : List Keep) (y20800 : List Int) : VS := QoD.st ((), (), (), ()) (y60000, ((), ()), ((), ()), (), (), y20700, y20800, ())
def QtE : VS → List (Ty.T (.pr Qae (.pr Qae .nil))) → Option (Bool × List (Bool × Exit × VS)) := mkR Qsc (fun zs x y => (QhP zs && decide (y.2.2.2.2.2.1.length + zs.length ≤ 1000 ∧ y.2.2.2.2.2.2.1.length ≤ y.2.2.2.2.2.1.length))) (fun zs x y => [(true, .normal, Qdv (y.1) (y.2.2.2.2.2.1 ++ zs.map (outO y.1)) (y.2.2.2.2.2.2.1 ++ brkU y.1 zs y.2.2.2.2.2.1.length))])
def g_f14 : G := ⟨TYs, [], 46, EL [(39, Qzp), (40, QEh), (41, QEg), (42, QEf)], keeps, (Ls [fun _ => none]), IL [(81, Qhy)], (RL [⟨(.pr Qae (.pr Qae .nil)), QtE⟩])⟩
def QLG (z : (Qab × (Qab × Unit))) (y60000 : Int) (y20700 : List Keep) (y20800 : List Int) : Option (Exit × VS) :=
 let a1 := QaM z.1 z.2.1 y60000
 let a2 := ((a1.1).1, (((a1.1).2).1, ()))
 br (QfK z.1 z.2.1 y60000) (br (ine (a1.2) 0) (br (cApp y20800 ([(llen y20700)]) 8) (br (cApp y20700 ([(0, (0, ()))]) 16) (some (.normal, Qmu y60000 (y20700 ++ ([(0, (0, ()))])) (y20800 ++ ([(llen y20700)])))) none) none) (br (cApp y20700 ([a2]) 16) (some (.normal, Qmu y60000 (y20700 ++ ([a2])) y20800)) none)) none
noncomputable def Qjs (zs : List (Qab × (Qab × Unit))) (y60000 : Int) (y20700 : List Keep) (y20800 : List Int) : Option (Exit × VS) := Qc4 (Qeh g_f14 QeA (.pr Qae (.pr Qae .nil)) [23, 24] Qmo Qmm) zs (Qmu y60000 y20700 y20800)
noncomputable def QxZ (z : (Qab × (Qab × Unit))) (zs : List (Qab × (Qab × Unit))) (y60000 : Int) (y20700 : List Keep) (y20800 : List Int) : Option (Exit × VS) :=
 let a1 := QaM z.1 z.2.1 y60000
 let a2 := ((a1.1).1, (((a1.1).2).1, ()))
 br (QfK z.1 z.2.1 y60000) (br (ine (a1.2) 0) (br (cApp y20800 ([(llen y20700)]) 8) (br (cApp y20700 ([(0, (0, ()))]) 16) (Qjs zs y60000 (y20700 ++ ([(0, (0, ()))])) (y20800 ++ ([(llen y20700)]))) none) none) (br (cApp y20700 ([a2]) 16) (Qjs zs y60000 (y20700 ++ ([a2])) y20800) none)) none
def Qte (zs : List (Qab × (Qab × Unit))) (y60000 : Int) (y20700 : List Keep) (y20800 : List Int) : Option (Exit × VS) := some (.normal, Qdv (y60000) (y20700 ++ zs.map (outO y60000)) (y20800 ++ brkU y60000 zs y20700.length))
theorem QOW (z : (Qab × (Qab × Unit))) (y60000 : Int) (y20700 : List Keep) (y20800 : List Int) : Qeh g_f14 QeA (.pr Qae (.pr Qae .nil)) [23, 24] Qmo Qmm z (Qmu y60000 y20700 y20800) = QLG z y60000 y20700 y20800 := by kernel_rfl
theorem QJb (y60000 : Int) (y20700 : (List Keep)) (y20800 : (List Int)) : Qjs [] y60000 y20700 y20800 = some (.normal, Qdv y60000 y20700 y20800) := rfl
theorem QM4 (z : (Qab × (Qab × Unit))) (zs : List (Qab × (Qab × Unit))) (y60000 : Int) (y20700 : List Keep) (y20800 : List Int) : Qjs (z :: zs) y60000 y20700 y20800 = QxZ z zs y60000 y20700 y20800 := (Qif _ _ _ _).trans (by
 rw [QOW]
 simp only [QLG, QxZ, Qay, nxt_n, nxt_r, nxt_e, nxt_0]
 rfl)
def r_f14 (p0 : Qam) (p1 : Int) : Option (V × List VO) := br (QbS p0) (br (ine (QlQ p0) 0) (some (.tu [(.t (.sl Qah) ([] : List Keep)), (.t (.sl tI) ([] : List Int)), (.t tI 31)], [])) (br (!(dayF p1)) (some (.tu [(.t (.sl Qah) ([] : List Keep)), (.t (.sl tI) ([] : List Int)), (.t tI 2)], [])) (br (prsOk p0) (br (QhP (prsI p0) && decide (([] : List Keep).length + (prsI p0).length ≤ 1000 ∧ ([] : List Int).length ≤ ([] : List Keep).length)) (some (.tu [(.t (.sl Qah) (([] : List Keep) ++ (prsI p0).map (outO p1))), (.t (.sl tI) (([] : List Int) ++ brkU p1 (prsI p0) ([] : List Keep).length)), (.t tI 0)], [])) none) none))) none
theorem e_f14 (p0 : Qam) (p1 : Int) : runF g_f14 QDZ QQH false [.t Qap p0, .t tI p1] [] = r_f14 p0 p1 := by kernel_rfl
theorem en_f14 : Qai Tryz.prog 14 := .inr ⟨by decide, _, Tryz.func14, by kernel_rfl, by kernel_rfl⟩
theorem gk_f14 : GOk Tryz.prog g_f14 := Qal _ (gA (gC QJ2 QIj (gC QRp QQ9 (gC QRo QQ8 (gC QRn QQ7 gN)))))
 [(81, Qhy)] (by
 intro p hp
 simp only [List.mem_cons, List.not_mem_nil, or_false] at hp
 rcases hp with rfl
 ·exact Qz9)
theorem QUw (zs : List (Qab × (Qab × Unit))) (y60000 : Int) (y20700 : List Keep) (y20800 : List Int) (h : (QhP zs && decide (y20700.length + zs.length ≤ 1000 ∧ y20800.length ≤ y20700.length)) = true) : Qjs zs y60000 y20700 y20800 = Qte zs y60000 y20700 y20800 := by
 simp only [Bool.and_eq_true, decide_eq_true_eq] at h
 obtain ⟨hr, h1, h2⟩ := h
 induction zs generalizing y20700 y20800 with
 | nil =>
  rw [QJb]
  simp only [Qte, List.map_nil, List.append_nil, brkU]
 | cons z zs ih =>
  simp only [QhP, List.all_cons, Bool.and_eq_true] at hr
  simp only [List.length_cons] at h1
  rw [QM4]
  have c1 : QfK z.1 z.2.1 y60000 = true := hr.1
  have c2 : ∀ v, cApp y20800 [v] 8 = true := fun v => cAppN (by omega) (by simp only [List.length_singleton]; omega)
  have c3 : ∀ v, cApp y20700 [v] 16 = true := fun v => cAppN (by omega) (by simp only [List.length_singleton]; omega)
  simp only [QxZ, c1, c2, c3, Qac]
  rw [ih _ _ hr.2 (by simp only [List.length_append, List.length_singleton]; omega) (by simp only [List.length_append, List.length_singleton]; omega), ih _ _ hr.2 (by simp only [List.length_append, List.length_singleton]; omega) (by simp only [List.length_append, List.length_singleton]; omega)]
  simp only [Qte, List.map_cons, brkU, outO, QGJ, List.append_assoc, List.singleton_append, List.length_append, List.length_singleton]
  cases ine (QaM z.1 z.2.1 y60000).2 0 <;> rfl
theorem QM2 : ∀ S (rows : List (Ty.T (.pr Qae (.pr Qae .nil)))) l p, g_f14.R 0 (fgt QeA S) (.pr Qae (.pr Qae .nil)) rows = some (true, l) → pickA l = some p → Qc4 (Qeh g_f14 QeA (.pr Qae (.pr Qae .nil)) [23, 24] Qmo Qmm) rows (fgt QeA S) = some p := by
 intro S rows l p hR hp
 rw [show g_f14.R 0 (fgt QeA S) (.pr Qae (.pr Qae .nil)) rows = QtE (fgt QeA S) rows from RL_at (l := [⟨(.pr Qae (.pr Qae .nil)), QtE⟩]) (j := 0) (F := QtE) rfl _ _] at hR
 refine Qyj (s := Qsc) ⟨by decide, by decide⟩ (by kernel_rfl) (fun zs x y hok p hp => ?_) S rows l p hR hp
 simp only [Qaq, Qan] at hp
 exact (QUw zs y.1 y.2.2.2.2.2.1 y.2.2.2.2.2.2.1 (by first | rfl | simpa using hok)).trans hp
theorem lk_f14 : QDZ.lok g_f14 := by
 repeat (first | exact trivial | exact QM2 | refine ⟨?_, ?_⟩)
theorem s_f14 (e : Qam) (d : Int) (h : QfU e d = true) : r_f14 e d = some (.tu [.t (.sl Qah) (allF e d).1, .t (.sl tI) (allF e d).2.1, .t tI (allF e d).2.2], []) := by
 have hl : QbS e = true := h
 simp only [r_f14, hl, Qac, Qqq, List.nil_append, List.length_nil, Nat.zero_add, Nat.le_refl, and_true]
 unfold allF
 cases he : estOk e with
 | false => rfl
 | true =>
  obtain ⟨h1, h2, h3⟩ := QA1 hl he
  rw [Bool.not_true, Qaf]
  cases dayF d with
  | false => rfl
  | true =>
   rw [Bool.not_true, Qaf, h1, Qac, h2, Bool.true_and, decide_eq_true (by omega), Qac]
   rfl
def QPX : Ent := spec (.pr Qap (.pr tI .nil)) (fun x => (QfU x.1 x.2.1)) (fun x => (.tu [(.t (.sl Qah) ((allF x.1 x.2.1).1)), (.t (.sl tI) (((allF x.1 x.2.1).2).1)), (.t tI (((allF x.1 x.2.1).2).2))]))
theorem ms_f14 : Meets Tryz.prog 14 (strip QPX) := Qag (R := runF g_f14 QDZ QQH false) (mG Tryz.func14 (by kernel_rfl) Tryz.ntmps14 (by kernel_rfl) gk_f14 lk_f14) fun x hok => (e_f14 x.1 x.2.1).trans (s_f14 x.1 x.2.1 hok)
end
end Go.Proofs.YtckcgijklnloiaaGreat.K
