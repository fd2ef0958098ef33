import Derived.Test.YtckcgijklnloiaaGreatQ8
import Derived.RangeFuncCalls
import Derived.RangeFuncBound
import Derived.Shelf.RegionOpen
import Derived.OwnWalkIn
import Derived.TacticsInMore
import Derived.LoopNIn
import Derived.LoopIn
import Derived.Lib.SliceRun
set_option linter.unusedSimpArgs false
set_option linter.unusedVariables false
namespace Go.Proofs.YtckcgijklnloiaaGreat.K
open Go.RowKit
noncomputable section
abbrev egAt (l : List Keep) (k : Nat) : Keep := l.getD k zK
def egLt (a b : Keep) : Bool := !igt a.1 b.1 && !(ieq a.1 b.1 && ige a.2.1 b.2.1)
def egIn (n : Int) (x : Keep) : Bool := !ilt x.1 0 && (!ige x.1 n && (!ilt x.2.1 0 && (!ige x.2.1 n && !ieq x.1 x.2.1)))
def egOk (n : Int) (l : List Keep) (k : Nat) : Bool := egIn n (egAt l k) && (decide (k = 0) || egLt (egAt l (k - 1)) (egAt l k))
def egUp (n : Int) (l : List Keep) (k : Nat) : Bool := (List.range' k (l.length - k)).all (egOk n l)
theorem QPi (n : Int) (l : List Keep) : egUp n l l.length = true := by
 unfold egUp
 rw [Nat.sub_self]
 rfl
theorem QLi {n : Int} {l : List Keep} {k : Nat} (hk : k < l.length) : egUp n l k = (egOk n l k && egUp n l (k + 1)) := by
 have : l.length - k = (l.length - (k + 1)) + 1 := by omega
 unfold egUp
 rw [this, List.range'_succ, List.all_cons]
theorem QPh {β : Type} (c1 c2 c3 c4 c5 u : Bool) (R E : Option β) : br c1 R (br c2 R (br c3 R (br c4 R (br c5 R (br (!u) R E))))) = br (!(((!c1 && (!c2 && (!c3 && (!c4 && !c5)))) && true) && u)) R E := by
 cases c1 <;> cases c2 <;> cases c3 <;> cases c4 <;> cases c5 <;> rfl
theorem QPg {β : Type} (c1 c2 c3 c4 c5 a b c u : Bool) (R E : Option β) : br c1 R (br c2 R (br c3 R (br c4 R (br c5 R (br a R (br b (br c R (br (!u) R E)) (br (!u) R E))))))) = br (!(((!c1 && (!c2 && (!c3 && (!c4 && !c5)))) && (!a && !(b && c))) && u)) R E := by
 cases c1 <;> cases c2 <;> cases c3 <;> cases c4 <;> cases c5 <;> cases a <;> cases b <;> cases c <;> rfl
theorem QIN {k : Nat} (hk : k < 100000) (h0 : k ≠ 0) : isub .i64 (k : Int) 1 = ((k - 1 : Nat) : Int) := by
 rw [Qco (by omega)]
 omega
def Qqe (l : List Keep) (n : Int) : Bool := egUp n l 0 && ile (llen l) 40
def QAY (l : List Keep) (_n : Int) : Bool := decide (l.length ≤ 99999)
noncomputable def QPu : List DO := dT Tryz.f80 6
def Qkl : Fg := ⟨[(0, some (.sl Qah)), (1, some tI), (7, some (.sl Qah)), (8, some tI), (9, some tI)], []⟩
noncomputable def Qmn : TC := (.sq (.reg (rT Tryz.f80 2)) (.sq (.cd (.t 10) .sk (.fg ⟨[(0, some (.sl Qah))], []⟩ (.ex 0))) (.sq (.bk 1 (.sq (.reg (rT Tryz.f80 3)) (.sq (.sq (.reg (rT Tryz.f80 4)) (.cd (.t 40) (.sq (.reg (rT Tryz.f80 5)) (.fg ⟨[(4, some .bool)], []⟩ .rt)) .sk)) (.sq (.dr QPu [(0, []), (1, []), (2, []), (3, []), (4, []), (5, []), (6, []), (7, []), (8, []), (9, [6]), (10, [6]), (11, []), (12, []), (13, []), (14, []), (15, []), (16, []), (17, []), (18, []), (19, [6]), (20, [6]), (21, []), (22, []), (23, []), (24, []), (25, []), (26, []), (27, []), (28, []), (29, [6]), (30, [6]), (31, []), (32, []), (33, []), (34, [])] (.of [0, 1, 2, 3, 4, 5, 6, 7, 8, 9, 10, 11, 12, 13, 14, 15, 16, 17, 18, 19, 20, 21, 22, 23, 24, 25, 26, 27, 28, 29, 30, 31, 32, 33, 34])) (.cd (.t 75) (.sq (.reg (rT Tryz.f80 7)) (.fg ⟨[(4, some .bool)], []⟩ .rt)) .sk))))) (.reg (rT Tryz.f80 8)))))
noncomputable def QEn : TC := (.sq (.reg (rT Tryz.f80 0)) (.sq (.sq (.reg (rT Tryz.f80 1)) (.bk 0 (.lp 0 Qkl Qmn))) (.sq (.reg (rT Tryz.f80 9)) .rt)))
def QRA : List (RV × Option Ty) := [((.t 4), some .bool)]
abbrev Qsp : Sh := ⟨[(0, .ty (.sl Qah)), (1, .ty tI), (7, .ty (.sl Qah)), (8, .ty tI), (9, .ty tI)], []⟩
def Qi3 (x0 : List Keep) (x1 : Int) (x7 : List Keep) (x8 x9 : Int) : VS := Qsp.st (x0, x1, x7, x8, x9, ()) ()
abbrev QuG : Sh := ⟨[(4, .ty .bool)], []⟩
def QaL (x4 : Bool) : VS := QuG.st (x4, ()) ()
abbrev Qya : Sh := ⟨[(0, .ty (.sl Qah))], []⟩
def Qe1 (x0 : List Keep) : VS := Qya.st (x0, ()) ()
def QYo : VS → Option (Bool × List (Bool × Exit × VS)) := mkL Qsp (fun x y => (x.2.2.1 == x.1 && (rngOk x.2.2.1 x.2.2.2.1 x.2.2.2.2.1 && decide (x.2.2.1.length ≤ 99999)))) (fun x y => [((!egUp x.2.1 x.2.2.1 x.2.2.2.2.1.toNat), .ret, QaL (false)), (true, .exit 0, Qe1 (x.1))])
def g_f80 : G := ⟨TYs, [], 80, EL [], keeps, (Ls [QYo]), IL [], RL []⟩
def QMv (x0 : List Keep) (x1 : Int) (x7 : List Keep) (x8 x9 : Int) : Option (Exit × VS) :=
 let a1 := lgt Qah x7 (Int.toNat x9)
 let a2 := lgt Qah x0 (Int.toNat (isub .i64 x9 1))
 let a3 := cIx x0 (isub .i64 x9 1)
 let a4 := iadd .i64 x9 1
 br (ilt x9 x8) (br (cIx x7 x9) (br (ilt (a1.1) 0) (some (.ret, QaL false)) (br (ige (a1.1) x1) (some (.ret, QaL false)) (br (ilt ((a1.2).1) 0) (some (.ret, QaL false)) (br (ige ((a1.2).1) x1) (some (.ret, QaL false)) (br (ieq (a1.1) ((a1.2).1)) (some (.ret, QaL false)) (br (igt x9 0) (br a3 (br (igt (a2.1) (a1.1)) (some (.ret, QaL false)) (br a3 (br (ieq (a2.1) (a1.1)) (br a3 (br (ige ((a2.2).1) ((a1.2).1)) (some (.ret, QaL false)) (some (.normal, Qi3 x0 x1 x7 x8 a4))) none) (some (.normal, Qi3 x0 x1 x7 x8 a4))) none)) none) (some (.normal, Qi3 x0 x1 x7 x8 a4)))))))) none) (some (.exit 0, Qe1 x0))
noncomputable def QhA (x0 : List Keep) (x1 : Int) (x7 : List Keep) (x8 x9 : Int) : Option (Exit × VS) := loopF (Qaj g_f80 Qkl Qmn) (Qi3 x0 x1 x7 x8 x9)
noncomputable def Qtq (x0 : List Keep) (x1 : Int) (x7 : List Keep) (x8 x9 : Int) : Option (Exit × VS) :=
 let a1 := lgt Qah x7 (Int.toNat x9)
 let a2 := lgt Qah x0 (Int.toNat (isub .i64 x9 1))
 let a3 := cIx x0 (isub .i64 x9 1)
 let a4 := iadd .i64 x9 1
 br (ilt x9 x8) (br (cIx x7 x9) (br (ilt (a1.1) 0) (some (.ret, QaL false)) (br (ige (a1.1) x1) (some (.ret, QaL false)) (br (ilt ((a1.2).1) 0) (some (.ret, QaL false)) (br (ige ((a1.2).1) x1) (some (.ret, QaL false)) (br (ieq (a1.1) ((a1.2).1)) (some (.ret, QaL false)) (br (igt x9 0) (br a3 (br (igt (a2.1) (a1.1)) (some (.ret, QaL false)) (br a3 (br (ieq (a2.1) (a1.1)) (br a3 (br (ige ((a2.2).1) ((a1.2).1)) (some (.ret, QaL false)) (QhA x0 x1 x7 x8 a4)) none) (QhA x0 x1 x7 x8 a4)) none)) none) (QhA x0 x1 x7 x8 a4))))))) none) (some (.exit 0, Qe1 x0))
def Qnt (x0 : List Keep) (x1 : Int) (x7 : List Keep) (x8 x9 : Int) : Option (Exit × VS) := br (!egUp x1 x7 x9.toNat) (some (.ret, QaL (false))) <| some (.exit 0, Qe1 (x0))
theorem QPX (x0 : List Keep) (x1 : Int) (x7 : List Keep) (x8 x9 : Int) : Qaj g_f80 Qkl Qmn (Qi3 x0 x1 x7 x8 x9) = QMv x0 x1 x7 x8 x9 := by kernel_rfl
theorem QAF (x0 : List Keep) (x1 : Int) (x7 : List Keep) (x8 x9 : Int) : QhA x0 x1 x7 x8 x9 = Qtq x0 x1 x7 x8 x9 := (Qao _ _).trans (by
 rw [QPX]
 simp only [QMv, Qtq, QaA, nxt_n, nxt_r, nxt_e, nxt_0]
 rfl)
def r_f80 (p0 : List Keep) (p1 : Int) : Option (V × List VO) := br (p0 == p0 && (rngOk p0 (llen p0) (0 : Int) && decide (p0.length ≤ 99999))) (br (!egUp p1 p0 (0 : Int).toNat) (some (.t .bool (false), [])) (some (.t .bool (ile (llen (p0)) 40), []))) none
theorem e_f80 (p0 : List Keep) (p1 : Int) : runF g_f80 QEn QRA false [.t (.sl Qah) p0, .t tI p1] [] = r_f80 p0 p1 := by kernel_rfl
theorem en_f80 : Qai Tryz.prog 80 := .inr ⟨by decide, _, Tryz.func80, by kernel_rfl, by kernel_rfl⟩
theorem gk_f80 : GOk Tryz.prog g_f80 := Qal _ (fun p hp => by cases hp)
theorem QVG (x0 : List Keep) (x1 : Int) (x7 : List Keep) (x8 x9 : Int) (h : (x7 == x0 && (rngOk x7 x8 x9 && decide (x7.length ≤ 99999))) = true) : QhA x0 x1 x7 x8 x9 = Qnt x0 x1 x7 x8 x9 := by
 simp only [Bool.and_eq_true, beq_iff_eq, decide_eq_true_eq] at h
 obtain ⟨rfl, h0, hl⟩ := h
 obtain ⟨rfl, h3, k, rfl, hk⟩ := rng_k h0
 clear h0
 refine Qau x7 (fun k => QhA x7 x1 x7 (x7.length : Int) (k : Int) = Qnt x7 x1 x7 (x7.length : Int) (k : Int)) ?_ ?_ k hk
 ·rw [QAF]
  simp only [Qtq, Qnt, Qat, Nat.lt_irrefl, decide_false, Qaf, Int.toNat_natCast, QPi, Bool.not_true]
 ·intro k hk ih
  rw [QAF]
  simp only [Qtq, Qat, Qax, hk, decide_true, Qad, Int.toNat_natCast, add1 (show k < 4611686018427387904 by omega), ih]
  simp only [Qnt, Int.toNat_natCast, QLi hk]
  by_cases hk0 : k = 0
  ·subst hk0
   rw [show igt ((0 : Nat) : Int) 0 = false from rfl]
   simp only [Qaf]
   exact QPh ..
  ·rw [show igt (k : Int) 0 = true from decide_eq_true (by omega), QIN (by omega) hk0]
   simp only [Qad, Qax, show k - 1 < x7.length by omega, decide_true, Int.toNat_natCast]
   unfold egOk
   rw [show decide (k = 0) = false from decide_eq_false hk0, Bool.false_or]
   exact QPg ..
theorem QNR : ∀ S l p, g_f80.L 0 (fgt Qkl S) = some (true, l) → pickA l = some p → loopF (Qaj g_f80 Qkl Qmn) S = some p :=
 QaB (s := Qsp) ⟨by decide, by decide⟩ (by kernel_rfl) fun x y hok p hp => by
 simp only [Qas, Qan] at hp
 exact (QVG x.1 x.2.1 x.2.2.1 x.2.2.2.1 x.2.2.2.2.1 (by simpa using hok)).trans hp
theorem lk_f80 : QEn.lok g_f80 := by
 repeat (first | exact trivial | exact QNR | refine ⟨?_, ?_⟩)
theorem s_f80 (l : List Keep) (n : Int) (h : QAY l n = true) : r_f80 l n = some (.t .bool (Qqe l n), []) := by
 have hl : l.length ≤ 99999 := of_decide_eq_true h
 simp only [r_f80, beq_self_eq_true, Bool.true_and, rng_0 (show l.length ≤ 100000 by omega), decide_eq_true hl, Qad, Int.toNat_zero]
 unfold Qqe
 cases egUp n l 0 <;> rfl
def QQ2 : Ent := spec (.pr (.sl Qah) (.pr tI .nil)) (fun x => (QAY x.1 x.2.1)) (fun x => (.t .bool (Qqe x.1 x.2.1)))
theorem ms_f80 : Meets Tryz.prog 80 (strip QQ2) := Qag (R := runF g_f80 QEn QRA false) (mG Tryz.func80 (by kernel_rfl) Tryz.ntmps80 (by kernel_rfl) gk_f80 lk_f80) fun x hok => (e_f80 x.1 x.2.1).trans (s_f80 x.1 x.2.1 hok)
def badI (i : Item) : Bool := ine (QkG i) 0
theorem QYj (i : Item) : badI i = !Qet i := by
 unfold badI QkG
 cases Qet i <;> rfl
noncomputable def QEp : TC := (.sq (.reg (rT Tryz.f78 0)) (.sq (.reg (rT Tryz.f78 1)) .rt))
def QRC : List (RV × Option Ty) := [((.t 2), some .bool)]
def g_f78 : G := ⟨TYs, [], 6, EL [(79, QQ3)], keeps, (fun _ _ => none), IL [], RL []⟩
def r_f78 (p0 : Item) : Option (V × List VO) := br (QeJ p0) (some (.t .bool (ine (QkG p0) 0), [])) none
theorem e_f78 (p0 : Item) : runF g_f78 QEp QRC false [.t QaJ p0] [] = r_f78 p0 := by kernel_rfl
theorem en_f78 : Qai Tryz.prog 78 := .inr ⟨by decide, _, Tryz.func78, by kernel_rfl, by kernel_rfl⟩
theorem gk_f78 : GOk Tryz.prog g_f78 := Qal _ (gA (gC en_f79 ms_f79 gN))
theorem lk_f78 : QEp.lok g_f78 := by repeat (first | exact trivial | refine ⟨?_, ?_⟩)
theorem s_f78 (i : Item) (h : QeJ i = true) : r_f78 i = some (.t .bool (badI i), []) := by
 simp only [r_f78, h, Qad]
 rfl
def QQ4 : Ent := spec (.pr QaJ .nil) (fun x => (QeJ x.1)) (fun x => (.t .bool (badI x.1)))
theorem ms_f78 : Meets Tryz.prog 78 (strip QQ4) := Qag (R := runF g_f78 QEp QRC false) (mG Tryz.func78 (by kernel_rfl) Tryz.ntmps78 (by kernel_rfl) gk_f78 lk_f78) fun x hok => (e_f78 x.1).trans (s_f78 x.1 hok)
def Qb5 (l : List Item) : Bool := decide (l.length ≤ 100000) && l.all QeJ
theorem QKh {l : List Item} (h : Qb5 l = true) {k : Nat} (hk : k < l.length) : QeJ l[k] = true := by
 simp only [Qb5, Bool.and_eq_true, List.all_eq_true] at h
 exact h.2 _ (List.getElem_mem hk)
theorem QpL {l : List Item} (h : Qb5 l = true) : l.length ≤ 100000 := by
 simp only [Qb5, Bool.and_eq_true, decide_eq_true_eq] at h
 exact h.1
def QrG (l : List Item) : Int := match fstG badI l with | some k => (k : Int) | none => -1
def QcW : Fg := ⟨[(0, some (.sl QaJ)), (1, none), (7, some tI), (8, some tI)], []⟩
noncomputable def QdI : TC := (.sq (.reg (rT Tryz.f123 2)) (.sq (.cd (.t 9) .sk (.fg ⟨[], []⟩ (.ex 0))) (.sq (.bk 1 (.sq (.reg (rT Tryz.f123 3)) (.sq (.reg (rT Tryz.f123 4)) (.cd (.t 16) (.sq (.reg (rT Tryz.f123 5)) (.fg ⟨[(4, some tI)], []⟩ .rt)) .sk)))) (.reg (rT Tryz.f123 6)))))
noncomputable def QkW : TC := (.sq (.reg (rT Tryz.f123 0)) (.sq (.sq (.reg (rT Tryz.f123 1)) (.bk 0 (.lp 0 QcW QdI))) (.sq (.reg (rT Tryz.f123 7)) .rt)))
def Qrx : List (RV × Option Ty) := [((.t 4), some tI)]
abbrev Qgm : Sh := ⟨[(0, .ty (.sl QaJ)), (1, .cf 78), (7, .ty tI), (8, .ty tI)], []⟩
def Qf8 (x0 : List Item) (x7 x8 : Int) : VS := Qgm.st (x0, (), x7, x8, ()) ()
abbrev Qmg : Sh := ⟨[(4, .ty tI)], []⟩
def Qb2 (x4 : Int) : VS := Qmg.st (x4, ()) ()
abbrev Qpi : Sh := ⟨[], []⟩
def Qcl  : VS := Qpi.st () ()
def Qz1 : VS → Option (Bool × List (Bool × Exit × VS)) := mkL Qgm (fun x y => (rngOk x.1 x.2.2.1 x.2.2.2.1 && Qb5 x.1)) (fun x y => [(((fstG badI (x.1.drop x.2.2.2.1.toNat)).isSome), .ret, Qb2 (x.2.2.2.1 + ((fstG badI (x.1.drop x.2.2.2.1.toNat)).getD 0 : Nat))), (true, .exit 0, Qcl)])
def QcR : G := ⟨TYs, [], 19, EL [(78, QQ4)], keeps, (Ls [Qz1]), IL [], RL []⟩
def QqY (x0 : List Item) (x7 x8 : Int) : Option (Exit × VS) :=
 let a1 := lgt QaJ x0 (Int.toNat x8)
 br (ilt x8 x7) (br (cIx x0 x8) (br (QeJ a1) (br (badI a1) (some (.ret, Qb2 x8)) (some (.normal, Qf8 x0 x7 (iadd .i64 x8 1)))) none) none) (some (.exit 0, Qcl))
noncomputable def Qeo (x0 : List Item) (x7 x8 : Int) : Option (Exit × VS) := loopF (Qaj QcR QcW QdI) (Qf8 x0 x7 x8)
noncomputable def Qfy (x0 : List Item) (x7 x8 : Int) : Option (Exit × VS) :=
 let a1 := lgt QaJ x0 (Int.toNat x8)
 br (ilt x8 x7) (br (cIx x0 x8) (br (QeJ a1) (br (badI a1) (some (.ret, Qb2 x8)) (Qeo x0 x7 (iadd .i64 x8 1))) none) none) (some (.exit 0, Qcl))
def Qes (x0 : List Item) (x7 x8 : Int) : Option (Exit × VS) :=
 let a1 := fstG badI (x0.drop x8.toNat)
 br (a1.isSome) (some (.ret, Qb2 (x8 + (a1.getD 0 : Nat)))) <| some (.exit 0, Qcl)
theorem QwD (x0 : List Item) (x7 x8 : Int) : Qaj QcR QcW QdI (Qf8 x0 x7 x8) = QqY x0 x7 x8 := by kernel_rfl
theorem QlC (x0 : List Item) (x7 x8 : Int) : Qeo x0 x7 x8 = Qfy x0 x7 x8 := (Qao _ _).trans (by
 rw [QwD]
 simp only [QqY, Qfy, QaA, nxt_n, nxt_r, nxt_e, nxt_0]
 rfl)
def QpI (p0 : List Item) : Option (V × List VO) :=
 let a1 := (fstG badI (p0.drop (0 : Int).toNat))
 br (rngOk p0 (llen p0) (0 : Int) && Qb5 p0) (br (a1.isSome) (some (.t tI ((0 : Int) + (a1.getD 0 : Nat)), [])) (some (.t tI (-1), []))) none
theorem QLo (p0 : List Item) : runF QcR QkW Qrx false [.t (.sl QaJ) p0, .c (.func (.func 78) ⟨[]⟩ ⟨[]⟩)] [] = QpI p0 := by kernel_rfl
theorem QDA : Qai Tryz.prog 123 := .inr ⟨by decide, _, Tryz.func123, by kernel_rfl, by kernel_rfl⟩
theorem QDr : GOk Tryz.prog QcR := Qal _ (gA (gC en_f78 ms_f78 gN))
theorem Qzj (x0 : List Item) (x7 x8 : Int) (h : (rngOk x0 x7 x8 && Qb5 x0) = true) : Qeo x0 x7 x8 = Qes x0 x7 x8 := by
 simp only [Bool.and_eq_true] at h
 obtain ⟨h0, hc⟩ := h
 obtain ⟨rfl, h3, k, rfl, hk⟩ := rng_k h0
 clear h0
 refine Qau x0 (fun k => Qeo x0 (x0.length : Int) (k : Int) = Qes x0 (x0.length : Int) (k : Int)) ?_ ?_ k hk
 ·rw [QlC]
  simp [Qfy, Qes, Qat, Qaf, fstG]
 ·intro k hk ih
  rw [QlC]
  have hx := QKh hc hk
  simp only [Qfy, Qat, Qax, hk, decide_true, Qad, Int.toNat_natCast, add1 (show k < 4611686018427387904 by omega), ih, Qaz (y := QaJ) hk, hx]
  simp only [Qes, Int.toNat_natCast, List.drop_eq_getElem_cons hk, fstG]
  cases h : (badI x0[k]) with
  | true => simp [Qad]
  | false =>
   simp only [Qaf, Bool.false_eq_true, if_false]
   cases hq : fstG badI (x0.drop (k + 1)) with
   | none => rfl
   | some j =>
    simp only [Option.map_some, Option.isSome_some, Option.getD_some, Qad]
    congr 3
    omega
theorem QvK : ∀ S l p, QcR.L 0 (fgt QcW S) = some (true, l) → pickA l = some p → loopF (Qaj QcR QcW QdI) S = some p :=
 QaB (s := Qgm) ⟨by decide, by decide⟩ (by kernel_rfl) fun x y hok p hp => by
 simp only [Qas, Qan] at hp
 exact (Qzj x.1 x.2.2.1 x.2.2.2.1 (by simpa using hok)).trans hp
theorem QDh : QkW.lok QcR := by
 repeat (first | exact trivial | exact QvK | refine ⟨?_, ?_⟩)
theorem QGs (l : List Item) (h : Qb5 l = true) : QpI l = some (.t tI (QrG l), []) := by
 have hl := QpL h
 simp only [QpI, rng_0 hl, h, Bool.and_self, Qad, Int.toNat_zero, List.drop_zero, QrG]
 cases fstG badI l <;> simp [Qad, Qaf]
def Qrs : Ent := specH [.ty (.sl QaJ), .cf 78] [] (fun x d => (Qb5 x.1)) (fun x d => (.t tI (QrG x.1)))
theorem QDb : Meets Tryz.prog 123 (strip Qrs) := (QaP (R := runF QcR QkW Qrx false) (mG Tryz.func123 (by kernel_rfl) Tryz.ntmps123 (by kernel_rfl) QDr QDh) fun x d hok => (QLo x.1).trans (QGs x.1 hok))
def Qis (l : List Item) : Bool := l.any badI
noncomputable def Qn2 : TC := (.sq (.reg (rT Tryz.f77 0)) (.sq (.reg (rT Tryz.f77 1)) .rt))
def Qvn : List (RV × Option Ty) := [((.t 4), some .bool)]
def QnJ : G := ⟨TYs, [], 9, EL [(123, Qrs)], keeps, (fun _ _ => none), IL [], RL []⟩
def Qs8 (p0 : List Item) : Option (V × List VO) := br (Qb5 p0) (some (.t .bool (ige (QrG p0) 0), [])) none
theorem QPo (p0 : List Item) : runF QnJ Qn2 Qvn false [.t (.sl QaJ) p0, .c (.func (.func 78) ⟨[]⟩ ⟨[]⟩)] [] = Qs8 p0 := by kernel_rfl
theorem QKU : Qai Tryz.prog 77 := .inr ⟨by decide, _, Tryz.func77, by kernel_rfl, by kernel_rfl⟩
theorem QKE : GOk Tryz.prog QnJ := Qal _ (gA (gC QDA QDb gN))
theorem QKc : Qn2.lok QnJ := by repeat (first | exact trivial | refine ⟨?_, ?_⟩)
theorem QNo (l : List Item) (h : Qb5 l = true) : Qs8 l = some (.t .bool (Qis l), []) := by
 simp only [Qs8, h, Qad]
 have e : ige (QrG l) 0 = Qis l := by
  unfold QrG Qis
  cases hq : fstG badI l with
  | none => rw [QbA.1 hq]; rfl
  | some k =>
   rw [← QbB, hq]
   simp only [ige, Option.isSome_some, decide_eq_true_eq]
   omega
 rw [e]
def Quz : Ent := specH [.ty (.sl QaJ), .cf 78] [] (fun x d => (Qb5 x.1)) (fun x d => (.t .bool (Qis x.1)))
theorem QI9 : Meets Tryz.prog 77 (strip Quz) := (QaP (R := runF QnJ Qn2 Qvn false) (mG Tryz.func77 (by kernel_rfl) Tryz.ntmps77 (by kernel_rfl) QKE QKc) fun x d hok => (QPo x.1).trans (QNo x.1 hok))
abbrev zEp : Qab := Ty.zero Qae
abbrev epAt (l : List Qab) (k : Nat) : Qab := l.getD k zEp
def epOkK (l m : List Qab) (k : Nat) : Bool := QaV (epAt l k) && (decide (k = 0) || slt (epAt m (k - 1)).1 (epAt l k).1)
def epUp2 (l m : List Qab) (k : Nat) : Bool := (List.range' k (l.length - k)).all (epOkK l m)
abbrev epUp (l : List Qab) (k : Nat) : Bool := epUp2 l l k
theorem QO3 (l m : List Qab) : epUp2 l m l.length = true := by
 unfold epUp2
 rw [Nat.sub_self]
 rfl
theorem QKM {l m : List Qab} {k : Nat} (hk : k < l.length) : epUp2 l m k = (epOkK l m k && epUp2 l m (k + 1)) := by
 have : l.length - k = (l.length - (k + 1)) + 1 := by omega
 unfold epUp2
 rw [this, List.range'_succ, List.all_cons]
abbrev xEps (e : Qam) : List Qab := e.1
abbrev xEdg (e : Qam) : List Keep := e.2.1
abbrev xItm (e : Qam) : List Item := e.2.2.1
def estOk (e : Qam) : Bool := epUp (xEps e) 0 && ((xItm e).all Qet && (ile (llen (xEps e)) 16 && (ile (llen (xItm e)) 30 && (egUp (llen (xEps e)) (xEdg e) 0 && ile (llen (xEdg e)) 40))))
def Ql7 (e : Qam) : Int := bif estOk e then 0 else 31
theorem QqR (e : Qam) : ine (Ql7 e) 0 = !estOk e := by
 unfold Ql7
 cases estOk e <;> rfl
def QbC (e : Qam) : Bool := decide ((xEps e).length ≤ 99999 ∧ (xEdg e).length ≤ 99999) && ((xEps e).all QaT && Qb5 (xItm e))
theorem QMT (l : List Item) : Qis l = !l.all Qet := by
 unfold Qis
 rw [List.not_all_eq_any_not]
 congr 1
 funext x
 exact QYj x
theorem QKt (a b : Int) : ile a b = !igt a b := by
 simp only [ile, igt, ← decide_not, Int.not_lt]
theorem QO2 {β : Type} (v s u : Bool) (R E : Option β) : br (!v) R (br (!s) R (br (!u) R E)) = br (!((v && s) && u)) R E := by
 cases v <;> cases s <;> rfl
theorem QO1 {β : Type} (v u : Bool) (R E : Option β) : br (!v) R (br (!u) R E) = br (!((v && true) && u)) R E := by
 cases v <;> rfl
noncomputable def QPB : List DO := dT Tryz.f39 4
def Qkt : Fg := ⟨[(1, none), (7, some (.sl Qae)), (8, some tI), (9, some tI)], [(1, some Qaq)]⟩
noncomputable def Qmv : TC := (.sq (.reg (rT Tryz.f39 2)) (.sq (.cd (.t 10) .sk (.fg ⟨[(1, none)], [(1, some Qaq)]⟩ (.ex 0))) (.sq (.bk 1 (.sq (.reg (rT Tryz.f39 3)) (.sq (.dr QPB [(0, [4]), (1, []), (2, []), (3, []), (4, []), (5, []), (6, []), (7, [1]), (8, [1]), (9, []), (10, []), (11, []), (12, []), (13, []), (14, [4]), (15, [4]), (16, []), (17, []), (18, [])] (.of [0, 1, 2, 3, 4, 5, 6, 7, 8, 9, 10, 11, 12, 13, 14, 15, 16, 17, 18])) (.cd (.t 32) (.sq (.reg (rT Tryz.f39 5)) (.fg ⟨[(2, some tI)], []⟩ .rt)) .sk)))) (.reg (rT Tryz.f39 6)))))
noncomputable def QEJ : TC := (.sq (.reg (rT Tryz.f39 0)) (.sq (.sq (.reg (rT Tryz.f39 1)) (.bk 0 (.lp 0 Qkt Qmv))) (.sq (.reg (rT Tryz.f39 7)) (.sq (.sq (.reg (rT Tryz.f39 8)) (.cd (.t 58) (.sq (.reg (rT Tryz.f39 9)) .rt) .sk)) (.sq (.reg (rT Tryz.f39 10)) .rt)))))
def QRW : List (RV × Option Ty) := [((.t 2), some tI)]
abbrev Qsx : Sh := ⟨[(1, .ptr 1 0), (7, .ty (.sl Qae)), (8, .ty tI), (9, .ty tI)], [(1, .box Qaq)]⟩
def QmL (x7 : List Qab) (x8 x9 : Int) (y1 : Qam) : VS := Qsx.st ((), x7, x8, x9, ()) (y1, ())
abbrev QuK : Sh := ⟨[(2, .ty tI)], []⟩
def Qb7 (x2 : Int) : VS := QuK.st (x2, ()) ()
abbrev Qyk : Sh := ⟨[(1, .ptr 1 0)], [(1, .box Qaq)]⟩
def Qe9 (y1 : Qam) : VS := Qyk.st ((), ()) (y1, ())
def QYw : VS → Option (Bool × List (Bool × Exit × VS)) := mkL Qsx (fun x y => (decide (x.2.1.length = y.1.1.length ∧ x.2.1.length ≤ 99999) && (rngOk x.2.1 x.2.2.1 x.2.2.2.1 && x.2.1.all QaT))) (fun x y => [((!epUp2 x.2.1 y.1.1 x.2.2.2.1.toNat), .ret, Qb7 (31)), (true, .exit 0, Qe9 (y.1))])
def g_f39 : G := ⟨TYs, [], 59, EL [(76, Qz8), (77, Quz), (80, QQ2)], keeps, (Ls [QYw]), IL [], RL []⟩
def QMD (x7 : List Qab) (x8 x9 : Int) (y1 : Qam) : Option (Exit × VS) :=
 let a1 := lgt Qae x7 (Int.toNat x9)
 br (ilt x9 x8) (br (cIx x7 x9) (br (QaT a1) (br (ine (Qez a1) 0) (some (.ret, Qb7 31)) (br (igt x9 0) (br (cIx y1.1 (isub .i64 x9 1)) (br (!slt ((lgt Qae y1.1 (Int.toNat (isub .i64 x9 1))).1) (a1.1)) (some (.ret, Qb7 31)) (some (.normal, QmL x7 x8 (iadd .i64 x9 1) y1))) none) (some (.normal, QmL x7 x8 (iadd .i64 x9 1) y1)))) none) none) (some (.exit 0, Qe9 y1))
noncomputable def Qjl (x7 : List Qab) (x8 x9 : Int) (y1 : Qam) : Option (Exit × VS) := loopF (Qaj g_f39 Qkt Qmv) (QmL x7 x8 x9 y1)
noncomputable def Qtx (x7 : List Qab) (x8 x9 : Int) (y1 : Qam) : Option (Exit × VS) :=
 let a1 := lgt Qae x7 (Int.toNat x9)
 br (ilt x9 x8) (br (cIx x7 x9) (br (QaT a1) (br (ine (Qez a1) 0) (some (.ret, Qb7 31)) (br (igt x9 0) (br (cIx y1.1 (isub .i64 x9 1)) (br (!slt ((lgt Qae y1.1 (Int.toNat (isub .i64 x9 1))).1) (a1.1)) (some (.ret, Qb7 31)) (Qjl x7 x8 (iadd .i64 x9 1) y1)) none) (Qjl x7 x8 (iadd .i64 x9 1) y1))) none) none) (some (.exit 0, Qe9 y1))
def Qnx (x7 : List Qab) (x8 x9 : Int) (y1 : Qam) : Option (Exit × VS) := br (!epUp2 x7 y1.1 x9.toNat) (some (.ret, Qb7 (31))) <| some (.exit 0, Qe9 (y1))
theorem QP5 (x7 : List Qab) (x8 x9 : Int) (y1 : Qam) : Qaj g_f39 Qkt Qmv (QmL x7 x8 x9 y1) = QMD x7 x8 x9 y1 := by kernel_rfl
theorem QAM (x7 : List Qab) (x8 x9 : Int) (y1 : Qam) : Qjl x7 x8 x9 y1 = Qtx x7 x8 x9 y1 := (Qao _ _).trans (by
 rw [QP5]
 simp only [QMD, Qtx, QaA, nxt_n, nxt_r, nxt_e, nxt_0]
 rfl)
def r_f39 (p0 : Qam) : Option (V × List VO) :=
 let a1 := ((((p0).2).2).1)
 let a2 := llen ((p0).1)
 br (decide (p0.1.length = p0.1.length ∧ p0.1.length ≤ 99999) && (rngOk p0.1 (llen p0.1) (0 : Int) && p0.1.all QaT)) (br (!epUp2 p0.1 p0.1 (0 : Int).toNat) (some (.t tI (31), [])) (br (Qb5 a1) (br (Qis a1) (some (.t tI 31, [])) (br (igt a2 16) (some (.t tI 31, [])) (br (igt (llen a1) 30) (some (.t tI 31, [])) (br (QAY (((p0).2).1) a2) (br (!(Qqe (((p0).2).1) a2)) (some (.t tI 31, [])) (some (.t tI 0, []))) none)))) none)) none
theorem e_f39 (p0 : Qam) : runF g_f39 QEJ QRW false [.t Qaq p0] [] = r_f39 p0 := by kernel_rfl
theorem QKZ : Qai Tryz.prog 39 := .inr ⟨by decide, _, Tryz.func39, by kernel_rfl, by kernel_rfl⟩
theorem gk_f39 : GOk Tryz.prog g_f39 := Qal _ (gA (gC QKV QJa (gC QKU QI9 (gC en_f80 ms_f80 gN))))
theorem QVO (x7 : List Qab) (x8 x9 : Int) (y1 : Qam) (h : (decide (x7.length = y1.1.length ∧ x7.length ≤ 99999) && (rngOk x7 x8 x9 && x7.all QaT)) = true) : Qjl x7 x8 x9 y1 = Qnx x7 x8 x9 y1 := by
 simp only [Bool.and_eq_true, decide_eq_true_eq, List.all_eq_true] at h
 obtain ⟨⟨hx, hl⟩, h0, ha⟩ := h
 obtain ⟨rfl, h3, k, rfl, hk⟩ := rng_k h0
 clear h0
 refine Qau x7 (fun k => Qjl x7 (x7.length : Int) (k : Int) y1 = Qnx x7 (x7.length : Int) (k : Int) y1) ?_ ?_ k hk
 ·rw [QAM]
  simp only [Qtx, Qnx, Qat, Nat.lt_irrefl, decide_false, Qaf, Int.toNat_natCast, QO3, Bool.not_true]
 ·intro k hk ih
  rw [QAM]
  have he : QaT (lgt Qae x7 k) = true := by rw [Qaz (y := Qae) hk]; exact ha _ (List.getElem_mem hk)
  simp only [Qtx, Qat, Qax, hk, decide_true, Qad, Int.toNat_natCast, add1 (show k < 4611686018427387904 by omega), ih, he, Qwz]
  simp only [Qnx, Int.toNat_natCast, QKM hk]
  by_cases hk0 : k = 0
  ·subst hk0
   rw [show igt ((0 : Nat) : Int) 0 = false from rfl]
   simp only [Qaf]
   exact QO1 ..
  ·rw [show igt (k : Int) 0 = true from decide_eq_true (by omega), QIN (by omega) hk0]
   simp only [Qad, Qax, show k - 1 < y1.1.length by omega, decide_true, Int.toNat_natCast]
   unfold epOkK
   rw [show decide (k = 0) = false from decide_eq_false hk0, Bool.false_or]
   exact QO2 ..
theorem QNZ : ∀ S l p, g_f39.L 0 (fgt Qkt S) = some (true, l) → pickA l = some p → loopF (Qaj g_f39 Qkt Qmv) S = some p :=
 QaB (s := Qsx) ⟨by decide, by decide⟩ (by kernel_rfl) fun x y hok p hp => by
 simp only [Qas, Qan] at hp
 exact (QVO x.2.1 x.2.2.1 x.2.2.2.1 y.1 (by simpa using hok)).trans hp
theorem lk_f39 : QEJ.lok g_f39 := by
 repeat (first | exact trivial | exact QNZ | refine ⟨?_, ?_⟩)
theorem s_f39 (e : Qam) (h : QbC e = true) : r_f39 e = some (.t tI (Ql7 e), []) := by
 simp only [QbC, Bool.and_eq_true, decide_eq_true_eq] at h
 obtain ⟨⟨h1, h2⟩, h3, h4⟩ := h
 have h5 : QAY (xEdg e) (llen (xEps e)) = true := decide_eq_true h2
 simp only [xEps, xEdg, xItm] at h1 h2 h3 h4 h5
 simp only [r_f39, rng_0 (show e.1.length ≤ 100000 by omega), decide_eq_true h1, true_and, Bool.true_and, h3, h4, h5, Qad, Int.toNat_zero, QMT]
 unfold Ql7 estOk Qqe
 simp only [xEps, xEdg, xItm, epUp]
 rw [QKt (llen e.1), QKt (llen e.2.2.1)]
 cases epUp2 e.1 e.1 0 <;> cases e.2.2.1.all Qet <;> cases igt (llen e.1) 16 <;> cases igt (llen e.2.2.1) 30 <;> cases (egUp (llen e.1) e.2.1 0 && ile (llen e.2.1) 40) <;> rfl
def QAa : Ent := spec (.pr Qaq .nil) (fun x => (QbC x.1)) (fun x => (.t tI (Ql7 x.1)))
theorem QJe : Meets Tryz.prog 39 (strip QAa) := Qag (R := runF g_f39 QEJ QRW false) (mG Tryz.func39 (by kernel_rfl) Tryz.ntmps39 (by kernel_rfl) gk_f39 lk_f39) fun x hok => (e_f39 x.1).trans (s_f39 x.1 hok)
end
end Go.Proofs.YtckcgijklnloiaaGreat.K
namespace Go.Proofs.YtckcgijklnloiaaGreat.K
open Go.RowKit
noncomputable section
theorem brY {β : Type} {c : Bool} {a b r : Option β} (h : c = true) (k : a = r) : br c a b = r := by
 subst h
 exact k
def endsF (e : Qam) (i : Int) : Qab × Qab := (epAt (xEps e) (egAt (xEdg e) i.toNat).1.toNat, epAt (xEps e) (egAt (xEdg e) i.toNat).2.1.toNat)
def QkE (e : Qam) (i : Int) : Bool := cIx (xEdg e) i && (cIx (xEps e) (egAt (xEdg e) i.toNat).1 && cIx (xEps e) (egAt (xEdg e) i.toNat).2.1)
noncomputable def QPA : List DO := dT Tryz.f44 2
noncomputable def QEE : TC := (.sq (.reg (rT Tryz.f44 0)) (.sq (.reg (rT Tryz.f44 1)) (.sq (.dr QPA [(0, [2]), (1, [2]), (2, [6]), (3, [6]), (4, []), (5, []), (6, [2]), (7, [2]), (8, [6]), (9, [6]), (10, []), (11, []), (12, [4]), (13, [5])] (.of [0, 1, 2, 3, 4, 5, 6, 7, 8, 9, 10, 11, 12, 13])) .rt)))
def QRR : List (RV × Option Ty) := [((.c 4 true 9), some Qae), ((.c 5 true 9), some Qae)]
def g_f44 : G := ⟨TYs, [], 24, EL [], keeps, (fun _ _ => none), IL [], RL []⟩
def r_f44 (p0 : Qam) (p1 : Int) : Option (V × List VO) :=
 let a1 := lgt Qah p0.2.1 (Int.toNat p1)
 br (cIx p0.2.1 p1) (br (cIx p0.1 (a1.1)) (br (cIx p0.1 ((a1.2).1)) (some (.tu [(.t Qae (lgt Qae p0.1 (Int.toNat (a1.1)))), (.t Qae (lgt Qae p0.1 (Int.toNat ((a1.2).1))))], [])) none) none) none
theorem e_f44 (p0 : Qam) (p1 : Int) : runF g_f44 QEE QRR false [.t Qaq p0, .t tI p1] [] = r_f44 p0 p1 := by kernel_rfl
theorem QKY : Qai Tryz.prog 44 := .inr ⟨by decide, _, Tryz.func44, by kernel_rfl, by kernel_rfl⟩
theorem gk_f44 : GOk Tryz.prog g_f44 := Qal _ (fun p hp => by cases hp)
theorem lk_f44 : QEE.lok g_f44 := by repeat (first | exact trivial | refine ⟨?_, ?_⟩)
theorem s_f44 (e : Qam) (i : Int) (h : QkE e i = true) : r_f44 e i = some (.tu [.t Qae (endsF e i).1, .t Qae (endsF e i).2], []) := by
 simp only [QkE, Bool.and_eq_true] at h
 obtain ⟨h1, h2, h3⟩ := h
 simp only [r_f44]
 exact brY h1 (brY h2 (brY h3 rfl))
def Qz9 : Ent := spec (.pr Qaq (.pr tI .nil)) (fun x => (QkE x.1 x.2.1)) (fun x => (.tu [(.t Qae ((endsF x.1 x.2.1).1)), (.t Qae ((endsF x.1 x.2.1).2))]))
theorem QJd : Meets Tryz.prog 44 (strip Qz9) := Qag (R := runF g_f44 QEE QRR false) (mG Tryz.func44 (by kernel_rfl) Tryz.ntmps44 (by kernel_rfl) gk_f44 lk_f44) fun x hok => (e_f44 x.1 x.2.1).trans (s_f44 x.1 x.2.1 hok)
theorem eg_all {n : Int} {l : List Keep} (h : egUp n l 0 = true) {k : Nat} (hk : k < l.length) : egIn n (egAt l k) = true := by
 unfold egUp at h
 rw [List.all_eq_true] at h
 have := h k (by rw [List.mem_range']; exact ⟨k, by omega, by omega⟩)
 unfold egOk at this
 exact (Bool.and_eq_true_iff.1 this).1
theorem eg_in {n : Int} {x : Keep} (h : egIn n x = true) : (0 ≤ x.1 ∧ x.1 < n) ∧ (0 ≤ x.2.1 ∧ x.2.1 < n) ∧ x.1 ≠ x.2.1 := by
 simp only [egIn, ilt, ige, Qbz, Bool.and_eq_true, Bool.not_eq_true', decide_eq_false_iff_not] at h
 refine ⟨⟨by omega, by omega⟩, ⟨by omega, by omega⟩, h.2.2.2.2⟩
theorem QkD {e : Qam} (h : estOk e = true) : epUp (xEps e) 0 = true ∧ (xItm e).all Qet = true ∧ (xEps e).length ≤ 16 ∧ (xItm e).length ≤ 30 ∧ egUp (llen (xEps e)) (xEdg e) 0 = true ∧ (xEdg e).length ≤ 40 := by
 simp only [estOk, ile, llen, Bool.and_eq_true, decide_eq_true_eq] at h
 exact ⟨h.1, h.2.1, by omega, by omega, h.2.2.2.2.1, by omega⟩
theorem Qt3 {e : Qam} (h : estOk e = true) {k : Nat} (hk : k < (xEdg e).length) : (0 ≤ (egAt (xEdg e) k).1 ∧ (egAt (xEdg e) k).1 < (xEps e).length) ∧ (0 ≤ (egAt (xEdg e) k).2.1 ∧ (egAt (xEdg e) k).2.1 < (xEps e).length) ∧ (egAt (xEdg e) k).1 ≠ (egAt (xEdg e) k).2.1 :=
 eg_in (eg_all (QkD h).2.2.2.2.1 hk)
theorem QBS {e : Qam} {i : Int} (h : estOk e = true) (h0 : 0 ≤ i) (h1 : i < (xEdg e).length) : QkE e i = true := by
 obtain ⟨k, rfl⟩ := Int.eq_ofNat_of_zero_le h0
 have := Qt3 h (k := k) (by omega)
 simp only [QkE, cIx, Int.toNat_natCast, Bool.and_eq_true, decide_eq_true_eq]
 exact ⟨⟨by omega, by omega⟩, ⟨this.1.1, this.1.2⟩, this.2.1.1, this.2.1.2⟩
theorem Qt2 {e : Qam} (h : QbC e = true) : (xEps e).all QaT = true := by
 simp only [QbC, Bool.and_eq_true] at h
 exact h.2.1
theorem Qt4 {l : List Qab} (h : l.all QaT = true) {c : Int} (hc : cIx l c = true) : QaT (epAt l c.toNat) = true := by
 simp only [cIx, decide_eq_true_eq] at hc
 obtain ⟨k, rfl⟩ := Int.eq_ofNat_of_zero_le hc.1
 have hk : k < l.length := by omega
 rw [Int.toNat_natCast, show epAt l k = l[k] by simp only [epAt, List.getD_eq_getElem?_getD, List.getElem?_eq_getElem hk, Option.getD_some]]
 exact List.all_eq_true.1 h _ (List.getElem_mem hk)
theorem QBU {e : Qam} {i : Int} (h : QbC e = true) (hi : QkE e i = true) : Qbv (endsF e i).1 (endsF e i).2 = true := by
 simp only [QkE, Bool.and_eq_true] at hi
 exact Bool.and_eq_true_iff.2 ⟨Qt4 (Qt2 h) hi.2.1, Qt4 (Qt2 h) hi.2.2⟩
def QcK (e : Qam) (i : Int) : Int := bif !estOk e then 31 else bif ilt i 0 || ige i (llen (xEdg e)) then 4 else 0
def QeU (e : Qam) (_i : Int) : Bool := QbC e
def Ql6 (e : Qam) (_i _d : Int) : Bool := QbC e
noncomputable def QEF : TC := (.sq (.reg (rT Tryz.f43 0)) (.sq (.bk 0 (.sq (.reg (rT Tryz.f43 1)) (.cd (.t 5) (.sq (.reg (rT Tryz.f43 2)) .rt) (.sq (.reg (rT Tryz.f43 3)) (.cd (.t 9) (.sq (.reg (rT Tryz.f43 4)) .rt) .sk))))) (.sq (.reg (rT Tryz.f43 5)) .rt)))
def QRS : List (RV × Option Ty) := [((.t 4), some tI)]
def g_f43 : G := ⟨TYs, [], 19, EL [(39, QAa)], keeps, (fun _ _ => none), IL [], RL []⟩
def r_f43 (p0 : Qam) (p1 : Int) : Option (V × List VO) := br (QbC p0) (br (ine (Ql7 p0) 0) (some (.t tI 31, [])) (br (ilt p1 0) (some (.t tI 4, [])) (br (ige p1 (llen p0.2.1)) (some (.t tI 4, [])) (some (.t tI 0, []))))) none
theorem e_f43 (p0 : Qam) (p1 : Int) : runF g_f43 QEF QRS false [.t Qaq p0, .t tI p1] [] = r_f43 p0 p1 := by kernel_rfl
theorem QSL : Qai Tryz.prog 43 := .inr ⟨by decide, _, Tryz.func43, by kernel_rfl, by kernel_rfl⟩
theorem gk_f43 : GOk Tryz.prog g_f43 := Qal _ (gA (gC QKZ QJe gN))
theorem lk_f43 : QEF.lok g_f43 := by repeat (first | exact trivial | refine ⟨?_, ?_⟩)
theorem s_f43 (e : Qam) (i : Int) (h : QeU e i = true) : r_f43 e i = some (.t tI (QcK e i), []) := by
 have h : QbC e = true := h
 simp only [r_f43, h, Qad, QqR]
 unfold QcK
 cases estOk e <;> cases ilt i 0 <;> cases ige i (llen (xEdg e)) <;> rfl
def QE8 : Ent := spec (.pr Qaq (.pr tI .nil)) (fun x => (QeU x.1 x.2.1)) (fun x => (.t tI (QcK x.1 x.2.1)))
theorem QSv : Meets Tryz.prog 43 (strip QE8) := Qag (R := runF g_f43 QEF QRS false) (mG Tryz.func43 (by kernel_rfl) Tryz.ntmps43 (by kernel_rfl) gk_f43 lk_f43) fun x hok => (e_f43 x.1 x.2.1).trans (s_f43 x.1 x.2.1 hok)
theorem QnW (e : Qam) (i : Int) : (ine (QcK e i) 0 = false ∧ QcK e i = 0 ∧ estOk e = true ∧ 0 ≤ i ∧ i < (xEdg e).length) ∨ ine (QcK e i) 0 = true := by
 unfold QcK
 cases h1 : estOk e with
 | false => exact .inr rfl
 | true =>
  cases h2 : ilt i 0 with
  | true => exact .inr rfl
  | false =>
   cases h3 : ige i (llen (xEdg e)) with
   | true => exact .inr rfl
   | false =>
    simp only [ilt, ige, llen, decide_eq_false_iff_not] at h2 h3
    exact .inl ⟨rfl, rfl, rfl, by omega, by omega⟩
def Qf3 (e : Qam) (i d : Int) : Keep × Int := bif ine (QcK e i) 0 then (zK, QcK e i) else QbD (endsF e i).1 (endsF e i).2 d
noncomputable def QES : TC := (.sq (.reg (rT Tryz.f15 0)) (.sq (.sq (.reg (rT Tryz.f15 1)) (.sq (.reg (rT Tryz.f15 2)) (.cd (.t 15) (.sq (.reg (rT Tryz.f15 3)) .rt) .sk))) (.sq (.reg (rT Tryz.f15 4)) (.sq (.reg (rT Tryz.f15 5)) .rt))))
def QR5 : List (RV × Option Ty) := [((.c 6 true 2), some Qah), ((.t 7), some tI)]
def g_f15 : G := ⟨TYs, [], 30, EL [(42, QE9), (43, QE8), (44, Qz9)], keeps, (fun _ _ => none), IL [], RL []⟩
def r_f15 (p0 : Qam) (p1 p2 : Int) : Option (V × List VO) :=
 let a1 := QbD ((endsF p0 p1).1) ((endsF p0 p1).2) p2
 br (QeU p0 p1) (br (ine (QcK p0 p1) 0) (some (.tu [(.t Qah (0, (0, ()))), (.t tI (QcK p0 p1))], [])) (br (QkE p0 p1) (br (QfQ ((endsF p0 p1).1) ((endsF p0 p1).2) p2) (some (.tu [(.t Qah (a1.1)), (.t tI (a1.2))], [])) none) none)) none
theorem e_f15 (p0 : Qam) (p1 p2 : Int) : runF g_f15 QES QR5 false [.t Qaq p0, .t tI p1, .t tI p2] [] = r_f15 p0 p1 p2 := by kernel_rfl
theorem QLd : Qai Tryz.prog 15 := .inr ⟨by decide, _, Tryz.func15, by kernel_rfl, by kernel_rfl⟩
theorem gk_f15 : GOk Tryz.prog g_f15 := Qal _ (gA (gC QSM QSw (gC QSL QSv (gC QKY QJd gN))))
theorem lk_f15 : QES.lok g_f15 := by repeat (first | exact trivial | refine ⟨?_, ?_⟩)
theorem s_f15 (e : Qam) (i d : Int) (h : Ql6 e i d = true) : r_f15 e i d = some (.tu [.t Qah (Qf3 e i d).1, .t tI (Qf3 e i d).2], []) := by
 have h : QbC e = true := h
 simp only [r_f15, show QeU e i = true from h, Qad]
 unfold Qf3
 rcases QnW e i with ⟨h1, _, h2, h3, h4⟩ | h1
 ·have h5 := QBS h2 h3 h4
  rw [h1, Qaf, h5, Qad, show QfQ (endsF e i).1 (endsF e i).2 d = true from QBU h h5, Qad]
  rfl
 ·rw [h1]
  rfl
def QAd : Ent := spec (.pr Qaq (.pr tI (.pr tI .nil))) (fun x => (Ql6 x.1 x.2.1 x.2.2.1)) (fun x => (.tu [(.t Qah ((Qf3 x.1 x.2.1 x.2.2.1).1)), (.t tI ((Qf3 x.1 x.2.1 x.2.2.1).2))]))
theorem QJk : Meets Tryz.prog 15 (strip QAd) := Qag (R := runF g_f15 QES QR5 false) (mG Tryz.func15 (by kernel_rfl) Tryz.ntmps15 (by kernel_rfl) gk_f15 lk_f15) fun x hok => (e_f15 x.1 x.2.1 x.2.2.1).trans (s_f15 x.1 x.2.1 x.2.2.1 hok)
def dayF (n : Int) : Bool := ige n 0 && ile n 40000
noncomputable def QEI : TC := (.sq (.reg (rT Tryz.f40 0)) (.sq (.reg (rT Tryz.f40 1)) .rt))
def QRV : List (RV × Option Ty) := [((.t 2), some .bool)]
def g_f40 : G := ⟨TYs, [], 9, EL [], keeps, (fun _ _ => none), IL [], RL []⟩
def r_f40 (p0 : Int) : Option (V × List VO) := br (ige p0 0) (some (.t .bool (ile p0 40000), [])) (some (.t .bool false, []))
theorem e_f40 (p0 : Int) : runF g_f40 QEI QRV false [.t tI p0] [] = r_f40 p0 := by kernel_rfl
theorem QSO : Qai Tryz.prog 40 := .inr ⟨by decide, _, Tryz.func40, by kernel_rfl, by kernel_rfl⟩
theorem gk_f40 : GOk Tryz.prog g_f40 := Qal _ (fun p hp => by cases hp)
theorem lk_f40 : QEI.lok g_f40 := by repeat (first | exact trivial | refine ⟨?_, ?_⟩)
theorem s_f40 (n : Int) : r_f40 n = some (.t .bool (dayF n), []) := by
 simp only [r_f40]
 unfold dayF
 cases ige n 0 <;> rfl
def QFb : Ent := spec (.pr tI .nil) (fun x => true) (fun x => (.t .bool (dayF x.1)))
theorem QSy : Meets Tryz.prog 40 (strip QFb) := Qag (R := runF g_f40 QEI QRV false) (mG Tryz.func40 (by kernel_rfl) Tryz.ntmps40 (by kernel_rfl) gk_f40 lk_f40) fun x _ => (e_f40 x.1).trans (s_f40 x.1)
def minTo (m : Int) (c : Qaa) : Int := imn m c.2.2.2.2.2.2.2.1
def untC (l : List Qaa) : Int := match l with | [] => 0 | c :: r => (c :: r).foldl minTo c.2.2.2.2.2.2.2.1
def Qko : Fg := ⟨[(3, some tI), (13, some (.sl Qac)), (14, some tI), (15, some tI)], []⟩
noncomputable def Qmq : TC := (.sq (.reg (rT Tryz.f66 5)) (.sq (.cd (.t 16) .sk (.fg ⟨[(3, some tI)], []⟩ (.ex 0))) (.sq (.bk 1 (.sq (.reg (rT Tryz.f66 6)) (.reg (rT Tryz.f66 7)))) (.reg (rT Tryz.f66 8)))))
noncomputable def QEs : TC := (.sq (.reg (rT Tryz.f66 0)) (.sq (.sq (.reg (rT Tryz.f66 1)) (.cd (.t 8) (.sq (.reg (rT Tryz.f66 2)) .rt) .sk)) (.sq (.reg (rT Tryz.f66 3)) (.sq (.sq (.reg (rT Tryz.f66 4)) (.bk 0 (.lp 0 Qko Qmq))) (.sq (.reg (rT Tryz.f66 9)) .rt)))))
def QRF : List (RV × Option Ty) := [((.t 2), some tI)]
abbrev Qss : Sh := ⟨[(3, .ty tI), (13, .ty (.sl Qac)), (14, .ty tI), (15, .ty tI)], []⟩
def Qr4 (x3 : Int) (x13 : List Qaa) (x14 x15 : Int) : VS := Qss.st (x3, x13, x14, x15, ()) ()
abbrev Qyd : Sh := ⟨[(3, .ty tI)], []⟩
def Qe4 (x3 : Int) : VS := Qyd.st (x3, ()) ()
def QYr : VS → Option (Bool × List (Bool × Exit × VS)) := mkL Qss (fun x y => (rngOk x.2.1 x.2.2.1 x.2.2.2.1)) (fun x y => [(true, .exit 0, Qe4 ((x.2.1.drop x.2.2.2.1.toNat).foldl minTo x.1))])
def g_f66 : G := ⟨TYs, [], 25, EL [], keeps, (Ls [QYr]), IL [], RL []⟩
def QMy (x3 : Int) (x13 : List Qaa) (x14 x15 : Int) : Option (Exit × VS) := br (ilt x15 x14) (br (cIx x13 x15) (some (.normal, Qr4 (imn x3 (((((((((lgt Qac x13 (Int.toNat x15)).2).2).2).2).2).2).2).1)) x13 x14 (iadd .i64 x15 1))) none) (some (.exit 0, Qe4 x3))
noncomputable def Qnj (x3 : Int) (x13 : List Qaa) (x14 x15 : Int) : Option (Exit × VS) := loopF (Qaj g_f66 Qko Qmq) (Qr4 x3 x13 x14 x15)
noncomputable def Qtt (x3 : Int) (x13 : List Qaa) (x14 x15 : Int) : Option (Exit × VS) := br (ilt x15 x14) (br (cIx x13 x15) (Qnj (imn x3 (((((((((lgt Qac x13 (Int.toNat x15)).2).2).2).2).2).2).2).1)) x13 x14 (iadd .i64 x15 1)) none) (some (.exit 0, Qe4 x3))
def Qnv (x3 : Int) (x13 : List Qaa) (x14 x15 : Int) : Option (Exit × VS) := some (.exit 0, Qe4 ((x13.drop x15.toNat).foldl minTo x3))
theorem QP0 (x3 : Int) (x13 : List Qaa) (x14 x15 : Int) : Qaj g_f66 Qko Qmq (Qr4 x3 x13 x14 x15) = QMy x3 x13 x14 x15 := by kernel_rfl
theorem QAI (x3 : Int) (x13 : List Qaa) (x14 x15 : Int) : Qnj x3 x13 x14 x15 = Qtt x3 x13 x14 x15 := (Qao _ _).trans (by
 rw [QP0]
 simp only [QMy, Qtt, QaA, nxt_n, nxt_r, nxt_e, nxt_0]
 rfl)
def r_f66 (p0 : List Qaa) : Option (V × List VO) := br (ieq (llen p0) 0) (some (.t tI 0, [])) (br (cIx p0 0) (br (rngOk p0 (llen p0) (0 : Int)) (some (.t tI ((p0.drop (0 : Int).toNat).foldl minTo (((((((((lgt Qac p0 (Int.toNat 0)).2).2).2).2).2).2).2).1)), [])) none) none)
theorem e_f66 (p0 : List Qaa) : runF g_f66 QEs QRF false [.t (.sl Qac) p0] [] = r_f66 p0 := by kernel_rfl
theorem en_f66 : Qai Tryz.prog 66 := .inr ⟨by decide, _, Tryz.func66, by kernel_rfl, by kernel_rfl⟩
theorem gk_f66 : GOk Tryz.prog g_f66 := Qal _ (fun p hp => by cases hp)
theorem QVJ (x3 : Int) (x13 : List Qaa) (x14 x15 : Int) (h : (rngOk x13 x14 x15) = true) : Qnj x3 x13 x14 x15 = Qnv x3 x13 x14 x15 := by
 obtain ⟨rfl, h3, k, rfl, hk⟩ := rng_k h
 clear h
 revert x3
 refine Qau x13 (fun k => ∀ x3, Qnj x3 x13 (x13.length : Int) (k : Int) = Qnv x3 x13 (x13.length : Int) (k : Int)) ?_ ?_ k hk
 ·intro x3
  rw [QAI]
  simp only [Qtt, Qnv, Qat, Nat.lt_irrefl, decide_false, Qaf, Int.toNat_natCast, List.drop_length, List.foldl_nil]
 ·intro k hk ih x3
  rw [QAI]
  simp only [Qtt, Qat, Qax, hk, decide_true, Qad, Int.toNat_natCast, add1 (show k < 4611686018427387904 by omega), ih, Qaz (y := Qac) hk]
  simp only [Qnv, Int.toNat_natCast, List.drop_eq_getElem_cons hk, List.foldl_cons]
  rfl
theorem QNU : ∀ S l p, g_f66.L 0 (fgt Qko S) = some (true, l) → pickA l = some p → loopF (Qaj g_f66 Qko Qmq) S = some p :=
 QaB (s := Qss) ⟨by decide, by decide⟩ (by kernel_rfl) fun x y hok p hp => by
 simp only [Qas, Qan] at hp
 exact (QVJ x.1 x.2.1 x.2.2.1 x.2.2.2.1 (by simpa using hok)).trans hp
theorem lk_f66 : QEs.lok g_f66 := by
 repeat (first | exact trivial | exact QNU | refine ⟨?_, ?_⟩)
theorem s_f66 (l : List Qaa) (h : QaR l = true) : r_f66 l = some (.t tI (untC l), []) := by
 have hl := Qhg h
 simp only [r_f66, rng_0 hl, Qad, Int.toNat_zero, List.drop_zero]
 cases l with
 | nil => rfl
 | cons c r =>
  rw [show ieq (llen (c :: r)) 0 = false by simp only [Qbz, llen, List.length_cons, decide_eq_false_iff_not]; omega, Qaf, show cIx (c :: r) 0 = true by simp only [cIx, List.length_cons, decide_eq_true_eq]; omega]
  rfl
def QQ5 : Ent := spec (.pr (.sl Qac) .nil) (fun x => (QaR x.1)) (fun x => (.t tI (untC x.1)))
theorem ms_f66 : Meets Tryz.prog 66 (strip QQ5) := Qag (R := runF g_f66 QEs QRF false) (mG Tryz.func66 (by kernel_rfl) Tryz.ntmps66 (by kernel_rfl) gk_f66 lk_f66) fun x hok => (e_f66 x.1).trans (s_f66 x.1 hok)
end
end Go.Proofs.YtckcgijklnloiaaGreat.K
namespace Go.Proofs.YtckcgijklnloiaaGreat.K
open Go.RowKit
noncomputable section
theorem QPQ {s : Qab} {x : Int} (hs : QaT s = true) (h : (QaW s x).2 = true) : cIx (eIds s) (QaW s x).1 = true ∧ QaR (QfO s x) = true := by
 obtain ⟨k, hk, hl⟩ := Qke h
 have hi := (Qbl hs).2.2.2.2.2
 refine ⟨by rw [hk]; exact decide_eq_true ⟨by omega, by omega⟩, ?_⟩
 unfold QfO
 rw [hk, Int.toNat_natCast, Qaz (y := Qap) hl]
 exact List.all_eq_true.1 hi _ (List.getElem_mem hl)
def g_f29 : G := ⟨TYs, [], 44, EL [(15, QAd), (44, Qz9), (56, Qrn), (66, QQ5)], keeps, (fun _ _ => none), IL [], RL []⟩
theorem gk_f29 : GOk Tryz.prog g_f29 := Qal _ (gA (gC QLd QJk (gC QKY QJd (gC Qwo QvE (gC en_f66 ms_f66 gN)))))
def metOk (c s : Qab) (d : Int) (o : Keep) : Bool := (QaW s o.2.1).2 && ieq (pickE c s d o.2.1) 0
def metF (c s : Qab) (d : Int) : List Keep := (QaY c s).filter (metOk c s d)
def metLk (c s : Qab) (l m : List Keep) (k : Int) : Bool := QaT c && (QaT s && decide (l.length ≤ 1000 ∧ m.length ≤ k))
def methF (e : Qam) (i d : Int) : List Keep × Int :=
 bif ine (QcK e i) 0 then ([], QcK e i) else bif !dayF d then ([], 2) else (metF (endsF e i).1 (endsF e i).2 d, 0)
theorem QD3 (s : Qab) (o : List Int) : ∀ (n v : Nat), (verC s o v n).length ≤ 16 * n := by
 intro n
 induction n with
 | zero => intro v; simp [verC]
 | succ n ih =>
  intro v
  have h1 : (rowC s o (v : Int) 1).length ≤ 16 := by
   unfold rowC
   rw [List.length_map]
   exact Nat.le_trans (List.length_filter_le _ _) (by rw [List.length_range']; omega)
  have h2 := ih (v + 1)
  unfold verC at h2 ⊢
  rw [List.range'_succ, List.flatMap_cons, List.length_append]
  omega
theorem QqQ {c s : Qab} : (QaY c s).length ≤ 64 := by
 unfold QaY
 cases h : Qdu c s with
 | false => exact Nat.zero_le _
 | true =>
  obtain ⟨hv, hw⟩ := Bool.and_eq_true_iff.1 h
  have v1 := Qbu hv
  have v2 := Qbu hw
  refine Nat.le_trans (QD3 _ _ _ _) ?_
  simp only [hiC, loC, imn, imx]
  split <;> split <;> omega
theorem QJr {c s : Qab} {l m : List Keep} {d : Int} {k : Nat} (hk : k < l.length) (h : metLk c s l m k = true) {β : Type} (K : List Keep → Option β) :
  br (idnOk s (lgt Qah l k).2.1) (br (QaW s (lgt Qah l k).2.1).2 (br (cIx (eIds s) (QaW s (lgt Qah l k).2.1).1) (br (QdC (QfO s (lgt Qah l k).2.1) (eAnch c) (eHash c) d s.1) (br (ieq (pickE c s d (lgt Qah l k).2.1) 0) (br (cApp m [lgt Qah l k] 16) (K (m ++ [lgt Qah l k])) none) (K m)) none) none) (K m)) none = (bif metOk c s d (lgt Qah l k) then K (m ++ [lgt Qah l k]) else K m) := by
 simp only [metLk, Bool.and_eq_true, decide_eq_true_eq] at h
 obtain ⟨hc, hs, hl, hm⟩ := h
 have ha : idnOk s (lgt Qah l k).2.1 = true := decide_eq_true (Qbl hs).2.2.1
 have hb : cApp m [lgt Qah l k] 16 = true := cAppN (by omega) (by simp only [List.length_singleton]; omega)
 rw [ha, Qad]
 unfold metOk
 cases hi : (QaW s (lgt Qah l k).2.1).2 with
 | false => rfl
 | true =>
  obtain ⟨h8, h9⟩ := QPQ hs hi
  have hg : QdC (QfO s (lgt Qah l k).2.1) (eAnch c) (eHash c) d s.1 = true := Bool.and_eq_true_iff.2 ⟨h9, decide_eq_true ⟨(Qbl hc).2.2.2.1, (Qbl hc).2.2.2.2.1⟩⟩
  rw [Qad, h8, Qad, hg, Qad, hb, Qad]
  cases ieq (pickE c s d (lgt Qah l k).2.1) 0 <;> rfl
noncomputable def QPG : List DO := dT Tryz.f20 12
def Qkv : Fg := ⟨[(2, some tI), (9, none), (10, none), (11, none), (33, some (.sl Qah)), (34, some tI), (35, some tI)], [(9, some Qae), (10, some Qae), (11, none), (67, none)]⟩
noncomputable def Qmx : TC := (.sq (.reg (rT Tryz.f20 9)) (.sq (.cd (.t 36) .sk (.fg ⟨[(11, none)], [(11, none), (67, none)]⟩ (.ex 0))) (.sq (.bk 1 (.sq (.reg (rT Tryz.f20 10)) (.sq (.reg (rT Tryz.f20 11)) (.sq (.dr QPG [(0, []), (1, []), (2, [10]), (3, [10]), (4, []), (5, []), (6, []), (7, []), (8, [9]), (9, [9]), (10, [9]), (11, [9]), (12, []), (13, [10]), (14, [10]), (15, []), (16, []), (17, [])] (.of [0, 1, 2, 3, 4, 5, 6, 7, 8, 9, 10, 11, 12, 13, 14, 15, 16, 17])) (.cd (.t 63) (.reg (rT Tryz.f20 13)) .sk))))) (.reg (rT Tryz.f20 14)))))
noncomputable def QEN : TC := (.sq (.reg (rT Tryz.f20 0)) (.sq (.sq (.reg (rT Tryz.f20 1)) (.sq (.reg (rT Tryz.f20 2)) (.cd (.t 20) (.sq (.reg (rT Tryz.f20 3)) .rt) .sk))) (.sq (.sq (.reg (rT Tryz.f20 4)) (.cd (.t 24) (.sq (.reg (rT Tryz.f20 5)) .rt) .sk)) (.sq (.reg (rT Tryz.f20 6)) (.sq (.reg (rT Tryz.f20 7)) (.sq (.sq (.reg (rT Tryz.f20 8)) (.bk 0 (.nw 11 39 (.lp 0 Qkv Qmx)))) (.sq (.reg (rT Tryz.f20 15)) .rt)))))))
def QR0 : List (RV × Option Ty) := [((.t 6), some (.sl Qah)), ((.t 7), some tI)]
abbrev Qsz : Sh := ⟨[(2, .ty tI), (9, .ptr 9 0), (10, .ptr 10 0), (11, .ms 11), (33, .ty (.sl Qah)), (34, .ty tI), (35, .ty tI)], [(9, .box Qae), (10, .box Qae), (11, .arr 39 Qah), (67, .no)]⟩
def Qi4 (x2 : Int) (x33 : List Keep) (x34 x35 : Int) (y9 y10 : Qab) (y11 : List Keep) : VS := Qsz.st (x2, (), (), (), x33, x34, x35, ()) (y9, y10, y11, (), ())
abbrev Qyn : Sh := ⟨[(11, .ms 11)], [(11, .arr 39 Qah), (67, .no)]⟩
def Qfd (y11 : List Keep) : VS := Qyn.st ((), ()) (y11, (), ())
def QYz : VS → Option (Bool × List (Bool × Exit × VS)) := mkL Qsz (fun x y => (rngOk x.2.2.2.2.1 x.2.2.2.2.2.1 x.2.2.2.2.2.2.1 && metLk y.1 y.2.1 x.2.2.2.2.1 y.2.2.1 x.2.2.2.2.2.2.1)) (fun x y => [(true, .exit 0, Qfd (y.2.2.1 ++ (x.2.2.2.2.1.drop x.2.2.2.2.2.2.1.toNat).filter (metOk y.1 y.2.1 x.1)))])
def g_f20 : G := ⟨TYs, [], 70, EL [(40, QFb), (43, QE8), (44, Qz9), (54, QE6), (56, Qrn), (57, QE5)], keeps, (Ls [QYz]), IL [], RL []⟩
def QMG (x2 : Int) (x33 : List Keep) (x34 x35 : Int) (y9 y10 : Qab) (y11 : List Keep) : Option (Exit × VS) :=
 let a1 := lgt Qah x33 (Int.toNat x35)
 let a4 := QaW y10 ((a1.2).1)
 let a2 := ((((lgt Qap y10.2.2.2.2.2.1 (Int.toNat (a4.1))).2).2).1)
 let a3 := iadd .i64 x35 1
 br (ilt x35 x34) (br (cIx x33 x35) (br (idnOk y10 ((a1.2).1)) (br (a4.2) (br (cIx y10.2.2.2.2.2.1 (a4.1)) (br (QdC a2 y9.2.2.2.2.2.2.1 y9.2.2.2.2.2.2.2.1 x2 y10.1) (br (ieq (chkCh a2 y9.2.2.2.2.2.2.1 y9.2.2.2.2.2.2.2.1 x2 y10.1) 0) (br (cApp y11 ([(a1.1, ((a1.2).1, ()))]) 16) (some (.normal, Qi4 x2 x33 x34 a3 y9 y10 (y11 ++ ([(a1.1, ((a1.2).1, ()))])))) none) (some (.normal, Qi4 x2 x33 x34 a3 y9 y10 y11))) none) none) (some (.normal, Qi4 x2 x33 x34 a3 y9 y10 y11))) none) none) (some (.exit 0, Qfd y11))
noncomputable def QfD (x2 : Int) (x33 : List Keep) (x34 x35 : Int) (y9 y10 : Qab) (y11 : List Keep) : Option (Exit × VS) := loopF (Qaj g_f20 Qkv Qmx) (Qi4 x2 x33 x34 x35 y9 y10 y11)
noncomputable def QtA (x2 : Int) (x33 : List Keep) (x34 x35 : Int) (y9 y10 : Qab) (y11 : List Keep) : Option (Exit × VS) :=
 let a1 := lgt Qah x33 (Int.toNat x35)
 let a4 := QaW y10 ((a1.2).1)
 let a2 := ((((lgt Qap y10.2.2.2.2.2.1 (Int.toNat (a4.1))).2).2).1)
 let a3 := iadd .i64 x35 1
 br (ilt x35 x34) (br (cIx x33 x35) (br (idnOk y10 ((a1.2).1)) (br (a4.2) (br (cIx y10.2.2.2.2.2.1 (a4.1)) (br (QdC a2 y9.2.2.2.2.2.2.1 y9.2.2.2.2.2.2.2.1 x2 y10.1) (br (ieq (chkCh a2 y9.2.2.2.2.2.2.1 y9.2.2.2.2.2.2.2.1 x2 y10.1) 0) (br (cApp y11 ([(a1.1, ((a1.2).1, ()))]) 16) (QfD x2 x33 x34 a3 y9 y10 (y11 ++ ([(a1.1, ((a1.2).1, ()))]))) none) (QfD x2 x33 x34 a3 y9 y10 y11)) none) none) (QfD x2 x33 x34 a3 y9 y10 y11)) none) none) (some (.exit 0, Qfd y11))
def Qnz (x2 : Int) (x33 : List Keep) (x34 x35 : Int) (y9 y10 : Qab) (y11 : List Keep) : Option (Exit × VS) := some (.exit 0, Qfd (y11 ++ (x33.drop x35.toNat).filter (metOk y9 y10 x2)))
theorem QP8 (x2 : Int) (x33 : List Keep) (x34 x35 : Int) (y9 y10 : Qab) (y11 : List Keep) : Qaj g_f20 Qkv Qmx (Qi4 x2 x33 x34 x35 y9 y10 y11) = QMG x2 x33 x34 x35 y9 y10 y11 := by kernel_rfl
theorem QAP (x2 : Int) (x33 : List Keep) (x34 x35 : Int) (y9 y10 : Qab) (y11 : List Keep) : QfD x2 x33 x34 x35 y9 y10 y11 = QtA x2 x33 x34 x35 y9 y10 y11 := (Qao _ _).trans (by
 rw [QP8]
 simp only [QMG, QtA, QaA, nxt_n, nxt_r, nxt_e, nxt_0]
 rfl)
def r_f20 (p0 : Qam) (p1 p2 : Int) : Option (V × List VO) :=
 let a2 := ((endsF p0 p1).1)
 let a3 := ((endsF p0 p1).2)
 let a1 := QaY a2 a3
 br (QeU p0 p1) (br (ine (QcK p0 p1) 0) (some (.tu [(.t (.sl Qah) ([] : List Keep)), (.t tI (QcK p0 p1))], [])) (br (!(dayF p2)) (some (.tu [(.t (.sl Qah) ([] : List Keep)), (.t tI 2)], [])) (br (QkE p0 p1) (br (Qbv a2 a3) (br (rngOk a1 (llen a1) (0 : Int) && metLk a2 a3 a1 ([] : List Keep) (0 : Int)) (some (.tu [(.t (.sl Qah) (([] : List Keep) ++ (a1.drop (0 : Int).toNat).filter (metOk a2 a3 p2))), (.t tI 0)], [])) none) none) none))) none
theorem e_f20 (p0 : Qam) (p1 p2 : Int) : runF g_f20 QEN QR0 false [.t Qaq p0, .t tI p1, .t tI p2] [] = r_f20 p0 p1 p2 := by kernel_rfl
theorem en_f20 : Qai Tryz.prog 20 := .inr ⟨by decide, _, Tryz.func20, by kernel_rfl, by kernel_rfl⟩
theorem gk_f20 : GOk Tryz.prog g_f20 := Qal _ (gA (gC QSO QSy (gC QSL QSv (gC QKY QJd (gC QSJ QSt (gC Qwo QvE (gC QSI QSs gN)))))))
theorem QVQ (x2 : Int) (x33 : List Keep) (x34 x35 : Int) (y9 y10 : Qab) (y11 : List Keep) (h : (rngOk x33 x34 x35 && metLk y9 y10 x33 y11 x35) = true) : QfD x2 x33 x34 x35 y9 y10 y11 = Qnz x2 x33 x34 x35 y9 y10 y11 := by
 obtain ⟨h0, hm⟩ := Bool.and_eq_true_iff.1 h
 obtain ⟨rfl, h3, k, rfl, hk⟩ := rng_k h0
 clear h h0
 revert y11
 refine Qau x33 (fun k => ∀ y11, metLk y9 y10 x33 y11 (k : Int) = true → QfD x2 x33 (x33.length : Int) (k : Int) y9 y10 y11 = Qnz x2 x33 (x33.length : Int) (k : Int) y9 y10 y11) ?_ ?_ k hk
 ·intro y11 _
  rw [QAP]
  simp only [QtA, Qnz, Qat, Nat.lt_irrefl, decide_false, Qaf, Int.toNat_natCast, List.drop_length, List.filter_nil, List.append_nil]
 ·intro k hk ih y11 hm
  rw [QAP]
  have hm2 := hm
  simp only [metLk, Bool.and_eq_true, decide_eq_true_eq] at hm2
  obtain ⟨hc, hs, hl, hy⟩ := hm2
  simp only [QtA, Qat, Qax, hk, decide_true, Qad, Int.toNat_natCast, add1 (show k < 4611686018427387904 by omega)]
  refine Eq.trans (QJr hk hm (fun m => QfD x2 x33 (x33.length : Int) ((k + 1 : Nat) : Int) y9 y10 m)) ?_
  rw [ih _ (by simp only [metLk, Bool.and_eq_true, decide_eq_true_eq]; exact ⟨hc, hs, hl, by simp only [List.length_append, List.length_singleton]; omega⟩), ih _ (by simp only [metLk, Bool.and_eq_true, decide_eq_true_eq]; exact ⟨hc, hs, hl, by omega⟩)]
  simp only [Qnz, Int.toNat_natCast, List.drop_eq_getElem_cons hk, Qaz (y := Qah) hk, List.filter_cons]
  cases metOk y9 y10 x2 x33[k] with
  | true => simp only [cond_true, if_true, List.append_assoc, List.singleton_append]
  | false => rfl
theorem QN1 : ∀ S l p, g_f20.L 0 (fgt Qkv S) = some (true, l) → pickA l = some p → loopF (Qaj g_f20 Qkv Qmx) S = some p :=
 QaB (s := Qsz) ⟨by decide, by decide⟩ (by kernel_rfl) fun x y hok p hp => by
 simp only [Qas, Qan] at hp
 exact (QVQ x.1 x.2.2.2.2.1 x.2.2.2.2.2.1 x.2.2.2.2.2.2.1 y.1 y.2.1 y.2.2.1 (by simpa using hok)).trans hp
theorem lk_f20 : QEN.lok g_f20 := by
 repeat (first | exact trivial | exact QN1 | refine ⟨?_, ?_⟩)
theorem QJq {c s : Qab} (h : Qbv c s = true) : (rngOk (QaY c s) (llen (QaY c s)) (0 : Int) && metLk c s (QaY c s) [] 0) = true := by
 have hl := QqQ (c := c) (s := s)
 obtain ⟨h1, h2⟩ := Bool.and_eq_true_iff.1 h
 rw [rng_0 (by omega), Bool.true_and]
 simp only [metLk, Bool.and_eq_true, decide_eq_true_eq]
 exact ⟨h1, h2, by omega, by simp⟩
theorem s_f20 (e : Qam) (i d : Int) (h : Ql6 e i d = true) : r_f20 e i d = some (.tu [.t (.sl Qah) (methF e i d).1, .t tI (methF e i d).2], []) := by
 have hl : QbC e = true := h
 simp only [r_f20, show QeU e i = true from h, Qad, Int.toNat_zero, List.drop_zero, List.nil_append]
 unfold methF
 rcases QnW e i with ⟨h1, h0, h2, h3, h4⟩ | h1
 ·rw [h1, Qaf]
  cases dayF d with
  | false => rfl
  | true =>
   have h5 := QBS h2 h3 h4
   have h6 := QBU hl h5
   rw [Bool.not_true, Qaf, h5, Qad, h6, Qad, QJq h6, Qad]
   rfl
 ·rw [h1]
  rfl
def QRf : Ent := spec (.pr Qaq (.pr tI (.pr tI .nil))) (fun x => (Ql6 x.1 x.2.1 x.2.2.1)) (fun x => (.tu [(.t (.sl Qah) ((methF x.1 x.2.1 x.2.2.1).1)), (.t tI ((methF x.1 x.2.1 x.2.2.1).2))]))
theorem ms_f20 : Meets Tryz.prog 20 (strip QRf) := Qag (R := runF g_f20 QEN QR0 false) (mG Tryz.func20 (by kernel_rfl) Tryz.ntmps20 (by kernel_rfl) gk_f20 lk_f20) fun x hok => (e_f20 x.1 x.2.1 x.2.2.1).trans (s_f20 x.1 x.2.1 x.2.2.1 hok)
end
end Go.Proofs.YtckcgijklnloiaaGreat.K
namespace Go.Proofs.YtckcgijklnloiaaGreat.K
open Go.RowKit Go.Shelf
attribute [local go_sem] Oper.semAt_some
def cut9 (vs : List Value) (k : Nat) : Value := .agg ((vs.drop (k * 9)).take 9).toArray
def encP (vs : List Value) (l : List Keep) : List (Array Value) := l.map fun x => #[cut9 vs x.1.toNat, cut9 vs x.2.1.toNat]
theorem QLH {vs : List Value} {q : Nat} {v0 v1 v2 v3 v4 v5 v6 v7 v8 : Value} (e0 : vs[q * 9]? = some v0) (e1 : vs[q * 9 + 1]? = some v1) (e2 : vs[q * 9 + 2]? = some v2) (e3 : vs[q * 9 + 3]? = some v3) (e4 : vs[q * 9 + 4]? = some v4) (e5 : vs[q * 9 + 5]? = some v5) (e6 : vs[q * 9 + 6]? = some v6) (e7 : vs[q * 9 + 7]? = some v7) (e8 : vs[q * 9 + 8]? = some v8) : cut9 vs q = .agg #[v0, v1, v2, v3, v4, v5, v6, v7, v8] := by
 have hag : ((vs.drop (q * 9)).take 9) = [v0, v1, v2, v3, v4, v5, v6, v7, v8] := by
  apply List.ext_getElem?
  intro i
  rcases Nat.lt_or_ge i 9 with hi | hi
  ·rw [List.getElem?_take_of_lt hi, List.getElem?_drop]
   rcases i with _ | _ | _ | _ | _ | _ | _ | _ | _ | i
   ·rw [Nat.add_zero, e0]; rfl
   ·rw [e1]; rfl
   ·rw [e2]; rfl
   ·rw [e3]; rfl
   ·rw [e4]; rfl
   ·rw [e5]; rfl
   ·rw [e6]; rfl
   ·rw [e7]; rfl
   ·rw [e8]; rfl
   ·omega
  ·rw [List.getElem?_take_eq_none hi, List.getElem?_eq_none (by simpa using hi)]
 unfold cut9
 rw [hag]
set_option maxRecDepth 100000 in
set_option maxHeartbeats 8000000 in
theorem QXg {n : Nat} {b0 off0 c0 n0 b1 off1 c1 n1 k a s : Nat} {it : Value} {w : World} {v0 v1 v2 v3 v4 v5 v6 v7 v8 u0 u1 u2 u3 u4 u5 u6 u7 u8 : Value} (hk : k < n1) (ka : a < n0) (ks : s < n0) (hn0 : n0 ≤ 99999) (hn1 : n1 ≤ 99999) (hb0 : b0 < w.heap.size) (hb1 : b1 < w.heap.size)
  (da : w.cell? ⟨b1, off1 + k * 2, none⟩ = some (.int .i64 (a : Int))) (db : w.cell? ⟨b1, off1 + k * 2 + 1, none⟩ = some (.int .i64 (s : Int)))
  (w0 : w.cell? ⟨b0, off0 + a * 9, none⟩ = some v0) (w1 : w.cell? ⟨b0, off0 + a * 9 + 1, none⟩ = some v1) (w2 : w.cell? ⟨b0, off0 + a * 9 + 2, none⟩ = some v2) (w3 : w.cell? ⟨b0, off0 + a * 9 + 3, none⟩ = some v3) (w4 : w.cell? ⟨b0, off0 + a * 9 + 4, none⟩ = some v4) (w5 : w.cell? ⟨b0, off0 + a * 9 + 5, none⟩ = some v5) (w6 : w.cell? ⟨b0, off0 + a * 9 + 6, none⟩ = some v6) (w7 : w.cell? ⟨b0, off0 + a * 9 + 7, none⟩ = some v7) (w8 : w.cell? ⟨b0, off0 + a * 9 + 8, none⟩ = some v8) (x0 : w.cell? ⟨b0, off0 + s * 9, none⟩ = some u0) (x1 : w.cell? ⟨b0, off0 + s * 9 + 1, none⟩ = some u1) (x2 : w.cell? ⟨b0, off0 + s * 9 + 2, none⟩ = some u2) (x3 : w.cell? ⟨b0, off0 + s * 9 + 3, none⟩ = some u3) (x4 : w.cell? ⟨b0, off0 + s * 9 + 4, none⟩ = some u4) (x5 : w.cell? ⟨b0, off0 + s * 9 + 5, none⟩ = some u5) (x6 : w.cell? ⟨b0, off0 + s * 9 + 6, none⟩ = some u6) (x7 : w.cell? ⟨b0, off0 + s * 9 + 7, none⟩ = some u7) (x8 : w.cell? ⟨b0, off0 + s * 9 + 8, none⟩ = some u8) (ov0 : v0.oneCell' = true) (ov1 : v1.oneCell' = true) (ov2 : v2.oneCell' = true) (ov3 : v3.oneCell' = true) (ov4 : v4.oneCell' = true) (ov5 : v5.oneCell' = true) (ov6 : v6.oneCell' = true) (ov7 : v7.oneCell' = true) (ov8 : v8.oneCell' = true) (ou0 : u0.oneCell' = true) (ou1 : u1.oneCell' = true) (ou2 : u2.oneCell' = true) (ou3 : u3.oneCell' = true) (ou4 : u4.oneCell' = true) (ou5 : u5.oneCell' = true) (ou6 : u6.oneCell' = true) (ou7 : u7.oneCell' = true) (ou8 : u8.oneCell' = true) :
  CallsIn (Fw none) n Tryz.prog 44 #[.agg #[.slice (some ⟨b0, off0, none⟩) n0 c0, .slice (some ⟨b1, off1, none⟩) n1 c1, it], .int .i64 (k : Int)] w fun e w' => e = .returned (.tuple #[.agg #[v0, v1, v2, v3, v4, v5, v6, v7, v8], .agg #[u0, u1, u2, u3, u4, u5, u6, u7, u8]]) ∧ Below w.heap.size w w' := by
 refine callsIn_of_wp (F := Fw none) Tryz.func44 rfl trivial ?_ rfl
 simp only [Tryz.ntmps44, List.size_toArray, List.length_cons, List.length_nil, Nat.reduceAdd, Nat.reduceSub, Array.replicate_succ, Array.replicate_zero, List.push_toArray, List.append_toArray, List.nil_append, List.cons_append]
 have up : ∀ {p : Addr} {v : Value}, w.cell? p = some v → ∀ o1 o2 o3, (((w.alloc o1).alloc o2).alloc o3).cell? p = some v := fun h o1 o2 o3 => Lib.cell?_alloc_some _ (Lib.cell?_alloc_some _ (Lib.cell?_alloc_some _ h))
 replace da := up da
 replace db := up db
 replace w0 := fun o1 o2 o3 o4 => Lib.cell?_alloc_some o4 (up w0 o1 o2 o3)
 replace w1 := fun o1 o2 o3 o4 => Lib.cell?_alloc_some o4 (up w1 o1 o2 o3)
 replace w2 := fun o1 o2 o3 o4 => Lib.cell?_alloc_some o4 (up w2 o1 o2 o3)
 replace w3 := fun o1 o2 o3 o4 => Lib.cell?_alloc_some o4 (up w3 o1 o2 o3)
 replace w4 := fun o1 o2 o3 o4 => Lib.cell?_alloc_some o4 (up w4 o1 o2 o3)
 replace w5 := fun o1 o2 o3 o4 => Lib.cell?_alloc_some o4 (up w5 o1 o2 o3)
 replace w6 := fun o1 o2 o3 o4 => Lib.cell?_alloc_some o4 (up w6 o1 o2 o3)
 replace w7 := fun o1 o2 o3 o4 => Lib.cell?_alloc_some o4 (up w7 o1 o2 o3)
 replace w8 := fun o1 o2 o3 o4 => Lib.cell?_alloc_some o4 (up w8 o1 o2 o3)
 replace x0 := fun o1 o2 o3 o4 => Lib.cell?_alloc_some o4 (up x0 o1 o2 o3)
 replace x1 := fun o1 o2 o3 o4 => Lib.cell?_alloc_some o4 (up x1 o1 o2 o3)
 replace x2 := fun o1 o2 o3 o4 => Lib.cell?_alloc_some o4 (up x2 o1 o2 o3)
 replace x3 := fun o1 o2 o3 o4 => Lib.cell?_alloc_some o4 (up x3 o1 o2 o3)
 replace x4 := fun o1 o2 o3 o4 => Lib.cell?_alloc_some o4 (up x4 o1 o2 o3)
 replace x5 := fun o1 o2 o3 o4 => Lib.cell?_alloc_some o4 (up x5 o1 o2 o3)
 replace x6 := fun o1 o2 o3 o4 => Lib.cell?_alloc_some o4 (up x6 o1 o2 o3)
 replace x7 := fun o1 o2 o3 o4 => Lib.cell?_alloc_some o4 (up x7 o1 o2 o3)
 replace x8 := fun o1 o2 o3 o4 => Lib.cell?_alloc_some o4 (up x8 o1 o2 o3)
 clear up
 gi_wp2
 have sv0 := fun a m W => run_store Tryz.prog W a v0 m ov0
 have sv1 := fun a m W => run_store Tryz.prog W a v1 m ov1
 have sv2 := fun a m W => run_store Tryz.prog W a v2 m ov2
 have sv3 := fun a m W => run_store Tryz.prog W a v3 m ov3
 have sv4 := fun a m W => run_store Tryz.prog W a v4 m ov4
 have sv5 := fun a m W => run_store Tryz.prog W a v5 m ov5
 have sv6 := fun a m W => run_store Tryz.prog W a v6 m ov6
 have sv7 := fun a m W => run_store Tryz.prog W a v7 m ov7
 have sv8 := fun a m W => run_store Tryz.prog W a v8 m ov8
 have su0 := fun a m W => run_store Tryz.prog W a u0 m ou0
 have su1 := fun a m W => run_store Tryz.prog W a u1 m ou1
 have su2 := fun a m W => run_store Tryz.prog W a u2 m ou2
 have su3 := fun a m W => run_store Tryz.prog W a u3 m ou3
 have su4 := fun a m W => run_store Tryz.prog W a u4 m ou4
 have su5 := fun a m W => run_store Tryz.prog W a u5 m ou5
 have su6 := fun a m W => run_store Tryz.prog W a u6 m ou6
 have su7 := fun a m W => run_store Tryz.prog W a u7 m ou7
 have su8 := fun a m W => run_store Tryz.prog W a u8 m ou8
 have fz : ∀ (d : Nat) (q : Nat) (p : Option Nat), w.frozen? ⟨w.heap.size + d, q, none⟩ = false := fun d q _ => by
  have : w.heap[w.heap.size + d]? = none := Array.getElem?_eq_none (by omega)
  simp [World.frozen?, this]
 have fr : ∀ (d q : Nat) c1 t1 c2 t2 c3 t3 c4 t4, ((((w.alloc (.cells c1 t1)).alloc (.cells c2 t2)).alloc (.cells c3 t3)).alloc (.cells c4 t4)).drew.frozen? ⟨w.heap.size + d, q, none⟩ = false := fun d q c1 t1 c2 t2 c3 t3 c4 t4 => by
  rw [frozen_drew_own, frozen?_alloc_cells, frozen?_alloc_cells, frozen?_alloc_cells, frozen?_alloc_cells]
  exact fz d q none
 have hm : Tryz.prog.follows .mixedOrders = true := mixed
 gi_region_o
 gi_wp2
 refine bodyPost_ret (by simp [results, Tryz.results44, go_sem]; rfl) rfl ?_
 exact ⟨rfl, ((((Below.refl _ _).alloc (Nat.le_refl _) _).alloc (by simp) _).alloc (by simp; omega) _).alloc (by simp; omega) _ |>.drew⟩
set_option maxRecDepth 100000 in
set_option maxHeartbeats 4000000 in
theorem QNx (Bs b0 off0 c0 n0 b1 off1 c1 n1 : Nat) (A0 A1 : Option Addr) (it : Value) (vs : List Value) (l1 : List Keep) (Xf : Nat → Nat → Prop) (w : World) (hn0 : n0 ≤ 99999) (hn1 : n1 ≤ 99999) (hl1 : l1.length = n1)
  (hB0 : w.cell? ⟨Bs, 0, none⟩ = some (.slice A0 n0 c0)) (hB1 : w.cell? ⟨Bs, 1, none⟩ = some (.slice A1 n1 c1)) (hB2 : w.cell? ⟨Bs, 2, none⟩ = some it) (hBl : Bs < w.heap.size) (hBx : ∀ q, ¬ Xf Bs q)
  (hE : 0 < n1 → A1 = some ⟨b1, off1, none⟩ ∧ b1 < w.heap.size ∧ (∀ j, j < n1 * 2 → ¬ Xf b1 (off1 + j)) ∧ ∀ k (hk : k < l1.length), w.cell? ⟨b1, off1 + k * 2, none⟩ = some (.int .i64 l1[k].1) ∧ w.cell? ⟨b1, off1 + k * 2 + 1, none⟩ = some (.int .i64 l1[k].2.1))
  (hP : 0 < n0 → A0 = some ⟨b0, off0, none⟩ ∧ vs.length = n0 * 9 ∧ b0 < w.heap.size ∧ (∀ j, j < vs.length → ¬ Xf b0 (off0 + j)) ∧ (∀ v ∈ vs, v.oneCell' = true) ∧ ∀ j v, vs[j]? = some v → w.cell? ⟨b0, off0 + j, none⟩ = some v)
  (hin : ∀ k (hk : k < l1.length), (0 ≤ l1[k].1 ∧ l1[k].1 < n0) ∧ 0 ≤ l1[k].2.1 ∧ l1[k].2.1 < n0) :
  ItOk Tryz.prog 81 [.pointer (some ⟨Bs, 0, none⟩)] (encP vs l1) Xf w := by
 intro l J Jx W hJ hJx hK hY h0 _
 have HE := Lib.hid hE
 have HP := Lib.hid hP
 have HI := Lib.hid hin
 clear hE hP hin
 refine callsIn_of_wp (F := Fw none) Tryz.func81 rfl trivial ?_ rfl
 simp only [Tryz.ntmps81, List.size_toArray, List.length_cons, List.length_nil, Nat.reduceAdd, Nat.reduceSub, Array.replicate_succ, Array.replicate_zero, List.push_toArray, List.append_toArray, List.nil_append, List.cons_append]
 have hb1 : W.cell? ⟨Bs, 1, none⟩ = some (.slice A1 n1 c1) := ((hK _ W h0).2 Bs 1 hBl (hBx 1)).trans hB1
 gi_wp2
 gi_loopw [7] (fun i wr => ∃ k : Nat, k ≤ n1 ∧ i = .int .i64 (k : Int) ∧ J ((encP vs l1).drop k) wr)
  (fun i _ => n1 - (intOf i).toNat)
 case atStart => exact ⟨0, Nat.zero_le _, rfl, h0⟩
 case round =>
  obtain ⟨k, hk, rfl, hJs⟩ := hrel
  by_cases hlt : k < n1
  ·have hlt2 : k < l1.length := by omega
   obtain ⟨rfl, hbl, hnx, hcl⟩ := HE.out (by omega)
   obtain ⟨⟨a0, a1⟩, s0, s1⟩ := HI.out k hlt2
   obtain ⟨rfl, hvl, hpl, hpx, hpo, hpc⟩ := HP.out (by omega)
   obtain ⟨ca, cb⟩ := hcl k hlt2
   have hJ2 := hJs
   have hlen : k < (encP vs l1).length := by simpa [encP] using hlt2
   rw [List.drop_eq_getElem_cons hlen] at hJ2
   have hrow : (encP vs l1)[k] = #[cut9 vs l1[k].1.toNat, cut9 vs l1[k].2.1.toNat] := by simp [encP]
   rw [hrow] at hJ2
   have keep : ∀ b q, b < w.heap.size → ¬ Xf b q → wr.cell? ⟨b, q, none⟩ = w.cell? ⟨b, q, none⟩ := fun b q h1 h2 => (hK _ wr hJs).2 b q h1 h2
   have hsz : w.heap.size ≤ wr.heap.size := (hK _ wr hJs).1
   generalize hxa : l1[k].1 = xa at *
   generalize hxs : l1[k].2.1 = xs at *
   obtain ⟨a, rfl⟩ := Int.eq_ofNat_of_zero_le a0
   obtain ⟨s, rfl⟩ := Int.eq_ofNat_of_zero_le s0
   have ka : a < n0 := by omega
   have ks : s < n0 := by omega
   have cel : ∀ q, q < n0 → ∀ i, i < 9 → ∃ v, vs[q * 9 + i]? = some v ∧ wr.cell? ⟨b0, off0 + (q * 9 + i), none⟩ = some v ∧ v.oneCell' = true := by
    intro q hq i hi
    have hlt : q * 9 + i < vs.length := by omega
    exact ⟨_, List.getElem?_eq_getElem hlt, (keep b0 _ hpl (hpx _ hlt)).trans (hpc _ _ (List.getElem?_eq_getElem hlt)), hpo _ (List.getElem_mem hlt)⟩
   have da : wr.cell? ⟨b1, off1 + k * 2, none⟩ = some (.int .i64 (a : Int)) := (keep b1 _ hbl (hnx _ (by omega))).trans ca
   have db : wr.cell? ⟨b1, off1 + k * 2 + 1, none⟩ = some (.int .i64 (s : Int)) := (keep b1 _ hbl (by rw [Nat.add_assoc]; exact hnx _ (by omega))).trans cb
   have dB0 : wr.cell? ⟨Bs, 0, none⟩ = some (.slice (some ⟨b0, off0, none⟩) n0 c0) := (keep Bs 0 hBl (hBx 0)).trans hB0
   have dB1 : wr.cell? ⟨Bs, 1, none⟩ = some (.slice (some ⟨b1, off1, none⟩) n1 c1) := (keep Bs 1 hBl (hBx 1)).trans hB1
   have dB2 : wr.cell? ⟨Bs, 2, none⟩ = some it := (keep Bs 2 hBl (hBx 2)).trans hB2
   clear keep hnx hpx hpc hcl ca cb hB0 hB1 hB2 hb1
   obtain ⟨v0, e0, w0, ov0⟩ := cel a ka 0 (by omega)
   obtain ⟨v1, e1, w1, ov1⟩ := cel a ka 1 (by omega)
   obtain ⟨v2, e2, w2, ov2⟩ := cel a ka 2 (by omega)
   obtain ⟨v3, e3, w3, ov3⟩ := cel a ka 3 (by omega)
   obtain ⟨v4, e4, w4, ov4⟩ := cel a ka 4 (by omega)
   obtain ⟨v5, e5, w5, ov5⟩ := cel a ka 5 (by omega)
   obtain ⟨v6, e6, w6, ov6⟩ := cel a ka 6 (by omega)
   obtain ⟨v7, e7, w7, ov7⟩ := cel a ka 7 (by omega)
   obtain ⟨v8, e8, w8, ov8⟩ := cel a ka 8 (by omega)
   obtain ⟨u0, f0, x0, ou0⟩ := cel s ks 0 (by omega)
   obtain ⟨u1, f1, x1, ou1⟩ := cel s ks 1 (by omega)
   obtain ⟨u2, f2, x2, ou2⟩ := cel s ks 2 (by omega)
   obtain ⟨u3, f3, x3, ou3⟩ := cel s ks 3 (by omega)
   obtain ⟨u4, f4, x4, ou4⟩ := cel s ks 4 (by omega)
   obtain ⟨u5, f5, x5, ou5⟩ := cel s ks 5 (by omega)
   obtain ⟨u6, f6, x6, ou6⟩ := cel s ks 6 (by omega)
   obtain ⟨u7, f7, x7, ou7⟩ := cel s ks 7 (by omega)
   obtain ⟨u8, f8, x8, ou8⟩ := cel s ks 8 (by omega)
   rw [Nat.add_zero] at e0 w0 f0 x0
   rw [← Nat.add_assoc] at w1 w2 w3 w4 w5 w6 w7 w8 x1 x2 x3 x4 x5 x6 x7 x8
   clear cel hrow
   gi_wp2_with fail
   refine (QXg hlt ka ks hn0 hn1 (Nat.lt_of_lt_of_le hpl hsz) (Nat.lt_of_lt_of_le hbl hsz) da db w0 w1 w2 w3 w4 w5 w6 w7 w8 x0 x1 x2 x3 x4 x5 x6 x7 x8 ov0 ov1 ov2 ov3 ov4 ov5 ov6 ov7 ov8 ou0 ou1 ou2 ou3 ou4 ou5 ou6 ou7 ou8).mono ?_
   rintro e W2 ⟨rfl, hbel⟩
   obtain ⟨fn, tmps, assign, body, hy, hR⟩ := hY _ _ W2 (hJ _ _ _ hJ2 hbel)
   rw [Int.toNat_natCast, Int.toNat_natCast, QLH e0 e1 e2 e3 e4 e5 e6 e7 e8, QLH f0 f1 f2 f3 f4 f5 f6 f7 f8] at hy
   clear w0 w1 w2 w3 w4 w5 w6 w7 w8 x0 x1 x2 x3 x4 x5 x6 x7 x8 da db dB0 dB1 dB2 hY hJ2
   gi_wp2
   refine hR.mono ?_
   rintro e W3 (⟨rfl, hJ3⟩ | ⟨rfl, hJx3⟩)
   ·gi_wp2
    go_roundw
    case rel => exact ⟨k + 1, by omega, by simp, hJ3⟩
    case measure => simp [intOf]; omega
   ·gi_wp2
    refine bodyPost_ret (results_none rfl _ _ _) rfl ?_
    exact ⟨⟨_, rfl⟩, .inr hJx3⟩
  ·obtain rfl : k = n1 := by omega
   rw [List.drop_of_length_le (by simp [encP]; omega)] at hJs
   gi_wp2
   go_end0
   exact ⟨⟨_, rfl⟩, .inl hJs⟩
def prsI (e : Qam) : List (Qab × Qab × Unit) := (xEdg e).map fun x => (epAt (xEps e) x.1.toNat, (epAt (xEps e) x.2.1.toNat, ()))
def prsOk (e : Qam) : Bool := decide ((xEps e).length ≤ 99999 ∧ (xEdg e).length ≤ 99999) && (xEdg e).all fun x => decide ((0 ≤ x.1 ∧ x.1 < (xEps e).length) ∧ 0 ≤ x.2.1 ∧ x.2.1 < (xEps e).length)
def QhI : Itr := mkIt [.ptr 50000 0] [Qaq] (.pr Qae (.pr Qae .nil)) (fun d => (prsOk d.1)) (fun d => (prsI d.1))
noncomputable def QEH : TC := (.sq (.reg (rT Tryz.f41 0)) (.sq (.reg (rT Tryz.f41 1)) .rt))
def QRU : List (RV × Option Ty) := [((.t 2), none)]
def g_f41 : G := ⟨TYs, [], 4, EL [], keeps, (fun _ _ => none), IL [], RL []⟩
def r_f41 (p0 : Qam) : Option (V × List VO) := some (.fn 81 [(.ptr 50000 0)], [.box (.t Qaq p0)])
theorem e_f41 (p0 : Qam) : runF g_f41 QEH QRU true [.t Qaq p0] [] = r_f41 p0 := by kernel_rfl
theorem QSN : Qai Tryz.prog 41 := .inr ⟨by decide, _, Tryz.func41, by kernel_rfl, by kernel_rfl⟩
theorem gk_f41 : GOk Tryz.prog g_f41 := Qal _ (fun p hp => by cases hp)
theorem lk_f41 : QEH.lok g_f41 := by repeat (first | exact trivial | refine ⟨?_, ?_⟩)
def QFa : Ent := specO (.pr Qaq .nil) (fun _ => true) (fun x => .fn 81 [.ptr 50000 0]) (fun x => [.box (.t Qaq x.1)])
theorem QSx : Meets Tryz.prog 41 (strip QFa) := Qip (R := runF g_f41 QEH QRU true) (mG Tryz.func41 (by kernel_rfl) Tryz.ntmps41 (by kernel_rfl) gk_f41 lk_f41) fun x _ => (e_f41 x.1).trans rfl
theorem QKL {X : Nat → Nat → Prop} {w : World} {l : List Qab} {vs : List Value} (h : Cs X w nowhere (l.flatMap Qae.cells) vs) {a : Nat} (ha : a < l.length) : C X w nowhere (V.t Qae (epAt l a)).d (cut9 vs a) := by
 rw [show epAt l a = l[a] by simp only [epAt, List.getD_eq_getElem?_getD, List.getElem?_eq_getElem ha, Option.getD_some]]
 simp only [V.d]
 rw [Ty.d_row Qae _ rfl]
 simp only [C]
 refine ⟨_, rfl, ?_⟩
 have k1 := h.drop_ (a * Qae.sz)
 rw [QcS, List.drop_eq_getElem_cons ha, List.flatMap_cons] at k1
 have k2 := k1.take_ Qae.sz
 rw [List.take_left' (Qae.cells_len _)] at k2
 exact k2
theorem QV0 {X : Nat → Nat → Prop} {w : World} {l : List Keep} {vs : List Value} (h : Cs X w nowhere (l.flatMap Qah.cells) vs) {k : Nat} (hk : k < l.length) : vs[k * 2]? = some (.int .i64 l[k].1) ∧ vs[k * 2 + 1]? = some (.int .i64 l[k].2.1) := by
 have k1 := h.drop_ (k * Qah.sz)
 rw [QcS, List.drop_eq_getElem_cons hk, List.flatMap_cons] at k1
 have k3 : Cs X w nowhere (D.v (.int .i64 l[k].1) :: D.v (.int .i64 l[k].2.1) :: (l.drop (k + 1)).flatMap Qah.cells) (vs.drop (k * 2)) := k1
 simp only [Cs] at k3
 obtain ⟨u0, r0, q0, c0, u1, r1, q1, c1, _⟩ := k3
 have d0 : (vs.drop (k * 2))[0]? = some u0 := by rw [q0]; rfl
 have d1 : (vs.drop (k * 2))[1]? = some u1 := by rw [q0, q1]; rfl
 rw [List.getElem?_drop] at d0 d1
 rw [(C.v c0).1] at d0
 rw [(C.v c1).1] at d1
 exact ⟨d0, d1⟩
theorem QA1 : Iters Tryz.prog 81 QhI := by
 refine Iters.weak (by decide) (enters_of Tryz.func81 (by kernel_rfl) rfl) fun caps objs yr rows h X w σ lb hfin hl hc => ?_
 unfold QhI mkIt at h
 split at h
 ·rename_i x d hx hd
  simp only [Option.some.injEq, Prod.mk.injEq] at h
  obtain ⟨hok, h⟩ := h
  cases h
  have hcaps := Qk3 hx
  subst hcaps
  cases objs with
  | nil => simp [Qbt] at hd
  | cons o os =>
   cases o with
   | box cv =>
    cases os with
    | cons o2 os => simp [Qbt] at hd
    | nil =>
     simp only [Qbt] at hd
     split at hd
     ·rename_i l u hl1 _
      simp only [Option.some.injEq] at hd
      subst hd
      have hl2 : V.as Qaq cv = some l := hl1
      simp only [prsOk, Bool.and_eq_true, decide_eq_true_eq, List.all_eq_true] at hok
      obtain ⟨⟨n0, n1⟩, hin⟩ := hok
      obtain ⟨Bs, ty, us, h1, h2, h3, h4⟩ := QwE (show Qaq.row = true from rfl) hl2 (hl.at_ 0 _ rfl).1
      have h3' : Cs X w σ [.sl (List.length l.1) (List.flatMap Qae.cells l.1), .sl (List.length l.2.1) (List.flatMap Qah.cells l.2.1), .sl (List.length l.2.2.1) (List.flatMap QaJ.cells l.2.2.1)] us := h3
      simp only [Cs] at h3'
      obtain ⟨u0, r0, rfl, k0, u1, r1, rfl, k1, u2, r2, rfl, k2, rfl⟩ := h3'
      simp only [C] at k0 k1
      obtain ⟨A0, c0, rfl, _, _, _, g4⟩ := k0
      obtain ⟨A1, c1, rfl, _, _, _, e4⟩ := k1
      simp only [mkVt, SV.mk, V.ds, V.d, Cs, C] at hc
      obtain ⟨p, ps, rfl, ⟨b', q1, rfl⟩, rfl⟩ := hc
      have h1 : σ 50000 = .box Bs := h1
      rw [h1] at q1
      injection q1 with q1
      subst q1
      have hBl := (Array.getElem?_eq_some_iff.1 h2).1
      have hBx : ∀ q, ¬ (X Bs q ∧ ∀ j, j < [VO.box cv].length → (σ (50000 + j)).blk ≠ some Bs) := fun q hq => hq.2 0 (by simp) (by rw [h1]; rfl)
      obtain ⟨b0, off0, vs, hP⟩ : ∃ b0 off0 vs, 0 < List.length l.1 → A0 = some ⟨b0, off0, none⟩ ∧ Cs X w nowhere (List.flatMap Qae.cells l.1) vs ∧ Fix X w b0 off0 vs := by
       rcases Nat.eq_zero_or_pos (List.length l.1) with h0 | hp
       ·exact ⟨0, 0, [], fun h => absurd h (by omega)⟩
       ·obtain ⟨b0, off0, vs, x1, x2, x3⟩ := g4 hp
        exact ⟨b0, off0, vs, fun _ => ⟨x1, x2, x3⟩⟩
      obtain ⟨b1, off1, ws, hE⟩ : ∃ b1 off1 ws, 0 < List.length l.2.1 → A1 = some ⟨b1, off1, none⟩ ∧ Cs X w nowhere (List.flatMap Qah.cells l.2.1) ws ∧ Fix X w b1 off1 ws := by
       rcases Nat.eq_zero_or_pos (List.length l.2.1) with h0 | hp
       ·exact ⟨0, 0, [], fun h => absurd h (by omega)⟩
       ·obtain ⟨b0, off0, vs, x1, x2, x3⟩ := e4 hp
        exact ⟨b0, off0, vs, fun _ => ⟨x1, x2, x3⟩⟩
      have hin2 : ∀ k (hk : k < l.2.1.length), (0 ≤ (l.2.1[k]).1 ∧ (l.2.1[k]).1 < (l.1.length : Int)) ∧ 0 ≤ (l.2.1[k]).2.1 ∧ (l.2.1[k]).2.1 < (l.1.length : Int) := fun k hk => hin _ (List.getElem_mem hk)
      refine ⟨encP vs l.2.1, ⟨by simp [prsI, encP, xEdg], fun i r v hr hv => ?_⟩, QNx Bs b0 off0 c0 (List.length l.1) b1 off1 c1 (List.length l.2.1) A0 A1 u2 vs l.2.1 _ w n0 n1 rfl (by simp [World.cell?, h2]) (by simp [World.cell?, h2]) (by simp [World.cell?, h2]) hBl hBx (fun hp => ?_) (fun hp => ?_) hin2⟩
      ·simp only [prsI, encP, xEdg, List.getElem?_map, Option.map_eq_some_iff] at hr hv
       obtain ⟨x, hx, rfl⟩ := hr
       obtain ⟨y, hy, rfl⟩ := hv
       rw [hx] at hy
       injection hy with hy
       subst hy
       have hb := hin x (List.mem_of_getElem? hx)
       obtain ⟨⟨a0, a1⟩, s0, s1⟩ := hb
       simp only [xEps] at a1 s1
       obtain ⟨_, g5, _⟩ := hP (by omega)
       simp only [Ty.canon, V.ds, Cs]
       exact ⟨_, _, rfl, QKL g5 (by omega), _, _, rfl, QKL g5 (by omega), rfl⟩
      ·obtain ⟨x1, x2, x3⟩ := hE hp
       have hvl := x2.len
       rw [QcI] at hvl
       have hvl : ws.length = List.length l.2.1 * 2 := hvl
       refine ⟨x1, x3.lt, fun j hj hx => x3.nx j (by omega) hx.1, fun k hk => ?_⟩
       obtain ⟨y1, y2⟩ := QV0 x2 hk
       refine ⟨x3.at_ _ _ y1, ?_⟩
       rw [Nat.add_assoc]
       exact x3.at_ _ _ y2
      ·obtain ⟨x1, x2, x3⟩ := hP hp
       have hvl := x2.len
       rw [QcI] at hvl
       have hvl : vs.length = List.length l.1 * 9 := hvl
       exact ⟨x1, hvl, x3.lt, fun j hj hx => x3.nx j hj hx.1, x3.one, fun j v hv => x3.at_ j v hv⟩
     ·cases hd
   | no => simp [Qbt] at hd
   | arr e t l => simp [Qbt] at hd
 ·cases h
end Go.Proofs.YtckcgijklnloiaaGreat.K
namespace Go.Proofs.YtckcgijklnloiaaGreat.K
open Go.RowKit
noncomputable section
abbrev ERow : Type := Qab × Qab × Unit
def prow (e : Qam) (x : Keep) : ERow := (epAt (xEps e) x.1.toNat, (epAt (xEps e) x.2.1.toNat, ()))
theorem Qfu (e : Qam) : prsI e = (xEdg e).map (prow e) := rfl
def Qgt (d : Int) (z : ERow) : Bool := ine (QbD z.1 z.2.1 d).2 0
def outO (d : Int) (z : ERow) : Keep := bif Qgt d z then zK else (QbD z.1 z.2.1 d).1
def brkU (d : Int) : List ERow → Nat → List Int
 | [], _ => []
 | z :: r, k => bif Qgt d z then (k : Int) :: brkU d r (k + 1) else brkU d r (k + 1)
def QhY (zs : List ERow) : Bool := zs.all fun z => Qbv z.1 z.2.1
def allF (e : Qam) (d : Int) : List Keep × List Int × Int :=
 bif !estOk e then ([], [], 31) else bif !dayF d then ([], [], 2) else ((prsI e).map (outO d), brkU d (prsI e) 0, 0)
theorem QBV {e : Qam} (hl : QbC e = true) (h : estOk e = true) : prsOk e = true ∧ QhY (prsI e) = true ∧ (prsI e).length ≤ 40 := by
 have hp := QkD h
 have hlen : (xEps e).length ≤ 99999 ∧ (xEdg e).length ≤ 99999 := ⟨by omega, by omega⟩
 have hin : ∀ x ∈ xEdg e, (0 ≤ x.1 ∧ x.1 < (xEps e).length) ∧ 0 ≤ x.2.1 ∧ x.2.1 < (xEps e).length := fun x hx => by
  obtain ⟨k, hk⟩ := List.mem_iff_getElem?.1 hx
  obtain ⟨hk1, rfl⟩ := List.getElem?_eq_some_iff.1 hk
  have := Qt3 h hk1
  have he : egAt (xEdg e) k = (xEdg e)[k] := by simp only [egAt, List.getD_eq_getElem?_getD, List.getElem?_eq_getElem hk1, Option.getD_some]
  rw [he] at this
  exact ⟨this.1, this.2.1⟩
 refine ⟨?_, ?_, ?_⟩
 ·simp only [prsOk, Bool.and_eq_true, decide_eq_true_eq, List.all_eq_true]
  exact ⟨hlen, hin⟩
 ·rw [Qfu]
  simp only [QhY, List.all_eq_true, List.mem_map]
  rintro z ⟨x, hx, rfl⟩
  obtain ⟨⟨a0, a1⟩, s0, s1⟩ := hin x hx
  exact Bool.and_eq_true_iff.2 ⟨Qt4 (Qt2 hl) (decide_eq_true ⟨a0, by omega⟩), Qt4 (Qt2 hl) (decide_eq_true ⟨s0, by omega⟩)⟩
 ·rw [Qfu, List.length_map]
  exact hp.2.2.2.2.2
noncomputable def QPK : List DO := dT Tryz.f14 14
def Qey : Fg := ⟨[(3, none), (7, none), (8, none)], [(60000, some tI), (60001, none), (60002, none), (39, none), (43, none), (20700, none), (20800, none)]⟩
noncomputable def QmI : TC := (.sq (.reg (rT Tryz.f14 8)) (.reg (rT Tryz.f14 9)))
noncomputable def QmG : TC := (.bk 2 (.sq (.reg (rT Tryz.f14 10)) (.sq (.sq (.reg (rT Tryz.f14 11)) (.cd (.t 33) (.reg (rT Tryz.f14 12)) .sk)) (.reg (rT Tryz.f14 13)))))
noncomputable def QET : TC := (.sq (.reg (rT Tryz.f14 0)) (.sq (.bk 0 (.sq (.reg (rT Tryz.f14 1)) (.cd (.t 13) (.sq (.reg (rT Tryz.f14 2)) .rt) (.sq (.reg (rT Tryz.f14 3)) (.cd (.t 17) (.sq (.reg (rT Tryz.f14 4)) .rt) .sk))))) (.sq (.reg (rT Tryz.f14 5)) (.sq (.reg (rT Tryz.f14 6)) (.sq (.sq (.reg (rT Tryz.f14 7)) (.bk 1 (.nf 7 0 39 20700 (.nf 8 0 3 20800 (.rf 0 Qey (.t 22) (.pr Qae (.pr Qae .nil)) [23, 24] [3, 7, 8] QmI QmG))))) (.sq (.dr QPK [(0, [7, 43, 20700]), (1, [8, 39, 20800]), (2, [43, 20700]), (3, [39, 20800]), (4, [])] (.of [0, 1, 2, 3, 4])) .rt))))))
def QR6 : List (RV × Option Ty) := [((.t 4), some (.sl Qah)), ((.t 5), some (.sl tI)), ((.t 6), some tI)]
abbrev QsM : Sh := ⟨[(3, .ptr 60000 0), (7, .ptr 60001 0), (8, .ptr 60002 0)], [(60000, .box tI), (60001, .bag [.ms 20700]), (60002, .bag [.ms 20800]), (39, .no), (43, .no), (20700, .arr 39 Qah), (20800, .arr 3 tI)]⟩
def QmO (y60000 : Int) (y20700 : List Keep) (y20800 : List Int) : VS := QsM.st ((), (), (), ()) (y60000, ((), ()), ((), ()), (), (), y20700, y20800, ())
abbrev Qo7 : Sh := ⟨[(3, .ptr 60000 0), (7, .ptr 60001 0), (8, .ptr 60002 0)], [(60000, .box tI), (60001, .bag [.ms 20700]), (60002, .bag [.ms 20800]), (39, .no), (43, .no), (20700, .arr 39 Qah), (20800, .arr 3 tI)]⟩
def Qds (y60000 : Int) (y20700 : List Keep) (y20800 : List Int) : VS := Qo7.st ((), (), (), ()) (y60000, ((), ()), ((), ()), (), (), y20700, y20800, ())
def Quj : VS → List (Ty.T (.pr Qae (.pr Qae .nil))) → Option (Bool × List (Bool × Exit × VS)) := mkR QsM (fun zs x y => (QhY zs && decide (y.2.2.2.2.2.1.length + zs.length ≤ 1000 ∧ y.2.2.2.2.2.2.1.length ≤ y.2.2.2.2.2.1.length))) (fun zs x y => [(true, .normal, Qds (y.1) (y.2.2.2.2.2.1 ++ zs.map (outO y.1)) (y.2.2.2.2.2.2.1 ++ brkU y.1 zs y.2.2.2.2.2.1.length))])
def g_f14 : G := ⟨TYs, [], 46, EL [(39, QAa), (40, QFb), (41, QFa), (42, QE9)], keeps, (Ls [fun _ => none]), IL [(81, QhI)], (RL [⟨(.pr Qae (.pr Qae .nil)), Quj⟩])⟩
def QMO (z : (Qab × (Qab × Unit))) (y60000 : Int) (y20700 : List Keep) (y20800 : List Int) : Option (Exit × VS) :=
 let a1 := QbD z.1 z.2.1 y60000
 let a2 := ((a1.1).1, (((a1.1).2).1, ()))
 br (QfQ z.1 z.2.1 y60000) (br (ine (a1.2) 0) (br (cApp y20800 ([(llen y20700)]) 8) (br (cApp y20700 ([(0, (0, ()))]) 16) (some (.normal, QmO y60000 (y20700 ++ ([(0, (0, ()))])) (y20800 ++ ([(llen y20700)])))) none) none) (br (cApp y20700 ([a2]) 16) (some (.normal, QmO y60000 (y20700 ++ ([a2])) y20800)) none)) none
noncomputable def QjB (zs : List (Qab × (Qab × Unit))) (y60000 : Int) (y20700 : List Keep) (y20800 : List Int) : Option (Exit × VS) := Qc2 (Qeg g_f14 Qey (.pr Qae (.pr Qae .nil)) [23, 24] QmI QmG) zs (QmO y60000 y20700 y20800)
noncomputable def QyJ (z : (Qab × (Qab × Unit))) (zs : List (Qab × (Qab × Unit))) (y60000 : Int) (y20700 : List Keep) (y20800 : List Int) : Option (Exit × VS) :=
 let a1 := QbD z.1 z.2.1 y60000
 let a2 := ((a1.1).1, (((a1.1).2).1, ()))
 br (QfQ z.1 z.2.1 y60000) (br (ine (a1.2) 0) (br (cApp y20800 ([(llen y20700)]) 8) (br (cApp y20700 ([(0, (0, ()))]) 16) (QjB zs y60000 (y20700 ++ ([(0, (0, ()))])) (y20800 ++ ([(llen y20700)]))) none) none) (br (cApp y20700 ([a2]) 16) (QjB zs y60000 (y20700 ++ ([a2])) y20800) none)) none
def QtU (zs : List (Qab × (Qab × Unit))) (y60000 : Int) (y20700 : List Keep) (y20800 : List Int) : Option (Exit × VS) := some (.normal, Qds (y60000) (y20700 ++ zs.map (outO y60000)) (y20800 ++ brkU y60000 zs y20700.length))
theorem QQh (z : (Qab × (Qab × Unit))) (y60000 : Int) (y20700 : List Keep) (y20800 : List Int) : Qeg g_f14 Qey (.pr Qae (.pr Qae .nil)) [23, 24] QmI QmG z (QmO y60000 y20700 y20800) = QMO z y60000 y20700 y20800 := by kernel_rfl
theorem QJ6 (y60000 : Int) (y20700 : (List Keep)) (y20800 : (List Int)) : QjB [] y60000 y20700 y20800 = some (.normal, Qds y60000 y20700 y20800) := rfl
theorem QOc (z : (Qab × (Qab × Unit))) (zs : List (Qab × (Qab × Unit))) (y60000 : Int) (y20700 : List Keep) (y20800 : List Int) : QjB (z :: zs) y60000 y20700 y20800 = QyJ z zs y60000 y20700 y20800 := (Qim _ _ _ _).trans (by
 rw [QQh]
 simp only [QMO, QyJ, QaA, nxt_n, nxt_r, nxt_e, nxt_0]
 rfl)
def r_f14 (p0 : Qam) (p1 : Int) : Option (V × List VO) := br (QbC p0) (br (ine (Ql7 p0) 0) (some (.tu [(.t (.sl Qah) ([] : List Keep)), (.t (.sl tI) ([] : List Int)), (.t tI 31)], [])) (br (!(dayF p1)) (some (.tu [(.t (.sl Qah) ([] : List Keep)), (.t (.sl tI) ([] : List Int)), (.t tI 2)], [])) (br (prsOk p0) (br (QhY (prsI p0) && decide (([] : List Keep).length + (prsI p0).length ≤ 1000 ∧ ([] : List Int).length ≤ ([] : List Keep).length)) (some (.tu [(.t (.sl Qah) (([] : List Keep) ++ (prsI p0).map (outO p1))), (.t (.sl tI) (([] : List Int) ++ brkU p1 (prsI p0) ([] : List Keep).length)), (.t tI 0)], [])) none) none))) none
theorem e_f14 (p0 : Qam) (p1 : Int) : runF g_f14 QET QR6 false [.t Qaq p0, .t tI p1] [] = r_f14 p0 p1 := by kernel_rfl
theorem QSP : Qai Tryz.prog 14 := .inr ⟨by decide, _, Tryz.func14, by kernel_rfl, by kernel_rfl⟩
theorem gk_f14 : GOk Tryz.prog g_f14 := Qal _ (gA (gC QKZ QJe (gC QSO QSy (gC QSN QSx (gC QSM QSw gN)))))
 [(81, QhI)] (by
 intro p hp
 simp only [List.mem_cons, List.not_mem_nil, or_false] at hp
 rcases hp with rfl
 ·exact QA1)
theorem QVZ (zs : List (Qab × (Qab × Unit))) (y60000 : Int) (y20700 : List Keep) (y20800 : List Int) (h : (QhY zs && decide (y20700.length + zs.length ≤ 1000 ∧ y20800.length ≤ y20700.length)) = true) : QjB zs y60000 y20700 y20800 = QtU zs y60000 y20700 y20800 := by
 simp only [Bool.and_eq_true, decide_eq_true_eq] at h
 obtain ⟨hr, h1, h2⟩ := h
 induction zs generalizing y20700 y20800 with
 | nil =>
  rw [QJ6]
  simp only [QtU, List.map_nil, List.append_nil, brkU]
 | cons z zs ih =>
  simp only [QhY, List.all_cons, Bool.and_eq_true] at hr
  simp only [List.length_cons] at h1
  rw [QOc]
  have c1 : QfQ z.1 z.2.1 y60000 = true := hr.1
  have c2 : ∀ v, cApp y20800 [v] 8 = true := fun v => cAppN (by omega) (by simp only [List.length_singleton]; omega)
  have c3 : ∀ v, cApp y20700 [v] 16 = true := fun v => cAppN (by omega) (by simp only [List.length_singleton]; omega)
  simp only [QyJ, c1, c2, c3, Qad]
  rw [ih _ _ hr.2 (by simp only [List.length_append, List.length_singleton]; omega) (by simp only [List.length_append, List.length_singleton]; omega), ih _ _ hr.2 (by simp only [List.length_append, List.length_singleton]; omega) (by simp only [List.length_append, List.length_singleton]; omega)]
  simp only [QtU, List.map_cons, brkU, outO, Qgt, List.append_assoc, List.singleton_append, List.length_append, List.length_singleton]
  cases ine (QbD z.1 z.2.1 y60000).2 0 <;> rfl
theorem QOa : ∀ S (rows : List (Ty.T (.pr Qae (.pr Qae .nil)))) l p, g_f14.R 0 (fgt Qey S) (.pr Qae (.pr Qae .nil)) rows = some (true, l) → pickA l = some p → Qc2 (Qeg g_f14 Qey (.pr Qae (.pr Qae .nil)) [23, 24] QmI QmG) rows (fgt Qey S) = some p := by
 intro S rows l p hR hp
 rw [show g_f14.R 0 (fgt Qey S) (.pr Qae (.pr Qae .nil)) rows = Quj (fgt Qey S) rows from RL_at (l := [⟨(.pr Qae (.pr Qae .nil)), Quj⟩]) (j := 0) (F := Quj) rfl _ _] at hR
 refine Qy3 (s := QsM) ⟨by decide, by decide⟩ (by kernel_rfl) (fun zs x y hok p hp => ?_) S rows l p hR hp
 simp only [Qas, Qan] at hp
 exact (QVZ zs y.1 y.2.2.2.2.2.1 y.2.2.2.2.2.2.1 (by first | rfl | simpa using hok)).trans hp
theorem lk_f14 : QET.lok g_f14 := by
 repeat (first | exact trivial | exact QOa | refine ⟨?_, ?_⟩)
theorem s_f14 (e : Qam) (d : Int) (h : QeU e d = true) : r_f14 e d = some (.tu [.t (.sl Qah) (allF e d).1, .t (.sl tI) (allF e d).2.1, .t tI (allF e d).2.2], []) := by
 have hl : QbC e = true := h
 simp only [r_f14, hl, Qad, QqR, List.nil_append, List.length_nil, Nat.zero_add, Nat.le_refl, and_true]
 unfold allF
 cases he : estOk e with
 | false => rfl
 | true =>
  obtain ⟨h1, h2, h3⟩ := QBV hl he
  rw [Bool.not_true, Qaf]
  cases dayF d with
  | false => rfl
  | true =>
   rw [Bool.not_true, Qaf, h1, Qad, h2, Bool.true_and, decide_eq_true (by omega), Qad]
   rfl
def QFU : Ent := spec (.pr Qaq (.pr tI .nil)) (fun x => (QeU x.1 x.2.1)) (fun x => (.tu [(.t (.sl Qah) ((allF x.1 x.2.1).1)), (.t (.sl tI) (((allF x.1 x.2.1).2).1)), (.t tI (((allF x.1 x.2.1).2).2))]))
theorem QSz : Meets Tryz.prog 14 (strip QFU) := Qag (R := runF g_f14 QET QR6 false) (mG Tryz.func14 (by kernel_rfl) Tryz.ntmps14 (by kernel_rfl) gk_f14 lk_f14) fun x hok => (e_f14 x.1 x.2.1).trans (s_f14 x.1 x.2.1 hok)
end
end Go.Proofs.YtckcgijklnloiaaGreat.K
namespace Go.Proofs.YtckcgijklnloiaaGreat.K
open Go.RowKit
noncomputable section
def QcZ (u : Keep) (a : Int) : Bool := ieq u.1 a
noncomputable def QEx : TC := (.sq (.reg (rT Tryz.f52 0)) (.sq (.reg (rT Tryz.f52 1)) .rt))
def QRK : List (RV × Option Ty) := [((.t 3), some .bool)]
def g_f52 : G := ⟨TYs, [], 8, EL [], keeps, (fun _ _ => none), IL [], RL []⟩
def r_f52 (p0 : Keep) (d0 : Int) : Option (V × List VO) := some (.t .bool (ieq p0.1 d0), [.box (.t tI d0)])
theorem e_f52 (p0 : Keep) (d0 : Int) : runF g_f52 QEx QRK false [.t Qah p0, .ptr 50000 0] [.box (.t tI d0)] = r_f52 p0 d0 := by kernel_rfl
theorem en_f52 : Qai Tryz.prog 52 := .inr ⟨by decide, _, Tryz.func52, by kernel_rfl, by kernel_rfl⟩
theorem gk_f52 : GOk Tryz.prog g_f52 := Qal _ (fun p hp => by cases hp)
theorem lk_f52 : QEx.lok g_f52 := by repeat (first | exact trivial | refine ⟨?_, ?_⟩)
theorem s_f52 (u : Keep) (a : Int) : r_f52 u a = some (.t .bool (QcZ u a), [.box (.t tI a)]) := by
 simp only [r_f52]
 rfl
def QQ7 : Ent := QfU [.ty Qah, .ptr 50000 0] [tI] (fun x d => true) (fun x d => (.t .bool (QcZ x.1 d.1)))
theorem ms_f52 : Meets Tryz.prog 52 (strip QQ7) := Qcn (QaP (R := runF g_f52 QEx QRK false) (mG Tryz.func52 (by kernel_rfl) Tryz.ntmps52 (by kernel_rfl) gk_f52 lk_f52) fun x d _ => (e_f52 x.1 d.1).trans (s_f52 x.1 d.1))
def okUse (l : List Keep) (_a : Int) : Bool := decide (l.length ≤ 100000)
theorem QIS {l : List Keep} {a : Int} (h : okUse l a = true) : l.length ≤ 100000 := of_decide_eq_true h
def ixUse (l : List Keep) (d0 : Int) : Int := match fstG (fun c => QcZ c d0) l with | some k => (k : Int) | none => -1
def QdB : Fg := ⟨[(0, some (.sl Qah)), (1, none), (7, some tI), (8, some tI)], [(50000, some tI)]⟩
noncomputable def QeY : TC := (.sq (.reg (rT Tryz.f86 2)) (.sq (.cd (.t 9) .sk (.fg ⟨[], [(50000, some tI)]⟩ (.ex 0))) (.sq (.bk 1 (.sq (.reg (rT Tryz.f86 3)) (.sq (.reg (rT Tryz.f86 4)) (.cd (.t 16) (.sq (.reg (rT Tryz.f86 5)) (.fg ⟨[(4, some tI)], [(50000, some tI)]⟩ .rt)) .sk)))) (.reg (rT Tryz.f86 6)))))
noncomputable def Qn1 : TC := (.sq (.reg (rT Tryz.f86 0)) (.sq (.sq (.reg (rT Tryz.f86 1)) (.bk 0 (.lp 0 QdB QeY))) (.sq (.reg (rT Tryz.f86 7)) .rt)))
def Qvm : List (RV × Option Ty) := [((.t 4), some tI)]
abbrev Qij : Sh := ⟨[(0, .ty (.sl Qah)), (1, .fn 52 [(50000, 0)]), (7, .ty tI), (8, .ty tI)], [(50000, .box tI)]⟩
def Qie (x0 : List Keep) (x7 x8 y50000 : Int) : VS := Qij.st (x0, (), x7, x8, ()) (y50000, ())
abbrev QoM : Sh := ⟨[(4, .ty tI)], [(50000, .box tI)]⟩
def Qch (x4 y50000 : Int) : VS := QoM.st (x4, ()) (y50000, ())
abbrev Qq4 : Sh := ⟨[], [(50000, .box tI)]⟩
def QcD (y50000 : Int) : VS := Qq4.st () (y50000, ())
def QDZ : VS → Option (Bool × List (Bool × Exit × VS)) := mkL Qij (fun x y => (rngOk x.1 x.2.2.1 x.2.2.2.1 && okUse x.1 y.1)) (fun x y => [(((fstG (fun c => QcZ c y.1) (x.1.drop x.2.2.2.1.toNat)).isSome), .ret, Qch (x.2.2.2.1 + ((fstG (fun c => QcZ c y.1) (x.1.drop x.2.2.2.1.toNat)).getD 0 : Nat)) (y.1)), (true, .exit 0, QcD (y.1))])
def Qew : G := ⟨TYs, [], 19, EL [(52, QQ7)], keeps, (Ls [QDZ]), IL [], RL []⟩
def QrS (x0 : List Keep) (x7 x8 y50000 : Int) : Option (Exit × VS) := br (ilt x8 x7) (br (cIx x0 x8) (br (QcZ (lgt Qah x0 (Int.toNat x8)) y50000) (some (.ret, Qch x8 y50000)) (some (.normal, Qie x0 x7 (iadd .i64 x8 1) y50000))) none) (some (.exit 0, QcD y50000))
noncomputable def QfC (x0 : List Keep) (x7 x8 y50000 : Int) : Option (Exit × VS) := loopF (Qaj Qew QdB QeY) (Qie x0 x7 x8 y50000)
noncomputable def Qhw (x0 : List Keep) (x7 x8 y50000 : Int) : Option (Exit × VS) := br (ilt x8 x7) (br (cIx x0 x8) (br (QcZ (lgt Qah x0 (Int.toNat x8)) y50000) (some (.ret, Qch x8 y50000)) (QfC x0 x7 (iadd .i64 x8 1) y50000)) none) (some (.exit 0, QcD y50000))
def QfI (x0 : List Keep) (x7 x8 y50000 : Int) : Option (Exit × VS) := br ((fstG (fun c => QcZ c y50000) (x0.drop x8.toNat)).isSome) (some (.ret, Qch (x8 + ((fstG (fun c => QcZ c y50000) (x0.drop x8.toNat)).getD 0 : Nat)) (y50000))) <| some (.exit 0, QcD (y50000))
theorem QzW (x0 : List Keep) (x7 x8 y50000 : Int) : Qaj Qew QdB QeY (Qie x0 x7 x8 y50000) = QrS x0 x7 x8 y50000 := by kernel_rfl
theorem Qp7 (x0 : List Keep) (x7 x8 y50000 : Int) : QfC x0 x7 x8 y50000 = Qhw x0 x7 x8 y50000 := (Qao _ _).trans (by
 rw [QzW]
 simp only [QrS, Qhw, QaA, nxt_n, nxt_r, nxt_e, nxt_0]
 rfl)
def Qs7 (p0 : List Keep) (d0 : Int) : Option (V × List VO) :=
 let a1 := (p0.drop (0 : Int).toNat)
 br (rngOk p0 (llen p0) (0 : Int) && okUse p0 d0) (br ((fstG (fun c => QcZ c d0) a1).isSome) (some (.t tI ((0 : Int) + ((fstG (fun c => QcZ c d0) a1).getD 0 : Nat)), [.box (.t tI (d0))])) (some (.t tI (-1), [.box (.t tI (d0))]))) none
theorem QPn (p0 : List Keep) (d0 : Int) : runF Qew Qn1 Qvm false [.t (.sl Qah) p0, .fn 52 [(.ptr 50000 0)]] [.box (.t tI d0)] = Qs7 p0 d0 := by kernel_rfl
theorem QKS : Qai Tryz.prog 86 := .inr ⟨by decide, _, Tryz.func86, by kernel_rfl, by kernel_rfl⟩
theorem QKD : GOk Tryz.prog Qew := Qal _ (gA (gC en_f52 ms_f52 gN))
theorem QDl (x0 : List Keep) (x7 x8 y50000 : Int) (h : (rngOk x0 x7 x8 && okUse x0 y50000) = true) : QfC x0 x7 x8 y50000 = QfI x0 x7 x8 y50000 := by
 simp only [Bool.and_eq_true] at h
 obtain ⟨h0, hc⟩ := h
 obtain ⟨rfl, h3, k, rfl, hk⟩ := rng_k h0
 clear h0
 refine Qau x0 (fun k => QfC x0 (x0.length : Int) (k : Int) y50000 = QfI x0 (x0.length : Int) (k : Int) y50000) ?_ ?_ k hk
 ·rw [Qp7]
  simp [Qhw, QfI, Qat, Qaf, fstG]
 ·intro k hk ih
  rw [Qp7]
  simp only [Qhw, Qat, Qax, hk, decide_true, Qad, Int.toNat_natCast, add1 (show k < 4611686018427387904 by omega), ih, Qaz (y := Qah) hk]
  simp only [QfI, Int.toNat_natCast, List.drop_eq_getElem_cons hk, fstG]
  cases h : (QcZ x0[k] y50000) with
  | true => simp [Qad]
  | false =>
   simp only [Qaf, Bool.false_eq_true, if_false]
   cases hq : fstG (fun c => QcZ c y50000) (x0.drop (k + 1)) with
   | none => rfl
   | some j =>
    simp only [Option.map_some, Option.isSome_some, Option.getD_some, Qad]
    congr 3
    omega
theorem Qy6 : ∀ S l p, Qew.L 0 (fgt QdB S) = some (true, l) → pickA l = some p → loopF (Qaj Qew QdB QeY) S = some p :=
 QaB (s := Qij) ⟨by decide, by decide⟩ (by kernel_rfl) fun x y hok p hp => by
 simp only [Qas, Qan] at hp
 exact (QDl x.1 x.2.2.1 x.2.2.2.1 y.1 (by simpa using hok)).trans hp
theorem QKb : Qn1.lok Qew := by
 repeat (first | exact trivial | exact Qy6 | refine ⟨?_, ?_⟩)
theorem QNn (l : List Keep) (d0 : Int) (h : okUse l d0 = true) : Qs7 l d0 = some (.t tI (ixUse l d0), [.box (.t tI d0)]) := by
 have hl := QIS h
 simp only [Qs7, rng_0 hl, h, Bool.and_self, Qad, Int.toNat_zero, List.drop_zero, ixUse]
 cases fstG (fun c => QcZ c d0) l <;> simp [Qad, Qaf]
def Qux : Ent := QfU [.ty (.sl Qah), .fn 52 [(50000, 0)]] [tI] (fun x d => (okUse x.1 d.1)) (fun x d => (.t tI (ixUse x.1 d.1)))
theorem QI7 : Meets Tryz.prog 86 (strip Qux) := Qcn (QaP (R := runF Qew Qn1 Qvm false) (mG Tryz.func86 (by kernel_rfl) Tryz.ntmps86 (by kernel_rfl) QKD QKb) fun x d hok => (QPn x.1 d.1).trans (QNn x.1 d.1 hok))
def QrU (l : List Keep) (d0 : Int) : Bool := l.any (fun c => QcZ c d0)
noncomputable def Qn4 : TC := (.sq (.reg (rT Tryz.f51 0)) (.sq (.reg (rT Tryz.f51 1)) .rt))
def Qvp : List (RV × Option Ty) := [((.t 4), some .bool)]
def QnL : G := ⟨TYs, [], 9, EL [(86, Qux)], keeps, (fun _ _ => none), IL [], RL []⟩
def Qtb (p0 : List Keep) (d0 : Int) : Option (V × List VO) := br (okUse p0 d0) (some (.t .bool (ige (ixUse p0 d0) 0), [.box (.t tI d0)])) none
theorem QPq (p0 : List Keep) (d0 : Int) : runF QnL Qn4 Qvp false [.t (.sl Qah) p0, .fn 52 [(.ptr 50000 0)]] [.box (.t tI d0)] = Qtb p0 d0 := by kernel_rfl
theorem QKX : Qai Tryz.prog 51 := .inr ⟨by decide, _, Tryz.func51, by kernel_rfl, by kernel_rfl⟩
theorem QKG : GOk Tryz.prog QnL := Qal _ (gA (gC QKS QI7 gN))
theorem QKe : Qn4.lok QnL := by repeat (first | exact trivial | refine ⟨?_, ?_⟩)
theorem QNq (l : List Keep) (d0 : Int) (h : okUse l d0 = true) : Qtb l d0 = some (.t .bool (QrU l d0), [.box (.t tI d0)]) := by
 simp only [Qtb, h, Qad]
 have e : ige (ixUse l d0) 0 = QrU l d0 := by
  unfold ixUse QrU
  cases hq : fstG (fun c => QcZ c d0) l with
  | none => rw [QbA.1 hq]; rfl
  | some k =>
   rw [← QbB, hq]
   simp only [ige, Option.isSome_some, decide_eq_true_eq]
   omega
 rw [e]
def QuB : Ent := QfU [.ty (.sl Qah), .fn 52 [(50000, 0)]] [tI] (fun x d => (okUse x.1 d.1)) (fun x d => (.t .bool (QrU x.1 d.1)))
theorem QJc : Meets Tryz.prog 51 (strip QuB) := Qcn (QaP (R := runF QnL Qn4 Qvp false) (mG Tryz.func51 (by kernel_rfl) Tryz.ntmps51 (by kernel_rfl) QKG QKe) fun x d hok => (QPq x.1 d.1).trans (QNq x.1 d.1 hok))
def witO (o : Keep) (s : Qab) (a : Int) : Bool := !QrU (usesF s o).1 a
def witOk (_o : Keep) (s : Qab) (_a : Int) : Bool := QaT s
theorem QMZ (s : Qab) (o : Keep) : (usesF s o).1.length ≤ 4 := by
 unfold usesF
 cases QaV s with
 | false => exact Nat.zero_le _
 | true =>
  cases ine (QaO o.2.1).2 0 with
  | true => exact Nat.zero_le _
  | false =>
   cases (QaW s o.2.1).2 with
   | false => exact Nat.zero_le _
   | true => exact Nat.le_refl 4
noncomputable def QEz : TC := (.sq (.reg (rT Tryz.f49 0)) (.sq (.reg (rT Tryz.f49 1)) (.sq (.reg (rT Tryz.f49 2)) .rt)))
def QRM : List (RV × Option Ty) := [((.t 4), some .bool)]
def g_f49 : G := ⟨TYs, [], 17, EL [(50, QQ8), (51, QuB)], keeps, (fun _ _ => none), IL [], RL []⟩
def r_f49 (p0 : Keep) (d0 : Qab) (d1 : Int) : Option (V × List VO) := br (Qz3 d0 p0) (br (okUse ((usesF d0 p0).1) d1) (some (.t .bool (!(QrU ((usesF d0 p0).1) d1)), [.box (.t Qae d0), .box (.t tI d1)])) none) none
theorem e_f49 (p0 : Keep) (d0 : Qab) (d1 : Int) : runF g_f49 QEz QRM false [.t Qah p0, .ptr 50000 0, .ptr 50001 0] [.box (.t Qae d0), .box (.t tI d1)] = r_f49 p0 d0 d1 := by kernel_rfl
theorem en_f49 : Qai Tryz.prog 49 := .inr ⟨by decide, _, Tryz.func49, by kernel_rfl, by kernel_rfl⟩
theorem gk_f49 : GOk Tryz.prog g_f49 := Qal _ (gA (gC en_f50 ms_f50 (gC QKX QJc gN)))
theorem lk_f49 : QEz.lok g_f49 := by repeat (first | exact trivial | refine ⟨?_, ?_⟩)
theorem s_f49 (o : Keep) (s : Qab) (a : Int) (h : witOk o s a = true) : r_f49 o s a = some (.t .bool (witO o s a), [.box (.t Qae s), .box (.t tI a)]) := by
 have h : QaT s = true := h
 have hu := QMZ s o
 simp only [r_f49, show Qz3 s o = true from h, show okUse (usesF s o).1 a = true from decide_eq_true (by omega), Qad]
 rfl
def QQ9 : Ent := QfU [.ty Qah, .ptr 50000 0, .ptr 50001 0] [Qae, tI] (fun x d => (witOk x.1 d.1 d.2.1)) (fun x d => (.t .bool (witO x.1 d.1 d.2.1)))
theorem ms_f49 : Meets Tryz.prog 49 (strip QQ9) := Qcn (QaP (R := runF g_f49 QEz QRM false) (mG Tryz.func49 (by kernel_rfl) Tryz.ntmps49 (by kernel_rfl) gk_f49 lk_f49) fun x d hok => (e_f49 x.1 d.1 d.2.1).trans (s_f49 x.1 d.1 d.2.1 hok))
def okWit (l : List Keep) (s : Qab) (_a : Int) : Bool := QaT s && decide (l.length ≤ 100000)
theorem QIR {l : List Keep} {s : Qab} {a : Int} (h : okWit l s a = true) : l.length ≤ 100000 := of_decide_eq_true (Bool.and_eq_true_iff.1 h).2
def ixWit (l : List Keep) (d0 : Qab) (d1 : Int) : Int := match fstG (fun c => witO c d0 d1) l with | some k => (k : Int) | none => -1
def QdA : Fg := ⟨[(0, some (.sl Qah)), (1, none), (7, some tI), (8, some tI)], [(50000, some Qae), (50001, some tI)]⟩
noncomputable def QeX : TC := (.sq (.reg (rT Tryz.f87 2)) (.sq (.cd (.t 9) .sk (.fg ⟨[], [(50000, some Qae), (50001, some tI)]⟩ (.ex 0))) (.sq (.bk 1 (.sq (.reg (rT Tryz.f87 3)) (.sq (.reg (rT Tryz.f87 4)) (.cd (.t 16) (.sq (.reg (rT Tryz.f87 5)) (.fg ⟨[(4, some tI)], [(50000, some Qae), (50001, some tI)]⟩ .rt)) .sk)))) (.reg (rT Tryz.f87 6)))))
noncomputable def Qn0 : TC := (.sq (.reg (rT Tryz.f87 0)) (.sq (.sq (.reg (rT Tryz.f87 1)) (.bk 0 (.lp 0 QdA QeX))) (.sq (.reg (rT Tryz.f87 7)) .rt)))
def Qvl : List (RV × Option Ty) := [((.t 4), some tI)]
abbrev Qii : Sh := ⟨[(0, .ty (.sl Qah)), (1, .fn 49 [(50000, 0), (50001, 0)]), (7, .ty tI), (8, .ty tI)], [(50000, .box Qae), (50001, .box tI)]⟩
def Qid (x0 : List Keep) (x7 x8 : Int) (y50000 : Qab) (y50001 : Int) : VS := Qii.st (x0, (), x7, x8, ()) (y50000, y50001, ())
abbrev QoL : Sh := ⟨[(4, .ty tI)], [(50000, .box Qae), (50001, .box tI)]⟩
def Qcg (x4 : Int) (y50000 : Qab) (y50001 : Int) : VS := QoL.st (x4, ()) (y50000, y50001, ())
abbrev Qq3 : Sh := ⟨[], [(50000, .box Qae), (50001, .box tI)]⟩
def QcC (y50000 : Qab) (y50001 : Int) : VS := Qq3.st () (y50000, y50001, ())
def QDY : VS → Option (Bool × List (Bool × Exit × VS)) := mkL Qii (fun x y => (rngOk x.1 x.2.2.1 x.2.2.2.1 && okWit x.1 y.1 y.2.1)) (fun x y => [(((fstG (fun c => witO c y.1 y.2.1) (x.1.drop x.2.2.2.1.toNat)).isSome), .ret, Qcg (x.2.2.2.1 + ((fstG (fun c => witO c y.1 y.2.1) (x.1.drop x.2.2.2.1.toNat)).getD 0 : Nat)) (y.1) (y.2.1)), (true, .exit 0, QcC (y.1) (y.2.1))])
def Qev : G := ⟨TYs, [], 19, EL [(49, QQ9)], keeps, (Ls [QDY]), IL [], RL []⟩
def QrR (x0 : List Keep) (x7 x8 : Int) (y50000 : Qab) (y50001 : Int) : Option (Exit × VS) :=
 let a1 := lgt Qah x0 (Int.toNat x8)
 br (ilt x8 x7) (br (cIx x0 x8) (br (witOk a1 y50000 y50001) (br (witO a1 y50000 y50001) (some (.ret, Qcg x8 y50000 y50001)) (some (.normal, Qid x0 x7 (iadd .i64 x8 1) y50000 y50001))) none) none) (some (.exit 0, QcC y50000 y50001))
noncomputable def QfB (x0 : List Keep) (x7 x8 : Int) (y50000 : Qab) (y50001 : Int) : Option (Exit × VS) := loopF (Qaj Qev QdA QeX) (Qid x0 x7 x8 y50000 y50001)
noncomputable def Qhv (x0 : List Keep) (x7 x8 : Int) (y50000 : Qab) (y50001 : Int) : Option (Exit × VS) :=
 let a1 := lgt Qah x0 (Int.toNat x8)
 br (ilt x8 x7) (br (cIx x0 x8) (br (witOk a1 y50000 y50001) (br (witO a1 y50000 y50001) (some (.ret, Qcg x8 y50000 y50001)) (QfB x0 x7 (iadd .i64 x8 1) y50000 y50001)) none) none) (some (.exit 0, QcC y50000 y50001))
def QfH (x0 : List Keep) (x7 x8 : Int) (y50000 : Qab) (y50001 : Int) : Option (Exit × VS) := br ((fstG (fun c => witO c y50000 y50001) (x0.drop x8.toNat)).isSome) (some (.ret, Qcg (x8 + ((fstG (fun c => witO c y50000 y50001) (x0.drop x8.toNat)).getD 0 : Nat)) (y50000) (y50001))) <| some (.exit 0, QcC (y50000) (y50001))
theorem QzV (x0 : List Keep) (x7 x8 : Int) (y50000 : Qab) (y50001 : Int) : Qaj Qev QdA QeX (Qid x0 x7 x8 y50000 y50001) = QrR x0 x7 x8 y50000 y50001 := by kernel_rfl
theorem Qp6 (x0 : List Keep) (x7 x8 : Int) (y50000 : Qab) (y50001 : Int) : QfB x0 x7 x8 y50000 y50001 = Qhv x0 x7 x8 y50000 y50001 := (Qao _ _).trans (by
 rw [QzV]
 simp only [QrR, Qhv, QaA, nxt_n, nxt_r, nxt_e, nxt_0]
 rfl)
def Qs6 (p0 : List Keep) (d0 : Qab) (d1 : Int) : Option (V × List VO) :=
 let a1 := (p0.drop (0 : Int).toNat)
 br (rngOk p0 (llen p0) (0 : Int) && okWit p0 d0 d1) (br ((fstG (fun c => witO c d0 d1) a1).isSome) (some (.t tI ((0 : Int) + ((fstG (fun c => witO c d0 d1) a1).getD 0 : Nat)), [.box (.t Qae (d0)), .box (.t tI (d1))])) (some (.t tI (-1), [.box (.t Qae (d0)), .box (.t tI (d1))]))) none
theorem QPm (p0 : List Keep) (d0 : Qab) (d1 : Int) : runF Qev Qn0 Qvl false [.t (.sl Qah) p0, .fn 49 [(.ptr 50000 0), (.ptr 50001 0)]] [.box (.t Qae d0), .box (.t tI d1)] = Qs6 p0 d0 d1 := by kernel_rfl
theorem QKR : Qai Tryz.prog 87 := .inr ⟨by decide, _, Tryz.func87, by kernel_rfl, by kernel_rfl⟩
theorem QKC : GOk Tryz.prog Qev := Qal _ (gA (gC en_f49 ms_f49 gN))
theorem QDk (x0 : List Keep) (x7 x8 : Int) (y50000 : Qab) (y50001 : Int) (h : (rngOk x0 x7 x8 && okWit x0 y50000 y50001) = true) : QfB x0 x7 x8 y50000 y50001 = QfH x0 x7 x8 y50000 y50001 := by
 simp only [Bool.and_eq_true] at h
 obtain ⟨h0, hc⟩ := h
 obtain ⟨rfl, h3, k, rfl, hk⟩ := rng_k h0
 clear h0
 refine Qau x0 (fun k => QfB x0 (x0.length : Int) (k : Int) y50000 y50001 = QfH x0 (x0.length : Int) (k : Int) y50000 y50001) ?_ ?_ k hk
 ·rw [Qp6]
  simp [Qhv, QfH, Qat, Qaf, fstG]
 ·intro k hk ih
  rw [Qp6]
  have hx : witOk x0[k] y50000 y50001 = true := (Bool.and_eq_true_iff.1 hc).1
  simp only [Qhv, Qat, Qax, hk, decide_true, Qad, Int.toNat_natCast, add1 (show k < 4611686018427387904 by omega), ih, Qaz (y := Qah) hk, hx]
  simp only [QfH, Int.toNat_natCast, List.drop_eq_getElem_cons hk, fstG]
  cases h : (witO x0[k] y50000 y50001) with
  | true => simp [Qad]
  | false =>
   simp only [Qaf, Bool.false_eq_true, if_false]
   cases hq : fstG (fun c => witO c y50000 y50001) (x0.drop (k + 1)) with
   | none => rfl
   | some j =>
    simp only [Option.map_some, Option.isSome_some, Option.getD_some, Qad]
    congr 3
    omega
theorem Qy5 : ∀ S l p, Qev.L 0 (fgt QdA S) = some (true, l) → pickA l = some p → loopF (Qaj Qev QdA QeX) S = some p :=
 QaB (s := Qii) ⟨by decide, by decide⟩ (by kernel_rfl) fun x y hok p hp => by
 simp only [Qas, Qan] at hp
 exact (QDk x.1 x.2.2.1 x.2.2.2.1 y.1 y.2.1 (by simpa using hok)).trans hp
theorem QKa : Qn0.lok Qev := by
 repeat (first | exact trivial | exact Qy5 | refine ⟨?_, ?_⟩)
theorem QNm (l : List Keep) (d0 : Qab) (d1 : Int) (h : okWit l d0 d1 = true) : Qs6 l d0 d1 = some (.t tI (ixWit l d0 d1), [.box (.t Qae d0), .box (.t tI d1)]) := by
 have hl := QIR h
 simp only [Qs6, rng_0 hl, h, Bool.and_self, Qad, Int.toNat_zero, List.drop_zero, ixWit]
 cases fstG (fun c => witO c d0 d1) l <;> simp [Qad, Qaf]
def Quw : Ent := QfU [.ty (.sl Qah), .fn 49 [(50000, 0), (50001, 0)]] [Qae, tI] (fun x d => (okWit x.1 d.1 d.2.1)) (fun x d => (.t tI (ixWit x.1 d.1 d.2.1)))
theorem QI6 : Meets Tryz.prog 87 (strip Quw) := Qcn (QaP (R := runF Qev Qn0 Qvl false) (mG Tryz.func87 (by kernel_rfl) Tryz.ntmps87 (by kernel_rfl) QKC QKa) fun x d hok => (QPm x.1 d.1 d.2.1).trans (QNm x.1 d.1 d.2.1 hok))
def Qmb (l : List Keep) (d0 : Qab) (d1 : Int) : Bool := l.any (fun c => witO c d0 d1)
noncomputable def Qn3 : TC := (.sq (.reg (rT Tryz.f53 0)) (.sq (.reg (rT Tryz.f53 1)) .rt))
def Qvo : List (RV × Option Ty) := [((.t 4), some .bool)]
def QnK : G := ⟨TYs, [], 9, EL [(87, Quw)], keeps, (fun _ _ => none), IL [], RL []⟩
def Qta (p0 : List Keep) (d0 : Qab) (d1 : Int) : Option (V × List VO) := br (okWit p0 d0 d1) (some (.t .bool (ige (ixWit p0 d0 d1) 0), [.box (.t Qae d0), .box (.t tI d1)])) none
theorem QPp (p0 : List Keep) (d0 : Qab) (d1 : Int) : runF QnK Qn3 Qvo false [.t (.sl Qah) p0, .fn 49 [(.ptr 50000 0), (.ptr 50001 0)]] [.box (.t Qae d0), .box (.t tI d1)] = Qta p0 d0 d1 := by kernel_rfl
theorem QKW : Qai Tryz.prog 53 := .inr ⟨by decide, _, Tryz.func53, by kernel_rfl, by kernel_rfl⟩
theorem QKF : GOk Tryz.prog QnK := Qal _ (gA (gC QKR QI6 gN))
theorem QKd : Qn3.lok QnK := by repeat (first | exact trivial | refine ⟨?_, ?_⟩)
theorem QNp (l : List Keep) (d0 : Qab) (d1 : Int) (h : okWit l d0 d1 = true) : Qta l d0 d1 = some (.t .bool (Qmb l d0 d1), [.box (.t Qae d0), .box (.t tI d1)]) := by
 simp only [Qta, h, Qad]
 have e : ige (ixWit l d0 d1) 0 = Qmb l d0 d1 := by
  unfold ixWit Qmb
  cases hq : fstG (fun c => witO c d0 d1) l with
  | none => rw [QbA.1 hq]; rfl
  | some k =>
   rw [← QbB, hq]
   simp only [ige, Option.isSome_some, decide_eq_true_eq]
   omega
 rw [e]
def QuA : Ent := QfU [.ty (.sl Qah), .fn 49 [(50000, 0), (50001, 0)]] [Qae, tI] (fun x d => (okWit x.1 d.1 d.2.1)) (fun x d => (.t .bool (Qmb x.1 d.1 d.2.1)))
theorem QJb : Meets Tryz.prog 53 (strip QuA) := Qcn (QaP (R := runF QnK Qn3 Qvo false) (mG Tryz.func53 (by kernel_rfl) Tryz.ntmps53 (by kernel_rfl) QKF QKd) fun x d hok => (QPp x.1 d.1 d.2.1).trans (QNp x.1 d.1 d.2.1 hok))
def needU (a : Int) : List ERow → Int → List Int
 | [], _ => []
 | z :: r, k => bif Qmb (QaY z.1 z.2.1) z.2.1 a then needU a r (k + 1) else k :: needU a r (k + 1)
def needF (e : Qam) (a : Int) : List Int × Int :=
 bif !estOk e then ([], 31) else bif ilt a 1 || igt a 22 then ([], 7) else (needU a (prsI e) 0, 0)
def Qex : Fg := ⟨[(3, none), (6, none), (7, none)], [(60000, some tI), (60001, none), (60002, none), (36, none), (20600, none)]⟩
noncomputable def QmH : TC := (.sq (.reg (rT Tryz.f18 8)) (.reg (rT Tryz.f18 9)))
noncomputable def QmA : TC := (.bk 2 (.sq (.reg (rT Tryz.f18 10)) (.sq (.sq (.reg (rT Tryz.f18 11)) (.cd (.t 32) (.reg (rT Tryz.f18 12)) .sk)) (.reg (rT Tryz.f18 13)))))
noncomputable def QEP : TC := (.sq (.reg (rT Tryz.f18 0)) (.sq (.bk 0 (.sq (.reg (rT Tryz.f18 1)) (.cd (.t 11) (.sq (.reg (rT Tryz.f18 2)) .rt) (.sq (.reg (rT Tryz.f18 3)) (.cd (.t 15) (.sq (.reg (rT Tryz.f18 4)) .rt) .sk))))) (.sq (.reg (rT Tryz.f18 5)) (.sq (.reg (rT Tryz.f18 6)) (.sq (.sq (.reg (rT Tryz.f18 7)) (.bk 1 (.nf 6 0 3 20600 (.rf 0 Qex (.t 23) (.pr Qae (.pr Qae .nil)) [24, 25] [3, 6, 7] QmH QmA)))) (.sq (.reg (rT Tryz.f18 14)) .rt))))))
def QR2 : List (RV × Option Ty) := [((.t 4), some (.sl tI)), ((.t 5), some tI)]
abbrev QsD : Sh := ⟨[(3, .ptr 60000 0), (6, .ptr 60001 0), (7, .ptr 60002 0)], [(60000, .box tI), (60001, .bag [.ms 20600]), (60002, .bag [.ty tI]), (36, .no), (20600, .arr 3 tI)]⟩
def QmM (y60000 y60002_0 : Int) (y20600 : List Int) : VS := QsD.st ((), (), (), ()) (y60000, ((), ()), (y60002_0, ()), (), y20600, ())
abbrev QoY : Sh := ⟨[(3, .ptr 60000 0), (6, .ptr 60001 0), (7, .ptr 60002 0)], [(60000, .box tI), (60001, .bag [.ms 20600]), (60002, .bag [.ty tI]), (36, .no), (20600, .arr 3 tI)]⟩
def Qdr (y60000 y60002_0 : Int) (y20600 : List Int) : VS := QoY.st ((), (), (), ()) (y60000, ((), ()), (y60002_0, ()), (), y20600, ())
def Qui : VS → List (Ty.T (.pr Qae (.pr Qae .nil))) → Option (Bool × List (Bool × Exit × VS)) := mkR QsD (fun zs x y => (QhY zs && decide (0 ≤ y.2.2.1.1 ∧ y.2.2.1.1 + zs.length ≤ 1000 ∧ y.2.2.2.2.1.length ≤ y.2.2.1.1))) (fun zs x y => [(true, .normal, Qdr (y.1) (y.2.2.1.1 + zs.length) (y.2.2.2.2.1 ++ needU y.1 zs y.2.2.1.1))])
def g_f18 : G := ⟨TYs, [], 40, EL [(39, QAa), (41, QFa), (53, QuA), (54, QE6)], keeps, (Ls [fun _ => none]), IL [(81, QhI)], (RL [⟨(.pr Qae (.pr Qae .nil)), Qui⟩])⟩
def QMJ (z : (Qab × (Qab × Unit))) (y60000 y60002_0 : Int) (y20600 : List Int) : Option (Exit × VS) := br (Qbv z.1 z.2.1) (br (okWit (QaY z.1 z.2.1) z.2.1 y60000) (br (!(Qmb (QaY z.1 z.2.1) z.2.1 y60000)) (br (cApp y20600 ([y60002_0]) 8) (some (.normal, QmM y60000 (iadd .i64 y60002_0 1) (y20600 ++ ([y60002_0])))) none) (some (.normal, QmM y60000 (iadd .i64 y60002_0 1) y20600))) none) none
noncomputable def Qju (zs : List (Qab × (Qab × Unit))) (y60000 y60002_0 : Int) (y20600 : List Int) : Option (Exit × VS) := Qc2 (Qeg g_f18 Qex (.pr Qae (.pr Qae .nil)) [24, 25] QmH QmA) zs (QmM y60000 y60002_0 y20600)
noncomputable def QyI (z : (Qab × (Qab × Unit))) (zs : List (Qab × (Qab × Unit))) (y60000 y60002_0 : Int) (y20600 : List Int) : Option (Exit × VS) := br (Qbv z.1 z.2.1) (br (okWit (QaY z.1 z.2.1) z.2.1 y60000) (br (!(Qmb (QaY z.1 z.2.1) z.2.1 y60000)) (br (cApp y20600 ([y60002_0]) 8) (Qju zs y60000 (iadd .i64 y60002_0 1) (y20600 ++ ([y60002_0]))) none) (Qju zs y60000 (iadd .i64 y60002_0 1) y20600)) none) none
def QtT (zs : List (Qab × (Qab × Unit))) (y60000 y60002_0 : Int) (y20600 : List Int) : Option (Exit × VS) := some (.normal, Qdr (y60000) (y60002_0 + zs.length) (y20600 ++ needU y60000 zs y60002_0))
theorem QQb (z : (Qab × (Qab × Unit))) (y60000 y60002_0 : Int) (y20600 : List Int) : Qeg g_f18 Qex (.pr Qae (.pr Qae .nil)) [24, 25] QmH QmA z (QmM y60000 y60002_0 y20600) = QMJ z y60000 y60002_0 y20600 := by kernel_rfl
theorem QJ5 (y60000 : Int) (y60002_0 : Int) (y20600 : (List Int)) : Qju [] y60000 y60002_0 y20600 = some (.normal, Qdr y60000 y60002_0 y20600) := rfl
theorem QOb (z : (Qab × (Qab × Unit))) (zs : List (Qab × (Qab × Unit))) (y60000 y60002_0 : Int) (y20600 : List Int) : Qju (z :: zs) y60000 y60002_0 y20600 = QyI z zs y60000 y60002_0 y20600 := (Qim _ _ _ _).trans (by
 rw [QQb]
 simp only [QMJ, QyI, QaA, nxt_n, nxt_r, nxt_e, nxt_0]
 rfl)
def r_f18 (p0 : Qam) (p1 : Int) : Option (V × List VO) := br (QbC p0) (br (ine (Ql7 p0) 0) (some (.tu [(.t (.sl tI) ([] : List Int)), (.t tI 31)], [])) (br (ilt p1 1) (some (.tu [(.t (.sl tI) ([] : List Int)), (.t tI 7)], [])) (br (igt p1 22) (some (.tu [(.t (.sl tI) ([] : List Int)), (.t tI 7)], [])) (br (prsOk p0) (br (QhY (prsI p0) && decide (0 ≤ (0 : Int) ∧ (0 : Int) + (prsI p0).length ≤ 1000 ∧ ([] : List Int).length ≤ (0 : Int))) (some (.tu [(.t (.sl tI) (([] : List Int) ++ needU p1 (prsI p0) (0 : Int))), (.t tI 0)], [])) none) none)))) none
theorem e_f18 (p0 : Qam) (p1 : Int) : runF g_f18 QEP QR2 false [.t Qaq p0, .t tI p1] [] = r_f18 p0 p1 := by kernel_rfl
theorem en_f18 : Qai Tryz.prog 18 := .inr ⟨by decide, _, Tryz.func18, by kernel_rfl, by kernel_rfl⟩
theorem gk_f18 : GOk Tryz.prog g_f18 := Qal _ (gA (gC QKZ QJe (gC QSN QSx (gC QKW QJb (gC QSJ QSt gN)))))
 [(81, QhI)] (by
 intro p hp
 simp only [List.mem_cons, List.not_mem_nil, or_false] at hp
 rcases hp with rfl
 ·exact QA1)
theorem QVT (zs : List (Qab × (Qab × Unit))) (y60000 y60002_0 : Int) (y20600 : List Int) (h : (QhY zs && decide (0 ≤ y60002_0 ∧ y60002_0 + zs.length ≤ 1000 ∧ y20600.length ≤ y60002_0)) = true) : Qju zs y60000 y60002_0 y20600 = QtT zs y60000 y60002_0 y20600 := by
 simp only [Bool.and_eq_true, decide_eq_true_eq] at h
 obtain ⟨hr, h0, h1, h2⟩ := h
 induction zs generalizing y60002_0 y20600 with
 | nil =>
  rw [QJ5]
  simp only [QtT, List.length_nil, List.append_nil, needU, Int.natCast_zero, Int.add_zero]
 | cons z zs ih =>
  simp only [QhY, List.all_cons, Bool.and_eq_true] at hr
  simp only [List.length_cons] at h1
  rw [QOb]
  have c1 : Qbv z.1 z.2.1 = true := hr.1
  have hl := QqQ (c := z.1) (s := z.2.1)
  have c2 : okWit (QaY z.1 z.2.1) z.2.1 y60000 = true := Bool.and_eq_true_iff.2 ⟨(Bool.and_eq_true_iff.1 hr.1).2, decide_eq_true (by omega)⟩
  have c3 : cApp y20600 [y60002_0] 8 = true := cAppN (by omega) (by simp only [List.length_singleton]; omega)
  have e1 : iadd .i64 y60002_0 1 = y60002_0 + 1 := Qbi (by omega)
  simp only [QyI, c1, c2, c3, e1, Qad]
  rw [ih _ _ hr.2 (by omega) (by omega) (by simp only [List.length_append, List.length_singleton]; omega), ih _ _ hr.2 (by omega) (by omega) (by omega)]
  simp only [QtT, needU, List.append_assoc, List.singleton_append, List.length_cons, Int.natCast_add, Int.natCast_one, show y60002_0 + ((zs.length : Int) + 1) = y60002_0 + 1 + zs.length by omega]
  cases Qmb (QaY z.1 z.2.1) z.2.1 y60000 <;> rfl
theorem QN4 : ∀ S (rows : List (Ty.T (.pr Qae (.pr Qae .nil)))) l p, g_f18.R 0 (fgt Qex S) (.pr Qae (.pr Qae .nil)) rows = some (true, l) → pickA l = some p → Qc2 (Qeg g_f18 Qex (.pr Qae (.pr Qae .nil)) [24, 25] QmH QmA) rows (fgt Qex S) = some p := by
 intro S rows l p hR hp
 rw [show g_f18.R 0 (fgt Qex S) (.pr Qae (.pr Qae .nil)) rows = Qui (fgt Qex S) rows from RL_at (l := [⟨(.pr Qae (.pr Qae .nil)), Qui⟩]) (j := 0) (F := Qui) rfl _ _] at hR
 refine Qy3 (s := QsD) ⟨by decide, by decide⟩ (by kernel_rfl) (fun zs x y hok p hp => ?_) S rows l p hR hp
 simp only [Qas, Qan] at hp
 exact (QVT zs y.1 y.2.2.1.1 y.2.2.2.2.1 (by first | rfl | simpa using hok)).trans hp
theorem lk_f18 : QEP.lok g_f18 := by
 repeat (first | exact trivial | exact QN4 | refine ⟨?_, ?_⟩)
theorem s_f18 (e : Qam) (a : Int) (h : QeU e a = true) : r_f18 e a = some (.tu [.t (.sl tI) (needF e a).1, .t tI (needF e a).2], []) := by
 have hl : QbC e = true := h
 simp only [r_f18, hl, Qad, QqR, List.nil_append, List.length_nil]
 unfold needF
 cases he : estOk e with
 | false => rfl
 | true =>
  obtain ⟨h1, h2, h3⟩ := QBV hl he
  rw [Bool.not_true, Qaf]
  cases ilt a 1 with
  | true => rfl
  | false =>
   cases igt a 22 with
   | true => rfl
   | false =>
    rw [Qaf, Qaf, h1, Qad, h2, Bool.true_and]
    exact brY (decide_eq_true ⟨Int.le_refl _, by omega, Int.le_refl _⟩) rfl
def QRh : Ent := spec (.pr Qaq (.pr tI .nil)) (fun x => (QeU x.1 x.2.1)) (fun x => (.tu [(.t (.sl tI) ((needF x.1 x.2.1).1)), (.t tI ((needF x.1 x.2.1).2))]))
theorem ms_f18 : Meets Tryz.prog 18 (strip QRh) := Qag (R := runF g_f18 QEP QR2 false) (mG Tryz.func18 (by kernel_rfl) Tryz.ntmps18 (by kernel_rfl) gk_f18 lk_f18) fun x hok => (e_f18 x.1 x.2.1).trans (s_f18 x.1 x.2.1 hok)
end
end Go.Proofs.YtckcgijklnloiaaGreat.K
