import Derived.Test.YtckcgijklnloiaaGreatQ8
import Derived.RangeFuncCalls
import Derived.RangeFuncBound
import Derived.Shelf.RegionOpen
import Derived.OwnWalkIn
import Derived.TacticsInMore
import Derived.LoopNIn
import Derived.LoopIn
import Derived.Lib.SliceRun
set_option linter.unusedSimpArgs false
set_option linter.unusedVariables false
namespace Go.Proofs.YtckcgijklnloiaaGreat.K
open Go.RowKit
noncomputable section
abbrev egAt (l : List Keep) (k : Nat) : Keep := l.getD k zK
def egLt (a b : Keep) : Bool := !igt a.1 b.1 && !(ieq a.1 b.1 && ige a.2.1 b.2.1)
def egIn (n : Int) (x : Keep) : Bool := !ilt x.1 0 && (!ige x.1 n && (!ilt x.2.1 0 && (!ige x.2.1 n && !ieq x.1 x.2.1)))
def egOk (n : Int) (l : List Keep) (k : Nat) : Bool := egIn n (egAt l k) && (decide (k = 0) || egLt (egAt l (k - 1)) (egAt l k))
def egUp (n : Int) (l : List Keep) (k : Nat) : Bool := (List.range' k (l.length - k)).all (egOk n l)
theorem QNA (n : Int) (l : List Keep) : egUp n l l.length = true := by
 unfold egUp
 rw [Nat.sub_self]
 rfl
theorem QJN {n : Int} {l : List Keep} {k : Nat} (hk : k < l.length) : egUp n l k = (egOk n l k && egUp n l (k + 1)) := by
 have : l.length - k = (l.length - (k + 1)) + 1 := by omega
 unfold egUp
 rw [this, List.range'_succ, List.all_cons]
theorem QNz {β : Type} (c1 c2 c3 c4 c5 u : Bool) (R E : Option β) : br c1 R (br c2 R (br c3 R (br c4 R (br c5 R (br (!u) R E))))) = br (!(((!c1 && (!c2 && (!c3 && (!c4 && !c5)))) && true) && u)) R E := by
 cases c1 <;> cases c2 <;> cases c3 <;> cases c4 <;> cases c5 <;> rfl
theorem QNy {β : Type} (c1 c2 c3 c4 c5 a b c u : Bool) (R E : Option β) : br c1 R (br c2 R (br c3 R (br c4 R (br c5 R (br a R (br b (br c R (br (!u) R E)) (br (!u) R E))))))) = br (!(((!c1 && (!c2 && (!c3 && (!c4 && !c5)))) && (!a && !(b && c))) && u)) R E := by
 cases c1 <;> cases c2 <;> cases c3 <;> cases c4 <;> cases c5 <;> cases a <;> cases b <;> cases c <;> rfl
theorem QHp {k : Nat} (hk : k < 100000) (h0 : k ≠ 0) : isub .i64 (k : Int) 1 = ((k - 1 : Nat) : Int) := by
 rw [Qch (by omega)]
 omega
def Qpu (l : List Keep) (n : Int) : Bool := egUp n l 0 && ile (llen l) 40
def QzM (l : List Keep) (_n : Int) : Bool := decide (l.length ≤ 99999)
noncomputable def QNM : List DO := dT Tryz.f80 6
def Qj4 : Fg := ⟨[(0, some (.sl Qai)), (1, some tI), (7, some (.sl Qai)), (8, some tI), (9, some tI)], []⟩
noncomputable def QlU : TC := (.sq (.reg (rT Tryz.f80 2)) (.sq (.cd (.t 10) .sk (.fg ⟨[(0, some (.sl Qai))], []⟩ (.ex 0))) (.sq (.bk 1 (.sq (.reg (rT Tryz.f80 3)) (.sq (.sq (.reg (rT Tryz.f80 4)) (.cd (.t 40) (.sq (.reg (rT Tryz.f80 5)) (.fg ⟨[(4, some .bool)], []⟩ .rt)) .sk)) (.sq (.dr QNM [(0, []), (1, []), (2, []), (3, []), (4, []), (5, []), (6, []), (7, []), (8, []), (9, [6]), (10, [6]), (11, []), (12, []), (13, []), (14, []), (15, []), (16, []), (17, []), (18, []), (19, [6]), (20, [6]), (21, []), (22, []), (23, []), (24, []), (25, []), (26, []), (27, []), (28, []), (29, [6]), (30, [6]), (31, []), (32, []), (33, []), (34, [])] (.of [0, 1, 2, 3, 4, 5, 6, 7, 8, 9, 10, 11, 12, 13, 14, 15, 16, 17, 18, 19, 20, 21, 22, 23, 24, 25, 26, 27, 28, 29, 30, 31, 32, 33, 34])) (.cd (.t 75) (.sq (.reg (rT Tryz.f80 7)) (.fg ⟨[(4, some .bool)], []⟩ .rt)) .sk))))) (.reg (rT Tryz.f80 8)))))
noncomputable def QC9 : TC := (.sq (.reg (rT Tryz.f80 0)) (.sq (.sq (.reg (rT Tryz.f80 1)) (.bk 0 (.lp 0 Qj4 QlU))) (.sq (.reg (rT Tryz.f80 9)) .rt)))
def QPF : List (RV × Option Ty) := [((.t 4), some .bool)]
abbrev QrA : Sh := ⟨[(0, .ty (.sl Qai)), (1, .ty tI), (7, .ty (.sl Qai)), (8, .ty tI), (9, .ty tI)], []⟩
def QiP (x0 : List Keep) (x1 : Int) (x7 : List Keep) (x8 x9 : Int) : VS := QrA.st (x0, x1, x7, x8, x9, ()) ()
abbrev QtF : Sh := ⟨[(4, .ty .bool)], []⟩
def QaK (x4 : Bool) : VS := QtF.st (x4, ()) ()
abbrev Qw9 : Sh := ⟨[(0, .ty (.sl Qai))], []⟩
def QeW (x0 : List Keep) : VS := Qw9.st (x0, ()) ()
def QWb : VS → Option (Bool × List (Bool × Exit × VS)) := mkL QrA (fun x y => (x.2.2.1 == x.1 && (rngOk x.2.2.1 x.2.2.2.1 x.2.2.2.2.1 && decide (x.2.2.1.length ≤ 99999)))) (fun x y => [((!egUp x.2.1 x.2.2.1 x.2.2.2.2.1.toNat), .ret, QaK (false)), (true, .exit 0, QeW (x.1))])
def g_f80 : G := ⟨TYs, [], 80, EL [], keeps, (Ls [QWb]), IL [], RL []⟩
def QKV (x0 : List Keep) (x1 : Int) (x7 : List Keep) (x8 x9 : Int) : Option (Exit × VS) :=
 let a1 := lgt Qai x7 (Int.toNat x9)
 let a2 := lgt Qai x0 (Int.toNat (isub .i64 x9 1))
 let a3 := cIx x0 (isub .i64 x9 1)
 let a4 := iadd .i64 x9 1
 br (ilt x9 x8) (br (cIx x7 x9) (br (ilt (a1.1) 0) (some (.ret, QaK false)) (br (ige (a1.1) x1) (some (.ret, QaK false)) (br (ilt ((a1.2).1) 0) (some (.ret, QaK false)) (br (ige ((a1.2).1) x1) (some (.ret, QaK false)) (br (ieq (a1.1) ((a1.2).1)) (some (.ret, QaK false)) (br (igt x9 0) (br a3 (br (igt (a2.1) (a1.1)) (some (.ret, QaK false)) (br a3 (br (ieq (a2.1) (a1.1)) (br a3 (br (ige ((a2.2).1) ((a1.2).1)) (some (.ret, QaK false)) (some (.normal, QiP x0 x1 x7 x8 a4))) none) (some (.normal, QiP x0 x1 x7 x8 a4))) none)) none) (some (.normal, QiP x0 x1 x7 x8 a4)))))))) none) (some (.exit 0, QeW x0))
noncomputable def Qhl (x0 : List Keep) (x1 : Int) (x7 : List Keep) (x8 x9 : Int) : Option (Exit × VS) := loopF (Qak g_f80 Qj4 QlU) (QiP x0 x1 x7 x8 x9)
noncomputable def Qsu (x0 : List Keep) (x1 : Int) (x7 : List Keep) (x8 x9 : Int) : Option (Exit × VS) :=
 let a1 := lgt Qai x7 (Int.toNat x9)
 let a2 := lgt Qai x0 (Int.toNat (isub .i64 x9 1))
 let a3 := cIx x0 (isub .i64 x9 1)
 let a4 := iadd .i64 x9 1
 br (ilt x9 x8) (br (cIx x7 x9) (br (ilt (a1.1) 0) (some (.ret, QaK false)) (br (ige (a1.1) x1) (some (.ret, QaK false)) (br (ilt ((a1.2).1) 0) (some (.ret, QaK false)) (br (ige ((a1.2).1) x1) (some (.ret, QaK false)) (br (ieq (a1.1) ((a1.2).1)) (some (.ret, QaK false)) (br (igt x9 0) (br a3 (br (igt (a2.1) (a1.1)) (some (.ret, QaK false)) (br a3 (br (ieq (a2.1) (a1.1)) (br a3 (br (ige ((a2.2).1) ((a1.2).1)) (some (.ret, QaK false)) (Qhl x0 x1 x7 x8 a4)) none) (Qhl x0 x1 x7 x8 a4)) none)) none) (Qhl x0 x1 x7 x8 a4))))))) none) (some (.exit 0, QeW x0))
def QmR (x0 : List Keep) (x1 : Int) (x7 : List Keep) (x8 x9 : Int) : Option (Exit × VS) := br (!egUp x1 x7 x9.toNat) (some (.ret, QaK (false))) <| some (.exit 0, QeW (x0))
theorem QN7 (x0 : List Keep) (x1 : Int) (x7 : List Keep) (x8 x9 : Int) : Qak g_f80 Qj4 QlU (QiP x0 x1 x7 x8 x9) = QKV x0 x1 x7 x8 x9 := by kernel_rfl
theorem Qzy (x0 : List Keep) (x1 : Int) (x7 : List Keep) (x8 x9 : Int) : Qhl x0 x1 x7 x8 x9 = Qsu x0 x1 x7 x8 x9 := (Qan _ _).trans (by
 rw [QN7]
 simp only [QKV, Qsu, Qax, nxt_n, nxt_r, nxt_e, nxt_0]
 rfl)
def r_f80 (p0 : List Keep) (p1 : Int) : Option (V × List VO) := br (p0 == p0 && (rngOk p0 (llen p0) (0 : Int) && decide (p0.length ≤ 99999))) (br (!egUp p1 p0 (0 : Int).toNat) (some (.t .bool (false), [])) (some (.t .bool (ile (llen (p0)) 40), []))) none
theorem e_f80 (p0 : List Keep) (p1 : Int) : runF g_f80 QC9 QPF false [.t (.sl Qai) p0, .t tI p1] [] = r_f80 p0 p1 := by kernel_rfl
theorem en_f80 : Qah Tryz.prog 80 := .inr ⟨by decide, _, Tryz.func80, by kernel_rfl, by kernel_rfl⟩
theorem gk_f80 : GOk Tryz.prog g_f80 := Qal _ (fun p hp => by cases hp)
theorem QTA (x0 : List Keep) (x1 : Int) (x7 : List Keep) (x8 x9 : Int) (h : (x7 == x0 && (rngOk x7 x8 x9 && decide (x7.length ≤ 99999))) = true) : Qhl x0 x1 x7 x8 x9 = QmR x0 x1 x7 x8 x9 := by
 simp only [Bool.and_eq_true, beq_iff_eq, decide_eq_true_eq] at h
 obtain ⟨rfl, h0, hl⟩ := h
 obtain ⟨rfl, h3, k, rfl, hk⟩ := rng_k h0
 clear h0
 refine Qat x7 (fun k => Qhl x7 x1 x7 (x7.length : Int) (k : Int) = QmR x7 x1 x7 (x7.length : Int) (k : Int)) ?_ ?_ k hk
 ·rw [Qzy]
  simp only [Qsu, QmR, Qar, Nat.lt_irrefl, decide_false, Qaf, Int.toNat_natCast, QNA, Bool.not_true]
 ·intro k hk ih
  rw [Qzy]
  simp only [Qsu, Qar, Qau, hk, decide_true, Qac, Int.toNat_natCast, add1 (show k < 4611686018427387904 by omega), ih]
  simp only [QmR, Int.toNat_natCast, QJN hk]
  by_cases hk0 : k = 0
  ·subst hk0
   rw [show igt ((0 : Nat) : Int) 0 = false from rfl]
   simp only [Qaf]
   exact QNz ..
  ·rw [show igt (k : Int) 0 = true from decide_eq_true (by omega), QHp (by omega) hk0]
   simp only [Qac, Qau, show k - 1 < x7.length by omega, decide_true, Int.toNat_natCast]
   unfold egOk
   rw [show decide (k = 0) = false from decide_eq_false hk0, Bool.false_or]
   exact QNy ..
theorem QMe : ∀ S l p, g_f80.L 0 (fgt Qj4 S) = some (true, l) → pickA l = some p → loopF (Qak g_f80 Qj4 QlU) S = some p :=
 QaD (s := QrA) ⟨by decide, by decide⟩ (by kernel_rfl) fun x y hok p hp => by
 simp only [Qap, Qam] at hp
 exact (QTA x.1 x.2.1 x.2.2.1 x.2.2.2.1 x.2.2.2.2.1 (by simpa using hok)).trans hp
theorem lk_f80 : QC9.lok g_f80 := by
 repeat (first | exact trivial | exact QMe | refine ⟨?_, ?_⟩)
theorem s_f80 (l : List Keep) (n : Int) (h : QzM l n = true) : r_f80 l n = some (.t .bool (Qpu l n), []) := by
 have hl : l.length ≤ 99999 := of_decide_eq_true h
 simp only [r_f80, beq_self_eq_true, Bool.true_and, rng_0 (show l.length ≤ 100000 by omega), decide_eq_true hl, Qac, Int.toNat_zero]
 unfold Qpu
 cases egUp n l 0 <;> rfl
def QO6 : Ent := spec (.pr (.sl Qai) (.pr tI .nil)) (fun x => (QzM x.1 x.2.1)) (fun x => (.t .bool (Qpu x.1 x.2.1)))
theorem ms_f80 : Meets Tryz.prog 80 (strip QO6) := Qag (R := runF g_f80 QC9 QPF false) (mG Tryz.func80 (by kernel_rfl) Tryz.ntmps80 (by kernel_rfl) gk_f80 lk_f80) fun x hok => (e_f80 x.1 x.2.1).trans (s_f80 x.1 x.2.1 hok)
def badI (i : Item) : Bool := ine (Qkj i) 0
theorem QV8 (i : Item) : badI i = !Qen i := by
 unfold badI Qkj
 cases Qen i <;> rfl
noncomputable def QDb : TC := (.sq (.reg (rT Tryz.f78 0)) (.sq (.reg (rT Tryz.f78 1)) .rt))
def QPH : List (RV × Option Ty) := [((.t 2), some .bool)]
def g_f78 : G := ⟨TYs, [], 6, EL [(79, QO7)], keeps, (fun _ _ => none), IL [], RL []⟩
def r_f78 (p0 : Item) : Option (V × List VO) := br (QeE p0) (some (.t .bool (ine (Qkj p0) 0), [])) none
theorem e_f78 (p0 : Item) : runF g_f78 QDb QPH false [.t QaT p0] [] = r_f78 p0 := by kernel_rfl
theorem en_f78 : Qah Tryz.prog 78 := .inr ⟨by decide, _, Tryz.func78, by kernel_rfl, by kernel_rfl⟩
theorem gk_f78 : GOk Tryz.prog g_f78 := Qal _ (gA (gC en_f79 ms_f79 gN))
theorem lk_f78 : QDb.lok g_f78 := by repeat (first | exact trivial | refine ⟨?_, ?_⟩)
theorem s_f78 (i : Item) (h : QeE i = true) : r_f78 i = some (.t .bool (badI i), []) := by
 simp only [r_f78, h, Qac]
 rfl
def QO8 : Ent := spec (.pr QaT .nil) (fun x => (QeE x.1)) (fun x => (.t .bool (badI x.1)))
theorem ms_f78 : Meets Tryz.prog 78 (strip QO8) := Qag (R := runF g_f78 QDb QPH false) (mG Tryz.func78 (by kernel_rfl) Tryz.ntmps78 (by kernel_rfl) gk_f78 lk_f78) fun x hok => (e_f78 x.1).trans (s_f78 x.1 hok)
def QbX (l : List Item) : Bool := decide (l.length ≤ 100000) && l.all QeE
theorem QIP {l : List Item} (h : QbX l = true) {k : Nat} (hk : k < l.length) : QeE l[k] = true := by
 simp only [QbX, Bool.and_eq_true, List.all_eq_true] at h
 exact h.2 _ (List.getElem_mem hk)
theorem QxA {l : List Item} (h : QbX l = true) : l.length ≤ 100000 := by
 simp only [QbX, Bool.and_eq_true, decide_eq_true_eq] at h
 exact h.1
def QqY (l : List Item) : Int := match fstG badI l with | some k => (k : Int) | none => -1
def QcS : Fg := ⟨[(0, some (.sl QaT)), (1, none), (7, some tI), (8, some tI)], []⟩
noncomputable def QdC : TC := (.sq (.reg (rT Tryz.f123 2)) (.sq (.cd (.t 9) .sk (.fg ⟨[], []⟩ (.ex 0))) (.sq (.bk 1 (.sq (.reg (rT Tryz.f123 3)) (.sq (.reg (rT Tryz.f123 4)) (.cd (.t 16) (.sq (.reg (rT Tryz.f123 5)) (.fg ⟨[(4, some tI)], []⟩ .rt)) .sk)))) (.reg (rT Tryz.f123 6)))))
noncomputable def Qkw : TC := (.sq (.reg (rT Tryz.f123 0)) (.sq (.sq (.reg (rT Tryz.f123 1)) (.bk 0 (.lp 0 QcS QdC))) (.sq (.reg (rT Tryz.f123 7)) .rt)))
def QqP : List (RV × Option Ty) := [((.t 4), some tI)]
abbrev Qgb : Sh := ⟨[(0, .ty (.sl QaT)), (1, .cf 78), (7, .ty tI), (8, .ty tI)], []⟩
def QfX (x0 : List Item) (x7 x8 : Int) : VS := Qgb.st (x0, (), x7, x8, ()) ()
abbrev QlO : Sh := ⟨[(4, .ty tI)], []⟩
def QbU (x4 : Int) : VS := QlO.st (x4, ()) ()
abbrev Qoy : Sh := ⟨[], []⟩
def Qce  : VS := Qoy.st () ()
def QyY : VS → Option (Bool × List (Bool × Exit × VS)) := mkL Qgb (fun x y => (rngOk x.1 x.2.2.1 x.2.2.2.1 && QbX x.1)) (fun x y => [(((fstG badI (x.1.drop x.2.2.2.1.toNat)).isSome), .ret, QbU (x.2.2.2.1 + ((fstG badI (x.1.drop x.2.2.2.1.toNat)).getD 0 : Nat))), (true, .exit 0, Qce)])
def QcN : G := ⟨TYs, [], 19, EL [(78, QO8)], keeps, (Ls [QyY]), IL [], RL []⟩
def Qqe (x0 : List Item) (x7 x8 : Int) : Option (Exit × VS) :=
 let a1 := lgt QaT x0 (Int.toNat x8)
 br (ilt x8 x7) (br (cIx x0 x8) (br (QeE a1) (br (badI a1) (some (.ret, QbU x8)) (some (.normal, QfX x0 x7 (iadd .i64 x8 1)))) none) none) (some (.exit 0, Qce))
noncomputable def Qei (x0 : List Item) (x7 x8 : Int) : Option (Exit × VS) := loopF (Qak QcN QcS QdC) (QfX x0 x7 x8)
noncomputable def Qfo (x0 : List Item) (x7 x8 : Int) : Option (Exit × VS) :=
 let a1 := lgt QaT x0 (Int.toNat x8)
 br (ilt x8 x7) (br (cIx x0 x8) (br (QeE a1) (br (badI a1) (some (.ret, QbU x8)) (Qei x0 x7 (iadd .i64 x8 1))) none) none) (some (.exit 0, Qce))
def Qem (x0 : List Item) (x7 x8 : Int) : Option (Exit × VS) :=
 let a1 := fstG badI (x0.drop x8.toNat)
 br (a1.isSome) (some (.ret, QbU (x8 + (a1.getD 0 : Nat)))) <| some (.exit 0, Qce)
theorem QvD (x0 : List Item) (x7 x8 : Int) : Qak QcN QcS QdC (QfX x0 x7 x8) = Qqe x0 x7 x8 := by kernel_rfl
theorem Qlc (x0 : List Item) (x7 x8 : Int) : Qei x0 x7 x8 = Qfo x0 x7 x8 := (Qan _ _).trans (by
 rw [QvD]
 simp only [Qqe, Qfo, Qax, nxt_n, nxt_r, nxt_e, nxt_0]
 rfl)
def QoY (p0 : List Item) : Option (V × List VO) :=
 let a1 := (fstG badI (p0.drop (0 : Int).toNat))
 br (rngOk p0 (llen p0) (0 : Int) && QbX p0) (br (a1.isSome) (some (.t tI ((0 : Int) + (a1.getD 0 : Nat)), [])) (some (.t tI (-1), []))) none
theorem QJT (p0 : List Item) : runF QcN Qkw QqP false [.t (.sl QaT) p0, .c (.func (.func 78) ⟨[]⟩ ⟨[]⟩)] [] = QoY p0 := by kernel_rfl
theorem QCp : Qah Tryz.prog 123 := .inr ⟨by decide, _, Tryz.func123, by kernel_rfl, by kernel_rfl⟩
theorem QCg : GOk Tryz.prog QcN := Qal _ (gA (gC en_f78 ms_f78 gN))
theorem Qye (x0 : List Item) (x7 x8 : Int) (h : (rngOk x0 x7 x8 && QbX x0) = true) : Qei x0 x7 x8 = Qem x0 x7 x8 := by
 simp only [Bool.and_eq_true] at h
 obtain ⟨h0, hc⟩ := h
 obtain ⟨rfl, h3, k, rfl, hk⟩ := rng_k h0
 clear h0
 refine Qat x0 (fun k => Qei x0 (x0.length : Int) (k : Int) = Qem x0 (x0.length : Int) (k : Int)) ?_ ?_ k hk
 ·rw [Qlc]
  simp [Qfo, Qem, Qar, Qaf, fstG]
 ·intro k hk ih
  rw [Qlc]
  have hx := QIP hc hk
  simp only [Qfo, Qar, Qau, hk, decide_true, Qac, Int.toNat_natCast, add1 (show k < 4611686018427387904 by omega), ih, Qay (y := QaT) hk, hx]
  simp only [Qem, Int.toNat_natCast, List.drop_eq_getElem_cons hk, fstG]
  cases h : (badI x0[k]) with
  | true => simp [Qac]
  | false =>
   simp only [Qaf, Bool.false_eq_true, if_false]
   cases hq : fstG badI (x0.drop (k + 1)) with
   | none => rfl
   | some j =>
    simp only [Option.map_some, Option.isSome_some, Option.getD_some, Qac]
    congr 3
    omega
theorem QuJ : ∀ S l p, QcN.L 0 (fgt QcS S) = some (true, l) → pickA l = some p → loopF (Qak QcN QcS QdC) S = some p :=
 QaD (s := Qgb) ⟨by decide, by decide⟩ (by kernel_rfl) fun x y hok p hp => by
 simp only [Qap, Qam] at hp
 exact (Qye x.1 x.2.2.1 x.2.2.2.1 (by simpa using hok)).trans hp
theorem QB6 : Qkw.lok QcN := by
 repeat (first | exact trivial | exact QuJ | refine ⟨?_, ?_⟩)
theorem QE3 (l : List Item) (h : QbX l = true) : QoY l = some (.t tI (QqY l), []) := by
 have hl := QxA h
 simp only [QoY, rng_0 hl, h, Bool.and_self, Qac, Int.toNat_zero, List.drop_zero, QqY]
 cases fstG badI l <;> simp [Qac, Qaf]
def QqJ : Ent := specH [.ty (.sl QaT), .cf 78] [] (fun x d => (QbX x.1)) (fun x d => (.t tI (QqY x.1)))
theorem QB0 : Meets Tryz.prog 123 (strip QqJ) := (QaO (R := runF QcN Qkw QqP false) (mG Tryz.func123 (by kernel_rfl) Tryz.ntmps123 (by kernel_rfl) QCg QB6) fun x d hok => (QJT x.1).trans (QE3 x.1 hok))
def Qie (l : List Item) : Bool := l.any badI
noncomputable def Qnj : TC := (.sq (.reg (rT Tryz.f77 0)) (.sq (.reg (rT Tryz.f77 1)) .rt))
def Qum : List (RV × Option Ty) := [((.t 4), some .bool)]
def Qm2 : G := ⟨TYs, [], 9, EL [(123, QqJ)], keeps, (fun _ _ => none), IL [], RL []⟩
def Qse (p0 : List Item) : Option (V × List VO) := br (QbX p0) (some (.t .bool (ige (QqY p0) 0), [])) none
theorem QNG (p0 : List Item) : runF Qm2 Qnj Qum false [.t (.sl QaT) p0, .c (.func (.func 78) ⟨[]⟩ ⟨[]⟩)] [] = Qse p0 := by kernel_rfl
theorem QJq : Qah Tryz.prog 77 := .inr ⟨by decide, _, Tryz.func77, by kernel_rfl, by kernel_rfl⟩
theorem QI9 : GOk Tryz.prog Qm2 := Qal _ (gA (gC QCp QB0 gN))
theorem QIK : Qnj.lok Qm2 := by repeat (first | exact trivial | refine ⟨?_, ?_⟩)
theorem QLL (l : List Item) (h : QbX l = true) : Qse l = some (.t .bool (Qie l), []) := by
 simp only [Qse, h, Qac]
 have e : ige (QqY l) 0 = Qie l := by
  unfold QqY Qie
  cases hq : fstG badI l with
  | none => rw [QbP.1 hq]; rfl
  | some k =>
   rw [← Qbv, hq]
   simp only [ige, Option.isSome_some, decide_eq_true_eq]
   omega
 rw [e]
def Qtx : Ent := specH [.ty (.sl QaT), .cf 78] [] (fun x d => (QbX x.1)) (fun x d => (.t .bool (Qie x.1)))
theorem QHK : Meets Tryz.prog 77 (strip Qtx) := (QaO (R := runF Qm2 Qnj Qum false) (mG Tryz.func77 (by kernel_rfl) Tryz.ntmps77 (by kernel_rfl) QI9 QIK) fun x d hok => (QNG x.1).trans (QLL x.1 hok))
abbrev zEp : Qab := Ty.zero Qae
abbrev epAt (l : List Qab) (k : Nat) : Qab := l.getD k zEp
def epOkK (l m : List Qab) (k : Nat) : Bool := QaS (epAt l k) && (decide (k = 0) || slt (epAt m (k - 1)).1 (epAt l k).1)
def epUp2 (l m : List Qab) (k : Nat) : Bool := (List.range' k (l.length - k)).all (epOkK l m)
abbrev epUp (l : List Qab) (k : Nat) : Bool := epUp2 l l k
theorem QNl (l m : List Qab) : epUp2 l m l.length = true := by
 unfold epUp2
 rw [Nat.sub_self]
 rfl
theorem QJi {l m : List Qab} {k : Nat} (hk : k < l.length) : epUp2 l m k = (epOkK l m k && epUp2 l m (k + 1)) := by
 have : l.length - k = (l.length - (k + 1)) + 1 := by omega
 unfold epUp2
 rw [this, List.range'_succ, List.all_cons]
abbrev xEps (e : Qao) : List Qab := e.1
abbrev xEdg (e : Qao) : List Keep := e.2.1
abbrev xItm (e : Qao) : List Item := e.2.2.1
def estOk (e : Qao) : Bool := epUp (xEps e) 0 && ((xItm e).all Qen && (ile (llen (xEps e)) 16 && (ile (llen (xItm e)) 30 && (egUp (llen (xEps e)) (xEdg e) 0 && ile (llen (xEdg e)) 40))))
def QlG (e : Qao) : Int := bif estOk e then 0 else 31
theorem Qp6 (e : Qao) : ine (QlG e) 0 = !estOk e := by
 unfold QlG
 cases estOk e <;> rfl
def Qcn (e : Qao) : Bool := decide ((xEps e).length ≤ 99999 ∧ (xEdg e).length ≤ 99999) && ((xEps e).all Qba && QbX (xItm e))
theorem QLe (l : List Item) : Qie l = !l.all Qen := by
 unfold Qie
 rw [List.not_all_eq_any_not]
 congr 1
 funext x
 exact QV8 x
theorem QI1 (a b : Int) : ile a b = !igt a b := by
 simp only [ile, igt, ← decide_not, Int.not_lt]
theorem QNk {β : Type} (v s u : Bool) (R E : Option β) : br (!v) R (br (!s) R (br (!u) R E)) = br (!((v && s) && u)) R E := by
 cases v <;> cases s <;> rfl
theorem QNj {β : Type} (v u : Bool) (R E : Option β) : br (!v) R (br (!u) R E) = br (!((v && true) && u)) R E := by
 cases v <;> rfl
noncomputable def QNR : List DO := dT Tryz.f39 4
def Qka : Fg := ⟨[(1, none), (7, some (.sl Qae)), (8, some tI), (9, some tI)], [(1, some Qas)]⟩
noncomputable def Ql0 : TC := (.sq (.reg (rT Tryz.f39 2)) (.sq (.cd (.t 10) .sk (.fg ⟨[(1, none)], [(1, some Qas)]⟩ (.ex 0))) (.sq (.bk 1 (.sq (.reg (rT Tryz.f39 3)) (.sq (.dr QNR [(0, [4]), (1, []), (2, []), (3, []), (4, []), (5, []), (6, []), (7, [1]), (8, [1]), (9, []), (10, []), (11, []), (12, []), (13, []), (14, [4]), (15, [4]), (16, []), (17, []), (18, [])] (.of [0, 1, 2, 3, 4, 5, 6, 7, 8, 9, 10, 11, 12, 13, 14, 15, 16, 17, 18])) (.cd (.t 32) (.sq (.reg (rT Tryz.f39 5)) (.fg ⟨[(2, some tI)], []⟩ .rt)) .sk)))) (.reg (rT Tryz.f39 6)))))
noncomputable def QDt : TC := (.sq (.reg (rT Tryz.f39 0)) (.sq (.sq (.reg (rT Tryz.f39 1)) (.bk 0 (.lp 0 Qka Ql0))) (.sq (.reg (rT Tryz.f39 7)) (.sq (.sq (.reg (rT Tryz.f39 8)) (.cd (.t 58) (.sq (.reg (rT Tryz.f39 9)) .rt) .sk)) (.sq (.reg (rT Tryz.f39 10)) .rt)))))
def QPZ : List (RV × Option Ty) := [((.t 2), some tI)]
abbrev QrG : Sh := ⟨[(1, .ptr 1 0), (7, .ty (.sl Qae)), (8, .ty tI), (9, .ty tI)], [(1, .box Qas)]⟩
def Qmd (x7 : List Qab) (x8 x9 : Int) (y1 : Qao) : VS := QrG.st ((), x7, x8, x9, ()) (y1, ())
abbrev QtJ : Sh := ⟨[(2, .ty tI)], []⟩
def Qb0 (x2 : Int) : VS := QtJ.st (x2, ()) ()
abbrev Qxh : Sh := ⟨[(1, .ptr 1 0)], [(1, .box Qas)]⟩
def Qe3 (y1 : Qao) : VS := Qxh.st ((), ()) (y1, ())
def QWh : VS → Option (Bool × List (Bool × Exit × VS)) := mkL QrG (fun x y => (decide (x.2.1.length = y.1.1.length ∧ x.2.1.length ≤ 99999) && (rngOk x.2.1 x.2.2.1 x.2.2.2.1 && x.2.1.all Qba))) (fun x y => [((!epUp2 x.2.1 y.1.1 x.2.2.2.1.toNat), .ret, Qb0 (31)), (true, .exit 0, Qe3 (y.1))])
def g_f39 : G := ⟨TYs, [], 59, EL [(76, Qy5), (77, Qtx), (80, QO6)], keeps, (Ls [QWh]), IL [], RL []⟩
def QK1 (x7 : List Qab) (x8 x9 : Int) (y1 : Qao) : Option (Exit × VS) :=
 let a1 := lgt Qae x7 (Int.toNat x9)
 br (ilt x9 x8) (br (cIx x7 x9) (br (Qba a1) (br (ine (Qeu a1) 0) (some (.ret, Qb0 31)) (br (igt x9 0) (br (cIx y1.1 (isub .i64 x9 1)) (br (!slt ((lgt Qae y1.1 (Int.toNat (isub .i64 x9 1))).1) (a1.1)) (some (.ret, Qb0 31)) (some (.normal, Qmd x7 x8 (iadd .i64 x9 1) y1))) none) (some (.normal, Qmd x7 x8 (iadd .i64 x9 1) y1)))) none) none) (some (.exit 0, Qe3 y1))
noncomputable def Qi6 (x7 : List Qab) (x8 x9 : Int) (y1 : Qao) : Option (Exit × VS) := loopF (Qak g_f39 Qka Ql0) (Qmd x7 x8 x9 y1)
noncomputable def Qsz (x7 : List Qab) (x8 x9 : Int) (y1 : Qao) : Option (Exit × VS) :=
 let a1 := lgt Qae x7 (Int.toNat x9)
 br (ilt x9 x8) (br (cIx x7 x9) (br (Qba a1) (br (ine (Qeu a1) 0) (some (.ret, Qb0 31)) (br (igt x9 0) (br (cIx y1.1 (isub .i64 x9 1)) (br (!slt ((lgt Qae y1.1 (Int.toNat (isub .i64 x9 1))).1) (a1.1)) (some (.ret, Qb0 31)) (Qi6 x7 x8 (iadd .i64 x9 1) y1)) none) (Qi6 x7 x8 (iadd .i64 x9 1) y1))) none) none) (some (.exit 0, Qe3 y1))
def QmT (x7 : List Qab) (x8 x9 : Int) (y1 : Qao) : Option (Exit × VS) := br (!epUp2 x7 y1.1 x9.toNat) (some (.ret, Qb0 (31))) <| some (.exit 0, Qe3 (y1))
theorem QOd (x7 : List Qab) (x8 x9 : Int) (y1 : Qao) : Qak g_f39 Qka Ql0 (Qmd x7 x8 x9 y1) = QK1 x7 x8 x9 y1 := by kernel_rfl
theorem QzD (x7 : List Qab) (x8 x9 : Int) (y1 : Qao) : Qi6 x7 x8 x9 y1 = Qsz x7 x8 x9 y1 := (Qan _ _).trans (by
 rw [QOd]
 simp only [QK1, Qsz, Qax, nxt_n, nxt_r, nxt_e, nxt_0]
 rfl)
def r_f39 (p0 : Qao) : Option (V × List VO) :=
 let a1 := ((((p0).2).2).1)
 let a2 := llen ((p0).1)
 br (decide (p0.1.length = p0.1.length ∧ p0.1.length ≤ 99999) && (rngOk p0.1 (llen p0.1) (0 : Int) && p0.1.all Qba)) (br (!epUp2 p0.1 p0.1 (0 : Int).toNat) (some (.t tI (31), [])) (br (QbX a1) (br (Qie a1) (some (.t tI 31, [])) (br (igt a2 16) (some (.t tI 31, [])) (br (igt (llen a1) 30) (some (.t tI 31, [])) (br (QzM (((p0).2).1) a2) (br (!(Qpu (((p0).2).1) a2)) (some (.t tI 31, [])) (some (.t tI 0, []))) none)))) none)) none
theorem e_f39 (p0 : Qao) : runF g_f39 QDt QPZ false [.t Qas p0] [] = r_f39 p0 := by kernel_rfl
theorem QJv : Qah Tryz.prog 39 := .inr ⟨by decide, _, Tryz.func39, by kernel_rfl, by kernel_rfl⟩
theorem gk_f39 : GOk Tryz.prog g_f39 := Qal _ (gA (gC QJr QHL (gC QJq QHK (gC en_f80 ms_f80 gN))))
theorem QTG (x7 : List Qab) (x8 x9 : Int) (y1 : Qao) (h : (decide (x7.length = y1.1.length ∧ x7.length ≤ 99999) && (rngOk x7 x8 x9 && x7.all Qba)) = true) : Qi6 x7 x8 x9 y1 = QmT x7 x8 x9 y1 := by
 simp only [Bool.and_eq_true, decide_eq_true_eq, List.all_eq_true] at h
 obtain ⟨⟨hx, hl⟩, h0, ha⟩ := h
 obtain ⟨rfl, h3, k, rfl, hk⟩ := rng_k h0
 clear h0
 refine Qat x7 (fun k => Qi6 x7 (x7.length : Int) (k : Int) y1 = QmT x7 (x7.length : Int) (k : Int) y1) ?_ ?_ k hk
 ·rw [QzD]
  simp only [Qsz, QmT, Qar, Nat.lt_irrefl, decide_false, Qaf, Int.toNat_natCast, QNl, Bool.not_true]
 ·intro k hk ih
  rw [QzD]
  have he : Qba (lgt Qae x7 k) = true := by rw [Qay (y := Qae) hk]; exact ha _ (List.getElem_mem hk)
  simp only [Qsz, Qar, Qau, hk, decide_true, Qac, Int.toNat_natCast, add1 (show k < 4611686018427387904 by omega), ih, he, Qvy]
  simp only [QmT, Int.toNat_natCast, QJi hk]
  by_cases hk0 : k = 0
  ·subst hk0
   rw [show igt ((0 : Nat) : Int) 0 = false from rfl]
   simp only [Qaf]
   exact QNj ..
  ·rw [show igt (k : Int) 0 = true from decide_eq_true (by omega), QHp (by omega) hk0]
   simp only [Qac, Qau, show k - 1 < y1.1.length by omega, decide_true, Int.toNat_natCast]
   unfold epOkK
   rw [show decide (k = 0) = false from decide_eq_false hk0, Bool.false_or]
   exact QNk ..
theorem QMk : ∀ S l p, g_f39.L 0 (fgt Qka S) = some (true, l) → pickA l = some p → loopF (Qak g_f39 Qka Ql0) S = some p :=
 QaD (s := QrG) ⟨by decide, by decide⟩ (by kernel_rfl) fun x y hok p hp => by
 simp only [Qap, Qam] at hp
 exact (QTG x.2.1 x.2.2.1 x.2.2.2.1 y.1 (by simpa using hok)).trans hp
theorem lk_f39 : QDt.lok g_f39 := by
 repeat (first | exact trivial | exact QMk | refine ⟨?_, ?_⟩)
theorem s_f39 (e : Qao) (h : Qcn e = true) : r_f39 e = some (.t tI (QlG e), []) := by
 simp only [Qcn, Bool.and_eq_true, decide_eq_true_eq] at h
 obtain ⟨⟨h1, h2⟩, h3, h4⟩ := h
 have h5 : QzM (xEdg e) (llen (xEps e)) = true := decide_eq_true h2
 simp only [xEps, xEdg, xItm] at h1 h2 h3 h4 h5
 simp only [r_f39, rng_0 (show e.1.length ≤ 100000 by omega), decide_eq_true h1, true_and, Bool.true_and, h3, h4, h5, Qac, Int.toNat_zero, QLe]
 unfold QlG estOk Qpu
 simp only [xEps, xEdg, xItm, epUp]
 rw [QI1 (llen e.1), QI1 (llen e.2.2.1)]
 cases epUp2 e.1 e.1 0 <;> cases e.2.2.1.all Qen <;> cases igt (llen e.1) 16 <;> cases igt (llen e.2.2.1) 30 <;> cases (egUp (llen e.1) e.2.1 0 && ile (llen e.2.1) 40) <;> rfl
def Qy7 : Ent := spec (.pr Qas .nil) (fun x => (Qcn x.1)) (fun x => (.t tI (QlG x.1)))
theorem QHP : Meets Tryz.prog 39 (strip Qy7) := Qag (R := runF g_f39 QDt QPZ false) (mG Tryz.func39 (by kernel_rfl) Tryz.ntmps39 (by kernel_rfl) gk_f39 lk_f39) fun x hok => (e_f39 x.1).trans (s_f39 x.1 hok)
end
end Go.Proofs.YtckcgijklnloiaaGreat.K
namespace Go.Proofs.YtckcgijklnloiaaGreat.K
open Go.RowKit
noncomputable section
theorem brY {β : Type} {c : Bool} {a b r : Option β} (h : c = true) (k : a = r) : br c a b = r := by
 subst h
 exact k
def endsF (e : Qao) (i : Int) : Qab × Qab := (epAt (xEps e) (egAt (xEdg e) i.toNat).1.toNat, epAt (xEps e) (egAt (xEdg e) i.toNat).2.1.toNat)
def Qkh (e : Qao) (i : Int) : Bool := cIx (xEdg e) i && (cIx (xEps e) (egAt (xEdg e) i.toNat).1 && cIx (xEps e) (egAt (xEdg e) i.toNat).2.1)
noncomputable def QNQ : List DO := dT Tryz.f44 2
noncomputable def QDo : TC := (.sq (.reg (rT Tryz.f44 0)) (.sq (.reg (rT Tryz.f44 1)) (.sq (.dr QNQ [(0, [2]), (1, [2]), (2, [6]), (3, [6]), (4, []), (5, []), (6, [2]), (7, [2]), (8, [6]), (9, [6]), (10, []), (11, []), (12, [4]), (13, [5])] (.of [0, 1, 2, 3, 4, 5, 6, 7, 8, 9, 10, 11, 12, 13])) .rt)))
def QPU : List (RV × Option Ty) := [((.c 4 true 9), some Qae), ((.c 5 true 9), some Qae)]
def g_f44 : G := ⟨TYs, [], 24, EL [], keeps, (fun _ _ => none), IL [], RL []⟩
def r_f44 (p0 : Qao) (p1 : Int) : Option (V × List VO) :=
 let a1 := lgt Qai p0.2.1 (Int.toNat p1)
 br (cIx p0.2.1 p1) (br (cIx p0.1 (a1.1)) (br (cIx p0.1 ((a1.2).1)) (some (.tu [(.t Qae (lgt Qae p0.1 (Int.toNat (a1.1)))), (.t Qae (lgt Qae p0.1 (Int.toNat ((a1.2).1))))], [])) none) none) none
theorem e_f44 (p0 : Qao) (p1 : Int) : runF g_f44 QDo QPU false [.t Qas p0, .t tI p1] [] = r_f44 p0 p1 := by kernel_rfl
theorem en_f44 : Qah Tryz.prog 44 := .inr ⟨by decide, _, Tryz.func44, by kernel_rfl, by kernel_rfl⟩
theorem gk_f44 : GOk Tryz.prog g_f44 := Qal _ (fun p hp => by cases hp)
theorem lk_f44 : QDo.lok g_f44 := by repeat (first | exact trivial | refine ⟨?_, ?_⟩)
theorem s_f44 (e : Qao) (i : Int) (h : Qkh e i = true) : r_f44 e i = some (.tu [.t Qae (endsF e i).1, .t Qae (endsF e i).2], []) := by
 simp only [Qkh, Bool.and_eq_true] at h
 obtain ⟨h1, h2, h3⟩ := h
 simp only [r_f44]
 exact brY h1 (brY h2 (brY h3 rfl))
def QPh : Ent := spec (.pr Qas (.pr tI .nil)) (fun x => (Qkh x.1 x.2.1)) (fun x => (.tu [(.t Qae ((endsF x.1 x.2.1).1)), (.t Qae ((endsF x.1 x.2.1).2))]))
theorem ms_f44 : Meets Tryz.prog 44 (strip QPh) := Qag (R := runF g_f44 QDo QPU false) (mG Tryz.func44 (by kernel_rfl) Tryz.ntmps44 (by kernel_rfl) gk_f44 lk_f44) fun x hok => (e_f44 x.1 x.2.1).trans (s_f44 x.1 x.2.1 hok)
theorem eg_all {n : Int} {l : List Keep} (h : egUp n l 0 = true) {k : Nat} (hk : k < l.length) : egIn n (egAt l k) = true := by
 unfold egUp at h
 rw [List.all_eq_true] at h
 have := h k (by rw [List.mem_range']; exact ⟨k, by omega, by omega⟩)
 unfold egOk at this
 exact (Bool.and_eq_true_iff.1 this).1
theorem eg_in {n : Int} {x : Keep} (h : egIn n x = true) : (0 ≤ x.1 ∧ x.1 < n) ∧ (0 ≤ x.2.1 ∧ x.2.1 < n) ∧ x.1 ≠ x.2.1 := by
 simp only [egIn, ilt, ige, QfD, Bool.and_eq_true, Bool.not_eq_true', decide_eq_false_iff_not] at h
 refine ⟨⟨by omega, by omega⟩, ⟨by omega, by omega⟩, h.2.2.2.2⟩
theorem Qvm {e : Qao} (h : estOk e = true) : epUp (xEps e) 0 = true ∧ (xItm e).all Qen = true ∧ (xEps e).length ≤ 16 ∧ (xItm e).length ≤ 30 ∧ egUp (llen (xEps e)) (xEdg e) 0 = true ∧ (xEdg e).length ≤ 40 := by
 simp only [estOk, ile, llen, Bool.and_eq_true, decide_eq_true_eq] at h
 exact ⟨h.1, h.2.1, by omega, by omega, h.2.2.2.2.1, by omega⟩
theorem Qs3 {e : Qao} (h : estOk e = true) {k : Nat} (hk : k < (xEdg e).length) : (0 ≤ (egAt (xEdg e) k).1 ∧ (egAt (xEdg e) k).1 < (xEps e).length) ∧ (0 ≤ (egAt (xEdg e) k).2.1 ∧ (egAt (xEdg e) k).2.1 < (xEps e).length) ∧ (egAt (xEdg e) k).1 ≠ (egAt (xEdg e) k).2.1 :=
 eg_in (eg_all (Qvm h).2.2.2.2.1 hk)
theorem Qs2 {e : Qao} {i : Int} (h : estOk e = true) (h0 : 0 ≤ i) (h1 : i < (xEdg e).length) : Qkh e i = true := by
 obtain ⟨k, rfl⟩ := Int.eq_ofNat_of_zero_le h0
 have := Qs3 h (k := k) (by omega)
 simp only [Qkh, cIx, Int.toNat_natCast, Bool.and_eq_true, decide_eq_true_eq]
 exact ⟨⟨by omega, by omega⟩, ⟨this.1.1, this.1.2⟩, this.2.1.1, this.2.1.2⟩
theorem Qs1 {e : Qao} (h : Qcn e = true) : (xEps e).all Qba = true := by
 simp only [Qcn, Bool.and_eq_true] at h
 exact h.2.1
theorem Qs4 {l : List Qab} (h : l.all Qba = true) {c : Int} (hc : cIx l c = true) : Qba (epAt l c.toNat) = true := by
 simp only [cIx, decide_eq_true_eq] at hc
 obtain ⟨k, rfl⟩ := Int.eq_ofNat_of_zero_le hc.1
 have hk : k < l.length := by omega
 rw [Int.toNat_natCast, show epAt l k = l[k] by simp only [epAt, List.getD_eq_getElem?_getD, List.getElem?_eq_getElem hk, Option.getD_some]]
 exact List.all_eq_true.1 h _ (List.getElem_mem hk)
theorem QAI {e : Qao} {i : Int} (h : Qcn e = true) (hi : Qkh e i = true) : QbN (endsF e i).1 (endsF e i).2 = true := by
 simp only [Qkh, Bool.and_eq_true] at hi
 exact Bool.and_eq_true_iff.2 ⟨Qs4 (Qs1 h) hi.2.1, Qs4 (Qs1 h) hi.2.2⟩
def QfT (e : Qao) (i : Int) : Int := bif !estOk e then 31 else bif ilt i 0 || ige i (llen (xEdg e)) then 4 else 0
def QeQ (e : Qao) (_i : Int) : Bool := Qcn e
def QJf (e : Qao) (_i _d : Int) : Bool := Qcn e
noncomputable def QDp : TC := (.sq (.reg (rT Tryz.f43 0)) (.sq (.bk 0 (.sq (.reg (rT Tryz.f43 1)) (.cd (.t 5) (.sq (.reg (rT Tryz.f43 2)) .rt) (.sq (.reg (rT Tryz.f43 3)) (.cd (.t 9) (.sq (.reg (rT Tryz.f43 4)) .rt) .sk))))) (.sq (.reg (rT Tryz.f43 5)) .rt)))
def QPV : List (RV × Option Ty) := [((.t 4), some tI)]
def g_f43 : G := ⟨TYs, [], 19, EL [(39, Qy7)], keeps, (fun _ _ => none), IL [], RL []⟩
def r_f43 (p0 : Qao) (p1 : Int) : Option (V × List VO) := br (Qcn p0) (br (ine (QlG p0) 0) (some (.t tI 31, [])) (br (ilt p1 0) (some (.t tI 4, [])) (br (ige p1 (llen p0.2.1)) (some (.t tI 4, [])) (some (.t tI 0, []))))) none
theorem e_f43 (p0 : Qao) (p1 : Int) : runF g_f43 QDp QPV false [.t Qas p0, .t tI p1] [] = r_f43 p0 p1 := by kernel_rfl
theorem en_f43 : Qah Tryz.prog 43 := .inr ⟨by decide, _, Tryz.func43, by kernel_rfl, by kernel_rfl⟩
theorem gk_f43 : GOk Tryz.prog g_f43 := Qal _ (gA (gC QJv QHP gN))
theorem lk_f43 : QDp.lok g_f43 := by repeat (first | exact trivial | refine ⟨?_, ?_⟩)
theorem s_f43 (e : Qao) (i : Int) (h : QeQ e i = true) : r_f43 e i = some (.t tI (QfT e i), []) := by
 have h : Qcn e = true := h
 simp only [r_f43, h, Qac, Qp6]
 unfold QfT
 cases estOk e <;> cases ilt i 0 <;> cases ige i (llen (xEdg e)) <;> rfl
def QPi : Ent := spec (.pr Qas (.pr tI .nil)) (fun x => (QeQ x.1 x.2.1)) (fun x => (.t tI (QfT x.1 x.2.1)))
theorem ms_f43 : Meets Tryz.prog 43 (strip QPi) := Qag (R := runF g_f43 QDp QPV false) (mG Tryz.func43 (by kernel_rfl) Tryz.ntmps43 (by kernel_rfl) gk_f43 lk_f43) fun x hok => (e_f43 x.1 x.2.1).trans (s_f43 x.1 x.2.1 hok)
theorem QvL (e : Qao) (i : Int) : (ine (QfT e i) 0 = false ∧ QfT e i = 0 ∧ estOk e = true ∧ 0 ≤ i ∧ i < (xEdg e).length) ∨ ine (QfT e i) 0 = true := by
 unfold QfT
 cases h1 : estOk e with
 | false => exact .inr rfl
 | true =>
  cases h2 : ilt i 0 with
  | true => exact .inr rfl
  | false =>
   cases h3 : ige i (llen (xEdg e)) with
   | true => exact .inr rfl
   | false =>
    simp only [ilt, ige, llen, decide_eq_false_iff_not] at h2 h3
    exact .inl ⟨rfl, rfl, rfl, by omega, by omega⟩
def Qqz (e : Qao) (i d : Int) : Keep × Int := bif ine (QfT e i) 0 then (zK, QfT e i) else Qcx (endsF e i).1 (endsF e i).2 d
noncomputable def QDA : TC := (.sq (.reg (rT Tryz.f15 0)) (.sq (.sq (.reg (rT Tryz.f15 1)) (.sq (.reg (rT Tryz.f15 2)) (.cd (.t 15) (.sq (.reg (rT Tryz.f15 3)) .rt) .sk))) (.sq (.reg (rT Tryz.f15 4)) (.sq (.reg (rT Tryz.f15 5)) .rt))))
def QP6 : List (RV × Option Ty) := [((.c 6 true 2), some Qai), ((.t 7), some tI)]
def g_f15 : G := ⟨TYs, [], 30, EL [(42, QDO), (43, QPi), (44, QPh)], keeps, (fun _ _ => none), IL [], RL []⟩
def r_f15 (p0 : Qao) (p1 p2 : Int) : Option (V × List VO) :=
 let a1 := Qcx ((endsF p0 p1).1) ((endsF p0 p1).2) p2
 br (QeQ p0 p1) (br (ine (QfT p0 p1) 0) (some (.tu [(.t Qai (0, (0, ()))), (.t tI (QfT p0 p1))], [])) (br (Qkh p0 p1) (br (QfF ((endsF p0 p1).1) ((endsF p0 p1).2) p2) (some (.tu [(.t Qai (a1.1)), (.t tI (a1.2))], [])) none) none)) none
theorem e_f15 (p0 : Qao) (p1 p2 : Int) : runF g_f15 QDA QP6 false [.t Qas p0, .t tI p1, .t tI p2] [] = r_f15 p0 p1 p2 := by kernel_rfl
theorem en_f15 : Qah Tryz.prog 15 := .inr ⟨by decide, _, Tryz.func15, by kernel_rfl, by kernel_rfl⟩
theorem gk_f15 : GOk Tryz.prog g_f15 := Qal _ (gA (gC QQG QQu (gC en_f43 ms_f43 (gC en_f44 ms_f44 gN))))
theorem lk_f15 : QDA.lok g_f15 := by repeat (first | exact trivial | refine ⟨?_, ?_⟩)
theorem s_f15 (e : Qao) (i d : Int) (h : QJf e i d = true) : r_f15 e i d = some (.tu [.t Qai (Qqz e i d).1, .t tI (Qqz e i d).2], []) := by
 have h : Qcn e = true := h
 simp only [r_f15, show QeQ e i = true from h, Qac]
 unfold Qqz
 rcases QvL e i with ⟨h1, _, h2, h3, h4⟩ | h1
 ·have h5 := Qs2 h2 h3 h4
  rw [h1, Qaf, h5, Qac, show QfF (endsF e i).1 (endsF e i).2 d = true from QAI h h5, Qac]
  rfl
 ·rw [h1]
  rfl
def QPo : Ent := spec (.pr Qas (.pr tI (.pr tI .nil))) (fun x => (QJf x.1 x.2.1 x.2.2.1)) (fun x => (.tu [(.t Qai ((Qqz x.1 x.2.1 x.2.2.1).1)), (.t tI ((Qqz x.1 x.2.1 x.2.2.1).2))]))
theorem ms_f15 : Meets Tryz.prog 15 (strip QPo) := Qag (R := runF g_f15 QDA QP6 false) (mG Tryz.func15 (by kernel_rfl) Tryz.ntmps15 (by kernel_rfl) gk_f15 lk_f15) fun x hok => (e_f15 x.1 x.2.1 x.2.2.1).trans (s_f15 x.1 x.2.1 x.2.2.1 hok)
def dayF (n : Int) : Bool := ige n 0 && ile n 40000
noncomputable def QDs : TC := (.sq (.reg (rT Tryz.f40 0)) (.sq (.reg (rT Tryz.f40 1)) .rt))
def QPY : List (RV × Option Ty) := [((.t 2), some .bool)]
def g_f40 : G := ⟨TYs, [], 9, EL [], keeps, (fun _ _ => none), IL [], RL []⟩
def r_f40 (p0 : Int) : Option (V × List VO) := br (ige p0 0) (some (.t .bool (ile p0 40000), [])) (some (.t .bool false, []))
theorem e_f40 (p0 : Int) : runF g_f40 QDs QPY false [.t tI p0] [] = r_f40 p0 := by kernel_rfl
theorem en_f40 : Qah Tryz.prog 40 := .inr ⟨by decide, _, Tryz.func40, by kernel_rfl, by kernel_rfl⟩
theorem gk_f40 : GOk Tryz.prog g_f40 := Qal _ (fun p hp => by cases hp)
theorem lk_f40 : QDs.lok g_f40 := by repeat (first | exact trivial | refine ⟨?_, ?_⟩)
theorem s_f40 (n : Int) : r_f40 n = some (.t .bool (dayF n), []) := by
 simp only [r_f40]
 unfold dayF
 cases ige n 0 <;> rfl
def QPj : Ent := spec (.pr tI .nil) (fun x => true) (fun x => (.t .bool (dayF x.1)))
theorem ms_f40 : Meets Tryz.prog 40 (strip QPj) := Qag (R := runF g_f40 QDs QPY false) (mG Tryz.func40 (by kernel_rfl) Tryz.ntmps40 (by kernel_rfl) gk_f40 lk_f40) fun x _ => (e_f40 x.1).trans (s_f40 x.1)
end
end Go.Proofs.YtckcgijklnloiaaGreat.K
namespace Go.Proofs.YtckcgijklnloiaaGreat.K
open Go.RowKit
noncomputable section
theorem QCQ (s : Qab) (o : List Int) : ∀ (n v : Nat), (verC s o v n).length ≤ 16 * n := by
 intro n
 induction n with
 | zero => intro v; simp [verC]
 | succ n ih =>
  intro v
  have h1 : (rowC s o (v : Int) 1).length ≤ 16 := by
   unfold rowC
   rw [List.length_map]
   exact Nat.le_trans (List.length_filter_le _ _) (by rw [List.length_range']; omega)
  have h2 := ih (v + 1)
  unfold verC at h2 ⊢
  rw [List.range'_succ, List.flatMap_cons, List.length_append]
  omega
theorem QyK {c s : Qab} : (Qbq c s).length ≤ 64 := by
 unfold Qbq
 cases h : QeJ c s with
 | false => exact Nat.zero_le _
 | true =>
  obtain ⟨hv, hw⟩ := Bool.and_eq_true_iff.1 h
  have v1 := QbZ hv
  have v2 := QbZ hw
  refine Nat.le_trans (QCQ _ _ _ _) ?_
  simp only [hiC, loC, imn, imx]
  split <;> split <;> omega
-- loop 0: (x2 : Int) (x33 : (List Keep)) (x34 : Int) (x35 : Int) (y9 : Qab) (y10 : Qab) (y11 : (List Keep)); out: ('exit', 0) (y11 : (List Keep))
-- loop 0: (x2 : Int) (x34 : (List Keep)) (x35 : Int) (x36 : Int) (y8 : Qab) (y9 : Qab) (y11 : (List Keep)); out: ('exit', 0) (y11 : (List Keep))
end
end Go.Proofs.YtckcgijklnloiaaGreat.K
namespace Go.Proofs.YtckcgijklnloiaaGreat.K
open Go.RowKit Go.Shelf
attribute [local go_sem] Oper.semAt_some
def cut9 (vs : List Value) (k : Nat) : Value := .agg ((vs.drop (k * 9)).take 9).toArray
def encP (vs : List Value) (l : List Keep) : List (Array Value) := l.map fun x => #[cut9 vs x.1.toNat, cut9 vs x.2.1.toNat]
theorem QKc {vs : List Value} {q : Nat} {v0 v1 v2 v3 v4 v5 v6 v7 v8 : Value} (e0 : vs[q * 9]? = some v0) (e1 : vs[q * 9 + 1]? = some v1) (e2 : vs[q * 9 + 2]? = some v2) (e3 : vs[q * 9 + 3]? = some v3) (e4 : vs[q * 9 + 4]? = some v4) (e5 : vs[q * 9 + 5]? = some v5) (e6 : vs[q * 9 + 6]? = some v6) (e7 : vs[q * 9 + 7]? = some v7) (e8 : vs[q * 9 + 8]? = some v8) : cut9 vs q = .agg #[v0, v1, v2, v3, v4, v5, v6, v7, v8] := by
 have hag : ((vs.drop (q * 9)).take 9) = [v0, v1, v2, v3, v4, v5, v6, v7, v8] := by
  apply List.ext_getElem?
  intro i
  rcases Nat.lt_or_ge i 9 with hi | hi
  ·rw [List.getElem?_take_of_lt hi, List.getElem?_drop]
   rcases i with _ | _ | _ | _ | _ | _ | _ | _ | _ | i
   ·rw [Nat.add_zero, e0]; rfl
   ·rw [e1]; rfl
   ·rw [e2]; rfl
   ·rw [e3]; rfl
   ·rw [e4]; rfl
   ·rw [e5]; rfl
   ·rw [e6]; rfl
   ·rw [e7]; rfl
   ·rw [e8]; rfl
   ·omega
  ·rw [List.getElem?_take_eq_none hi, List.getElem?_eq_none (by simpa using hi)]
 unfold cut9
 rw [hag]
set_option maxRecDepth 100000 in
set_option maxHeartbeats 8000000 in
theorem QU6 {n : Nat} {b0 off0 c0 n0 b1 off1 c1 n1 k a s : Nat} {it : Value} {w : World} {v0 v1 v2 v3 v4 v5 v6 v7 v8 u0 u1 u2 u3 u4 u5 u6 u7 u8 : Value} (hk : k < n1) (ka : a < n0) (ks : s < n0) (hn0 : n0 ≤ 99999) (hn1 : n1 ≤ 99999) (hb0 : b0 < w.heap.size) (hb1 : b1 < w.heap.size)
  (da : w.cell? ⟨b1, off1 + k * 2, none⟩ = some (.int .i64 (a : Int))) (db : w.cell? ⟨b1, off1 + k * 2 + 1, none⟩ = some (.int .i64 (s : Int)))
  (w0 : w.cell? ⟨b0, off0 + a * 9, none⟩ = some v0) (w1 : w.cell? ⟨b0, off0 + a * 9 + 1, none⟩ = some v1) (w2 : w.cell? ⟨b0, off0 + a * 9 + 2, none⟩ = some v2) (w3 : w.cell? ⟨b0, off0 + a * 9 + 3, none⟩ = some v3) (w4 : w.cell? ⟨b0, off0 + a * 9 + 4, none⟩ = some v4) (w5 : w.cell? ⟨b0, off0 + a * 9 + 5, none⟩ = some v5) (w6 : w.cell? ⟨b0, off0 + a * 9 + 6, none⟩ = some v6) (w7 : w.cell? ⟨b0, off0 + a * 9 + 7, none⟩ = some v7) (w8 : w.cell? ⟨b0, off0 + a * 9 + 8, none⟩ = some v8) (x0 : w.cell? ⟨b0, off0 + s * 9, none⟩ = some u0) (x1 : w.cell? ⟨b0, off0 + s * 9 + 1, none⟩ = some u1) (x2 : w.cell? ⟨b0, off0 + s * 9 + 2, none⟩ = some u2) (x3 : w.cell? ⟨b0, off0 + s * 9 + 3, none⟩ = some u3) (x4 : w.cell? ⟨b0, off0 + s * 9 + 4, none⟩ = some u4) (x5 : w.cell? ⟨b0, off0 + s * 9 + 5, none⟩ = some u5) (x6 : w.cell? ⟨b0, off0 + s * 9 + 6, none⟩ = some u6) (x7 : w.cell? ⟨b0, off0 + s * 9 + 7, none⟩ = some u7) (x8 : w.cell? ⟨b0, off0 + s * 9 + 8, none⟩ = some u8) (ov0 : v0.oneCell' = true) (ov1 : v1.oneCell' = true) (ov2 : v2.oneCell' = true) (ov3 : v3.oneCell' = true) (ov4 : v4.oneCell' = true) (ov5 : v5.oneCell' = true) (ov6 : v6.oneCell' = true) (ov7 : v7.oneCell' = true) (ov8 : v8.oneCell' = true) (ou0 : u0.oneCell' = true) (ou1 : u1.oneCell' = true) (ou2 : u2.oneCell' = true) (ou3 : u3.oneCell' = true) (ou4 : u4.oneCell' = true) (ou5 : u5.oneCell' = true) (ou6 : u6.oneCell' = true) (ou7 : u7.oneCell' = true) (ou8 : u8.oneCell' = true) :
  CallsIn (Fw none) n Tryz.prog 44 #[.agg #[.slice (some ⟨b0, off0, none⟩) n0 c0, .slice (some ⟨b1, off1, none⟩) n1 c1, it], .int .i64 (k : Int)] w fun e w' => e = .returned (.tuple #[.agg #[v0, v1, v2, v3, v4, v5, v6, v7, v8], .agg #[u0, u1, u2, u3, u4, u5, u6, u7, u8]]) ∧ Below w.heap.size w w' := by
 refine callsIn_of_wp (F := Fw none) Tryz.func44 rfl trivial ?_ rfl
 simp only [Tryz.ntmps44, List.size_toArray, List.length_cons, List.length_nil, Nat.reduceAdd, Nat.reduceSub, Array.replicate_succ, Array.replicate_zero, List.push_toArray, List.append_toArray, List.nil_append, List.cons_append]
 have up : ∀ {p : Addr} {v : Value}, w.cell? p = some v → ∀ o1 o2 o3, (((w.alloc o1).alloc o2).alloc o3).cell? p = some v := fun h o1 o2 o3 => Lib.cell?_alloc_some _ (Lib.cell?_alloc_some _ (Lib.cell?_alloc_some _ h))
 replace da := up da
 replace db := up db
 replace w0 := fun o1 o2 o3 o4 => Lib.cell?_alloc_some o4 (up w0 o1 o2 o3)
 replace w1 := fun o1 o2 o3 o4 => Lib.cell?_alloc_some o4 (up w1 o1 o2 o3)
 replace w2 := fun o1 o2 o3 o4 => Lib.cell?_alloc_some o4 (up w2 o1 o2 o3)
 replace w3 := fun o1 o2 o3 o4 => Lib.cell?_alloc_some o4 (up w3 o1 o2 o3)
 replace w4 := fun o1 o2 o3 o4 => Lib.cell?_alloc_some o4 (up w4 o1 o2 o3)
 replace w5 := fun o1 o2 o3 o4 => Lib.cell?_alloc_some o4 (up w5 o1 o2 o3)
 replace w6 := fun o1 o2 o3 o4 => Lib.cell?_alloc_some o4 (up w6 o1 o2 o3)
 replace w7 := fun o1 o2 o3 o4 => Lib.cell?_alloc_some o4 (up w7 o1 o2 o3)
 replace w8 := fun o1 o2 o3 o4 => Lib.cell?_alloc_some o4 (up w8 o1 o2 o3)
 replace x0 := fun o1 o2 o3 o4 => Lib.cell?_alloc_some o4 (up x0 o1 o2 o3)
 replace x1 := fun o1 o2 o3 o4 => Lib.cell?_alloc_some o4 (up x1 o1 o2 o3)
 replace x2 := fun o1 o2 o3 o4 => Lib.cell?_alloc_some o4 (up x2 o1 o2 o3)
 replace x3 := fun o1 o2 o3 o4 => Lib.cell?_alloc_some o4 (up x3 o1 o2 o3)
 replace x4 := fun o1 o2 o3 o4 => Lib.cell?_alloc_some o4 (up x4 o1 o2 o3)
 replace x5 := fun o1 o2 o3 o4 => Lib.cell?_alloc_some o4 (up x5 o1 o2 o3)
 replace x6 := fun o1 o2 o3 o4 => Lib.cell?_alloc_some o4 (up x6 o1 o2 o3)
 replace x7 := fun o1 o2 o3 o4 => Lib.cell?_alloc_some o4 (up x7 o1 o2 o3)
 replace x8 := fun o1 o2 o3 o4 => Lib.cell?_alloc_some o4 (up x8 o1 o2 o3)
 clear up
 gi_wp2
 have sv0 := fun a m W => run_store Tryz.prog W a v0 m ov0
 have sv1 := fun a m W => run_store Tryz.prog W a v1 m ov1
 have sv2 := fun a m W => run_store Tryz.prog W a v2 m ov2
 have sv3 := fun a m W => run_store Tryz.prog W a v3 m ov3
 have sv4 := fun a m W => run_store Tryz.prog W a v4 m ov4
 have sv5 := fun a m W => run_store Tryz.prog W a v5 m ov5
 have sv6 := fun a m W => run_store Tryz.prog W a v6 m ov6
 have sv7 := fun a m W => run_store Tryz.prog W a v7 m ov7
 have sv8 := fun a m W => run_store Tryz.prog W a v8 m ov8
 have su0 := fun a m W => run_store Tryz.prog W a u0 m ou0
 have su1 := fun a m W => run_store Tryz.prog W a u1 m ou1
 have su2 := fun a m W => run_store Tryz.prog W a u2 m ou2
 have su3 := fun a m W => run_store Tryz.prog W a u3 m ou3
 have su4 := fun a m W => run_store Tryz.prog W a u4 m ou4
 have su5 := fun a m W => run_store Tryz.prog W a u5 m ou5
 have su6 := fun a m W => run_store Tryz.prog W a u6 m ou6
 have su7 := fun a m W => run_store Tryz.prog W a u7 m ou7
 have su8 := fun a m W => run_store Tryz.prog W a u8 m ou8
 have fz : ∀ (d : Nat) (q : Nat) (p : Option Nat), w.frozen? ⟨w.heap.size + d, q, none⟩ = false := fun d q _ => by
  have : w.heap[w.heap.size + d]? = none := Array.getElem?_eq_none (by omega)
  simp [World.frozen?, this]
 have fr : ∀ (d q : Nat) c1 t1 c2 t2 c3 t3 c4 t4, ((((w.alloc (.cells c1 t1)).alloc (.cells c2 t2)).alloc (.cells c3 t3)).alloc (.cells c4 t4)).drew.frozen? ⟨w.heap.size + d, q, none⟩ = false := fun d q c1 t1 c2 t2 c3 t3 c4 t4 => by
  rw [frozen_drew_own, frozen?_alloc_cells, frozen?_alloc_cells, frozen?_alloc_cells, frozen?_alloc_cells]
  exact fz d q none
 have hm : Tryz.prog.follows .mixedOrders = true := mixed
 gi_region_o
 gi_wp2
 refine bodyPost_ret (by simp [results, Tryz.results44, go_sem]; rfl) rfl ?_
 exact ⟨rfl, ((((Below.refl _ _).alloc (Nat.le_refl _) _).alloc (by simp) _).alloc (by simp; omega) _).alloc (by simp; omega) _ |>.drew⟩
set_option maxRecDepth 100000 in
set_option maxHeartbeats 4000000 in
theorem QLV (Bs b0 off0 c0 n0 b1 off1 c1 n1 : Nat) (A0 A1 : Option Addr) (it : Value) (vs : List Value) (l1 : List Keep) (Xf : Nat → Nat → Prop) (w : World) (hn0 : n0 ≤ 99999) (hn1 : n1 ≤ 99999) (hl1 : l1.length = n1)
  (hB0 : w.cell? ⟨Bs, 0, none⟩ = some (.slice A0 n0 c0)) (hB1 : w.cell? ⟨Bs, 1, none⟩ = some (.slice A1 n1 c1)) (hB2 : w.cell? ⟨Bs, 2, none⟩ = some it) (hBl : Bs < w.heap.size) (hBx : ∀ q, ¬ Xf Bs q)
  (hE : 0 < n1 → A1 = some ⟨b1, off1, none⟩ ∧ b1 < w.heap.size ∧ (∀ j, j < n1 * 2 → ¬ Xf b1 (off1 + j)) ∧ ∀ k (hk : k < l1.length), w.cell? ⟨b1, off1 + k * 2, none⟩ = some (.int .i64 l1[k].1) ∧ w.cell? ⟨b1, off1 + k * 2 + 1, none⟩ = some (.int .i64 l1[k].2.1))
  (hP : 0 < n0 → A0 = some ⟨b0, off0, none⟩ ∧ vs.length = n0 * 9 ∧ b0 < w.heap.size ∧ (∀ j, j < vs.length → ¬ Xf b0 (off0 + j)) ∧ (∀ v ∈ vs, v.oneCell' = true) ∧ ∀ j v, vs[j]? = some v → w.cell? ⟨b0, off0 + j, none⟩ = some v)
  (hin : ∀ k (hk : k < l1.length), (0 ≤ l1[k].1 ∧ l1[k].1 < n0) ∧ 0 ≤ l1[k].2.1 ∧ l1[k].2.1 < n0) :
  ItOk Tryz.prog 81 [.pointer (some ⟨Bs, 0, none⟩)] (encP vs l1) Xf w := by
 intro l J Jx W hJ hJx hK hY h0 _
 have HE := Lib.hid hE
 have HP := Lib.hid hP
 have HI := Lib.hid hin
 clear hE hP hin
 refine callsIn_of_wp (F := Fw none) Tryz.func81 rfl trivial ?_ rfl
 simp only [Tryz.ntmps81, List.size_toArray, List.length_cons, List.length_nil, Nat.reduceAdd, Nat.reduceSub, Array.replicate_succ, Array.replicate_zero, List.push_toArray, List.append_toArray, List.nil_append, List.cons_append]
 have hb1 : W.cell? ⟨Bs, 1, none⟩ = some (.slice A1 n1 c1) := ((hK _ W h0).2 Bs 1 hBl (hBx 1)).trans hB1
 gi_wp2
 gi_loopw [7] (fun i wr => ∃ k : Nat, k ≤ n1 ∧ i = .int .i64 (k : Int) ∧ J ((encP vs l1).drop k) wr)
  (fun i _ => n1 - (intOf i).toNat)
 case atStart => exact ⟨0, Nat.zero_le _, rfl, h0⟩
 case round =>
  obtain ⟨k, hk, rfl, hJs⟩ := hrel
  by_cases hlt : k < n1
  ·have hlt2 : k < l1.length := by omega
   obtain ⟨rfl, hbl, hnx, hcl⟩ := HE.out (by omega)
   obtain ⟨⟨a0, a1⟩, s0, s1⟩ := HI.out k hlt2
   obtain ⟨rfl, hvl, hpl, hpx, hpo, hpc⟩ := HP.out (by omega)
   obtain ⟨ca, cb⟩ := hcl k hlt2
   have hJ2 := hJs
   have hlen : k < (encP vs l1).length := by simpa [encP] using hlt2
   rw [List.drop_eq_getElem_cons hlen] at hJ2
   have hrow : (encP vs l1)[k] = #[cut9 vs l1[k].1.toNat, cut9 vs l1[k].2.1.toNat] := by simp [encP]
   rw [hrow] at hJ2
   have keep : ∀ b q, b < w.heap.size → ¬ Xf b q → wr.cell? ⟨b, q, none⟩ = w.cell? ⟨b, q, none⟩ := fun b q h1 h2 => (hK _ wr hJs).2 b q h1 h2
   have hsz : w.heap.size ≤ wr.heap.size := (hK _ wr hJs).1
   generalize hxa : l1[k].1 = xa at *
   generalize hxs : l1[k].2.1 = xs at *
   obtain ⟨a, rfl⟩ := Int.eq_ofNat_of_zero_le a0
   obtain ⟨s, rfl⟩ := Int.eq_ofNat_of_zero_le s0
   have ka : a < n0 := by omega
   have ks : s < n0 := by omega
   have cel : ∀ q, q < n0 → ∀ i, i < 9 → ∃ v, vs[q * 9 + i]? = some v ∧ wr.cell? ⟨b0, off0 + (q * 9 + i), none⟩ = some v ∧ v.oneCell' = true := by
    intro q hq i hi
    have hlt : q * 9 + i < vs.length := by omega
    exact ⟨_, List.getElem?_eq_getElem hlt, (keep b0 _ hpl (hpx _ hlt)).trans (hpc _ _ (List.getElem?_eq_getElem hlt)), hpo _ (List.getElem_mem hlt)⟩
   have da : wr.cell? ⟨b1, off1 + k * 2, none⟩ = some (.int .i64 (a : Int)) := (keep b1 _ hbl (hnx _ (by omega))).trans ca
   have db : wr.cell? ⟨b1, off1 + k * 2 + 1, none⟩ = some (.int .i64 (s : Int)) := (keep b1 _ hbl (by rw [Nat.add_assoc]; exact hnx _ (by omega))).trans cb
   have dB0 : wr.cell? ⟨Bs, 0, none⟩ = some (.slice (some ⟨b0, off0, none⟩) n0 c0) := (keep Bs 0 hBl (hBx 0)).trans hB0
   have dB1 : wr.cell? ⟨Bs, 1, none⟩ = some (.slice (some ⟨b1, off1, none⟩) n1 c1) := (keep Bs 1 hBl (hBx 1)).trans hB1
   have dB2 : wr.cell? ⟨Bs, 2, none⟩ = some it := (keep Bs 2 hBl (hBx 2)).trans hB2
   clear keep hnx hpx hpc hcl ca cb hB0 hB1 hB2 hb1
   obtain ⟨v0, e0, w0, ov0⟩ := cel a ka 0 (by omega)
   obtain ⟨v1, e1, w1, ov1⟩ := cel a ka 1 (by omega)
   obtain ⟨v2, e2, w2, ov2⟩ := cel a ka 2 (by omega)
   obtain ⟨v3, e3, w3, ov3⟩ := cel a ka 3 (by omega)
   obtain ⟨v4, e4, w4, ov4⟩ := cel a ka 4 (by omega)
   obtain ⟨v5, e5, w5, ov5⟩ := cel a ka 5 (by omega)
   obtain ⟨v6, e6, w6, ov6⟩ := cel a ka 6 (by omega)
   obtain ⟨v7, e7, w7, ov7⟩ := cel a ka 7 (by omega)
   obtain ⟨v8, e8, w8, ov8⟩ := cel a ka 8 (by omega)
   obtain ⟨u0, f0, x0, ou0⟩ := cel s ks 0 (by omega)
   obtain ⟨u1, f1, x1, ou1⟩ := cel s ks 1 (by omega)
   obtain ⟨u2, f2, x2, ou2⟩ := cel s ks 2 (by omega)
   obtain ⟨u3, f3, x3, ou3⟩ := cel s ks 3 (by omega)
   obtain ⟨u4, f4, x4, ou4⟩ := cel s ks 4 (by omega)
   obtain ⟨u5, f5, x5, ou5⟩ := cel s ks 5 (by omega)
   obtain ⟨u6, f6, x6, ou6⟩ := cel s ks 6 (by omega)
   obtain ⟨u7, f7, x7, ou7⟩ := cel s ks 7 (by omega)
   obtain ⟨u8, f8, x8, ou8⟩ := cel s ks 8 (by omega)
   rw [Nat.add_zero] at e0 w0 f0 x0
   rw [← Nat.add_assoc] at w1 w2 w3 w4 w5 w6 w7 w8 x1 x2 x3 x4 x5 x6 x7 x8
   clear cel hrow
   gi_wp2_with fail
   refine (QU6 hlt ka ks hn0 hn1 (Nat.lt_of_lt_of_le hpl hsz) (Nat.lt_of_lt_of_le hbl hsz) da db w0 w1 w2 w3 w4 w5 w6 w7 w8 x0 x1 x2 x3 x4 x5 x6 x7 x8 ov0 ov1 ov2 ov3 ov4 ov5 ov6 ov7 ov8 ou0 ou1 ou2 ou3 ou4 ou5 ou6 ou7 ou8).mono ?_
   rintro e W2 ⟨rfl, hbel⟩
   obtain ⟨fn, tmps, assign, body, hy, hR⟩ := hY _ _ W2 (hJ _ _ _ hJ2 hbel)
   rw [Int.toNat_natCast, Int.toNat_natCast, QKc e0 e1 e2 e3 e4 e5 e6 e7 e8, QKc f0 f1 f2 f3 f4 f5 f6 f7 f8] at hy
   clear w0 w1 w2 w3 w4 w5 w6 w7 w8 x0 x1 x2 x3 x4 x5 x6 x7 x8 da db dB0 dB1 dB2 hY hJ2
   gi_wp2
   refine hR.mono ?_
   rintro e W3 (⟨rfl, hJ3⟩ | ⟨rfl, hJx3⟩)
   ·gi_wp2
    go_roundw
    case rel => exact ⟨k + 1, by omega, by simp, hJ3⟩
    case measure => simp [intOf]; omega
   ·gi_wp2
    refine bodyPost_ret (results_none rfl _ _ _) rfl ?_
    exact ⟨⟨_, rfl⟩, .inr hJx3⟩
  ·obtain rfl : k = n1 := by omega
   rw [List.drop_of_length_le (by simp [encP]; omega)] at hJs
   gi_wp2
   go_end0
   exact ⟨⟨_, rfl⟩, .inl hJs⟩
def prsI (e : Qao) : List (Qab × Qab × Unit) := (xEdg e).map fun x => (epAt (xEps e) x.1.toNat, (epAt (xEps e) x.2.1.toNat, ()))
def prsOk (e : Qao) : Bool := decide ((xEps e).length ≤ 99999 ∧ (xEdg e).length ≤ 99999) && (xEdg e).all fun x => decide ((0 ≤ x.1 ∧ x.1 < (xEps e).length) ∧ 0 ≤ x.2.1 ∧ x.2.1 < (xEps e).length)
def Qhs : Itr := mkIt [.ptr 50000 0] [Qas] (.pr Qae (.pr Qae .nil)) (fun d => (prsOk d.1)) (fun d => (prsI d.1))
noncomputable def QDr : TC := (.sq (.reg (rT Tryz.f41 0)) (.sq (.reg (rT Tryz.f41 1)) .rt))
def QPX : List (RV × Option Ty) := [((.t 2), none)]
def g_f41 : G := ⟨TYs, [], 4, EL [], keeps, (fun _ _ => none), IL [], RL []⟩
def r_f41 (p0 : Qao) : Option (V × List VO) := some (.fn 81 [(.ptr 50000 0)], [.box (.t Qas p0)])
theorem e_f41 (p0 : Qao) : runF g_f41 QDr QPX true [.t Qas p0] [] = r_f41 p0 := by kernel_rfl
theorem QQH : Qah Tryz.prog 41 := .inr ⟨by decide, _, Tryz.func41, by kernel_rfl, by kernel_rfl⟩
theorem gk_f41 : GOk Tryz.prog g_f41 := Qal _ (fun p hp => by cases hp)
theorem lk_f41 : QDr.lok g_f41 := by repeat (first | exact trivial | refine ⟨?_, ?_⟩)
def QDP : Ent := specO (.pr Qas .nil) (fun _ => true) (fun x => .fn 81 [.ptr 50000 0]) (fun x => [.box (.t Qas x.1)])
theorem QQv : Meets Tryz.prog 41 (strip QDP) := Qpf (R := runF g_f41 QDr QPX true) (mG Tryz.func41 (by kernel_rfl) Tryz.ntmps41 (by kernel_rfl) gk_f41 lk_f41) fun x _ => (e_f41 x.1).trans rfl
theorem QJh {X : Nat → Nat → Prop} {w : World} {l : List Qab} {vs : List Value} (h : Cs X w nowhere (l.flatMap Qae.cells) vs) {a : Nat} (ha : a < l.length) : C X w nowhere (V.t Qae (epAt l a)).d (cut9 vs a) := by
 rw [show epAt l a = l[a] by simp only [epAt, List.getD_eq_getElem?_getD, List.getElem?_eq_getElem ha, Option.getD_some]]
 simp only [V.d]
 rw [Ty.d_row Qae _ rfl]
 simp only [C]
 refine ⟨_, rfl, ?_⟩
 have k1 := h.drop_ (a * Qae.sz)
 rw [QcO, List.drop_eq_getElem_cons ha, List.flatMap_cons] at k1
 have k2 := k1.take_ Qae.sz
 rw [List.take_left' (Qae.cells_len _)] at k2
 exact k2
theorem QTP {X : Nat → Nat → Prop} {w : World} {l : List Keep} {vs : List Value} (h : Cs X w nowhere (l.flatMap Qai.cells) vs) {k : Nat} (hk : k < l.length) : vs[k * 2]? = some (.int .i64 l[k].1) ∧ vs[k * 2 + 1]? = some (.int .i64 l[k].2.1) := by
 have k1 := h.drop_ (k * Qai.sz)
 rw [QcO, List.drop_eq_getElem_cons hk, List.flatMap_cons] at k1
 have k3 : Cs X w nowhere (D.v (.int .i64 l[k].1) :: D.v (.int .i64 l[k].2.1) :: (l.drop (k + 1)).flatMap Qai.cells) (vs.drop (k * 2)) := k1
 simp only [Cs] at k3
 obtain ⟨u0, r0, q0, c0, u1, r1, q1, c1, _⟩ := k3
 have d0 : (vs.drop (k * 2))[0]? = some u0 := by rw [q0]; rfl
 have d1 : (vs.drop (k * 2))[1]? = some u1 := by rw [q0, q1]; rfl
 rw [List.getElem?_drop] at d0 d1
 rw [(C.v c0).1] at d0
 rw [(C.v c1).1] at d1
 exact ⟨d0, d1⟩
theorem QzP : Iters Tryz.prog 81 Qhs := by
 refine Iters.weak (by decide) (enters_of Tryz.func81 (by kernel_rfl) rfl) fun caps objs yr rows h X w σ lb hfin hl hc => ?_
 unfold Qhs mkIt at h
 split at h
 ·rename_i x d hx hd
  simp only [Option.some.injEq, Prod.mk.injEq] at h
  obtain ⟨hok, h⟩ := h
  cases h
  have hcaps := QkE hx
  subst hcaps
  cases objs with
  | nil => simp [Qbr] at hd
  | cons o os =>
   cases o with
   | box cv =>
    cases os with
    | cons o2 os => simp [Qbr] at hd
    | nil =>
     simp only [Qbr] at hd
     split at hd
     ·rename_i l u hl1 _
      simp only [Option.some.injEq] at hd
      subst hd
      have hl2 : V.as Qas cv = some l := hl1
      simp only [prsOk, Bool.and_eq_true, decide_eq_true_eq, List.all_eq_true] at hok
      obtain ⟨⟨n0, n1⟩, hin⟩ := hok
      obtain ⟨Bs, ty, us, h1, h2, h3, h4⟩ := QvE (show Qas.row = true from rfl) hl2 (hl.at_ 0 _ rfl).1
      have h3' : Cs X w σ [.sl (List.length l.1) (List.flatMap Qae.cells l.1), .sl (List.length l.2.1) (List.flatMap Qai.cells l.2.1), .sl (List.length l.2.2.1) (List.flatMap QaT.cells l.2.2.1)] us := h3
      simp only [Cs] at h3'
      obtain ⟨u0, r0, rfl, k0, u1, r1, rfl, k1, u2, r2, rfl, k2, rfl⟩ := h3'
      simp only [C] at k0 k1
      obtain ⟨A0, c0, rfl, _, _, _, g4⟩ := k0
      obtain ⟨A1, c1, rfl, _, _, _, e4⟩ := k1
      simp only [mkVt, SV.mk, V.ds, V.d, Cs, C] at hc
      obtain ⟨p, ps, rfl, ⟨b', q1, rfl⟩, rfl⟩ := hc
      have h1 : σ 50000 = .box Bs := h1
      rw [h1] at q1
      injection q1 with q1
      subst q1
      have hBl := (Array.getElem?_eq_some_iff.1 h2).1
      have hBx : ∀ q, ¬ (X Bs q ∧ ∀ j, j < [VO.box cv].length → (σ (50000 + j)).blk ≠ some Bs) := fun q hq => hq.2 0 (by simp) (by rw [h1]; rfl)
      obtain ⟨b0, off0, vs, hP⟩ : ∃ b0 off0 vs, 0 < List.length l.1 → A0 = some ⟨b0, off0, none⟩ ∧ Cs X w nowhere (List.flatMap Qae.cells l.1) vs ∧ Fix X w b0 off0 vs := by
       rcases Nat.eq_zero_or_pos (List.length l.1) with h0 | hp
       ·exact ⟨0, 0, [], fun h => absurd h (by omega)⟩
       ·obtain ⟨b0, off0, vs, x1, x2, x3⟩ := g4 hp
        exact ⟨b0, off0, vs, fun _ => ⟨x1, x2, x3⟩⟩
      obtain ⟨b1, off1, ws, hE⟩ : ∃ b1 off1 ws, 0 < List.length l.2.1 → A1 = some ⟨b1, off1, none⟩ ∧ Cs X w nowhere (List.flatMap Qai.cells l.2.1) ws ∧ Fix X w b1 off1 ws := by
       rcases Nat.eq_zero_or_pos (List.length l.2.1) with h0 | hp
       ·exact ⟨0, 0, [], fun h => absurd h (by omega)⟩
       ·obtain ⟨b0, off0, vs, x1, x2, x3⟩ := e4 hp
        exact ⟨b0, off0, vs, fun _ => ⟨x1, x2, x3⟩⟩
      have hin2 : ∀ k (hk : k < l.2.1.length), (0 ≤ (l.2.1[k]).1 ∧ (l.2.1[k]).1 < (l.1.length : Int)) ∧ 0 ≤ (l.2.1[k]).2.1 ∧ (l.2.1[k]).2.1 < (l.1.length : Int) := fun k hk => hin _ (List.getElem_mem hk)
      refine ⟨encP vs l.2.1, ⟨by simp [prsI, encP, xEdg], fun i r v hr hv => ?_⟩, QLV Bs b0 off0 c0 (List.length l.1) b1 off1 c1 (List.length l.2.1) A0 A1 u2 vs l.2.1 _ w n0 n1 rfl (by simp [World.cell?, h2]) (by simp [World.cell?, h2]) (by simp [World.cell?, h2]) hBl hBx (fun hp => ?_) (fun hp => ?_) hin2⟩
      ·simp only [prsI, encP, xEdg, List.getElem?_map, Option.map_eq_some_iff] at hr hv
       obtain ⟨x, hx, rfl⟩ := hr
       obtain ⟨y, hy, rfl⟩ := hv
       rw [hx] at hy
       injection hy with hy
       subst hy
       have hb := hin x (List.mem_of_getElem? hx)
       obtain ⟨⟨a0, a1⟩, s0, s1⟩ := hb
       simp only [xEps] at a1 s1
       obtain ⟨_, g5, _⟩ := hP (by omega)
       simp only [Ty.canon, V.ds, Cs]
       exact ⟨_, _, rfl, QJh g5 (by omega), _, _, rfl, QJh g5 (by omega), rfl⟩
      ·obtain ⟨x1, x2, x3⟩ := hE hp
       have hvl := x2.len
       rw [QcF] at hvl
       have hvl : ws.length = List.length l.2.1 * 2 := hvl
       refine ⟨x1, x3.lt, fun j hj hx => x3.nx j (by omega) hx.1, fun k hk => ?_⟩
       obtain ⟨y1, y2⟩ := QTP x2 hk
       refine ⟨x3.at_ _ _ y1, ?_⟩
       rw [Nat.add_assoc]
       exact x3.at_ _ _ y2
      ·obtain ⟨x1, x2, x3⟩ := hP hp
       have hvl := x2.len
       rw [QcF] at hvl
       have hvl : vs.length = List.length l.1 * 9 := hvl
       exact ⟨x1, hvl, x3.lt, fun j hj hx => x3.nx j hj hx.1, x3.one, fun j v hv => x3.at_ j v hv⟩
     ·cases hd
   | no => simp [Qbr] at hd
   | arr e t l => simp [Qbr] at hd
 ·cases h
end Go.Proofs.YtckcgijklnloiaaGreat.K
namespace Go.Proofs.YtckcgijklnloiaaGreat.K
open Go.RowKit
noncomputable section
abbrev ERow : Type := Qab × Qab × Unit
def prow (e : Qao) (x : Keep) : ERow := (epAt (xEps e) x.1.toNat, (epAt (xEps e) x.2.1.toNat, ()))
theorem QiY (e : Qao) : prsI e = (xEdg e).map (prow e) := rfl
def QGg (d : Int) (z : ERow) : Bool := ine (Qcx z.1 z.2.1 d).2 0
def outO (d : Int) (z : ERow) : Keep := bif QGg d z then zK else (Qcx z.1 z.2.1 d).1
def brkU (d : Int) : List ERow → Nat → List Int
 | [], _ => []
 | z :: r, k => bif QGg d z then (k : Int) :: brkU d r (k + 1) else brkU d r (k + 1)
def QhI (zs : List ERow) : Bool := zs.all fun z => QbN z.1 z.2.1
def allF (e : Qao) (d : Int) : List Keep × List Int × Int :=
 bif !estOk e then ([], [], 31) else bif !dayF d then ([], [], 2) else ((prsI e).map (outO d), brkU d (prsI e) 0, 0)
theorem QAJ {e : Qao} (hl : Qcn e = true) (h : estOk e = true) : prsOk e = true ∧ QhI (prsI e) = true ∧ (prsI e).length ≤ 40 := by
 have hp := Qvm h
 have hlen : (xEps e).length ≤ 99999 ∧ (xEdg e).length ≤ 99999 := ⟨by omega, by omega⟩
 have hin : ∀ x ∈ xEdg e, (0 ≤ x.1 ∧ x.1 < (xEps e).length) ∧ 0 ≤ x.2.1 ∧ x.2.1 < (xEps e).length := fun x hx => by
  obtain ⟨k, hk⟩ := List.mem_iff_getElem?.1 hx
  obtain ⟨hk1, rfl⟩ := List.getElem?_eq_some_iff.1 hk
  have := Qs3 h hk1
  have he : egAt (xEdg e) k = (xEdg e)[k] := by simp only [egAt, List.getD_eq_getElem?_getD, List.getElem?_eq_getElem hk1, Option.getD_some]
  rw [he] at this
  exact ⟨this.1, this.2.1⟩
 refine ⟨?_, ?_, ?_⟩
 ·simp only [prsOk, Bool.and_eq_true, decide_eq_true_eq, List.all_eq_true]
  exact ⟨hlen, hin⟩
 ·rw [QiY]
  simp only [QhI, List.all_eq_true, List.mem_map]
  rintro z ⟨x, hx, rfl⟩
  obtain ⟨⟨a0, a1⟩, s0, s1⟩ := hin x hx
  exact Bool.and_eq_true_iff.2 ⟨Qs4 (Qs1 hl) (decide_eq_true ⟨a0, by omega⟩), Qs4 (Qs1 hl) (decide_eq_true ⟨s0, by omega⟩)⟩
 ·rw [QiY, List.length_map]
  exact hp.2.2.2.2.2
noncomputable def QNY : List DO := dT Tryz.f14 14
def Qet : Fg := ⟨[(3, none), (7, none), (8, none)], [(60000, some tI), (60001, none), (60002, none), (39, none), (43, none), (20700, none), (20800, none)]⟩
noncomputable def Qma : TC := (.sq (.reg (rT Tryz.f14 8)) (.reg (rT Tryz.f14 9)))
noncomputable def Ql8 : TC := (.bk 2 (.sq (.reg (rT Tryz.f14 10)) (.sq (.sq (.reg (rT Tryz.f14 11)) (.cd (.t 33) (.reg (rT Tryz.f14 12)) .sk)) (.reg (rT Tryz.f14 13)))))
noncomputable def QDB : TC := (.sq (.reg (rT Tryz.f14 0)) (.sq (.bk 0 (.sq (.reg (rT Tryz.f14 1)) (.cd (.t 13) (.sq (.reg (rT Tryz.f14 2)) .rt) (.sq (.reg (rT Tryz.f14 3)) (.cd (.t 17) (.sq (.reg (rT Tryz.f14 4)) .rt) .sk))))) (.sq (.reg (rT Tryz.f14 5)) (.sq (.reg (rT Tryz.f14 6)) (.sq (.sq (.reg (rT Tryz.f14 7)) (.bk 1 (.nf 7 0 39 20700 (.nf 8 0 3 20800 (.rf 0 Qet (.t 22) (.pr Qae (.pr Qae .nil)) [23, 24] [3, 7, 8] Qma Ql8))))) (.sq (.dr QNY [(0, [7, 43, 20700]), (1, [8, 39, 20800]), (2, [43, 20700]), (3, [39, 20800]), (4, [])] (.of [0, 1, 2, 3, 4])) .rt))))))
def QP7 : List (RV × Option Ty) := [((.t 4), some (.sl Qai)), ((.t 5), some (.sl tI)), ((.t 6), some tI)]
abbrev QrS : Sh := ⟨[(3, .ptr 60000 0), (7, .ptr 60001 0), (8, .ptr 60002 0)], [(60000, .box tI), (60001, .bag [.ms 20700]), (60002, .bag [.ms 20800]), (39, .no), (43, .no), (20700, .arr 39 Qai), (20800, .arr 3 tI)]⟩
def Qmg (y60000 : Int) (y20700 : List Keep) (y20800 : List Int) : VS := QrS.st ((), (), (), ()) (y60000, ((), ()), ((), ()), (), (), y20700, y20800, ())
abbrev Qon : Sh := ⟨[(3, .ptr 60000 0), (7, .ptr 60001 0), (8, .ptr 60002 0)], [(60000, .box tI), (60001, .bag [.ms 20700]), (60002, .bag [.ms 20800]), (39, .no), (43, .no), (20700, .arr 39 Qai), (20800, .arr 3 tI)]⟩
def Qdo (y60000 : Int) (y20700 : List Keep) (y20800 : List Int) : VS := Qon.st ((), (), (), ()) (y60000, ((), ()), ((), ()), (), (), y20700, y20800, ())
def Qti : VS → List (Ty.T (.pr Qae (.pr Qae .nil))) → Option (Bool × List (Bool × Exit × VS)) := mkR QrS (fun zs x y => (QhI zs && decide (y.2.2.2.2.2.1.length + zs.length ≤ 1000 ∧ y.2.2.2.2.2.2.1.length ≤ y.2.2.2.2.2.1.length))) (fun zs x y => [(true, .normal, Qdo (y.1) (y.2.2.2.2.2.1 ++ zs.map (outO y.1)) (y.2.2.2.2.2.2.1 ++ brkU y.1 zs y.2.2.2.2.2.1.length))])
def g_f14 : G := ⟨TYs, [], 46, EL [(39, Qy7), (40, QPj), (41, QDP), (42, QDO)], keeps, (Ls [fun _ => none]), IL [(81, Qhs)], (RL [⟨(.pr Qae (.pr Qae .nil)), Qti⟩])⟩
def QK9 (z : (Qab × (Qab × Unit))) (y60000 : Int) (y20700 : List Keep) (y20800 : List Int) : Option (Exit × VS) :=
 let a1 := Qcx z.1 z.2.1 y60000
 let a2 := ((a1.1).1, (((a1.1).2).1, ()))
 br (QfF z.1 z.2.1 y60000) (br (ine (a1.2) 0) (br (cApp y20800 ([(llen y20700)]) 8) (br (cApp y20700 ([(0, (0, ()))]) 16) (some (.normal, Qmg y60000 (y20700 ++ ([(0, (0, ()))])) (y20800 ++ ([(llen y20700)])))) none) none) (br (cApp y20700 ([a2]) 16) (some (.normal, Qmg y60000 (y20700 ++ ([a2])) y20800)) none)) none
noncomputable def Qjm (zs : List (Qab × (Qab × Unit))) (y60000 : Int) (y20700 : List Keep) (y20800 : List Int) : Option (Exit × VS) := QcY (Qea g_f14 Qet (.pr Qae (.pr Qae .nil)) [23, 24] Qma Ql8) zs (Qmg y60000 y20700 y20800)
noncomputable def QxE (z : (Qab × (Qab × Unit))) (zs : List (Qab × (Qab × Unit))) (y60000 : Int) (y20700 : List Keep) (y20800 : List Int) : Option (Exit × VS) :=
 let a1 := Qcx z.1 z.2.1 y60000
 let a2 := ((a1.1).1, (((a1.1).2).1, ()))
 br (QfF z.1 z.2.1 y60000) (br (ine (a1.2) 0) (br (cApp y20800 ([(llen y20700)]) 8) (br (cApp y20700 ([(0, (0, ()))]) 16) (Qjm zs y60000 (y20700 ++ ([(0, (0, ()))])) (y20800 ++ ([(llen y20700)]))) none) none) (br (cApp y20700 ([a2]) 16) (Qjm zs y60000 (y20700 ++ ([a2])) y20800) none)) none
def QsT (zs : List (Qab × (Qab × Unit))) (y60000 : Int) (y20700 : List Keep) (y20800 : List Int) : Option (Exit × VS) := some (.normal, Qdo (y60000) (y20700 ++ zs.map (outO y60000)) (y20800 ++ brkU y60000 zs y20700.length))
theorem QOm (z : (Qab × (Qab × Unit))) (y60000 : Int) (y20700 : List Keep) (y20800 : List Int) : Qea g_f14 Qet (.pr Qae (.pr Qae .nil)) [23, 24] Qma Ql8 z (Qmg y60000 y20700 y20800) = QK9 z y60000 y20700 y20800 := by kernel_rfl
theorem QIE (y60000 : Int) (y20700 : (List Keep)) (y20800 : (List Int)) : Qjm [] y60000 y20700 y20800 = some (.normal, Qdo y60000 y20700 y20800) := rfl
theorem QMu (z : (Qab × (Qab × Unit))) (zs : List (Qab × (Qab × Unit))) (y60000 : Int) (y20700 : List Keep) (y20800 : List Int) : Qjm (z :: zs) y60000 y20700 y20800 = QxE z zs y60000 y20700 y20800 := (Qh7 _ _ _ _).trans (by
 rw [QOm]
 simp only [QK9, QxE, Qax, nxt_n, nxt_r, nxt_e, nxt_0]
 rfl)
def r_f14 (p0 : Qao) (p1 : Int) : Option (V × List VO) := br (Qcn p0) (br (ine (QlG p0) 0) (some (.tu [(.t (.sl Qai) ([] : List Keep)), (.t (.sl tI) ([] : List Int)), (.t tI 31)], [])) (br (!(dayF p1)) (some (.tu [(.t (.sl Qai) ([] : List Keep)), (.t (.sl tI) ([] : List Int)), (.t tI 2)], [])) (br (prsOk p0) (br (QhI (prsI p0) && decide (([] : List Keep).length + (prsI p0).length ≤ 1000 ∧ ([] : List Int).length ≤ ([] : List Keep).length)) (some (.tu [(.t (.sl Qai) (([] : List Keep) ++ (prsI p0).map (outO p1))), (.t (.sl tI) (([] : List Int) ++ brkU p1 (prsI p0) ([] : List Keep).length)), (.t tI 0)], [])) none) none))) none
theorem e_f14 (p0 : Qao) (p1 : Int) : runF g_f14 QDB QP7 false [.t Qas p0, .t tI p1] [] = r_f14 p0 p1 := by kernel_rfl
theorem en_f14 : Qah Tryz.prog 14 := .inr ⟨by decide, _, Tryz.func14, by kernel_rfl, by kernel_rfl⟩
theorem gk_f14 : GOk Tryz.prog g_f14 := Qal _ (gA (gC QJv QHP (gC en_f40 ms_f40 (gC QQH QQv (gC QQG QQu gN)))))
 [(81, Qhs)] (by
 intro p hp
 simp only [List.mem_cons, List.not_mem_nil, or_false] at hp
 rcases hp with rfl
 ·exact QzP)
theorem QTO (zs : List (Qab × (Qab × Unit))) (y60000 : Int) (y20700 : List Keep) (y20800 : List Int) (h : (QhI zs && decide (y20700.length + zs.length ≤ 1000 ∧ y20800.length ≤ y20700.length)) = true) : Qjm zs y60000 y20700 y20800 = QsT zs y60000 y20700 y20800 := by
 simp only [Bool.and_eq_true, decide_eq_true_eq] at h
 obtain ⟨hr, h1, h2⟩ := h
 induction zs generalizing y20700 y20800 with
 | nil =>
  rw [QIE]
  simp only [QsT, List.map_nil, List.append_nil, brkU]
 | cons z zs ih =>
  simp only [QhI, List.all_cons, Bool.and_eq_true] at hr
  simp only [List.length_cons] at h1
  rw [QMu]
  have c1 : QfF z.1 z.2.1 y60000 = true := hr.1
  have c2 : ∀ v, cApp y20800 [v] 8 = true := fun v => cAppN (by omega) (by simp only [List.length_singleton]; omega)
  have c3 : ∀ v, cApp y20700 [v] 16 = true := fun v => cAppN (by omega) (by simp only [List.length_singleton]; omega)
  simp only [QxE, c1, c2, c3, Qac]
  rw [ih _ _ hr.2 (by simp only [List.length_append, List.length_singleton]; omega) (by simp only [List.length_append, List.length_singleton]; omega), ih _ _ hr.2 (by simp only [List.length_append, List.length_singleton]; omega) (by simp only [List.length_append, List.length_singleton]; omega)]
  simp only [QsT, List.map_cons, brkU, outO, QGg, List.append_assoc, List.singleton_append, List.length_append, List.length_singleton]
  cases ine (Qcx z.1 z.2.1 y60000).2 0 <;> rfl
theorem QMs : ∀ S (rows : List (Ty.T (.pr Qae (.pr Qae .nil)))) l p, g_f14.R 0 (fgt Qet S) (.pr Qae (.pr Qae .nil)) rows = some (true, l) → pickA l = some p → QcY (Qea g_f14 Qet (.pr Qae (.pr Qae .nil)) [23, 24] Qma Ql8) rows (fgt Qet S) = some p := by
 intro S rows l p hR hp
 rw [show g_f14.R 0 (fgt Qet S) (.pr Qae (.pr Qae .nil)) rows = Qti (fgt Qet S) rows from RL_at (l := [⟨(.pr Qae (.pr Qae .nil)), Qti⟩]) (j := 0) (F := Qti) rfl _ _] at hR
 refine QxY (s := QrS) ⟨by decide, by decide⟩ (by kernel_rfl) (fun zs x y hok p hp => ?_) S rows l p hR hp
 simp only [Qap, Qam] at hp
 exact (QTO zs y.1 y.2.2.2.2.2.1 y.2.2.2.2.2.2.1 (by first | rfl | simpa using hok)).trans hp
theorem lk_f14 : QDB.lok g_f14 := by
 repeat (first | exact trivial | exact QMs | refine ⟨?_, ?_⟩)
theorem s_f14 (e : Qao) (d : Int) (h : QeQ e d = true) : r_f14 e d = some (.tu [.t (.sl Qai) (allF e d).1, .t (.sl tI) (allF e d).2.1, .t tI (allF e d).2.2], []) := by
 have hl : Qcn e = true := h
 simp only [r_f14, hl, Qac, Qp6, List.nil_append, List.length_nil, Nat.zero_add, Nat.le_refl, and_true]
 unfold allF
 cases he : estOk e with
 | false => rfl
 | true =>
  obtain ⟨h1, h2, h3⟩ := QAJ hl he
  rw [Bool.not_true, Qaf]
  cases dayF d with
  | false => rfl
  | true =>
   rw [Bool.not_true, Qaf, h1, Qac, h2, Bool.true_and, decide_eq_true (by omega), Qac]
   rfl
def QPp : Ent := spec (.pr Qas (.pr tI .nil)) (fun x => (QeQ x.1 x.2.1)) (fun x => (.tu [(.t (.sl Qai) ((allF x.1 x.2.1).1)), (.t (.sl tI) (((allF x.1 x.2.1).2).1)), (.t tI (((allF x.1 x.2.1).2).2))]))
theorem ms_f14 : Meets Tryz.prog 14 (strip QPp) := Qag (R := runF g_f14 QDB QP7 false) (mG Tryz.func14 (by kernel_rfl) Tryz.ntmps14 (by kernel_rfl) gk_f14 lk_f14) fun x hok => (e_f14 x.1 x.2.1).trans (s_f14 x.1 x.2.1 hok)
end
end Go.Proofs.YtckcgijklnloiaaGreat.K
namespace Go.Proofs.YtckcgijklnloiaaGreat.K
open Go.RowKit
noncomputable section
def QcV (u : Keep) (a : Int) : Bool := ieq u.1 a
noncomputable def QDh : TC := (.sq (.reg (rT Tryz.f52 0)) (.sq (.reg (rT Tryz.f52 1)) .rt))
def QPN : List (RV × Option Ty) := [((.t 3), some .bool)]
def g_f52 : G := ⟨TYs, [], 8, EL [], keeps, (fun _ _ => none), IL [], RL []⟩
def r_f52 (p0 : Keep) (d0 : Int) : Option (V × List VO) := some (.t .bool (ieq p0.1 d0), [.box (.t tI d0)])
theorem e_f52 (p0 : Keep) (d0 : Int) : runF g_f52 QDh QPN false [.t Qai p0, .ptr 50000 0] [.box (.t tI d0)] = r_f52 p0 d0 := by kernel_rfl
theorem en_f52 : Qah Tryz.prog 52 := .inr ⟨by decide, _, Tryz.func52, by kernel_rfl, by kernel_rfl⟩
theorem gk_f52 : GOk Tryz.prog g_f52 := Qal _ (fun p hp => by cases hp)
theorem lk_f52 : QDh.lok g_f52 := by repeat (first | exact trivial | refine ⟨?_, ?_⟩)
theorem s_f52 (u : Keep) (a : Int) : r_f52 u a = some (.t .bool (QcV u a), [.box (.t tI a)]) := by
 simp only [r_f52]
 rfl
def QPb : Ent := QfJ [.ty Qai, .ptr 50000 0] [tI] (fun x d => true) (fun x d => (.t .bool (QcV x.1 d.1)))
theorem ms_f52 : Meets Tryz.prog 52 (strip QPb) := Qcg (QaO (R := runF g_f52 QDh QPN false) (mG Tryz.func52 (by kernel_rfl) Tryz.ntmps52 (by kernel_rfl) gk_f52 lk_f52) fun x d _ => (e_f52 x.1 d.1).trans (s_f52 x.1 d.1))
def okUse (l : List Keep) (_a : Int) : Bool := decide (l.length ≤ 100000)
theorem QHt {l : List Keep} {a : Int} (h : okUse l a = true) : l.length ≤ 100000 := of_decide_eq_true h
def ixUse (l : List Keep) (d0 : Int) : Int := match fstG (fun c => QcV c d0) l with | some k => (k : Int) | none => -1
def Qdw : Fg := ⟨[(0, some (.sl Qai)), (1, none), (7, some tI), (8, some tI)], [(50000, some tI)]⟩
noncomputable def QeU : TC := (.sq (.reg (rT Tryz.f86 2)) (.sq (.cd (.t 9) .sk (.fg ⟨[], [(50000, some tI)]⟩ (.ex 0))) (.sq (.bk 1 (.sq (.reg (rT Tryz.f86 3)) (.sq (.reg (rT Tryz.f86 4)) (.cd (.t 16) (.sq (.reg (rT Tryz.f86 5)) (.fg ⟨[(4, some tI)], [(50000, some tI)]⟩ .rt)) .sk)))) (.reg (rT Tryz.f86 6)))))
noncomputable def Qni : TC := (.sq (.reg (rT Tryz.f86 0)) (.sq (.sq (.reg (rT Tryz.f86 1)) (.bk 0 (.lp 0 Qdw QeU))) (.sq (.reg (rT Tryz.f86 7)) .rt)))
def Qul : List (RV × Option Ty) := [((.t 4), some tI)]
abbrev Qh4 : Sh := ⟨[(0, .ty (.sl Qai)), (1, .fn 52 [(50000, 0)]), (7, .ty tI), (8, .ty tI)], [(50000, .box tI)]⟩
def QhZ (x0 : List Keep) (x7 x8 y50000 : Int) : VS := Qh4.st (x0, (), x7, x8, ()) (y50000, ())
abbrev Qn2 : Sh := ⟨[(4, .ty tI)], [(50000, .box tI)]⟩
def Qca (x4 y50000 : Int) : VS := Qn2.st (x4, ()) (y50000, ())
abbrev Qqm : Sh := ⟨[], [(50000, .box tI)]⟩
def QcB (y50000 : Int) : VS := Qqm.st () (y50000, ())
def QCM : VS → Option (Bool × List (Bool × Exit × VS)) := mkL Qh4 (fun x y => (rngOk x.1 x.2.2.1 x.2.2.2.1 && okUse x.1 y.1)) (fun x y => [(((fstG (fun c => QcV c y.1) (x.1.drop x.2.2.2.1.toNat)).isSome), .ret, Qca (x.2.2.2.1 + ((fstG (fun c => QcV c y.1) (x.1.drop x.2.2.2.1.toNat)).getD 0 : Nat)) (y.1)), (true, .exit 0, QcB (y.1))])
def Qeq : G := ⟨TYs, [], 19, EL [(52, QPb)], keeps, (Ls [QCM]), IL [], RL []⟩
def Qra (x0 : List Keep) (x7 x8 y50000 : Int) : Option (Exit × VS) := br (ilt x8 x7) (br (cIx x0 x8) (br (QcV (lgt Qai x0 (Int.toNat x8)) y50000) (some (.ret, Qca x8 y50000)) (some (.normal, QhZ x0 x7 (iadd .i64 x8 1) y50000))) none) (some (.exit 0, QcB y50000))
noncomputable def Qfs (x0 : List Keep) (x7 x8 y50000 : Int) : Option (Exit × VS) := loopF (Qak Qeq Qdw QeU) (QhZ x0 x7 x8 y50000)
noncomputable def Qhi (x0 : List Keep) (x7 x8 y50000 : Int) : Option (Exit × VS) := br (ilt x8 x7) (br (cIx x0 x8) (br (QcV (lgt Qai x0 (Int.toNat x8)) y50000) (some (.ret, Qca x8 y50000)) (Qfs x0 x7 (iadd .i64 x8 1) y50000)) none) (some (.exit 0, QcB y50000))
def Qfx (x0 : List Keep) (x7 x8 y50000 : Int) : Option (Exit × VS) := br ((fstG (fun c => QcV c y50000) (x0.drop x8.toNat)).isSome) (some (.ret, Qca (x8 + ((fstG (fun c => QcV c y50000) (x0.drop x8.toNat)).getD 0 : Nat)) (y50000))) <| some (.exit 0, QcB (y50000))
theorem QyT (x0 : List Keep) (x7 x8 y50000 : Int) : Qak Qeq Qdw QeU (QhZ x0 x7 x8 y50000) = Qra x0 x7 x8 y50000 := by kernel_rfl
theorem Qpn (x0 : List Keep) (x7 x8 y50000 : Int) : Qfs x0 x7 x8 y50000 = Qhi x0 x7 x8 y50000 := (Qan _ _).trans (by
 rw [QyT]
 simp only [Qra, Qhi, Qax, nxt_n, nxt_r, nxt_e, nxt_0]
 rfl)
def Qsd (p0 : List Keep) (d0 : Int) : Option (V × List VO) :=
 let a1 := (p0.drop (0 : Int).toNat)
 br (rngOk p0 (llen p0) (0 : Int) && okUse p0 d0) (br ((fstG (fun c => QcV c d0) a1).isSome) (some (.t tI ((0 : Int) + ((fstG (fun c => QcV c d0) a1).getD 0 : Nat)), [.box (.t tI (d0))])) (some (.t tI (-1), [.box (.t tI (d0))]))) none
theorem QNF (p0 : List Keep) (d0 : Int) : runF Qeq Qni Qul false [.t (.sl Qai) p0, .fn 52 [(.ptr 50000 0)]] [.box (.t tI d0)] = Qsd p0 d0 := by kernel_rfl
theorem QJo : Qah Tryz.prog 86 := .inr ⟨by decide, _, Tryz.func86, by kernel_rfl, by kernel_rfl⟩
theorem QI8 : GOk Tryz.prog Qeq := Qal _ (gA (gC en_f52 ms_f52 gN))
theorem QCa (x0 : List Keep) (x7 x8 y50000 : Int) (h : (rngOk x0 x7 x8 && okUse x0 y50000) = true) : Qfs x0 x7 x8 y50000 = Qfx x0 x7 x8 y50000 := by
 simp only [Bool.and_eq_true] at h
 obtain ⟨h0, hc⟩ := h
 obtain ⟨rfl, h3, k, rfl, hk⟩ := rng_k h0
 clear h0
 refine Qat x0 (fun k => Qfs x0 (x0.length : Int) (k : Int) y50000 = Qfx x0 (x0.length : Int) (k : Int) y50000) ?_ ?_ k hk
 ·rw [Qpn]
  simp [Qhi, Qfx, Qar, Qaf, fstG]
 ·intro k hk ih
  rw [Qpn]
  simp only [Qhi, Qar, Qau, hk, decide_true, Qac, Int.toNat_natCast, add1 (show k < 4611686018427387904 by omega), ih, Qay (y := Qai) hk]
  simp only [Qfx, Int.toNat_natCast, List.drop_eq_getElem_cons hk, fstG]
  cases h : (QcV x0[k] y50000) with
  | true => simp [Qac]
  | false =>
   simp only [Qaf, Bool.false_eq_true, if_false]
   cases hq : fstG (fun c => QcV c y50000) (x0.drop (k + 1)) with
   | none => rfl
   | some j =>
    simp only [Option.map_some, Option.isSome_some, Option.getD_some, Qac]
    congr 3
    omega
theorem Qx1 : ∀ S l p, Qeq.L 0 (fgt Qdw S) = some (true, l) → pickA l = some p → loopF (Qak Qeq Qdw QeU) S = some p :=
 QaD (s := Qh4) ⟨by decide, by decide⟩ (by kernel_rfl) fun x y hok p hp => by
 simp only [Qap, Qam] at hp
 exact (QCa x.1 x.2.2.1 x.2.2.2.1 y.1 (by simpa using hok)).trans hp
theorem QIJ : Qni.lok Qeq := by
 repeat (first | exact trivial | exact Qx1 | refine ⟨?_, ?_⟩)
theorem QLK (l : List Keep) (d0 : Int) (h : okUse l d0 = true) : Qsd l d0 = some (.t tI (ixUse l d0), [.box (.t tI d0)]) := by
 have hl := QHt h
 simp only [Qsd, rng_0 hl, h, Bool.and_self, Qac, Int.toNat_zero, List.drop_zero, ixUse]
 cases fstG (fun c => QcV c d0) l <;> simp [Qac, Qaf]
def Qtv : Ent := QfJ [.ty (.sl Qai), .fn 52 [(50000, 0)]] [tI] (fun x d => (okUse x.1 d.1)) (fun x d => (.t tI (ixUse x.1 d.1)))
theorem QHI : Meets Tryz.prog 86 (strip Qtv) := Qcg (QaO (R := runF Qeq Qni Qul false) (mG Tryz.func86 (by kernel_rfl) Tryz.ntmps86 (by kernel_rfl) QI8 QIJ) fun x d hok => (QNF x.1 d.1).trans (QLK x.1 d.1 hok))
def Qqf (l : List Keep) (d0 : Int) : Bool := l.any (fun c => QcV c d0)
noncomputable def Qnl : TC := (.sq (.reg (rT Tryz.f51 0)) (.sq (.reg (rT Tryz.f51 1)) .rt))
def Quo : List (RV × Option Ty) := [((.t 4), some .bool)]
def Qm4 : G := ⟨TYs, [], 9, EL [(86, Qtv)], keeps, (fun _ _ => none), IL [], RL []⟩
def Qsg (p0 : List Keep) (d0 : Int) : Option (V × List VO) := br (okUse p0 d0) (some (.t .bool (ige (ixUse p0 d0) 0), [.box (.t tI d0)])) none
theorem QNI (p0 : List Keep) (d0 : Int) : runF Qm4 Qnl Quo false [.t (.sl Qai) p0, .fn 52 [(.ptr 50000 0)]] [.box (.t tI d0)] = Qsg p0 d0 := by kernel_rfl
theorem QJu : Qah Tryz.prog 51 := .inr ⟨by decide, _, Tryz.func51, by kernel_rfl, by kernel_rfl⟩
theorem QJb : GOk Tryz.prog Qm4 := Qal _ (gA (gC QJo QHI gN))
theorem QIM : Qnl.lok Qm4 := by repeat (first | exact trivial | refine ⟨?_, ?_⟩)
theorem QLN (l : List Keep) (d0 : Int) (h : okUse l d0 = true) : Qsg l d0 = some (.t .bool (Qqf l d0), [.box (.t tI d0)]) := by
 simp only [Qsg, h, Qac]
 have e : ige (ixUse l d0) 0 = Qqf l d0 := by
  unfold ixUse Qqf
  cases hq : fstG (fun c => QcV c d0) l with
  | none => rw [QbP.1 hq]; rfl
  | some k =>
   rw [← Qbv, hq]
   simp only [ige, Option.isSome_some, decide_eq_true_eq]
   omega
 rw [e]
def Qtz : Ent := QfJ [.ty (.sl Qai), .fn 52 [(50000, 0)]] [tI] (fun x d => (okUse x.1 d.1)) (fun x d => (.t .bool (Qqf x.1 d.1)))
theorem QHO : Meets Tryz.prog 51 (strip Qtz) := Qcg (QaO (R := runF Qm4 Qnl Quo false) (mG Tryz.func51 (by kernel_rfl) Tryz.ntmps51 (by kernel_rfl) QJb QIM) fun x d hok => (QNI x.1 d.1).trans (QLN x.1 d.1 hok))
def witO (o : Keep) (s : Qab) (a : Int) : Bool := !Qqf (usesF s o).1 a
def witOk (_o : Keep) (s : Qab) (_a : Int) : Bool := Qba s
theorem QLl (s : Qab) (o : Keep) : (usesF s o).1.length ≤ 4 := by
 unfold usesF
 cases QaS s with
 | false => exact Nat.zero_le _
 | true =>
  cases ine (QaN o.2.1).2 0 with
  | true => exact Nat.zero_le _
  | false =>
   cases (Qbg s o.2.1).2 with
   | false => exact Nat.zero_le _
   | true => exact Nat.le_refl 4
noncomputable def QDj : TC := (.sq (.reg (rT Tryz.f49 0)) (.sq (.reg (rT Tryz.f49 1)) (.sq (.reg (rT Tryz.f49 2)) .rt)))
def QPP : List (RV × Option Ty) := [((.t 4), some .bool)]
def g_f49 : G := ⟨TYs, [], 17, EL [(50, QPc), (51, Qtz)], keeps, (fun _ _ => none), IL [], RL []⟩
def r_f49 (p0 : Keep) (d0 : Qab) (d1 : Int) : Option (V × List VO) := br (Qy0 d0 p0) (br (okUse ((usesF d0 p0).1) d1) (some (.t .bool (!(Qqf ((usesF d0 p0).1) d1)), [.box (.t Qae d0), .box (.t tI d1)])) none) none
theorem e_f49 (p0 : Keep) (d0 : Qab) (d1 : Int) : runF g_f49 QDj QPP false [.t Qai p0, .ptr 50000 0, .ptr 50001 0] [.box (.t Qae d0), .box (.t tI d1)] = r_f49 p0 d0 d1 := by kernel_rfl
theorem en_f49 : Qah Tryz.prog 49 := .inr ⟨by decide, _, Tryz.func49, by kernel_rfl, by kernel_rfl⟩
theorem gk_f49 : GOk Tryz.prog g_f49 := Qal _ (gA (gC en_f50 ms_f50 (gC QJu QHO gN)))
theorem lk_f49 : QDj.lok g_f49 := by repeat (first | exact trivial | refine ⟨?_, ?_⟩)
theorem s_f49 (o : Keep) (s : Qab) (a : Int) (h : witOk o s a = true) : r_f49 o s a = some (.t .bool (witO o s a), [.box (.t Qae s), .box (.t tI a)]) := by
 have h : Qba s = true := h
 have hu := QLl s o
 simp only [r_f49, show Qy0 s o = true from h, show okUse (usesF s o).1 a = true from decide_eq_true (by omega), Qac]
 rfl
def QPd : Ent := QfJ [.ty Qai, .ptr 50000 0, .ptr 50001 0] [Qae, tI] (fun x d => (witOk x.1 d.1 d.2.1)) (fun x d => (.t .bool (witO x.1 d.1 d.2.1)))
theorem ms_f49 : Meets Tryz.prog 49 (strip QPd) := Qcg (QaO (R := runF g_f49 QDj QPP false) (mG Tryz.func49 (by kernel_rfl) Tryz.ntmps49 (by kernel_rfl) gk_f49 lk_f49) fun x d hok => (e_f49 x.1 d.1 d.2.1).trans (s_f49 x.1 d.1 d.2.1 hok))
def okWit (l : List Keep) (s : Qab) (_a : Int) : Bool := Qba s && decide (l.length ≤ 100000)
theorem QHs {l : List Keep} {s : Qab} {a : Int} (h : okWit l s a = true) : l.length ≤ 100000 := of_decide_eq_true (Bool.and_eq_true_iff.1 h).2
def ixWit (l : List Keep) (d0 : Qab) (d1 : Int) : Int := match fstG (fun c => witO c d0 d1) l with | some k => (k : Int) | none => -1
def Qdv : Fg := ⟨[(0, some (.sl Qai)), (1, none), (7, some tI), (8, some tI)], [(50000, some Qae), (50001, some tI)]⟩
noncomputable def QeT : TC := (.sq (.reg (rT Tryz.f87 2)) (.sq (.cd (.t 9) .sk (.fg ⟨[], [(50000, some Qae), (50001, some tI)]⟩ (.ex 0))) (.sq (.bk 1 (.sq (.reg (rT Tryz.f87 3)) (.sq (.reg (rT Tryz.f87 4)) (.cd (.t 16) (.sq (.reg (rT Tryz.f87 5)) (.fg ⟨[(4, some tI)], [(50000, some Qae), (50001, some tI)]⟩ .rt)) .sk)))) (.reg (rT Tryz.f87 6)))))
noncomputable def Qnh : TC := (.sq (.reg (rT Tryz.f87 0)) (.sq (.sq (.reg (rT Tryz.f87 1)) (.bk 0 (.lp 0 Qdv QeT))) (.sq (.reg (rT Tryz.f87 7)) .rt)))
def Quk : List (RV × Option Ty) := [((.t 4), some tI)]
abbrev Qh3 : Sh := ⟨[(0, .ty (.sl Qai)), (1, .fn 49 [(50000, 0), (50001, 0)]), (7, .ty tI), (8, .ty tI)], [(50000, .box Qae), (50001, .box tI)]⟩
def QhY (x0 : List Keep) (x7 x8 : Int) (y50000 : Qab) (y50001 : Int) : VS := Qh3.st (x0, (), x7, x8, ()) (y50000, y50001, ())
abbrev Qn1 : Sh := ⟨[(4, .ty tI)], [(50000, .box Qae), (50001, .box tI)]⟩
def Qb9 (x4 : Int) (y50000 : Qab) (y50001 : Int) : VS := Qn1.st (x4, ()) (y50000, y50001, ())
abbrev Qql : Sh := ⟨[], [(50000, .box Qae), (50001, .box tI)]⟩
def QcA (y50000 : Qab) (y50001 : Int) : VS := Qql.st () (y50000, y50001, ())
def QCL : VS → Option (Bool × List (Bool × Exit × VS)) := mkL Qh3 (fun x y => (rngOk x.1 x.2.2.1 x.2.2.2.1 && okWit x.1 y.1 y.2.1)) (fun x y => [(((fstG (fun c => witO c y.1 y.2.1) (x.1.drop x.2.2.2.1.toNat)).isSome), .ret, Qb9 (x.2.2.2.1 + ((fstG (fun c => witO c y.1 y.2.1) (x.1.drop x.2.2.2.1.toNat)).getD 0 : Nat)) (y.1) (y.2.1)), (true, .exit 0, QcA (y.1) (y.2.1))])
def Qep : G := ⟨TYs, [], 19, EL [(49, QPd)], keeps, (Ls [QCL]), IL [], RL []⟩
def Qq9 (x0 : List Keep) (x7 x8 : Int) (y50000 : Qab) (y50001 : Int) : Option (Exit × VS) :=
 let a1 := lgt Qai x0 (Int.toNat x8)
 br (ilt x8 x7) (br (cIx x0 x8) (br (witOk a1 y50000 y50001) (br (witO a1 y50000 y50001) (some (.ret, Qb9 x8 y50000 y50001)) (some (.normal, QhY x0 x7 (iadd .i64 x8 1) y50000 y50001))) none) none) (some (.exit 0, QcA y50000 y50001))
noncomputable def Qfr (x0 : List Keep) (x7 x8 : Int) (y50000 : Qab) (y50001 : Int) : Option (Exit × VS) := loopF (Qak Qep Qdv QeT) (QhY x0 x7 x8 y50000 y50001)
noncomputable def Qhh (x0 : List Keep) (x7 x8 : Int) (y50000 : Qab) (y50001 : Int) : Option (Exit × VS) :=
 let a1 := lgt Qai x0 (Int.toNat x8)
 br (ilt x8 x7) (br (cIx x0 x8) (br (witOk a1 y50000 y50001) (br (witO a1 y50000 y50001) (some (.ret, Qb9 x8 y50000 y50001)) (Qfr x0 x7 (iadd .i64 x8 1) y50000 y50001)) none) none) (some (.exit 0, QcA y50000 y50001))
def Qfw (x0 : List Keep) (x7 x8 : Int) (y50000 : Qab) (y50001 : Int) : Option (Exit × VS) := br ((fstG (fun c => witO c y50000 y50001) (x0.drop x8.toNat)).isSome) (some (.ret, Qb9 (x8 + ((fstG (fun c => witO c y50000 y50001) (x0.drop x8.toNat)).getD 0 : Nat)) (y50000) (y50001))) <| some (.exit 0, QcA (y50000) (y50001))
theorem QyS (x0 : List Keep) (x7 x8 : Int) (y50000 : Qab) (y50001 : Int) : Qak Qep Qdv QeT (QhY x0 x7 x8 y50000 y50001) = Qq9 x0 x7 x8 y50000 y50001 := by kernel_rfl
theorem Qpm (x0 : List Keep) (x7 x8 : Int) (y50000 : Qab) (y50001 : Int) : Qfr x0 x7 x8 y50000 y50001 = Qhh x0 x7 x8 y50000 y50001 := (Qan _ _).trans (by
 rw [QyS]
 simp only [Qq9, Qhh, Qax, nxt_n, nxt_r, nxt_e, nxt_0]
 rfl)
def Qsc (p0 : List Keep) (d0 : Qab) (d1 : Int) : Option (V × List VO) :=
 let a1 := (p0.drop (0 : Int).toNat)
 br (rngOk p0 (llen p0) (0 : Int) && okWit p0 d0 d1) (br ((fstG (fun c => witO c d0 d1) a1).isSome) (some (.t tI ((0 : Int) + ((fstG (fun c => witO c d0 d1) a1).getD 0 : Nat)), [.box (.t Qae (d0)), .box (.t tI (d1))])) (some (.t tI (-1), [.box (.t Qae (d0)), .box (.t tI (d1))]))) none
theorem QNE (p0 : List Keep) (d0 : Qab) (d1 : Int) : runF Qep Qnh Quk false [.t (.sl Qai) p0, .fn 49 [(.ptr 50000 0), (.ptr 50001 0)]] [.box (.t Qae d0), .box (.t tI d1)] = Qsc p0 d0 d1 := by kernel_rfl
theorem QJn : Qah Tryz.prog 87 := .inr ⟨by decide, _, Tryz.func87, by kernel_rfl, by kernel_rfl⟩
theorem QI7 : GOk Tryz.prog Qep := Qal _ (gA (gC en_f49 ms_f49 gN))
theorem QB9 (x0 : List Keep) (x7 x8 : Int) (y50000 : Qab) (y50001 : Int) (h : (rngOk x0 x7 x8 && okWit x0 y50000 y50001) = true) : Qfr x0 x7 x8 y50000 y50001 = Qfw x0 x7 x8 y50000 y50001 := by
 simp only [Bool.and_eq_true] at h
 obtain ⟨h0, hc⟩ := h
 obtain ⟨rfl, h3, k, rfl, hk⟩ := rng_k h0
 clear h0
 refine Qat x0 (fun k => Qfr x0 (x0.length : Int) (k : Int) y50000 y50001 = Qfw x0 (x0.length : Int) (k : Int) y50000 y50001) ?_ ?_ k hk
 ·rw [Qpm]
  simp [Qhh, Qfw, Qar, Qaf, fstG]
 ·intro k hk ih
  rw [Qpm]
  have hx : witOk x0[k] y50000 y50001 = true := (Bool.and_eq_true_iff.1 hc).1
  simp only [Qhh, Qar, Qau, hk, decide_true, Qac, Int.toNat_natCast, add1 (show k < 4611686018427387904 by omega), ih, Qay (y := Qai) hk, hx]
  simp only [Qfw, Int.toNat_natCast, List.drop_eq_getElem_cons hk, fstG]
  cases h : (witO x0[k] y50000 y50001) with
  | true => simp [Qac]
  | false =>
   simp only [Qaf, Bool.false_eq_true, if_false]
   cases hq : fstG (fun c => witO c y50000 y50001) (x0.drop (k + 1)) with
   | none => rfl
   | some j =>
    simp only [Option.map_some, Option.isSome_some, Option.getD_some, Qac]
    congr 3
    omega
theorem Qx0 : ∀ S l p, Qep.L 0 (fgt Qdv S) = some (true, l) → pickA l = some p → loopF (Qak Qep Qdv QeT) S = some p :=
 QaD (s := Qh3) ⟨by decide, by decide⟩ (by kernel_rfl) fun x y hok p hp => by
 simp only [Qap, Qam] at hp
 exact (QB9 x.1 x.2.2.1 x.2.2.2.1 y.1 y.2.1 (by simpa using hok)).trans hp
theorem QII : Qnh.lok Qep := by
 repeat (first | exact trivial | exact Qx0 | refine ⟨?_, ?_⟩)
theorem QLJ (l : List Keep) (d0 : Qab) (d1 : Int) (h : okWit l d0 d1 = true) : Qsc l d0 d1 = some (.t tI (ixWit l d0 d1), [.box (.t Qae d0), .box (.t tI d1)]) := by
 have hl := QHs h
 simp only [Qsc, rng_0 hl, h, Bool.and_self, Qac, Int.toNat_zero, List.drop_zero, ixWit]
 cases fstG (fun c => witO c d0 d1) l <;> simp [Qac, Qaf]
def Qtu : Ent := QfJ [.ty (.sl Qai), .fn 49 [(50000, 0), (50001, 0)]] [Qae, tI] (fun x d => (okWit x.1 d.1 d.2.1)) (fun x d => (.t tI (ixWit x.1 d.1 d.2.1)))
theorem QHH : Meets Tryz.prog 87 (strip Qtu) := Qcg (QaO (R := runF Qep Qnh Quk false) (mG Tryz.func87 (by kernel_rfl) Tryz.ntmps87 (by kernel_rfl) QI7 QII) fun x d hok => (QNE x.1 d.1 d.2.1).trans (QLJ x.1 d.1 d.2.1 hok))
def QhN (l : List Keep) (d0 : Qab) (d1 : Int) : Bool := l.any (fun c => witO c d0 d1)
noncomputable def Qnk : TC := (.sq (.reg (rT Tryz.f53 0)) (.sq (.reg (rT Tryz.f53 1)) .rt))
def Qun : List (RV × Option Ty) := [((.t 4), some .bool)]
def Qm3 : G := ⟨TYs, [], 9, EL [(87, Qtu)], keeps, (fun _ _ => none), IL [], RL []⟩
def Qsf (p0 : List Keep) (d0 : Qab) (d1 : Int) : Option (V × List VO) := br (okWit p0 d0 d1) (some (.t .bool (ige (ixWit p0 d0 d1) 0), [.box (.t Qae d0), .box (.t tI d1)])) none
theorem QNH (p0 : List Keep) (d0 : Qab) (d1 : Int) : runF Qm3 Qnk Qun false [.t (.sl Qai) p0, .fn 49 [(.ptr 50000 0), (.ptr 50001 0)]] [.box (.t Qae d0), .box (.t tI d1)] = Qsf p0 d0 d1 := by kernel_rfl
theorem QJt : Qah Tryz.prog 53 := .inr ⟨by decide, _, Tryz.func53, by kernel_rfl, by kernel_rfl⟩
theorem QJa : GOk Tryz.prog Qm3 := Qal _ (gA (gC QJn QHH gN))
theorem QIL : Qnk.lok Qm3 := by repeat (first | exact trivial | refine ⟨?_, ?_⟩)
theorem QLM (l : List Keep) (d0 : Qab) (d1 : Int) (h : okWit l d0 d1 = true) : Qsf l d0 d1 = some (.t .bool (QhN l d0 d1), [.box (.t Qae d0), .box (.t tI d1)]) := by
 simp only [Qsf, h, Qac]
 have e : ige (ixWit l d0 d1) 0 = QhN l d0 d1 := by
  unfold ixWit QhN
  cases hq : fstG (fun c => witO c d0 d1) l with
  | none => rw [QbP.1 hq]; rfl
  | some k =>
   rw [← Qbv, hq]
   simp only [ige, Option.isSome_some, decide_eq_true_eq]
   omega
 rw [e]
def Qty : Ent := QfJ [.ty (.sl Qai), .fn 49 [(50000, 0), (50001, 0)]] [Qae, tI] (fun x d => (okWit x.1 d.1 d.2.1)) (fun x d => (.t .bool (QhN x.1 d.1 d.2.1)))
theorem QHN : Meets Tryz.prog 53 (strip Qty) := Qcg (QaO (R := runF Qm3 Qnk Qun false) (mG Tryz.func53 (by kernel_rfl) Tryz.ntmps53 (by kernel_rfl) QJa QIL) fun x d hok => (QNH x.1 d.1 d.2.1).trans (QLM x.1 d.1 d.2.1 hok))
def needU (a : Int) : List ERow → Int → List Int
 | [], _ => []
 | z :: r, k => bif QhN (Qbq z.1 z.2.1) z.2.1 a then needU a r (k + 1) else k :: needU a r (k + 1)
def needF (e : Qao) (a : Int) : List Int × Int :=
 bif !estOk e then ([], 31) else bif ilt a 1 || igt a 22 then ([], 7) else (needU a (prsI e) 0, 0)
def Qes : Fg := ⟨[(3, none), (6, none), (7, none)], [(60000, some tI), (60001, none), (60002, none), (36, none), (20600, none)]⟩
noncomputable def Ql9 : TC := (.sq (.reg (rT Tryz.f18 8)) (.reg (rT Tryz.f18 9)))
noncomputable def Ql2 : TC := (.bk 2 (.sq (.reg (rT Tryz.f18 10)) (.sq (.sq (.reg (rT Tryz.f18 11)) (.cd (.t 32) (.reg (rT Tryz.f18 12)) .sk)) (.reg (rT Tryz.f18 13)))))
noncomputable def QDx : TC := (.sq (.reg (rT Tryz.f18 0)) (.sq (.bk 0 (.sq (.reg (rT Tryz.f18 1)) (.cd (.t 11) (.sq (.reg (rT Tryz.f18 2)) .rt) (.sq (.reg (rT Tryz.f18 3)) (.cd (.t 15) (.sq (.reg (rT Tryz.f18 4)) .rt) .sk))))) (.sq (.reg (rT Tryz.f18 5)) (.sq (.reg (rT Tryz.f18 6)) (.sq (.sq (.reg (rT Tryz.f18 7)) (.bk 1 (.nf 6 0 3 20600 (.rf 0 Qes (.t 23) (.pr Qae (.pr Qae .nil)) [24, 25] [3, 6, 7] Ql9 Ql2)))) (.sq (.reg (rT Tryz.f18 14)) .rt))))))
def QP3 : List (RV × Option Ty) := [((.t 4), some (.sl tI)), ((.t 5), some tI)]
abbrev QrJ : Sh := ⟨[(3, .ptr 60000 0), (6, .ptr 60001 0), (7, .ptr 60002 0)], [(60000, .box tI), (60001, .bag [.ms 20600]), (60002, .bag [.ty tI]), (36, .no), (20600, .arr 3 tI)]⟩
def Qme (y60000 y60002_0 : Int) (y20600 : List Int) : VS := QrJ.st ((), (), (), ()) (y60000, ((), ()), (y60002_0, ()), (), y20600, ())
abbrev Qoe : Sh := ⟨[(3, .ptr 60000 0), (6, .ptr 60001 0), (7, .ptr 60002 0)], [(60000, .box tI), (60001, .bag [.ms 20600]), (60002, .bag [.ty tI]), (36, .no), (20600, .arr 3 tI)]⟩
def Qdn (y60000 y60002_0 : Int) (y20600 : List Int) : VS := Qoe.st ((), (), (), ()) (y60000, ((), ()), (y60002_0, ()), (), y20600, ())
def Qth : VS → List (Ty.T (.pr Qae (.pr Qae .nil))) → Option (Bool × List (Bool × Exit × VS)) := mkR QrJ (fun zs x y => (QhI zs && decide (0 ≤ y.2.2.1.1 ∧ y.2.2.1.1 + zs.length ≤ 1000 ∧ y.2.2.2.2.1.length ≤ y.2.2.1.1))) (fun zs x y => [(true, .normal, Qdn (y.1) (y.2.2.1.1 + zs.length) (y.2.2.2.2.1 ++ needU y.1 zs y.2.2.1.1))])
def g_f18 : G := ⟨TYs, [], 40, EL [(39, Qy7), (41, QDP), (53, Qty), (54, QPa)], keeps, (Ls [fun _ => none]), IL [(81, Qhs)], (RL [⟨(.pr Qae (.pr Qae .nil)), Qth⟩])⟩
def QK4 (z : (Qab × (Qab × Unit))) (y60000 y60002_0 : Int) (y20600 : List Int) : Option (Exit × VS) := br (QbN z.1 z.2.1) (br (okWit (Qbq z.1 z.2.1) z.2.1 y60000) (br (!(QhN (Qbq z.1 z.2.1) z.2.1 y60000)) (br (cApp y20600 ([y60002_0]) 8) (some (.normal, Qme y60000 (iadd .i64 y60002_0 1) (y20600 ++ ([y60002_0])))) none) (some (.normal, Qme y60000 (iadd .i64 y60002_0 1) y20600))) none) none
noncomputable def Qjf (zs : List (Qab × (Qab × Unit))) (y60000 y60002_0 : Int) (y20600 : List Int) : Option (Exit × VS) := QcY (Qea g_f18 Qes (.pr Qae (.pr Qae .nil)) [24, 25] Ql9 Ql2) zs (Qme y60000 y60002_0 y20600)
noncomputable def QxD (z : (Qab × (Qab × Unit))) (zs : List (Qab × (Qab × Unit))) (y60000 y60002_0 : Int) (y20600 : List Int) : Option (Exit × VS) := br (QbN z.1 z.2.1) (br (okWit (Qbq z.1 z.2.1) z.2.1 y60000) (br (!(QhN (Qbq z.1 z.2.1) z.2.1 y60000)) (br (cApp y20600 ([y60002_0]) 8) (Qjf zs y60000 (iadd .i64 y60002_0 1) (y20600 ++ ([y60002_0]))) none) (Qjf zs y60000 (iadd .i64 y60002_0 1) y20600)) none) none
def QsS (zs : List (Qab × (Qab × Unit))) (y60000 y60002_0 : Int) (y20600 : List Int) : Option (Exit × VS) := some (.normal, Qdn (y60000) (y60002_0 + zs.length) (y20600 ++ needU y60000 zs y60002_0))
theorem QOg (z : (Qab × (Qab × Unit))) (y60000 y60002_0 : Int) (y20600 : List Int) : Qea g_f18 Qes (.pr Qae (.pr Qae .nil)) [24, 25] Ql9 Ql2 z (Qme y60000 y60002_0 y20600) = QK4 z y60000 y60002_0 y20600 := by kernel_rfl
theorem QID (y60000 : Int) (y60002_0 : Int) (y20600 : (List Int)) : Qjf [] y60000 y60002_0 y20600 = some (.normal, Qdn y60000 y60002_0 y20600) := rfl
theorem QMt (z : (Qab × (Qab × Unit))) (zs : List (Qab × (Qab × Unit))) (y60000 y60002_0 : Int) (y20600 : List Int) : Qjf (z :: zs) y60000 y60002_0 y20600 = QxD z zs y60000 y60002_0 y20600 := (Qh7 _ _ _ _).trans (by
 rw [QOg]
 simp only [QK4, QxD, Qax, nxt_n, nxt_r, nxt_e, nxt_0]
 rfl)
def r_f18 (p0 : Qao) (p1 : Int) : Option (V × List VO) := br (Qcn p0) (br (ine (QlG p0) 0) (some (.tu [(.t (.sl tI) ([] : List Int)), (.t tI 31)], [])) (br (ilt p1 1) (some (.tu [(.t (.sl tI) ([] : List Int)), (.t tI 7)], [])) (br (igt p1 22) (some (.tu [(.t (.sl tI) ([] : List Int)), (.t tI 7)], [])) (br (prsOk p0) (br (QhI (prsI p0) && decide (0 ≤ (0 : Int) ∧ (0 : Int) + (prsI p0).length ≤ 1000 ∧ ([] : List Int).length ≤ (0 : Int))) (some (.tu [(.t (.sl tI) (([] : List Int) ++ needU p1 (prsI p0) (0 : Int))), (.t tI 0)], [])) none) none)))) none
theorem e_f18 (p0 : Qao) (p1 : Int) : runF g_f18 QDx QP3 false [.t Qas p0, .t tI p1] [] = r_f18 p0 p1 := by kernel_rfl
theorem QQI : Qah Tryz.prog 18 := .inr ⟨by decide, _, Tryz.func18, by kernel_rfl, by kernel_rfl⟩
theorem gk_f18 : GOk Tryz.prog g_f18 := Qal _ (gA (gC QJv QHP (gC QQH QQv (gC QJt QHN (gC en_f54 ms_f54 gN)))))
 [(81, Qhs)] (by
 intro p hp
 simp only [List.mem_cons, List.not_mem_nil, or_false] at hp
 rcases hp with rfl
 ·exact QzP)
theorem QTI (zs : List (Qab × (Qab × Unit))) (y60000 y60002_0 : Int) (y20600 : List Int) (h : (QhI zs && decide (0 ≤ y60002_0 ∧ y60002_0 + zs.length ≤ 1000 ∧ y20600.length ≤ y60002_0)) = true) : Qjf zs y60000 y60002_0 y20600 = QsS zs y60000 y60002_0 y20600 := by
 simp only [Bool.and_eq_true, decide_eq_true_eq] at h
 obtain ⟨hr, h0, h1, h2⟩ := h
 induction zs generalizing y60002_0 y20600 with
 | nil =>
  rw [QID]
  simp only [QsS, List.length_nil, List.append_nil, needU, Int.natCast_zero, Int.add_zero]
 | cons z zs ih =>
  simp only [QhI, List.all_cons, Bool.and_eq_true] at hr
  simp only [List.length_cons] at h1
  rw [QMt]
  have c1 : QbN z.1 z.2.1 = true := hr.1
  have hl := QyK (c := z.1) (s := z.2.1)
  have c2 : okWit (Qbq z.1 z.2.1) z.2.1 y60000 = true := Bool.and_eq_true_iff.2 ⟨(Bool.and_eq_true_iff.1 hr.1).2, decide_eq_true (by omega)⟩
  have c3 : cApp y20600 [y60002_0] 8 = true := cAppN (by omega) (by simp only [List.length_singleton]; omega)
  have e1 : iadd .i64 y60002_0 1 = y60002_0 + 1 := Qbc (by omega)
  simp only [QxD, c1, c2, c3, e1, Qac]
  rw [ih _ _ hr.2 (by omega) (by omega) (by simp only [List.length_append, List.length_singleton]; omega), ih _ _ hr.2 (by omega) (by omega) (by omega)]
  simp only [QsS, needU, List.append_assoc, List.singleton_append, List.length_cons, Int.natCast_add, Int.natCast_one, show y60002_0 + ((zs.length : Int) + 1) = y60002_0 + 1 + zs.length by omega]
  cases QhN (Qbq z.1 z.2.1) z.2.1 y60000 <;> rfl
theorem QMm : ∀ S (rows : List (Ty.T (.pr Qae (.pr Qae .nil)))) l p, g_f18.R 0 (fgt Qes S) (.pr Qae (.pr Qae .nil)) rows = some (true, l) → pickA l = some p → QcY (Qea g_f18 Qes (.pr Qae (.pr Qae .nil)) [24, 25] Ql9 Ql2) rows (fgt Qes S) = some p := by
 intro S rows l p hR hp
 rw [show g_f18.R 0 (fgt Qes S) (.pr Qae (.pr Qae .nil)) rows = Qth (fgt Qes S) rows from RL_at (l := [⟨(.pr Qae (.pr Qae .nil)), Qth⟩]) (j := 0) (F := Qth) rfl _ _] at hR
 refine QxY (s := QrJ) ⟨by decide, by decide⟩ (by kernel_rfl) (fun zs x y hok p hp => ?_) S rows l p hR hp
 simp only [Qap, Qam] at hp
 exact (QTI zs y.1 y.2.2.1.1 y.2.2.2.2.1 (by first | rfl | simpa using hok)).trans hp
theorem lk_f18 : QDx.lok g_f18 := by
 repeat (first | exact trivial | exact QMm | refine ⟨?_, ?_⟩)
theorem s_f18 (e : Qao) (a : Int) (h : QeQ e a = true) : r_f18 e a = some (.tu [.t (.sl tI) (needF e a).1, .t tI (needF e a).2], []) := by
 have hl : Qcn e = true := h
 simp only [r_f18, hl, Qac, Qp6, List.nil_append, List.length_nil]
 unfold needF
 cases he : estOk e with
 | false => rfl
 | true =>
  obtain ⟨h1, h2, h3⟩ := QAJ hl he
  rw [Bool.not_true, Qaf]
  cases ilt a 1 with
  | true => rfl
  | false =>
   cases igt a 22 with
   | true => rfl
   | false =>
    rw [Qaf, Qaf, h1, Qac, h2, Bool.true_and]
    exact brY (decide_eq_true ⟨Int.le_refl _, by omega, Int.le_refl _⟩) rfl
def QEh : Ent := spec (.pr Qas (.pr tI .nil)) (fun x => (QeQ x.1 x.2.1)) (fun x => (.tu [(.t (.sl tI) ((needF x.1 x.2.1).1)), (.t tI ((needF x.1 x.2.1).2))]))
theorem QQw : Meets Tryz.prog 18 (strip QEh) := Qag (R := runF g_f18 QDx QP3 false) (mG Tryz.func18 (by kernel_rfl) Tryz.ntmps18 (by kernel_rfl) gk_f18 lk_f18) fun x hok => (e_f18 x.1 x.2.1).trans (s_f18 x.1 x.2.1 hok)
end
end Go.Proofs.YtckcgijklnloiaaGreat.K
