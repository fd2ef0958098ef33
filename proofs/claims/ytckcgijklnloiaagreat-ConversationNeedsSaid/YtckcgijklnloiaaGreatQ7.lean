import Derived.Test.YtckcgijklnloiaaGreatQ6
import Derived.Test.YtckcgijklnloiaaGreatQ3
import Derived.Shelf.Small.Strs
import Derived.Ground.NamesProg
set_option linter.unusedSimpArgs false
set_option linter.unusedVariables false
namespace Go.Proofs
open Go.Shelf
def Tryz.lays137_ren : Go.Shelf.Ren := ⟨fun | 137 => 179 | 217 => 208 | 266 => 229 | n => n, fun | 9 => 9 | 5 => 5 | 3 => 3 | n => n, fun | n => n⟩
theorem Tryz.lays137 : Go.Proofs.Lays.n137 Tryz.prog Tryz.lays137_ren := {
 mixed := by kernel_rfl
 f137 := Tryz.func179.trans (congrArg some (by kernel_rfl))
 f217 := Tryz.func208.trans (congrArg some (by kernel_rfl))
 f266 := Tryz.func229.trans (congrArg some (by kernel_rfl))
 t3 := Tryz.underlying3
 a3 := Tryz.isAgg3
 z3 := Tryz.sizeOf3
 v3 := Tryz.zeroValue3
 t5 := Tryz.underlying5
 a5 := Tryz.isAgg5
 z5 := Tryz.sizeOf5
 v5 := Tryz.zeroValue5
 t9 := Tryz.underlying9
 a9 := Tryz.isAgg9
 z9 := Tryz.sizeOf9
 v9 := Tryz.zeroValue9 }
end Go.Proofs
namespace Go.Proofs.YtckcgijklnloiaaGreat.K
open Go.RowKit Go.Shelf
noncomputable section
def ixB (s : ByteArray) (c : Int) : Int := Lib.indexByte s.data.toList c.toNat.toUInt8
def QEi : Ent := spec (.pr .str (.pr (.int .u8) .nil)) (fun x => true) (fun x => (.t tI (ixB x.1 x.2.1)))
theorem QVq : Qah Tryz.prog 179 := .inr ⟨by decide, _, Tryz.func179, by kernel_rfl, by kernel_rfl⟩
theorem QRJ : Meets Tryz.prog 179 (strip QEi) := QxV fun x hok X w σ vs hfin hc => by
 obtain ⟨s, c, u⟩ := x
 simp only [Ty.canon, V.ds, V.d, Ty.d, Cs, C] at hc
 obtain ⟨v1, r1, rfl, ⟨rfl, _⟩, v2, r2, rfl, ⟨rfl, _⟩, rfl⟩ := hc
 refine (Any.strings_IndexByte Tryz.lays137 s c w).mono ?_
 rintro e w' ⟨rfl, rfl⟩
 refine ⟨_, rfl, ?_, Below.refl _ _⟩
 simp only [V.d, Ty.d, C]
 exact ⟨rfl, rfl⟩
def Qib (c : Int) (o : ByteArray) : Bool := (ige c 97 && ile c 122) || ((ige c 65 && ile c 90) || ((ige c 48 && ile c 57) || ige (ixB o c) 0))
noncomputable def Qwt : TC := (.sq (.reg (rT Tryz.f154 0)) (.sq (.reg (rT Tryz.f154 1)) .rt))
def QFL : List (RV × Option Ty) := [((.t 4), some .bool)]
def QAj : G := ⟨TYs, [], 33, EL [(179, QEi)], keeps, (fun _ _ => none), IL [], RL []⟩
def Qso (p0 : Int) (p1 : ByteArray) : Option (V × List VO) := br (ige p0 48) (br (ile p0 57) (some (.t .bool true, [])) (some (.t .bool (ige (ixB p1 p0) 0), []))) (some (.t .bool (ige (ixB p1 p0) 0), []))
def Qsp (p0 : Int) (p1 : ByteArray) : Option (V × List VO) := br (ige p0 65) (br (ile p0 90) (some (.t .bool true, [])) (Qso p0 p1)) (Qso p0 p1)
def QG2 (p0 : Int) (p1 : ByteArray) : Option (V × List VO) := br (ige p0 97) (br (ile p0 122) (some (.t .bool true, [])) (Qsp p0 p1)) (Qsp p0 p1)
theorem e_f154 (p0 : Int) (p1 : ByteArray) : runF QAj Qwt QFL false [.t (.int .u8) p0, .t .str p1] [] = QG2 p0 p1 := by kernel_rfl
theorem QVB : Qah Tryz.prog 154 := .inr ⟨by decide, _, Tryz.func154, by kernel_rfl, by kernel_rfl⟩
theorem QUC : GOk Tryz.prog QAj := Qal _ (gA (gC QVq QRJ gN))
theorem QS5 : Qwt.lok QAj := by repeat (first | exact trivial | refine ⟨?_, ?_⟩)
theorem brO {a b r : Bool} {X : Option (V × List VO)} (h : X = some (.t .bool r, [])) : br a (br b (some (.t .bool true, [])) X) X = some (.t .bool ((a && b) || r), []) := by
 subst h
 cases a <;> cases b <;> rfl
theorem s_f154 (c : Int) (o : ByteArray) : QG2 c o = some (.t .bool (Qib c o), []) := by
 simp only [QG2, Qsp, Qso]
 exact brO (brO (brO rfl))
def QEt : Ent := spec (.pr (.int .u8) (.pr .str .nil)) (fun x => true) (fun x => (.t .bool (Qib x.1 x.2.1)))
theorem QRU : Meets Tryz.prog 154 (strip QEt) := Qag (R := runF QAj Qwt QFL false) (mG Tryz.func154 (by kernel_rfl) Tryz.ntmps154 (by kernel_rfl) QUC QS5) fun x _ => (e_f154 x.1 x.2.1).trans (s_f154 x.1 x.2.1)
def wordC (c : Int) : Bool := !(ilt c 97 || igt c 122) || (!(ilt c 65 || igt c 90) || (!(ilt c 48 || igt c 57) || (ieq c 45 || (ieq c 95 || ieq c 46))))
def wordF (s : ByteArray) : Bool := (QaI s).all wordC && decide (1 ≤ s.size ∧ s.size ≤ 32)
set_option maxRecDepth 100000 in
theorem QTz : ((List.range 256).all fun n => Qib (n : Int) (ByteArray.mk #[45, 95, 46]) == wordC (n : Int)) = true := by kernel_rfl
theorem QMx {s : ByteArray} {c : Int} (h : c ∈ QaI s) : Qib c (ByteArray.mk #[45, 95, 46]) = wordC c := by
 obtain ⟨b, _, rfl⟩ := List.mem_map.1 h
 have := List.all_eq_true.1 QTz b.toNat (by rw [List.mem_range]; exact b.toNat_lt)
 exact eq_of_beq this
def Qg0 : Fg := ⟨[(0, some .str), (6, some (.sl (.int .u8))), (7, some tI), (8, some tI)], []⟩
noncomputable def QiM : TC := (.sq (.reg (rT Tryz.f114 2)) (.sq (.cd (.t 9) .sk (.fg ⟨[(0, some .str)], []⟩ (.ex 0))) (.sq (.bk 1 (.sq (.reg (rT Tryz.f114 3)) (.sq (.reg (rT Tryz.f114 4)) (.cd (.t 14) (.sq (.reg (rT Tryz.f114 5)) (.fg ⟨[(2, some .bool)], []⟩ .rt)) .sk)))) (.reg (rT Tryz.f114 6)))))
noncomputable def QwR : TC := (.sq (.reg (rT Tryz.f114 0)) (.sq (.sq (.reg (rT Tryz.f114 1)) (.bk 0 (.lp 0 Qg0 QiM))) (.sq (.reg (rT Tryz.f114 7)) .rt)))
def QF9 : List (RV × Option Ty) := [((.t 2), some .bool)]
abbrev QoC : Sh := ⟨[(0, .ty .str), (6, .ty (.sl (.int .u8))), (7, .ty tI), (8, .ty tI)], []⟩
def QnO (x0 : ByteArray) (x6 : List Int) (x7 x8 : Int) : VS := QoC.st (x0, x6, x7, x8, ()) ()
abbrev Qr1 : Sh := ⟨[(2, .ty .bool)], []⟩
def Qdc (x2 : Bool) : VS := Qr1.st (x2, ()) ()
abbrev Quf : Sh := ⟨[(0, .ty .str)], []⟩
def Qd8 (x0 : ByteArray) : VS := Quf.st (x0, ()) ()
def QOT : VS → Option (Bool × List (Bool × Exit × VS)) := mkL QoC (fun x y => (rngG x.2.1 x.2.2.1 x.2.2.2.1 && samB x.2.1 (QaI x.1))) (fun x y => [((!((x.2.1.drop x.2.2.2.1.toNat).all wordC)), .ret, Qdc (false)), (true, .exit 0, Qd8 (x.1))])
def QlE : G := ⟨TYs, [], 24, EL [(154, QEt), (30120144, Qa2)], keeps, (Ls [QOT]), IL [], RL []⟩
def QBs (x0 : ByteArray) (x6 : List Int) (x7 x8 : Int) : Option (Exit × VS) := br (ilt x8 x7) (br (cIx x6 x8) (br (!(Qib (lgt (.int .u8) x6 (Int.toNat x8)) (ByteArray.mk #[45, 95, 46]))) (some (.ret, Qdc false)) (some (.normal, QnO x0 x6 x7 (iadd .i64 x8 1)))) none) (some (.exit 0, Qd8 x0))
noncomputable def Qjv (x0 : ByteArray) (x6 : List Int) (x7 x8 : Int) : Option (Exit × VS) := loopF (Qak QlE Qg0 QiM) (QnO x0 x6 x7 x8)
noncomputable def QmI (x0 : ByteArray) (x6 : List Int) (x7 x8 : Int) : Option (Exit × VS) := br (ilt x8 x7) (br (cIx x6 x8) (br (!(Qib (lgt (.int .u8) x6 (Int.toNat x8)) (ByteArray.mk #[45, 95, 46]))) (some (.ret, Qdc false)) (Qjv x0 x6 x7 (iadd .i64 x8 1))) none) (some (.exit 0, Qd8 x0))
def QjV (x0 : ByteArray) (x6 : List Int) (x7 x8 : Int) : Option (Exit × VS) := br (!((x6.drop x8.toNat).all wordC)) (some (.ret, Qdc (false))) <| some (.exit 0, Qd8 (x0))
theorem QKT (x0 : ByteArray) (x6 : List Int) (x7 x8 : Int) : Qak QlE Qg0 QiM (QnO x0 x6 x7 x8) = QBs x0 x6 x7 x8 := by kernel_rfl
theorem Qvb (x0 : ByteArray) (x6 : List Int) (x7 x8 : Int) : Qjv x0 x6 x7 x8 = QmI x0 x6 x7 x8 := (Qan _ _).trans (by
 rw [QKT]
 simp only [QBs, QmI, Qax, nxt_n, nxt_r, nxt_e, nxt_0]
 rfl)
def QHj (p0 : ByteArray) : Option (V × List VO) := br (Qbd p0) (br (rngG (QaI p0) (llen (QaI p0)) (0 : Int) && samB (QaI p0) (QaI p0)) (br (!(((QaI p0).drop (0 : Int).toNat).all wordC)) (some (.t .bool (false), [])) (br (ige (slen (p0)) 1) (some (.t .bool (ile (slen (p0)) 32), [])) (some (.t .bool false, [])))) none) none
theorem e_f114 (p0 : ByteArray) : runF QlE QwR QF9 false [.t .str p0] [] = QHj p0 := by kernel_rfl
theorem QVT : Qah Tryz.prog 114 := .inr ⟨by decide, _, Tryz.func114, by kernel_rfl, by kernel_rfl⟩
theorem QU0 : GOk Tryz.prog QlE := Qal _ (gA (gC QVB QRU (gC Qbo Qbn gN)))
theorem QM2 (x0 : ByteArray) (x6 : List Int) (x7 x8 : Int) (h : (rngG x6 x7 x8 && samB x6 (QaI x0)) = true) : Qjv x0 x6 x7 x8 = QjV x0 x6 x7 x8 := by
 simp only [Bool.and_eq_true] at h
 obtain ⟨h, hs⟩ := h
 have hs := Qxp hs
 obtain ⟨rfl, h3, k, rfl, hk⟩ := QGi h
 clear h
 refine Qat x6 (fun k => Qjv x0 x6 (x6.length : Int) (k : Int) = QjV x0 x6 (x6.length : Int) (k : Int)) ?_ ?_ k hk
 ·rw [Qvb]
  simp [QmI, QjV, Qar, Qaf]
 ·intro k hk ih
  rw [Qvb]
  have hw : Qib x6[k] (ByteArray.mk #[45, 95, 46]) = wordC x6[k] := QMx (s := x0) (by rw [← hs]; exact List.getElem_mem hk)
  simp only [QmI, Qar, Qau, hk, decide_true, Qac, Int.toNat_natCast, add1G (show k < 9223372036854775807 by omega), Qay (y := .int .u8) hk, ih, hw]
  simp only [QjV, Int.toNat_natCast, List.drop_eq_getElem_cons hk, List.all_cons]
  cases wordC x6[k] <;> rfl
theorem QIz : ∀ S l p, QlE.L 0 (fgt Qg0 S) = some (true, l) → pickA l = some p → loopF (Qak QlE Qg0 QiM) S = some p :=
 QaD (s := QoC) ⟨by decide, by decide⟩ (by kernel_rfl) fun x y hok p hp => by
 simp only [Qap, Qam] at hp
 exact (QM2 x.1 x.2.1 x.2.2.1 x.2.2.2.1 (by simpa using hok)).trans hp
theorem QTt : QwR.lok QlE := by
 repeat (first | exact trivial | exact QIz | refine ⟨?_, ?_⟩)
theorem s_f114 (s : ByteArray) (h : nameG s = true) : QHj s = some (.t .bool (wordF s), []) := by
 simp only [nameG, decide_eq_true_eq] at h
 have hl := Qdi s
 simp only [QHj, show Qbd s = true from decide_eq_true (by omega), QGj (show (QaI s).length ≤ 9223372036854775807 by omega), QoG, Bool.and_self, Qac, Int.toNat_zero, List.drop_zero, wordF]
 cases (QaI s).all wordC with
 | false => rfl
 | true =>
  simp only [Bool.not_true, Qaf, Bool.true_and]
  refine QaB (fun g => ?_) (fun g => ?_)
  ·simp only [ige, slen, decide_eq_true_eq] at g
   apply QtC
   rw [Bool.eq_iff_iff]
   simp only [ile, slen, decide_eq_true_eq]
   omega
  ·simp only [ige, slen, decide_eq_false_iff_not] at g
   apply QtC
   rw [eq_comm, decide_eq_false_iff_not]
   omega
def QEL : Ent := spec (.pr .str .nil) (fun x => (nameG x.1)) (fun x => (.t .bool (wordF x.1)))
theorem QSc : Meets Tryz.prog 114 (strip QEL) := Qag (R := runF QlE QwR QF9 false) (mG Tryz.func114 (by kernel_rfl) Tryz.ntmps114 (by kernel_rfl) QU0 QTt) fun x hok => (e_f114 x.1).trans (s_f114 x.1 hok)
def Qbm {α : Type} (l : List α) : Bool := decide (l.length ≤ 100000)
def ascUp (l : List Int) (k : Nat) : Bool := (List.range' k (l.length - k)).all fun j => decide (j = 0) || ilt (l.getD (j - 1) 0) (l.getD j 0)
def ascF (l : List Int) : Bool := ascUp l 0
theorem QLc (l : List Int) : ascUp l l.length = true := by
 unfold ascUp
 rw [Nat.sub_self]
 rfl
theorem QCJ {l : List Int} {k : Nat} (hk : k < l.length) : ascUp l k = ((decide (k = 0) || ilt (l.getD (k - 1) 0) l[k]) && ascUp l (k + 1)) := by
 have : l.length - k = (l.length - (k + 1)) + 1 := by omega
 unfold ascUp
 rw [this, List.range'_succ, List.all_cons]
 simp only [List.getD_eq_getElem?_getD, List.getElem?_eq_getElem hk, Option.getD_some]
theorem asc_br {β : Type} {l : List Int} {k : Nat} (hk : k < l.length) (hb : k < 4611686018427387904) (bad ok : Option β) :
  br (igt (k : Int) 0) (br (cIx l (isub .i64 (k : Int) 1)) (br (ige (lgt tI l (Int.toNat (isub .i64 (k : Int) 1))) l[k]) bad ok) none) ok = br (decide (k = 0) || ilt (l.getD (k - 1) 0) l[k]) ok bad := by
 by_cases h0 : k = 0
 ·subst h0
  rw [show igt ((0 : Nat) : Int) 0 = false from rfl, Qaf, decide_eq_true rfl, Bool.true_or, Qac]
 ·have e : isub .i64 (k : Int) 1 = ((k - 1 : Nat) : Int) := by rw [Qch (by omega)]; omega
  rw [show igt (k : Int) 0 = true from decide_eq_true (by omega), Qac, e, Int.toNat_natCast, Qau, decide_eq_true (show k - 1 < l.length by omega), Qac, decide_eq_false h0, Bool.false_or, QsU]
  show br (!ilt (l.getD (k - 1) 0) l[k]) bad ok = _
  cases ilt (l.getD (k - 1) 0) l[k] <;> rfl
noncomputable def QJ4 : List DO := dT Tryz.f116 4
def QgY : Fg := ⟨[(0, some (.sl tI)), (5, some tI), (6, some tI)], []⟩
noncomputable def QiK : TC := (.sq (.reg (rT Tryz.f116 2)) (.sq (.cd (.t 7) .sk (.fg ⟨[], []⟩ (.ex 0))) (.sq (.bk 1 (.sq (.reg (rT Tryz.f116 3)) (.sq (.dr QJ4 [(0, []), (1, []), (2, []), (3, []), (4, []), (5, []), (6, []), (7, []), (8, []), (9, []), (10, []), (11, []), (12, []), (13, [])] (.of [0, 1, 2, 3, 4, 5, 6, 7, 8, 9, 10, 11, 12, 13])) (.cd (.t 22) (.sq (.reg (rT Tryz.f116 5)) (.fg ⟨[(2, some .bool)], []⟩ .rt)) .sk)))) (.reg (rT Tryz.f116 6)))))
noncomputable def QwP : TC := (.sq (.reg (rT Tryz.f116 0)) (.sq (.sq (.reg (rT Tryz.f116 1)) (.bk 0 (.lp 0 QgY QiK))) (.sq (.reg (rT Tryz.f116 7)) .rt)))
def QF7 : List (RV × Option Ty) := [((.t 2), some .bool)]
abbrev QoA : Sh := ⟨[(0, .ty (.sl tI)), (5, .ty tI), (6, .ty tI)], []⟩
def QiS (x0 : List Int) (x5 x6 : Int) : VS := QoA.st (x0, x5, x6, ()) ()
abbrev QrZ : Sh := ⟨[(2, .ty .bool)], []⟩
def Qdb (x2 : Bool) : VS := QrZ.st (x2, ()) ()
abbrev Qud : Sh := ⟨[], []⟩
def Qd6  : VS := Qud.st () ()
def QOR : VS → Option (Bool × List (Bool × Exit × VS)) := mkL QoA (fun x y => (rngOk x.1 x.2.1 x.2.2.1)) (fun x y => [((!ascUp x.1 x.2.2.1.toNat), .ret, Qdb (false)), (true, .exit 0, Qd6)])
def QlC : G := ⟨TYs, [], 24, EL [], keeps, (Ls [QOR]), IL [], RL []⟩
def QBq (x0 : List Int) (x5 x6 : Int) : Option (Exit × VS) := br (ilt x6 x5) (br (igt x6 0) (br (cIx x0 (isub .i64 x6 1)) (br (cIx x0 x6) (br (ige (lgt tI x0 (Int.toNat (isub .i64 x6 1))) (lgt tI x0 (Int.toNat x6))) (some (.ret, Qdb false)) (some (.normal, QiS x0 x5 (iadd .i64 x6 1)))) none) none) (some (.normal, QiS x0 x5 (iadd .i64 x6 1)))) (some (.exit 0, Qd6))
noncomputable def Qgu (x0 : List Int) (x5 x6 : Int) : Option (Exit × VS) := loopF (Qak QlC QgY QiK) (QiS x0 x5 x6)
noncomputable def QmG (x0 : List Int) (x5 x6 : Int) : Option (Exit × VS) := br (ilt x6 x5) (br (igt x6 0) (br (cIx x0 (isub .i64 x6 1)) (br (cIx x0 x6) (br (ige (lgt tI x0 (Int.toNat (isub .i64 x6 1))) (lgt tI x0 (Int.toNat x6))) (some (.ret, Qdb false)) (Qgu x0 x5 (iadd .i64 x6 1))) none) none) (Qgu x0 x5 (iadd .i64 x6 1))) (some (.exit 0, Qd6))
def QjT (x0 : List Int) (x5 x6 : Int) : Option (Exit × VS) := br (!ascUp x0 x6.toNat) (some (.ret, Qdb (false))) <| some (.exit 0, Qd6)
theorem QKR (x0 : List Int) (x5 x6 : Int) : Qak QlC QgY QiK (QiS x0 x5 x6) = QBq x0 x5 x6 := by kernel_rfl
theorem Qu9 (x0 : List Int) (x5 x6 : Int) : Qgu x0 x5 x6 = QmG x0 x5 x6 := (Qan _ _).trans (by
 rw [QKR]
 simp only [QBq, QmG, Qax, nxt_n, nxt_r, nxt_e, nxt_0]
 rfl)
def QHh (p0 : List Int) : Option (V × List VO) := br (rngOk p0 (llen p0) (0 : Int)) (br (!ascUp p0 (0 : Int).toNat) (some (.t .bool (false), [])) (some (.t .bool true, []))) none
theorem e_f116 (p0 : List Int) : runF QlC QwP QF7 false [.t (.sl tI) p0] [] = QHh p0 := by kernel_rfl
theorem QVR : Qah Tryz.prog 116 := .inr ⟨by decide, _, Tryz.func116, by kernel_rfl, by kernel_rfl⟩
theorem QUY : GOk Tryz.prog QlC := Qal _ (fun p hp => by cases hp)
theorem QM0 (x0 : List Int) (x5 x6 : Int) (h : (rngOk x0 x5 x6) = true) : Qgu x0 x5 x6 = QjT x0 x5 x6 := by
 obtain ⟨rfl, h3, k, rfl, hk⟩ := rng_k h
 clear h
 refine Qat x0 (fun k => Qgu x0 (x0.length : Int) (k : Int) = QjT x0 (x0.length : Int) (k : Int)) ?_ ?_ k hk
 ·rw [Qu9]
  simp only [QmG, QjT, Qar, Nat.lt_irrefl, decide_false, Qaf, Int.toNat_natCast, QLc, Bool.not_true]
 ·intro k hk ih
  rw [Qu9]
  simp only [QmG, Qar, Qau, hk, decide_true, Qac, Int.toNat_natCast, add1 (show k < 4611686018427387904 by omega), Qay (y := tI) hk, ih, asc_br hk (show k < 4611686018427387904 by omega)]
  simp only [QjT, Int.toNat_natCast, QCJ hk]
  cases decide (k = 0) || ilt (x0.getD (k - 1) 0) x0[k] <;> rfl
theorem QIx : ∀ S l p, QlC.L 0 (fgt QgY S) = some (true, l) → pickA l = some p → loopF (Qak QlC QgY QiK) S = some p :=
 QaD (s := QoA) ⟨by decide, by decide⟩ (by kernel_rfl) fun x y hok p hp => by
 simp only [Qap, Qam] at hp
 exact (QM0 x.1 x.2.1 x.2.2.1 (by simpa using hok)).trans hp
theorem QTr : QwP.lok QlC := by
 repeat (first | exact trivial | exact QIx | refine ⟨?_, ?_⟩)
theorem s_f116 (l : List Int) (h : Qbm l = true) : QHh l = some (.t .bool (ascF l), []) := by
 simp only [Qbm, decide_eq_true_eq] at h
 simp only [QHh, rng_0 h, Qac, Int.toNat_zero]
 unfold ascF
 cases ascUp l 0 <;> rfl
def QEJ : Ent := spec (.pr (.sl tI) .nil) (fun x => (Qbm x.1)) (fun x => (.t .bool (ascF x.1)))
theorem QSa : Meets Tryz.prog 116 (strip QEJ) := Qag (R := runF QlC QwP QF7 false) (mG Tryz.func116 (by kernel_rfl) Tryz.ntmps116 (by kernel_rfl) QUY QTr) fun x hok => (e_f116 x.1).trans (s_f116 x.1 hok)
def hashF (a : Int) : Bool := ieq (kindF a) 1
noncomputable def QwM : TC := (.sq (.reg (rT Tryz.f122 0)) (.sq (.reg (rT Tryz.f122 1)) .rt))
def QF4 : List (RV × Option Ty) := [((.t 2), some .bool)]
def QAv : G := ⟨TYs, [], 6, EL [(155, Qrt)], keeps, (fun _ _ => none), IL [], RL []⟩
def QQn (p0 : Int) : Option (V × List VO) := some (.t .bool (ieq (kindF p0) 1), [])
theorem e_f122 (p0 : Int) : runF QAv QwM QF4 false [.t tI p0] [] = QQn p0 := by kernel_rfl
theorem QVP : Qah Tryz.prog 122 := .inr ⟨by decide, _, Tryz.func122, by kernel_rfl, by kernel_rfl⟩
theorem QUV : GOk Tryz.prog QAv := Qal _ (gA (gC QyA QxJ gN))
theorem QTo : QwM.lok QAv := by repeat (first | exact trivial | refine ⟨?_, ?_⟩)
theorem s_f122 (a : Int) : QQn a = some (.t .bool (hashF a), []) := rfl
def QEH : Ent := spec (.pr tI .nil) (fun x => true) (fun x => (.t .bool (hashF x.1)))
theorem QR8 : Meets Tryz.prog 122 (strip QEH) := Qag (R := runF QAv QwM QF4 false) (mG Tryz.func122 (by kernel_rfl) Tryz.ntmps122 (by kernel_rfl) QUV QTo) fun x _ => (e_f122 x.1).trans (s_f122 x.1)
def QfI (l : List Int) (k : Nat) : Bool := (List.range' k (l.length - k)).all fun j => ieq (QaN (l.getD j 0)).2 0 && !hasF (l.take j) (l.getD j 0)
def suitF (l : List Int) : Bool := QfI l 0
theorem QBE (l : List Int) : QfI l l.length = true := by
 unfold QfI
 rw [Nat.sub_self]
 rfl
theorem QwV {l : List Int} {k : Nat} (hk : k < l.length) : QfI l k = ((ieq (QaN l[k]).2 0 && !hasF (l.take k) l[k]) && QfI l (k + 1)) := by
 have : l.length - k = (l.length - (k + 1)) + 1 := by omega
 unfold QfI
 rw [this, List.range'_succ, List.all_cons]
 simp only [List.getD_eq_getElem?_getD, List.getElem?_eq_getElem hk, Option.getD_some]
theorem QMc (l : List Int) (k : Nat) : lsl l 0 (k : Int) = l.take k := by
 simp [lsl]
theorem QN4 {l : List Int} {k : Nat} (hk : k ≤ l.length) : cSl l 0 (k : Int) ((List.length l : Nat) : Int) = true := by
 simp only [cSl, decide_eq_true_eq]
 omega
def QgZ : Fg := ⟨[(0, some (.sl tI)), (7, some (.sl tI)), (8, some tI), (9, some tI)], []⟩
noncomputable def QiL : TC := (.sq (.reg (rT Tryz.f115 2)) (.sq (.cd (.t 10) .sk (.fg ⟨[], []⟩ (.ex 0))) (.sq (.bk 1 (.sq (.reg (rT Tryz.f115 3)) (.sq (.reg (rT Tryz.f115 4)) (.sq (.reg (rT Tryz.f115 5)) (.cd (.t 27) (.sq (.reg (rT Tryz.f115 6)) (.fg ⟨[(2, some .bool)], []⟩ .rt)) .sk))))) (.reg (rT Tryz.f115 7)))))
noncomputable def QwQ : TC := (.sq (.reg (rT Tryz.f115 0)) (.sq (.sq (.reg (rT Tryz.f115 1)) (.bk 0 (.lp 0 QgZ QiL))) (.sq (.reg (rT Tryz.f115 8)) .rt)))
def QF8 : List (RV × Option Ty) := [((.t 2), some .bool)]
abbrev QoB : Sh := ⟨[(0, .ty (.sl tI)), (7, .ty (.sl tI)), (8, .ty tI), (9, .ty tI)], []⟩
def QnN (x0 x7 : List Int) (x8 x9 : Int) : VS := QoB.st (x0, x7, x8, x9, ()) ()
abbrev Qr0 : Sh := ⟨[(2, .ty .bool)], []⟩
def QbF (x2 : Bool) : VS := Qr0.st (x2, ()) ()
abbrev Que : Sh := ⟨[], []⟩
def Qd7  : VS := Que.st () ()
def QOS : VS → Option (Bool × List (Bool × Exit × VS)) := mkL QoB (fun x y => (rngOk x.2.1 x.2.2.1 x.2.2.2.1 && samB x.1 x.2.1)) (fun x y => [((!QfI x.2.1 x.2.2.2.1.toNat), .ret, QbF (false)), (true, .exit 0, Qd7)])
def QlD : G := ⟨TYs, [], 29, EL [(85, Qtw), (101, Qkz)], keeps, (Ls [QOS]), IL [], RL []⟩
def QBr (x0 x7 : List Int) (x8 x9 : Int) : Option (Exit × VS) :=
 let a1 := lgt tI x7 (Int.toNat x9)
 br (ilt x9 x8) (br (cIx x7 x9) (br (ine ((QaN a1).2) 0) (some (.ret, QbF false)) (br (cSl x0 0 x9 ((List.length x0 : Nat) : Int)) (br (QaY (lsl x0 0 x9) a1) (br (hasF (lsl x0 0 x9) a1) (some (.ret, QbF false)) (some (.normal, QnN x0 x7 x8 (iadd .i64 x9 1)))) none) none)) none) (some (.exit 0, Qd7))
noncomputable def Qju (x0 x7 : List Int) (x8 x9 : Int) : Option (Exit × VS) := loopF (Qak QlD QgZ QiL) (QnN x0 x7 x8 x9)
noncomputable def QmH (x0 x7 : List Int) (x8 x9 : Int) : Option (Exit × VS) :=
 let a1 := lgt tI x7 (Int.toNat x9)
 br (ilt x9 x8) (br (cIx x7 x9) (br (ine ((QaN a1).2) 0) (some (.ret, QbF false)) (br (cSl x0 0 x9 ((List.length x0 : Nat) : Int)) (br (QaY (lsl x0 0 x9) a1) (br (hasF (lsl x0 0 x9) a1) (some (.ret, QbF false)) (Qju x0 x7 x8 (iadd .i64 x9 1))) none) none)) none) (some (.exit 0, Qd7))
def QjU (x0 x7 : List Int) (x8 x9 : Int) : Option (Exit × VS) := br (!QfI x7 x9.toNat) (some (.ret, QbF (false))) <| some (.exit 0, Qd7)
theorem QKS (x0 x7 : List Int) (x8 x9 : Int) : Qak QlD QgZ QiL (QnN x0 x7 x8 x9) = QBr x0 x7 x8 x9 := by kernel_rfl
theorem Qva (x0 x7 : List Int) (x8 x9 : Int) : Qju x0 x7 x8 x9 = QmH x0 x7 x8 x9 := (Qan _ _).trans (by
 rw [QKS]
 simp only [QBr, QmH, Qax, nxt_n, nxt_r, nxt_e, nxt_0]
 rfl)
def QHi (p0 : List Int) : Option (V × List VO) := br (rngOk p0 (llen p0) (0 : Int) && samB p0 p0) (br (!QfI p0 (0 : Int).toNat) (some (.t .bool (false), [])) (some (.t .bool true, []))) none
theorem e_f115 (p0 : List Int) : runF QlD QwQ QF8 false [.t (.sl tI) p0] [] = QHi p0 := by kernel_rfl
theorem QVS : Qah Tryz.prog 115 := .inr ⟨by decide, _, Tryz.func115, by kernel_rfl, by kernel_rfl⟩
theorem QUZ : GOk Tryz.prog QlD := Qal _ (gA (gC QAM Qzv (gC Qp2 Qpd gN)))
theorem QM1 (x0 x7 : List Int) (x8 x9 : Int) (h : (rngOk x7 x8 x9 && samB x0 x7) = true) : Qju x0 x7 x8 x9 = QjU x0 x7 x8 x9 := by
 simp only [Bool.and_eq_true] at h
 obtain ⟨h0, hs⟩ := h
 have hs := Qxp hs
 subst hs
 obtain ⟨rfl, h3, k, rfl, hk⟩ := rng_k h0
 clear h0
 refine Qat x0 (fun k => Qju x0 x0 (x0.length : Int) (k : Int) = QjU x0 x0 (x0.length : Int) (k : Int)) ?_ ?_ k hk
 ·rw [Qva]
  simp only [QmH, QjU, Qar, Nat.lt_irrefl, decide_false, Qaf, Int.toNat_natCast, QBE, Bool.not_true]
 ·intro k hk ih
  rw [Qva]
  have hi : QaY (x0.take k) x0[k] = true := decide_eq_true (by rw [List.length_take]; omega)
  simp only [QmH, Qar, Qau, hk, decide_true, Qac, Int.toNat_natCast, add1 (show k < 4611686018427387904 by omega), Qay (y := tI) hk, ih, QMc, QN4 (show k ≤ x0.length by omega), hi, Qyf]
  simp only [QjU, Int.toNat_natCast, QwV hk]
  cases ieq (QaN x0[k]).2 0 <;> cases hasF (x0.take k) x0[k] <;> rfl
theorem QIy : ∀ S l p, QlD.L 0 (fgt QgZ S) = some (true, l) → pickA l = some p → loopF (Qak QlD QgZ QiL) S = some p :=
 QaD (s := QoB) ⟨by decide, by decide⟩ (by kernel_rfl) fun x y hok p hp => by
 simp only [Qap, Qam] at hp
 exact (QM1 x.1 x.2.1 x.2.2.1 x.2.2.2.1 (by simpa using hok)).trans hp
theorem QTs : QwQ.lok QlD := by
 repeat (first | exact trivial | exact QIy | refine ⟨?_, ?_⟩)
theorem s_f115 (l : List Int) (h : Qbm l = true) : QHi l = some (.t .bool (suitF l), []) := by
 simp only [Qbm, decide_eq_true_eq] at h
 simp only [QHi, rng_0 h, QoG, Bool.and_self, Qac, Int.toNat_zero]
 unfold suitF
 cases QfI l 0 <;> rfl
def QEK : Ent := spec (.pr (.sl tI) .nil) (fun x => (Qbm x.1)) (fun x => (.t .bool (suitF x.1)))
theorem QSb : Meets Tryz.prog 115 (strip QEK) := Qag (R := runF QlD QwQ QF8 false) (mG Tryz.func115 (by kernel_rfl) Tryz.ntmps115 (by kernel_rfl) QUZ QTs) fun x hok => (e_f115 x.1).trans (s_f115 x.1 hok)
def nKey (n : Int) : Bool := !keyI n
noncomputable def QhU : TC := (.sq (.reg (rT Tryz.f119 0)) (.sq (.reg (rT Tryz.f119 1)) .rt))
def QoN : List (RV × Option Ty) := [((.t 3), some .bool)]
def Qhw : G := ⟨TYs, [], 8, EL [(121, Qrw)], keeps, (fun _ _ => none), IL [], RL []⟩
def QkK (p0 : Int) : Option (V × List VO) := some (.t .bool (!(keyI p0)), [.box (.c (.func (.func 121) #[] #[]))])
theorem QCv (p0 : Int) : runF Qhw QhU QoN false [.t tI p0, .ptr 50000 0] [.box (.c (.func (.func 121) ⟨[]⟩ ⟨[]⟩))] = QkK p0 := by kernel_rfl
theorem QyG : Qah Tryz.prog 119 := .inr ⟨by decide, _, Tryz.func119, by kernel_rfl, by kernel_rfl⟩
theorem Qyo : GOk Tryz.prog Qhw := Qal _ (gA (gC QyE QxN gN))
theorem Qx7 : QhU.lok Qhw := by repeat (first | exact trivial | refine ⟨?_, ?_⟩)
theorem QBR (n : Int) : QkK n = some (.t .bool (nKey n), [.box (.c (.func (.func 121) #[] #[]))]) := by
 simp only [QkK]
 rfl
def QnU : Ent := specB [.ty tI, .ptr 50000 0] [.bc 121] (fun x y => true) (fun x y => (.t .bool (nKey x.1))) (fun x y => [.box (.c (.func (.func 121) #[] #[]))])
theorem QxP : Meets Tryz.prog 119 (strip QnU) := Qcw (QaR (R := runF Qhw QhU QoN false) (mG Tryz.func119 (by kernel_rfl) Tryz.ntmps119 (by kernel_rfl) Qyo Qx7) fun x y _ => (QCv x.1).trans (QBR x.1))
def ixKey (l : List Int) : Int := match fstG nKey l with | some k => (k : Int) | none => -1
def Qbi : Fg := ⟨[(0, some (.sl tI)), (1, none), (7, some tI), (8, some tI)], [(50000, none)]⟩
noncomputable def Qbz : TC := (.sq (.reg (rT Tryz.f128 2)) (.sq (.cd (.t 9) .sk (.fg ⟨[], [(50000, none)]⟩ (.ex 0))) (.sq (.bk 1 (.sq (.reg (rT Tryz.f128 3)) (.sq (.reg (rT Tryz.f128 4)) (.cd (.t 16) (.sq (.reg (rT Tryz.f128 5)) (.fg ⟨[(4, some tI)], [(50000, none)]⟩ .rt)) .sk)))) (.reg (rT Tryz.f128 6)))))
noncomputable def Qdk : TC := (.sq (.reg (rT Tryz.f128 0)) (.sq (.sq (.reg (rT Tryz.f128 1)) (.bk 0 (.lp 0 Qbi Qbz))) (.sq (.reg (rT Tryz.f128 7)) .rt)))
def Qgf : List (RV × Option Ty) := [((.t 4), some tI)]
abbrev Qcr : Sh := ⟨[(0, .ty (.sl tI)), (1, .fn 119 [(50000, 0)]), (7, .ty tI), (8, .ty tI)], [(50000, .bc 121)]⟩
def Qcp (x0 : List Int) (x7 x8 : Int) : VS := Qcr.st (x0, (), x7, x8, ()) ((), ())
abbrev Qga : Sh := ⟨[(4, .ty tI)], [(50000, .bc 121)]⟩
def Qa7 (x4 : Int) : VS := Qga.st (x4, ()) ((), ())
abbrev QhG : Sh := ⟨[], [(50000, .bc 121)]⟩
def Qbf  : VS := QhG.st () ((), ())
def QlT : VS → Option (Bool × List (Bool × Exit × VS)) := mkL Qcr (fun x y => (rngOk x.1 x.2.2.1 x.2.2.2.1)) (fun x y => [(((fstG nKey (x.1.drop x.2.2.2.1.toNat)).isSome), .ret, Qa7 (x.2.2.2.1 + ((fstG nKey (x.1.drop x.2.2.2.1.toNat)).getD 0 : Nat))), (true, .exit 0, Qbf)])
def Qa1 : G := ⟨TYs, [], 19, EL [(119, QnU)], keeps, (Ls [QlT]), IL [], RL []⟩
def QfR (x0 : List Int) (x7 x8 : Int) : Option (Exit × VS) := br (ilt x8 x7) (br (cIx x0 x8) (br (nKey (lgt tI x0 (Int.toNat x8))) (some (.ret, Qa7 x8)) (some (.normal, Qcp x0 x7 (iadd .i64 x8 1)))) none) (some (.exit 0, Qbf))
noncomputable def QbI (x0 : List Int) (x7 x8 : Int) : Option (Exit × VS) := loopF (Qak Qa1 Qbi Qbz) (Qcp x0 x7 x8)
noncomputable def QbW (x0 : List Int) (x7 x8 : Int) : Option (Exit × VS) := br (ilt x8 x7) (br (cIx x0 x8) (br (nKey (lgt tI x0 (Int.toNat x8))) (some (.ret, Qa7 x8)) (QbI x0 x7 (iadd .i64 x8 1))) none) (some (.exit 0, Qbf))
def QbK (x0 : List Int) (x7 x8 : Int) : Option (Exit × VS) :=
 let a1 := fstG nKey (x0.drop x8.toNat)
 br (a1.isSome) (some (.ret, Qa7 (x8 + (a1.getD 0 : Nat)))) <| some (.exit 0, Qbf)
theorem QkZ (x0 : List Int) (x7 x8 : Int) : Qak Qa1 Qbi Qbz (Qcp x0 x7 x8) = QfR x0 x7 x8 := by kernel_rfl
theorem QeP (x0 : List Int) (x7 x8 : Int) : QbI x0 x7 x8 = QbW x0 x7 x8 := (Qan _ _).trans (by
 rw [QkZ]
 simp only [QfR, QbW, Qax, nxt_n, nxt_r, nxt_e, nxt_0]
 rfl)
def Qez (p0 : List Int) : Option (V × List VO) :=
 let a1 := (fstG nKey (p0.drop (0 : Int).toNat))
 br (rngOk p0 (llen p0) (0 : Int)) (br (a1.isSome) (some (.t tI ((0 : Int) + (a1.getD 0 : Nat)), [.box (.c (.func (.func 121) #[] #[]))])) (some (.t tI (-1), [.box (.c (.func (.func 121) #[] #[]))]))) none
theorem Qqw (p0 : List Int) : runF Qa1 Qdk Qgf false [.t (.sl tI) p0, .fn 119 [(.ptr 50000 0)]] [.box (.c (.func (.func 121) ⟨[]⟩ ⟨[]⟩))] = Qez p0 := by kernel_rfl
theorem QpZ : Qah Tryz.prog 128 := .inr ⟨by decide, _, Tryz.func128, by kernel_rfl, by kernel_rfl⟩
theorem QpG : GOk Tryz.prog Qa1 := Qal _ (gA (gC QyG QxP gN))
theorem QlQ (x0 : List Int) (x7 x8 : Int) (h : (rngOk x0 x7 x8) = true) : QbI x0 x7 x8 = QbK x0 x7 x8 := by
 obtain ⟨rfl, h3, k, rfl, hk⟩ := rng_k h
 clear h
 refine Qat x0 (fun k => QbI x0 (x0.length : Int) (k : Int) = QbK x0 (x0.length : Int) (k : Int)) ?_ ?_ k hk
 ·rw [QeP]
  simp [QbW, QbK, Qar, Qaf, fstG]
 ·intro k hk ih
  rw [QeP]
  simp only [QbW, Qar, Qau, hk, decide_true, Qac, Int.toNat_natCast, add1 (show k < 4611686018427387904 by omega), ih, Qay (y := tI) hk]
  simp only [QbK, Int.toNat_natCast, List.drop_eq_getElem_cons hk, fstG]
  cases h : nKey x0[k] with
  | true => simp [Qac]
  | false =>
   simp only [Qaf, Bool.false_eq_true, if_false]
   cases hq : fstG nKey (x0.drop (k + 1)) with
   | none => rfl
   | some j =>
    simp only [Option.map_some, Option.isSome_some, Option.getD_some, Qac]
    congr 3
    omega
theorem QkQ : ∀ S l p, Qa1.L 0 (fgt Qbi S) = some (true, l) → pickA l = some p → loopF (Qak Qa1 Qbi Qbz) S = some p :=
 QaD (s := Qcr) ⟨by decide, by decide⟩ (by kernel_rfl) fun x y hok p hp => by
 simp only [Qap, Qam] at hp
 exact (QlQ x.1 x.2.2.1 x.2.2.2.1 (by simpa using hok)).trans hp
theorem Qpq : Qdk.lok Qa1 := by
 repeat (first | exact trivial | exact QkQ | refine ⟨?_, ?_⟩)
theorem Qqo (l : List Int) (h : Qbm l = true) : Qez l = some (.t tI (ixKey l), [.box (.c (.func (.func 121) #[] #[]))]) := by
 simp only [Qbm, decide_eq_true_eq] at h
 simp only [Qez, rng_0 h, Qac, Int.toNat_zero, List.drop_zero, ixKey]
 cases fstG nKey l <;> simp [Qac, Qaf]
def Qf3 : Ent := specB [.ty (.sl tI), .fn 119 [(50000, 0)]] [.bc 121] (fun x y => (Qbm x.1)) (fun x y => (.t tI (ixKey x.1))) (fun x y => [.box (.c (.func (.func 121) #[] #[]))])
theorem Qpa : Meets Tryz.prog 128 (strip Qf3) := Qcw (QaR (R := runF Qa1 Qdk Qgf false) (mG Tryz.func128 (by kernel_rfl) Tryz.ntmps128 (by kernel_rfl) QpG Qpq) fun x y hok => (Qqw x.1).trans (Qqo x.1 hok))
def Qqg (l : List Int) : Bool := !l.all keyI
noncomputable def Qdm : TC := (.sq (.reg (rT Tryz.f120 0)) (.sq (.reg (rT Tryz.f120 1)) .rt))
def Qgh : List (RV × Option Ty) := [((.t 4), some .bool)]
def QcE : G := ⟨TYs, [], 9, EL [(128, Qf3)], keeps, (fun _ _ => none), IL [], RL []⟩
def QeB (p0 : List Int) : Option (V × List VO) := br (Qbm p0) (some (.t .bool (ige (ixKey p0) 0), [.box (.c (.func (.func 121) #[] #[]))])) none
theorem Qqy (p0 : List Int) : runF QcE Qdm Qgh false [.t (.sl tI) p0, .fn 119 [(.ptr 50000 0)]] [.box (.c (.func (.func 121) ⟨[]⟩ ⟨[]⟩))] = QeB p0 := by kernel_rfl
theorem Qp1 : Qah Tryz.prog 120 := .inr ⟨by decide, _, Tryz.func120, by kernel_rfl, by kernel_rfl⟩
theorem QpI : GOk Tryz.prog QcE := Qal _ (gA (gC QpZ Qpa gN))
theorem Qps : Qdm.lok QcE := by repeat (first | exact trivial | refine ⟨?_, ?_⟩)
theorem Qqq (l : List Int) (h : Qbm l = true) : QeB l = some (.t .bool (Qqg l), [.box (.c (.func (.func 121) #[] #[]))]) := by
 simp only [QeB, h, Qac]
 have e : ige (ixKey l) 0 = Qqg l := by
  have e2 : Qqg l = l.any nKey := by
   unfold Qqg
   rw [List.not_all_eq_any_not]
   rfl
  rw [e2]
  unfold ixKey
  cases hq : fstG nKey l with
  | none => rw [QbP.1 hq]; rfl
  | some k =>
   rw [← Qbv, hq]
   simp only [ige, Option.isSome_some, decide_eq_true_eq]
   omega
 rw [e]
def Qf5 : Ent := specB [.ty (.sl tI), .fn 119 [(50000, 0)]] [.bc 121] (fun x y => (Qbm x.1)) (fun x y => (.t .bool (Qqg x.1))) (fun x y => [.box (.c (.func (.func 121) #[] #[]))])
theorem Qpc : Meets Tryz.prog 120 (strip Qf5) := Qcw (QaR (R := runF QcE Qdm Qgh false) (mG Tryz.func120 (by kernel_rfl) Tryz.ntmps120 (by kernel_rfl) QpI Qps) fun x y hok => (Qqy x.1).trans (Qqq x.1 hok))
noncomputable def QhW : TC := (.sq (.reg (rT Tryz.f118 0)) (.sq (.reg (rT Tryz.f118 1)) .rt))
def QoP : List (RV × Option Ty) := [((.t 2), none)]
def Qhy : G := ⟨TYs, [], 4, EL [], keeps, (fun _ _ => none), IL [], RL []⟩
def QqS  : Option (V × List VO) := some (.fn 119 [(.ptr 50000 0)], [.box (.c (.func (.func 121) #[] #[]))])
theorem QCx  : runF Qhy QhW QoP true [.c (.func (.func 121) ⟨[]⟩ ⟨[]⟩)] [] = QqS  := by kernel_rfl
theorem QyI : Qah Tryz.prog 118 := .inr ⟨by decide, _, Tryz.func118, by kernel_rfl, by kernel_rfl⟩
theorem Qyq : GOk Tryz.prog Qhy := Qal _ (fun p hp => by cases hp)
theorem Qx9 : QhW.lok Qhy := by repeat (first | exact trivial | refine ⟨?_, ?_⟩)
theorem QBT : QqS = some (.fn 119 [.ptr 50000 0], [.box (.c (.func (.func 121) #[] #[]))]) := rfl
def QnW : Ent := specB [.cf 121] [] (fun x y => true) (fun x y => (.fn 119 [(.ptr 50000 0)])) (fun x y => [.box (.c (.func (.func 121) #[] #[]))])
theorem QxR : Meets Tryz.prog 118 (strip QnW) := Qcw (QaR (R := runF Qhy QhW QoP true) (mG Tryz.func118 (by kernel_rfl) Tryz.ntmps118 (by kernel_rfl) Qyq Qx9) fun x y _ => (QCx ).trans (QBT ))
def nHash (n : Int) : Bool := !hashF n
noncomputable def QhT : TC := (.sq (.reg (rT Tryz.f119 0)) (.sq (.reg (rT Tryz.f119 1)) .rt))
def QoM : List (RV × Option Ty) := [((.t 3), some .bool)]
def Qhv : G := ⟨TYs, [], 8, EL [(122, QEH)], keeps, (fun _ _ => none), IL [], RL []⟩
def QkJ (p0 : Int) : Option (V × List VO) := some (.t .bool (!(hashF p0)), [.box (.c (.func (.func 122) #[] #[]))])
theorem QCu (p0 : Int) : runF Qhv QhT QoM false [.t tI p0, .ptr 50000 0] [.box (.c (.func (.func 122) ⟨[]⟩ ⟨[]⟩))] = QkJ p0 := by kernel_rfl
theorem QyF : Qah Tryz.prog 119 := .inr ⟨by decide, _, Tryz.func119, by kernel_rfl, by kernel_rfl⟩
theorem Qyn : GOk Tryz.prog Qhv := Qal _ (gA (gC QVP QR8 gN))
theorem Qx6 : QhT.lok Qhv := by repeat (first | exact trivial | refine ⟨?_, ?_⟩)
theorem QBQ (n : Int) : QkJ n = some (.t .bool (nHash n), [.box (.c (.func (.func 122) #[] #[]))]) := by
 simp only [QkJ]
 rfl
def QnT : Ent := specB [.ty tI, .ptr 50000 0] [.bc 122] (fun x y => true) (fun x y => (.t .bool (nHash x.1))) (fun x y => [.box (.c (.func (.func 122) #[] #[]))])
theorem QxO : Meets Tryz.prog 119 (strip QnT) := Qcw (QaR (R := runF Qhv QhT QoM false) (mG Tryz.func119 (by kernel_rfl) Tryz.ntmps119 (by kernel_rfl) Qyn Qx6) fun x y _ => (QCu x.1).trans (QBQ x.1))
def Qq0 (l : List Int) : Int := match fstG nHash l with | some k => (k : Int) | none => -1
def Qbh : Fg := ⟨[(0, some (.sl tI)), (1, none), (7, some tI), (8, some tI)], [(50000, none)]⟩
noncomputable def Qby : TC := (.sq (.reg (rT Tryz.f128 2)) (.sq (.cd (.t 9) .sk (.fg ⟨[], [(50000, none)]⟩ (.ex 0))) (.sq (.bk 1 (.sq (.reg (rT Tryz.f128 3)) (.sq (.reg (rT Tryz.f128 4)) (.cd (.t 16) (.sq (.reg (rT Tryz.f128 5)) (.fg ⟨[(4, some tI)], [(50000, none)]⟩ .rt)) .sk)))) (.reg (rT Tryz.f128 6)))))
noncomputable def Qdj : TC := (.sq (.reg (rT Tryz.f128 0)) (.sq (.sq (.reg (rT Tryz.f128 1)) (.bk 0 (.lp 0 Qbh Qby))) (.sq (.reg (rT Tryz.f128 7)) .rt)))
def Qge : List (RV × Option Ty) := [((.t 4), some tI)]
abbrev Qcq : Sh := ⟨[(0, .ty (.sl tI)), (1, .fn 119 [(50000, 0)]), (7, .ty tI), (8, .ty tI)], [(50000, .bc 122)]⟩
def Qco (x0 : List Int) (x7 x8 : Int) : VS := Qcq.st (x0, (), x7, x8, ()) ((), ())
abbrev Qf9 : Sh := ⟨[(4, .ty tI)], [(50000, .bc 122)]⟩
def Qa6 (x4 : Int) : VS := Qf9.st (x4, ()) ((), ())
abbrev QhF : Sh := ⟨[], [(50000, .bc 122)]⟩
def Qbe  : VS := QhF.st () ((), ())
def QlS : VS → Option (Bool × List (Bool × Exit × VS)) := mkL Qcq (fun x y => (rngOk x.1 x.2.2.1 x.2.2.2.1)) (fun x y => [(((fstG nHash (x.1.drop x.2.2.2.1.toNat)).isSome), .ret, Qa6 (x.2.2.2.1 + ((fstG nHash (x.1.drop x.2.2.2.1.toNat)).getD 0 : Nat))), (true, .exit 0, Qbe)])
def Qa0 : G := ⟨TYs, [], 19, EL [(119, QnT)], keeps, (Ls [QlS]), IL [], RL []⟩
def QfQ (x0 : List Int) (x7 x8 : Int) : Option (Exit × VS) := br (ilt x8 x7) (br (cIx x0 x8) (br (nHash (lgt tI x0 (Int.toNat x8))) (some (.ret, Qa6 x8)) (some (.normal, Qco x0 x7 (iadd .i64 x8 1)))) none) (some (.exit 0, Qbe))
noncomputable def QbH (x0 : List Int) (x7 x8 : Int) : Option (Exit × VS) := loopF (Qak Qa0 Qbh Qby) (Qco x0 x7 x8)
noncomputable def QbV (x0 : List Int) (x7 x8 : Int) : Option (Exit × VS) := br (ilt x8 x7) (br (cIx x0 x8) (br (nHash (lgt tI x0 (Int.toNat x8))) (some (.ret, Qa6 x8)) (QbH x0 x7 (iadd .i64 x8 1))) none) (some (.exit 0, Qbe))
def QbJ (x0 : List Int) (x7 x8 : Int) : Option (Exit × VS) :=
 let a1 := fstG nHash (x0.drop x8.toNat)
 br (a1.isSome) (some (.ret, Qa6 (x8 + (a1.getD 0 : Nat)))) <| some (.exit 0, Qbe)
theorem QkY (x0 : List Int) (x7 x8 : Int) : Qak Qa0 Qbh Qby (Qco x0 x7 x8) = QfQ x0 x7 x8 := by kernel_rfl
theorem QeO (x0 : List Int) (x7 x8 : Int) : QbH x0 x7 x8 = QbV x0 x7 x8 := (Qan _ _).trans (by
 rw [QkY]
 simp only [QfQ, QbV, Qax, nxt_n, nxt_r, nxt_e, nxt_0]
 rfl)
def Qey (p0 : List Int) : Option (V × List VO) :=
 let a1 := (fstG nHash (p0.drop (0 : Int).toNat))
 br (rngOk p0 (llen p0) (0 : Int)) (br (a1.isSome) (some (.t tI ((0 : Int) + (a1.getD 0 : Nat)), [.box (.c (.func (.func 122) #[] #[]))])) (some (.t tI (-1), [.box (.c (.func (.func 122) #[] #[]))]))) none
theorem Qqv (p0 : List Int) : runF Qa0 Qdj Qge false [.t (.sl tI) p0, .fn 119 [(.ptr 50000 0)]] [.box (.c (.func (.func 122) ⟨[]⟩ ⟨[]⟩))] = Qey p0 := by kernel_rfl
theorem QpY : Qah Tryz.prog 128 := .inr ⟨by decide, _, Tryz.func128, by kernel_rfl, by kernel_rfl⟩
theorem QpF : GOk Tryz.prog Qa0 := Qal _ (gA (gC QyF QxO gN))
theorem QlP (x0 : List Int) (x7 x8 : Int) (h : (rngOk x0 x7 x8) = true) : QbH x0 x7 x8 = QbJ x0 x7 x8 := by
 obtain ⟨rfl, h3, k, rfl, hk⟩ := rng_k h
 clear h
 refine Qat x0 (fun k => QbH x0 (x0.length : Int) (k : Int) = QbJ x0 (x0.length : Int) (k : Int)) ?_ ?_ k hk
 ·rw [QeO]
  simp [QbV, QbJ, Qar, Qaf, fstG]
 ·intro k hk ih
  rw [QeO]
  simp only [QbV, Qar, Qau, hk, decide_true, Qac, Int.toNat_natCast, add1 (show k < 4611686018427387904 by omega), ih, Qay (y := tI) hk]
  simp only [QbJ, Int.toNat_natCast, List.drop_eq_getElem_cons hk, fstG]
  cases h : nHash x0[k] with
  | true => simp [Qac]
  | false =>
   simp only [Qaf, Bool.false_eq_true, if_false]
   cases hq : fstG nHash (x0.drop (k + 1)) with
   | none => rfl
   | some j =>
    simp only [Option.map_some, Option.isSome_some, Option.getD_some, Qac]
    congr 3
    omega
theorem QkP : ∀ S l p, Qa0.L 0 (fgt Qbh S) = some (true, l) → pickA l = some p → loopF (Qak Qa0 Qbh Qby) S = some p :=
 QaD (s := Qcq) ⟨by decide, by decide⟩ (by kernel_rfl) fun x y hok p hp => by
 simp only [Qap, Qam] at hp
 exact (QlP x.1 x.2.2.1 x.2.2.2.1 (by simpa using hok)).trans hp
theorem Qpp : Qdj.lok Qa0 := by
 repeat (first | exact trivial | exact QkP | refine ⟨?_, ?_⟩)
theorem Qqn (l : List Int) (h : Qbm l = true) : Qey l = some (.t tI (Qq0 l), [.box (.c (.func (.func 122) #[] #[]))]) := by
 simp only [Qbm, decide_eq_true_eq] at h
 simp only [Qey, rng_0 h, Qac, Int.toNat_zero, List.drop_zero, Qq0]
 cases fstG nHash l <;> simp [Qac, Qaf]
def Qf2 : Ent := specB [.ty (.sl tI), .fn 119 [(50000, 0)]] [.bc 122] (fun x y => (Qbm x.1)) (fun x y => (.t tI (Qq0 x.1))) (fun x y => [.box (.c (.func (.func 122) #[] #[]))])
theorem Qo9 : Meets Tryz.prog 128 (strip Qf2) := Qcw (QaR (R := runF Qa0 Qdj Qge false) (mG Tryz.func128 (by kernel_rfl) Tryz.ntmps128 (by kernel_rfl) QpF Qpp) fun x y hok => (Qqv x.1).trans (Qqn x.1 hok))
def Qif (l : List Int) : Bool := !l.all hashF
noncomputable def Qdl : TC := (.sq (.reg (rT Tryz.f120 0)) (.sq (.reg (rT Tryz.f120 1)) .rt))
def Qgg : List (RV × Option Ty) := [((.t 4), some .bool)]
def QcD : G := ⟨TYs, [], 9, EL [(128, Qf2)], keeps, (fun _ _ => none), IL [], RL []⟩
def QeA (p0 : List Int) : Option (V × List VO) := br (Qbm p0) (some (.t .bool (ige (Qq0 p0) 0), [.box (.c (.func (.func 122) #[] #[]))])) none
theorem Qqx (p0 : List Int) : runF QcD Qdl Qgg false [.t (.sl tI) p0, .fn 119 [(.ptr 50000 0)]] [.box (.c (.func (.func 122) ⟨[]⟩ ⟨[]⟩))] = QeA p0 := by kernel_rfl
theorem Qp0 : Qah Tryz.prog 120 := .inr ⟨by decide, _, Tryz.func120, by kernel_rfl, by kernel_rfl⟩
theorem QpH : GOk Tryz.prog QcD := Qal _ (gA (gC QpY Qo9 gN))
theorem Qpr : Qdl.lok QcD := by repeat (first | exact trivial | refine ⟨?_, ?_⟩)
theorem Qqp (l : List Int) (h : Qbm l = true) : QeA l = some (.t .bool (Qif l), [.box (.c (.func (.func 122) #[] #[]))]) := by
 simp only [QeA, h, Qac]
 have e : ige (Qq0 l) 0 = Qif l := by
  have e2 : Qif l = l.any nHash := by
   unfold Qif
   rw [List.not_all_eq_any_not]
   rfl
  rw [e2]
  unfold Qq0
  cases hq : fstG nHash l with
  | none => rw [QbP.1 hq]; rfl
  | some k =>
   rw [← Qbv, hq]
   simp only [ige, Option.isSome_some, decide_eq_true_eq]
   omega
 rw [e]
def Qf4 : Ent := specB [.ty (.sl tI), .fn 119 [(50000, 0)]] [.bc 122] (fun x y => (Qbm x.1)) (fun x y => (.t .bool (Qif x.1))) (fun x y => [.box (.c (.func (.func 122) #[] #[]))])
theorem Qpb : Meets Tryz.prog 120 (strip Qf4) := Qcw (QaR (R := runF QcD Qdl Qgg false) (mG Tryz.func120 (by kernel_rfl) Tryz.ntmps120 (by kernel_rfl) QpH Qpr) fun x y hok => (Qqx x.1).trans (Qqp x.1 hok))
noncomputable def QhV : TC := (.sq (.reg (rT Tryz.f118 0)) (.sq (.reg (rT Tryz.f118 1)) .rt))
def QoO : List (RV × Option Ty) := [((.t 2), none)]
def Qhx : G := ⟨TYs, [], 4, EL [], keeps, (fun _ _ => none), IL [], RL []⟩
def QqR  : Option (V × List VO) := some (.fn 119 [(.ptr 50000 0)], [.box (.c (.func (.func 122) #[] #[]))])
theorem QCw  : runF Qhx QhV QoO true [.c (.func (.func 122) ⟨[]⟩ ⟨[]⟩)] [] = QqR  := by kernel_rfl
theorem QyH : Qah Tryz.prog 118 := .inr ⟨by decide, _, Tryz.func118, by kernel_rfl, by kernel_rfl⟩
theorem Qyp : GOk Tryz.prog Qhx := Qal _ (fun p hp => by cases hp)
theorem Qx8 : QhV.lok Qhx := by repeat (first | exact trivial | refine ⟨?_, ?_⟩)
theorem QBS : QqR = some (.fn 119 [.ptr 50000 0], [.box (.c (.func (.func 122) #[] #[]))]) := rfl
def QnV : Ent := specB [.cf 122] [] (fun x y => true) (fun x y => (.fn 119 [(.ptr 50000 0)])) (fun x y => [.box (.c (.func (.func 122) #[] #[]))])
theorem QxQ : Meets Tryz.prog 118 (strip QnV) := Qcw (QaR (R := runF Qhx QhV QoO true) (mG Tryz.func118 (by kernel_rfl) Tryz.ntmps118 (by kernel_rfl) Qyp Qx8) fun x y _ => (QCw ).trans (QBS ))
end
end Go.Proofs.YtckcgijklnloiaaGreat.K
namespace Go.Proofs.YtckcgijklnloiaaGreat.K
open Go.RowKit
noncomputable section
theorem Qnn {c : Int} (h : ieq (QaN c).2 0 = true) : 1 ≤ c ∧ c ≤ 16 := by
 unfold QaN at h
 split at h
 ·simp [ieq] at h
 ·omega
theorem Qkx {l : List Int} (h : suitF l = true) : ∀ (k : Nat) (hk : k < l.length), (1 ≤ l[k] ∧ l[k] ≤ 16) ∧ ¬ l[k] ∈ l.take k := by
 intro k hk
 simp only [suitF, QfI, List.all_eq_true, List.mem_range'_1, Bool.and_eq_true, Bool.not_eq_true'] at h
 obtain ⟨h1, h2⟩ := h k ⟨by omega, by omega⟩
 simp only [List.getD_eq_getElem?_getD, List.getElem?_eq_getElem hk, Option.getD_some] at h1 h2
 refine ⟨Qnn h1, fun hm => ?_⟩
 simp only [hasF] at h2
 rw [List.contains_iff_mem.2 hm] at h2
 cases h2
theorem QqC {l : List Int} (h : suitF l = true) : l.Nodup := by
 have h2 := Qkx h
 rw [List.nodup_iff_pairwise_ne, List.pairwise_iff_getElem]
 intro i j hi hj hij he
 refine (h2 j hj).2 ?_
 rw [← he]
 exact List.mem_iff_getElem.2 ⟨i, by rw [List.length_take]; omega, by rw [List.getElem_take]⟩
theorem QLu {l : List Int} (h : suitF l = true) : l.length ≤ 16 := by
 have h1 := QqC h
 have h2 := Qkx h
 have h3 : l ⊆ [1, 2, 3, 4, 5, 6, 7, 8, 9, 10, 11, 12, 13, 14, 15, 16] := by
  intro x hx
  obtain ⟨k, hk, rfl⟩ := List.mem_iff_getElem.1 hx
  have := (h2 k hk).1
  simp only [List.mem_cons, List.not_mem_nil, or_false]
  omega
 exact h1.length_le_of_subset h3
abbrev QaE (e : Qab) : List Int := e.2.2.2.1
abbrev eIds (e : Qab) : List QaA := e.2.2.2.2.2.1
abbrev eAnch (e : Qab) : List Int := e.2.2.2.2.2.2.1
abbrev eHash (e : Qab) : List Int := e.2.2.2.2.2.2.2.1
def idOk (x : QaA) : Bool := QiU x.1 x.2.1 x.2.2.1
def idLen (x : QaA) : Bool := QaZ x.2.2.1
def Qba (e : Qab) : Bool := nameG e.1 && decide ((QaE e).length ≤ 100000 ∧ (eIds e).length ≤ 100000 ∧ (eAnch e).length ≤ 100000 ∧ (eHash e).length ≤ 100000) && (eIds e).all idLen
def QaS (e : Qab) : Bool :=
 wordF e.1 && (!ilt e.2.1 1 && (!igt e.2.1 e.2.2.1 && (!igt e.2.2.1 4 && (suitF (QaE e) && (!igt (llen (eIds e)) 4 && (!igt (llen (eAnch e)) 16 && (ascF (eAnch e) && (ascF (eHash e) && ((eIds e).all idOk && ((eAnch e).all keyI && (eHash e).all hashF))))))))))
def Qeu (e : Qab) : Int := bif QaS e then 0 else 19
theorem QKe (e : Qab) : ieq (Qeu e) 0 = QaS e := by
 unfold Qeu
 cases QaS e <;> rfl
theorem Qvy (e : Qab) : ine (Qeu e) 0 = !QaS e := by
 unfold Qeu
 cases QaS e <;> rfl
noncomputable def QNP : List DO := dT Tryz.f76 12
def Qj6 : Fg := ⟨[(1, none), (56, some (.sl Qav)), (57, some tI), (58, some tI)], [(1, some Qae)]⟩
noncomputable def QlW : TC := (.sq (.reg (rT Tryz.f76 6)) (.sq (.cd (.t 59) .sk (.fg ⟨[(1, none)], [(1, some Qae)]⟩ (.ex 0))) (.sq (.bk 1 (.sq (.reg (rT Tryz.f76 7)) (.sq (.reg (rT Tryz.f76 8)) (.cd (.t 69) (.sq (.reg (rT Tryz.f76 9)) (.fg ⟨[(2, some tI)], []⟩ .rt)) .sk)))) (.reg (rT Tryz.f76 10)))))
noncomputable def QDc : TC := (.sq (.reg (rT Tryz.f76 0)) (.sq (.sq (.reg (rT Tryz.f76 1)) (.cd (.t 32) (.sq (.reg (rT Tryz.f76 2)) .rt) .sk)) (.sq (.sq (.reg (rT Tryz.f76 3)) (.cd (.t 54) (.sq (.reg (rT Tryz.f76 4)) .rt) .sk)) (.sq (.sq (.reg (rT Tryz.f76 5)) (.bk 0 (.lp 0 Qj6 QlW))) (.sq (.reg (rT Tryz.f76 11)) (.sq (.sq (.dr QNP [(0, [1]), (1, [1]), (2, []), (3, [74, 5074, 10074, 15074]), (4, [74, 75, 5074, 5075, 10074, 10075, 15074, 15075]), (5, []), (6, [1]), (7, [1]), (8, []), (9, [80, 5080, 10080, 15080]), (10, [80, 81, 5080, 5081, 10080, 10081, 15080, 15081]), (11, [])] (.of [0, 1, 2, 3, 4, 5, 6, 7, 8, 9, 10, 11])) (.cd (.t 82) (.sq (.reg (rT Tryz.f76 13)) .rt) .sk)) (.sq (.reg (rT Tryz.f76 14)) .rt)))))))
def QPI : List (RV × Option Ty) := [((.t 2), some tI)]
abbrev QrC : Sh := ⟨[(1, .ptr 1 0), (56, .ty (.sl Qav)), (57, .ty tI), (58, .ty tI)], [(1, .box Qae)]⟩
def Qrj (x56 : List QaA) (x57 x58 : Int) (y1 : Qab) : VS := QrC.st ((), x56, x57, x58, ()) (y1, ())
abbrev QtH : Sh := ⟨[(2, .ty tI)], []⟩
def QdD (x2 : Int) : VS := QtH.st (x2, ()) ()
abbrev Qxb : Sh := ⟨[(1, .ptr 1 0)], [(1, .box Qae)]⟩
def QeY (y1 : Qab) : VS := Qxb.st ((), ()) (y1, ())
def QWd : VS → Option (Bool × List (Bool × Exit × VS)) := mkL QrC (fun x y => (rngOk x.2.1 x.2.2.1 x.2.2.2.1 && x.2.1.all idLen)) (fun x y => [((!(x.2.1.drop x.2.2.2.1.toNat).all idOk), .ret, QdD (19)), (true, .exit 0, QeY (y.1))])
def g_f76 : G := ⟨TYs, [], 83, EL [(114, QEL), (115, QEK), (116, QEJ), (117, QEI), (118, QnW), (118, QnV), (120, Qf5), (120, Qf4)], keeps, (Ls [QWd]), IL [], RL []⟩
def QKX (x56 : List QaA) (x57 x58 : Int) (y1 : Qab) : Option (Exit × VS) :=
 let a1 := lgt Qav x56 (Int.toNat x58)
 br (ilt x58 x57) (br (cIx x56 x58) (br (QnZ (a1.1) ((a1.2).1) (((a1.2).2).1)) (br (!(QiU (a1.1) ((a1.2).1) (((a1.2).2).1))) (some (.ret, QdD 19)) (some (.normal, Qrj x56 x57 (iadd .i64 x58 1) y1))) none) none) (some (.exit 0, QeY y1))
noncomputable def QmK (x56 : List QaA) (x57 x58 : Int) (y1 : Qab) : Option (Exit × VS) := loopF (Qak g_f76 Qj6 QlW) (Qrj x56 x57 x58 y1)
noncomputable def Qsw (x56 : List QaA) (x57 x58 : Int) (y1 : Qab) : Option (Exit × VS) :=
 let a1 := lgt Qav x56 (Int.toNat x58)
 br (ilt x58 x57) (br (cIx x56 x58) (br (QnZ (a1.1) ((a1.2).1) (((a1.2).2).1)) (br (!(QiU (a1.1) ((a1.2).1) (((a1.2).2).1))) (some (.ret, QdD 19)) (QmK x56 x57 (iadd .i64 x58 1) y1)) none) none) (some (.exit 0, QeY y1))
def QmS (x56 : List QaA) (x57 x58 : Int) (y1 : Qab) : Option (Exit × VS) := br (!(x56.drop x58.toNat).all idOk) (some (.ret, QdD (19))) <| some (.exit 0, QeY (y1))
theorem QN9 (x56 : List QaA) (x57 x58 : Int) (y1 : Qab) : Qak g_f76 Qj6 QlW (Qrj x56 x57 x58 y1) = QKX x56 x57 x58 y1 := by kernel_rfl
theorem QzA (x56 : List QaA) (x57 x58 : Int) (y1 : Qab) : QmK x56 x57 x58 y1 = Qsw x56 x57 x58 y1 := (Qan _ _).trans (by
 rw [QN9]
 simp only [QKX, Qsw, Qax, nxt_n, nxt_r, nxt_e, nxt_0]
 rfl)
def r_f76 (p0 : Qab) : Option (V × List VO) :=
 let a1 := (((((((p0).2).2).2).2).2).2)
 br (nameG p0.1) (br (!(wordF p0.1)) (some (.t tI 19, [])) (br (ilt p0.2.1 1) (some (.t tI 19, [])) (br (igt p0.2.1 p0.2.2.1) (some (.t tI 19, [])) (br (igt p0.2.2.1 4) (some (.t tI 19, [])) (br (Qbm p0.2.2.2.1) (br (!(suitF p0.2.2.2.1)) (some (.t tI 19, [])) (br (igt (llen p0.2.2.2.2.2.1) 4) (some (.t tI 19, [])) (br (igt (llen p0.2.2.2.2.2.2.1) 16) (some (.t tI 19, [])) (br (Qbm p0.2.2.2.2.2.2.1) (br (!(ascF p0.2.2.2.2.2.2.1)) (some (.t tI 19, [])) (br (Qbm p0.2.2.2.2.2.2.2.1) (br (!(ascF p0.2.2.2.2.2.2.2.1)) (some (.t tI 19, [])) (br (rngOk p0.2.2.2.2.2.1 (llen p0.2.2.2.2.2.1) (0 : Int) && p0.2.2.2.2.2.1.all idLen) (br (!(p0.2.2.2.2.2.1.drop (0 : Int).toNat).all idOk) (some (.t tI (19), [])) (br (Qbm (a1.1)) (br (Qqg (a1.1)) (some (.t tI 19, [])) (br (Qbm ((a1.2).1)) (br (Qif ((a1.2).1)) (some (.t tI 19, [])) (some (.t tI 0, []))) none)) none)) none)) none)) none)))) none))))) none
theorem e_f76 (p0 : Qab) : runF g_f76 QDc QPI false [.t Qae p0] [] = r_f76 p0 := by kernel_rfl
theorem QJr : Qah Tryz.prog 76 := .inr ⟨by decide, _, Tryz.func76, by kernel_rfl, by kernel_rfl⟩
theorem gk_f76 : GOk Tryz.prog g_f76 := Qal _ (gA (gC QVT QSc (gC QVS QSb (gC QVR QSa (gC QVQ QR9 (gC QyI QxR (gC QyH QxQ (gC Qp1 Qpc (gC Qp0 Qpb gN)))))))))
theorem QTC (x56 : List QaA) (x57 x58 : Int) (y1 : Qab) (h : (rngOk x56 x57 x58 && x56.all idLen) = true) : QmK x56 x57 x58 y1 = QmS x56 x57 x58 y1 := by
 simp only [Bool.and_eq_true, List.all_eq_true] at h
 obtain ⟨h0, hc⟩ := h
 obtain ⟨rfl, h3, k, rfl, hk⟩ := rng_k h0
 clear h0
 refine Qat x56 (fun k => QmK x56 (x56.length : Int) (k : Int) y1 = QmS x56 (x56.length : Int) (k : Int) y1) ?_ ?_ k hk
 ·rw [QzA]
  simp only [Qsw, QmS, Qar, Nat.lt_irrefl, decide_false, Qaf, Int.toNat_natCast, List.drop_length, List.all_nil, Bool.not_true]
 ·intro k hk ih
  rw [QzA]
  have hx : QnZ x56[k].1 x56[k].2.1 x56[k].2.2.1 = true := hc x56[k] (List.getElem_mem hk)
  simp only [Qsw, Qar, Qau, hk, decide_true, Qac, Int.toNat_natCast, add1 (show k < 4611686018427387904 by omega), Qay (y := Qav) hk, hx, ih]
  simp only [QmS, Int.toNat_natCast, List.drop_eq_getElem_cons hk, List.all_cons, idOk]
  cases QiU x56[k].1 x56[k].2.1 x56[k].2.2.1 <;> rfl
theorem QMg : ∀ S l p, g_f76.L 0 (fgt Qj6 S) = some (true, l) → pickA l = some p → loopF (Qak g_f76 Qj6 QlW) S = some p :=
 QaD (s := QrC) ⟨by decide, by decide⟩ (by kernel_rfl) fun x y hok p hp => by
 simp only [Qap, Qam] at hp
 exact (QTC x.2.1 x.2.2.1 x.2.2.2.1 y.1 (by simpa using hok)).trans hp
theorem lk_f76 : QDc.lok g_f76 := by
 repeat (first | exact trivial | exact QMg | refine ⟨?_, ?_⟩)
theorem s_f76 (e : Qab) (h : Qba e = true) : r_f76 e = some (.t tI (Qeu e), []) := by
 simp only [Qba, Bool.and_eq_true, decide_eq_true_eq] at h
 obtain ⟨⟨h1, h2, h3, h4, h5⟩, h6⟩ := h
 have q2 : Qbm (QaE e) = true := decide_eq_true h2
 have q4 : Qbm (eAnch e) = true := decide_eq_true h4
 have q5 : Qbm (eHash e) = true := decide_eq_true h5
 unfold Qeu
 simp only [r_f76, h1, q2, q4, q5, rng_0 h3, h6, Bool.and_self, Qac, Int.toNat_zero, List.drop_zero, Qqg, Qif]
 refine br9 (fun g => by simp only [Bool.not_eq_true'] at g; simp [QaS, g]) fun g1 => br9 (fun g => by simp [QaS, g]) fun g2 => br9 (fun g => by simp [QaS, g]) fun g3 => br9 (fun g => by simp [QaS, g]) fun g4 => br9 (fun g => by simp only [Bool.not_eq_true'] at g; simp [QaS, g]) fun g5 => br9 (fun g => by simp [QaS, g]) fun g6 => br9 (fun g => by simp [QaS, g]) fun g7 => br9 (fun g => by simp only [Bool.not_eq_true'] at g; simp [QaS, g]) fun g8 => br9 (fun g => by simp only [Bool.not_eq_true'] at g; simp [QaS, g]) fun g9 => br9 (fun g => by simp only [Bool.not_eq_true'] at g; simp [QaS, g]) fun g10 => br9 (fun g => by simp only [Bool.not_eq_true'] at g; simp [QaS, g]) fun g11 => br9 (fun g => by simp only [Bool.not_eq_true'] at g; simp [QaS, g]) fun g12 => ?_
 simp only [Bool.not_eq_false'] at g1 g5 g8 g9 g10 g11 g12
 have : QaS e = true := by
  simp only [QaS, g1, g2, g3, g4, g5, g6, g7, g8, g9, g10, g11, g12, Bool.not_false, Bool.and_self]
 rw [this]
 rfl
def Qy5 : Ent := spec (.pr Qae .nil) (fun x => (Qba x.1)) (fun x => (.t tI (Qeu x.1)))
theorem QHL : Meets Tryz.prog 76 (strip Qy5) := Qag (R := runF g_f76 QDc QPI false) (mG Tryz.func76 (by kernel_rfl) Tryz.ntmps76 (by kernel_rfl) gk_f76 lk_f76) fun x hok => (e_f76 x.1).trans (s_f76 x.1 hok)
end
end Go.Proofs.YtckcgijklnloiaaGreat.K
namespace Go.Proofs.YtckcgijklnloiaaGreat.K
open Go.RowKit
def coeO (b : Ty) : VO → VO
 | .box (.ag [.t b' x]) => if b' = b ∧ b'.row = false then .box (.t b' x) else .box (.ag [.t b' x])
 | o => o
def coeOs : List Ty → List VO → List VO
 | b :: bs, o :: os => coeO b o :: coeOs bs os
 | _, os => os
def QfJ (l : List SV) (bs : List Ty) (ok : SVt l → boxT bs → Bool) (F : SVt l → boxT bs → V) : Ent := fun args objs => specH l bs ok F args (coeOs bs objs)
section
variable {P : Program} {X : Nat → Nat → Prop} {w : World} {σ : Pl}
theorem QVZ {b : Ty} {o : VO} {k : Nat} (h : OAt X w σ k o) : OAt X w σ k (coeO b o) := by
 unfold coeO
 split
 ·rename_i b' x
  split
  ·rename_i hq
   obtain ⟨g, ty, vs, h1, h2, h3, h4⟩ := h
   refine ⟨g, ty, vs, h1, h2, ?_, h4⟩
   have e1 : (V.ag [.t b' x]).d.cells = [b'.d x] := rfl
   have e2 : (V.t b' x).d.cells = [b'.d x] := by
    show (b'.d x).cells = _
    rw [Ty.d_cells, Ty.d_one b' x hq.2]
   rw [e2, ← e1]
   exact h3
  ·exact h
 ·exact h
theorem QVY {b : Ty} {o : VO} (h : o ≠ .no) : coeO b o ≠ .no := by
 unfold coeO
 split
 ·split <;> simp
 ·exact h
theorem Qki : ∀ (bs : List Ty) (os : List VO), (coeOs bs os).length = os.length
 | [], os => rfl
 | b :: bs, [] => rfl
 | b :: bs, o :: os => by rw [coeOs, List.length_cons, List.length_cons, Qki bs os]
theorem QAW : ∀ (bs : List Ty) (os : List VO) (j : Nat) (o : VO), (coeOs bs os)[j]? = some o → ∃ o', os[j]? = some o' ∧ (o = o' ∨ ∃ b, o = coeO b o')
 | [], os, j, o, h => ⟨o, h, .inl rfl⟩
 | b :: bs, [], j, o, h => ⟨o, h, .inl rfl⟩
 | b :: bs, o1 :: os, 0, o, h => by
  simp only [coeOs, List.getElem?_cons_zero, Option.some.injEq] at h
  exact ⟨o1, rfl, .inr ⟨b, h.symm⟩⟩
 | b :: bs, o1 :: os, j + 1, o, h => by
  simp only [coeOs, List.getElem?_cons_succ] at h
  obtain ⟨o', h1, h2⟩ := QAW bs os j o h
  exact ⟨o', by rw [List.getElem?_cons_succ]; exact h1, h2⟩
theorem Qcg {f : FuncId} {l : List SV} {bs : List Ty} {ok : SVt l → boxT bs → Bool} {F : SVt l → boxT bs → V} (hM : Meets P f (strip (specH l bs ok F))) : Meets P f (strip (QfJ l bs ok F)) := by
 intro args objs r os hF X w σ vs hfin hl hc
 have := hM args (coeOs bs objs) r os hF X w σ vs hfin ⟨fun j o hj => by
  obtain ⟨o', h1, h2⟩ := QAW bs objs j o hj
  obtain ⟨g1, g2⟩ := hl.at_ j o' h1
  rcases h2 with rfl | ⟨b, rfl⟩
  ·exact ⟨g1, g2⟩
  ·exact ⟨QVZ g1, QVY g2⟩, fun i j b hij hi hj => hl.apart i j b hij (by rwa [Qki] at hi) (by rwa [Qki] at hj)⟩ hc
 rw [Qki] at this
 exact this
end
end Go.Proofs.YtckcgijklnloiaaGreat.K
namespace Go.Proofs.YtckcgijklnloiaaGreat.K
open Go.RowKit
noncomputable section
theorem Qp8 {l : List Qaa} (h : QaZ l = true) {k : Nat} (hk : k < l.length) : QaG l[k] = true := by
 simp only [QaZ, Bool.and_eq_true, List.all_eq_true] at h
 exact h.2 _ (List.getElem_mem hk)
theorem Qp7 {l : List Qaa} (h : QaZ l = true) : l.length ≤ 100000 := by
 simp only [QaZ, Bool.and_eq_true, decide_eq_true_eq] at h
 exact h.1
abbrev cAt (l : List Qaa) (k : Nat) : Qaa := l.getD k zCert
theorem QV0 {l : List Qaa} {k : Nat} (hk : k < l.length) : cAt l k = l[k] := by
 simp only [cAt, List.getD_eq_getElem?_getD, List.getElem?_eq_getElem hk, Option.getD_some]
theorem QKj {l : List Qaa} (h : QaZ l = true) {k : Nat} (hk : k < l.length) : QaG (cAt l k) = true := by
 rw [QV0 hk]
 exact Qp8 h hk
def pathF (l : List Qaa) (i : Int) : Bool := !ilt i 0 && (!ige i (llen l) && (ieq i 0 || ((cAt l i.toNat).2.2.2.2.2.2.2.2.1 && ige (cAt l i.toNat).2.2.2.2.2.2.2.2.2.1 (i - 1))))
def QoZ (l : List Qaa) (_i : Int) : Bool := decide (l.length ≤ 100000)
theorem QHr (l : List Qaa) (i : Int) (h : QoZ l i = true) : br (ilt i 0) (some (V.t .bool false, ([] : List VO))) (br (ige i (llen l)) (some (V.t .bool false, [])) (br (ieq i 0) (some (V.t .bool true, [])) (br (cIx l i) (br (lgt Qad l (Int.toNat i)).2.2.2.2.2.2.2.2.1 (br (cIx l i) (some (V.t .bool (ige (lgt Qad l (Int.toNat i)).2.2.2.2.2.2.2.2.2.1 (isub .i64 i 1)), [])) none) (some (V.t .bool false, []))) none))) = some (V.t .bool (pathF l i), []) := by
 simp only [QoZ, decide_eq_true_eq] at h
 unfold pathF
 cases hi : ilt i 0 with
 | true => rfl
 | false =>
  have hn := of_decide_eq_false hi
  rw [Qaf, Bool.not_false, Bool.true_and]
  cases h1 : ige i (llen l) with
  | true => rfl
  | false =>
   have h2 := of_decide_eq_false h1
   rw [Qaf, Bool.not_false, Bool.true_and]
   cases h0 : ieq i 0 with
   | true => rfl
   | false =>
    have hl : llen l ≤ 100000 := by simp only [llen]; omega
    have hc : cIx l i = true := decide_eq_true ⟨by omega, by simp only [llen] at h2; omega⟩
    rw [Qaf, Bool.false_or, hc, Qac, Qch (by omega)]
    exact brA rfl
noncomputable def QwA : TC := (.sq (.reg (rT Tryz.f140 0)) (.sq (.sq (.reg (rT Tryz.f140 1)) (.cd (.t 12) (.sq (.reg (rT Tryz.f140 2)) .rt) .sk)) (.sq (.reg (rT Tryz.f140 3)) .rt)))
def QFS : List (RV × Option Ty) := [((.t 4), some .bool)]
def QAo : G := ⟨TYs, [], 32, EL [], keeps, (fun _ _ => none), IL [], RL []⟩
def QG8 (p0 : List Qaa) (p1 : Int) : Option (V × List VO) :=
 let a1 := (((((((((lgt Qad p0 (Int.toNat p1)).2).2).2).2).2).2).2).2)
 br (ilt p1 0) (some (.t .bool false, [])) (br (ige p1 (llen p0)) (some (.t .bool false, [])) (br (ieq p1 0) (some (.t .bool true, [])) (br (cIx p0 p1) (br (a1.1) (br (cIx p0 p1) (some (.t .bool (ige ((a1.2).1) (isub .i64 p1 1)), [])) none) (some (.t .bool false, []))) none)))
theorem e_f140 (p0 : List Qaa) (p1 : Int) : runF QAo QwA QFS false [.t (.sl Qad) p0, .t tI p1] [] = QG8 p0 p1 := by kernel_rfl
theorem QVG : Qah Tryz.prog 140 := .inr ⟨by decide, _, Tryz.func140, by kernel_rfl, by kernel_rfl⟩
theorem QUJ : GOk Tryz.prog QAo := Qal _ (fun p hp => by cases hp)
theorem QTc : QwA.lok QAo := by repeat (first | exact trivial | refine ⟨?_, ?_⟩)
theorem s_f140 (l : List Qaa) (i : Int) (h : QoZ l i = true) : QG8 l i = some (.t .bool (pathF l i), []) := by
 simp only [QG8]
 exact QHr l i h
def QEy : Ent := spec (.pr (.sl Qad) (.pr tI .nil)) (fun x => (QoZ x.1 x.2.1)) (fun x => (.t .bool (pathF x.1 x.2.1)))
theorem QRZ : Meets Tryz.prog 140 (strip QEy) := Qag (R := runF QAo QwA QFS false) (mG Tryz.func140 (by kernel_rfl) Tryz.ntmps140 (by kernel_rfl) QUJ QTc) fun x hok => (e_f140 x.1 x.2.1).trans (s_f140 x.1 x.2.1 hok)
def Qr4 (l : List Qaa) (k : Nat) : Int := if k + 1 < l.length then (cAt l (k + 1)).2.2.2.2.1 else (cSeal (cAt l k)).1
def Qgd (l : List Qaa) (i : Int) : Int := Qr4 l i.toNat
def Qhf (l : List Qaa) (i : Int) : Bool := decide (0 ≤ i ∧ i < l.length ∧ l.length ≤ 100000)
theorem add1N {k : Nat} (h : k < 4611686018427387904) : Int.toNat (iadd .i64 (k : Int) 1) = k + 1 := by rw [add1 h]; rfl
noncomputable def Qwy : TC := (.sq (.reg (rT Tryz.f142 0)) (.sq (.sq (.reg (rT Tryz.f142 1)) (.cd (.t 9) (.sq (.reg (rT Tryz.f142 2)) .rt) .sk)) (.sq (.reg (rT Tryz.f142 3)) .rt)))
def QFQ : List (RV × Option Ty) := [((.t 4), some tI)]
def QAm : G := ⟨TYs, [], 22, EL [], keeps, (fun _ _ => none), IL [], RL []⟩
def QG6 (p0 : List Qaa) (p1 : Int) : Option (V × List VO) :=
 let a1 := iadd .i64 p1 1
 br (ilt a1 (llen p0)) (br (cIx p0 a1) (some (.t tI ((((((lgt Qad p0 (Int.toNat a1)).2).2).2).2).1), [])) none) (br (cIx p0 p1) (some (.t tI ((((((((((((((lgt Qad p0 (Int.toNat p1)).2).2).2).2).2).2).2).2).2).2).2).1).1), [])) none)
theorem e_f142 (p0 : List Qaa) (p1 : Int) : runF QAm Qwy QFQ false [.t (.sl Qad) p0, .t tI p1] [] = QG6 p0 p1 := by kernel_rfl
theorem QVE : Qah Tryz.prog 142 := .inr ⟨by decide, _, Tryz.func142, by kernel_rfl, by kernel_rfl⟩
theorem QUH : GOk Tryz.prog QAm := Qal _ (fun p hp => by cases hp)
theorem QTa : Qwy.lok QAm := by repeat (first | exact trivial | refine ⟨?_, ?_⟩)
theorem s_f142 (l : List Qaa) (i : Int) (h : Qhf l i = true) : QG6 l i = some (.t tI (Qgd l i), []) := by
 simp only [Qhf, decide_eq_true_eq] at h
 obtain ⟨h1, h2, h3⟩ := h
 obtain ⟨k, rfl⟩ := Int.eq_ofNat_of_zero_le h1
 simp only [QG6, add1N (show k < 4611686018427387904 by omega), add1 (show k < 4611686018427387904 by omega), Qau, Int.toNat_natCast]
 unfold Qgd Qr4
 rw [Int.toNat_natCast]
 by_cases hk : k + 1 < l.length
 ·rw [show ilt ((k + 1 : Nat) : Int) (llen l) = true from decide_eq_true (by simp only [llen]; omega), Qac, decide_eq_true hk, Qac, if_pos hk]
 ·rw [show ilt ((k + 1 : Nat) : Int) (llen l) = false from decide_eq_false (by simp only [llen]; omega), Qaf, decide_eq_true (show k < l.length by omega), Qac, if_neg hk]
def QEw : Ent := spec (.pr (.sl Qad) (.pr tI .nil)) (fun x => (Qhf x.1 x.2.1)) (fun x => (.t tI (Qgd x.1 x.2.1)))
theorem QRX : Meets Tryz.prog 142 (strip QEw) := Qag (R := runF QAm Qwy QFQ false) (mG Tryz.func142 (by kernel_rfl) Tryz.ntmps142 (by kernel_rfl) QUH QTa) fun x hok => (e_f142 x.1 x.2.1).trans (s_f142 x.1 x.2.1 hok)
def Qys (l : List Qaa) (e : Int) (k : Nat) : Bool :=
 bif ieq e 11 then decide (k + 1 < l.length) && sne (cAt l k).2.1 (cAt l (k + 1)).2.2.1
 else bif ieq e 15 then !pathF l k else !QkB (cAt l k) (Qr4 l k)
def QhM (l : List Qaa) (e : Int) (k : Nat) : Bool := (List.range' k (l.length - k)).any (Qys l e)
def Qcm (l : List Qaa) (e : Int) : Bool := QhM l e 0
theorem QCi (l : List Qaa) (e : Int) : QhM l e l.length = false := by
 unfold QhM
 rw [Nat.sub_self]
 rfl
theorem Qyt {l : List Qaa} {e : Int} {k : Nat} (hk : k < l.length) : QhM l e k = (Qys l e k || QhM l e (k + 1)) := by
 have : l.length - k = (l.length - (k + 1)) + 1 := by omega
 unfold QhM
 rw [this, List.range'_succ, List.any_cons]
def QpP (l : List Qaa) (_e : Int) : Bool := QaZ l
noncomputable def QJ6 : List DO := dT Tryz.f100 7
noncomputable def QJ5 : List DO := dT Tryz.f100 10
def Qg1 : Fg := ⟨[(0, some (.sl Qad)), (1, some tI), (8, some tI), (9, some tI)], []⟩
noncomputable def QiN : TC := (.sq (.reg (rT Tryz.f100 2)) (.sq (.cd (.t 10) .sk (.fg ⟨[], []⟩ (.ex 0))) (.sq (.bk 1 (.sq (.reg (rT Tryz.f100 3)) (.sq (.reg (rT Tryz.f100 4)) (.sq (.sq (.reg (rT Tryz.f100 5)) (.bk 2 (.sq (.reg (rT Tryz.f100 6)) (.cd (.t 22) (.dr QJ6 [(0, []), (1, []), (2, []), (3, []), (4, []), (5, []), (6, []), (7, []), (8, []), (9, []), (10, []), (11, []), (12, []), (13, []), (14, []), (15, []), (16, []), (17, []), (18, []), (19, [])] (.of [0, 1, 2, 3, 4, 5, 6, 7, 8, 9, 10, 11, 12, 13, 14, 15, 16, 17, 18, 19])) (.sq (.reg (rT Tryz.f100 8)) (.cd (.t 43) (.reg (rT Tryz.f100 9)) (.dr QJ5 [(0, []), (1, []), (2, []), (3, []), (4, []), (5, []), (6, []), (7, []), (8, []), (9, [])] (.of [0, 1, 2, 3, 4, 5, 6, 7, 8, 9])))))))) (.sq (.reg (rT Tryz.f100 11)) (.cd (.t 49) (.sq (.reg (rT Tryz.f100 12)) (.fg ⟨[(4, some .bool)], []⟩ .rt)) .sk)))))) (.reg (rT Tryz.f100 13)))))
noncomputable def QwU : TC := (.sq (.reg (rT Tryz.f100 0)) (.sq (.sq (.reg (rT Tryz.f100 1)) (.bk 0 (.lp 0 Qg1 QiN))) (.sq (.reg (rT Tryz.f100 14)) .rt)))
def QGc : List (RV × Option Ty) := [((.t 4), some .bool)]
abbrev QoD : Sh := ⟨[(0, .ty (.sl Qad)), (1, .ty tI), (8, .ty tI), (9, .ty tI)], []⟩
def QeI (x0 : List Qaa) (x1 x8 x9 : Int) : VS := QoD.st (x0, x1, x8, x9, ()) ()
abbrev Qr2 : Sh := ⟨[(4, .ty .bool)], []⟩
def Qa8 (x4 : Bool) : VS := Qr2.st (x4, ()) ()
abbrev Qug : Sh := ⟨[], []⟩
def Qd9  : VS := Qug.st () ()
def QOU : VS → Option (Bool × List (Bool × Exit × VS)) := mkL QoD (fun x y => (decide (x.2.2.1 = x.1.length ∧ 0 ≤ x.2.2.2.1 ∧ x.2.2.2.1 ≤ x.2.2.1) && QaZ x.1)) (fun x y => [((QhM x.1 x.2.1 x.2.2.2.1.toNat), .ret, Qa8 (true)), (true, .exit 0, Qd9)])
def QlF : G := ⟨TYs, [], 51, EL [(140, QEy), (141, QEx), (142, QEw)], keeps, (Ls [QOU]), IL [], RL []⟩
def QBt (x0 : List Qaa) (x1 x8 x9 : Int) : Option (Exit × VS) :=
 let a1 := iadd .i64 x9 1
 let a2 := lgt Qad x0 (Int.toNat x9)
 br (ilt x9 x8) (br (ieq x1 11) (br (ilt a1 (llen x0)) (br (cIx x0 x9) (br (cIx x0 a1) (br (sne ((a2.2).1) ((((lgt Qad x0 (Int.toNat a1)).2).2).1)) (some (.ret, Qa8 true)) (some (.normal, QeI x0 x1 x8 a1))) none) none) (some (.normal, QeI x0 x1 x8 a1))) (br (ieq x1 15) (br (QoZ x0 x9) (br (!(pathF x0 x9)) (some (.ret, Qa8 true)) (some (.normal, QeI x0 x1 x8 a1))) none) (br (cIx x0 x9) (br (Qhf x0 x9) (br (Qev a2 (Qgd x0 x9)) (br (!(QkB a2 (Qgd x0 x9))) (some (.ret, Qa8 true)) (some (.normal, QeI x0 x1 x8 a1))) none) none) none))) (some (.exit 0, Qd9))
noncomputable def Qdr (x0 : List Qaa) (x1 x8 x9 : Int) : Option (Exit × VS) := loopF (Qak QlF Qg1 QiN) (QeI x0 x1 x8 x9)
noncomputable def QmJ (x0 : List Qaa) (x1 x8 x9 : Int) : Option (Exit × VS) :=
 let a1 := iadd .i64 x9 1
 let a2 := lgt Qad x0 (Int.toNat x9)
 br (ilt x9 x8) (br (ieq x1 11) (br (ilt a1 (llen x0)) (br (cIx x0 x9) (br (cIx x0 a1) (br (sne ((a2.2).1) ((((lgt Qad x0 (Int.toNat a1)).2).2).1)) (some (.ret, Qa8 true)) (Qdr x0 x1 x8 a1)) none) none) (Qdr x0 x1 x8 a1)) (br (ieq x1 15) (br (QoZ x0 x9) (br (!(pathF x0 x9)) (some (.ret, Qa8 true)) (Qdr x0 x1 x8 a1)) none) (br (cIx x0 x9) (br (Qhf x0 x9) (br (Qev a2 (Qgd x0 x9)) (br (!(QkB a2 (Qgd x0 x9))) (some (.ret, Qa8 true)) (Qdr x0 x1 x8 a1)) none) none) none))) (some (.exit 0, Qd9))
def QjW (x0 : List Qaa) (x1 x8 x9 : Int) : Option (Exit × VS) := br (QhM x0 x1 x9.toNat) (some (.ret, Qa8 (true))) <| some (.exit 0, Qd9)
theorem QKU (x0 : List Qaa) (x1 x8 x9 : Int) : Qak QlF Qg1 QiN (QeI x0 x1 x8 x9) = QBt x0 x1 x8 x9 := by kernel_rfl
theorem Qvc (x0 : List Qaa) (x1 x8 x9 : Int) : Qdr x0 x1 x8 x9 = QmJ x0 x1 x8 x9 := (Qan _ _).trans (by
 rw [QKU]
 simp only [QBt, QmJ, Qax, nxt_n, nxt_r, nxt_e, nxt_0]
 rfl)
def QHl (p0 : List Qaa) (p1 : Int) : Option (V × List VO) := br (decide ((llen p0) = p0.length ∧ 0 ≤ (0 : Int) ∧ (0 : Int) ≤ (llen p0)) && QaZ p0) (br (QhM p0 p1 (0 : Int).toNat) (some (.t .bool (true), [])) (some (.t .bool false, []))) none
theorem e_f100 (p0 : List Qaa) (p1 : Int) : runF QlF QwU QGc false [.t (.sl Qad) p0, .t tI p1] [] = QHl p0 p1 := by kernel_rfl
theorem QVV : Qah Tryz.prog 100 := .inr ⟨by decide, _, Tryz.func100, by kernel_rfl, by kernel_rfl⟩
theorem QU3 : GOk Tryz.prog QlF := Qal _ (gA (gC QVG QRZ (gC QVF QRY (gC QVE QRX gN))))
theorem QM3 (x0 : List Qaa) (x1 x8 x9 : Int) (h : (decide (x8 = x0.length ∧ 0 ≤ x9 ∧ x9 ≤ x8) && QaZ x0) = true) : Qdr x0 x1 x8 x9 = QjW x0 x1 x8 x9 := by
 simp only [Bool.and_eq_true, decide_eq_true_eq] at h
 obtain ⟨⟨rfl, h0, h1⟩, hc⟩ := h
 obtain ⟨k, rfl⟩ := Int.eq_ofNat_of_zero_le h0
 have hl := Qp7 hc
 refine Qat x0 (fun k => Qdr x0 x1 (x0.length : Int) (k : Int) = QjW x0 x1 (x0.length : Int) (k : Int)) ?_ ?_ k (by omega)
 ·rw [Qvc]
  simp only [QmJ, QjW, Qar, Nat.lt_irrefl, decide_false, Qaf, Int.toNat_natCast, QCi]
 ·intro k hk ih
  rw [Qvc]
  have hx := Qp8 hc hk
  have hs : Qhf x0 (k : Int) = true := decide_eq_true (by omega)
  have hp : QoZ x0 (k : Int) = true := decide_eq_true hl
  simp only [QmJ, Qar, Qau, hk, decide_true, Qac, Int.toNat_natCast, add1N (show k < 4611686018427387904 by omega), add1 (show k < 4611686018427387904 by omega), hs, hp, ih, show lgt Qad x0 k = cAt x0 k from rfl, show ∀ q, Qev (cAt x0 k) q = true from fun q => QKj hc hk, Qgd]
  simp only [QjW, Int.toNat_natCast, Qyt hk, Qys]
  cases h1 : ieq x1 11 with
  | true =>
   rw [Qac, cond_true]
   by_cases hk2 : k + 1 < x0.length
   ·rw [decide_eq_true hk2, Qac, Qac, Bool.true_and]
    show br (sne (cAt x0 k).2.1 (cAt x0 (k + 1)).2.2.1) _ _ = _
    cases sne (cAt x0 k).2.1 (cAt x0 (k + 1)).2.2.1 <;> rfl
   ·rw [decide_eq_false hk2, Qaf, Bool.false_and, Bool.false_or]
  | false =>
   rw [Qaf, cond_false]
   cases h2 : ieq x1 15 with
   | true =>
    rw [Qac, cond_true]
    cases pathF x0 (k : Int) <;> rfl
   | false =>
    rw [Qaf, cond_false]
    cases QkB (cAt x0 k) (Qr4 x0 k) <;> rfl
theorem QIA : ∀ S l p, QlF.L 0 (fgt Qg1 S) = some (true, l) → pickA l = some p → loopF (Qak QlF Qg1 QiN) S = some p :=
 QaD (s := QoD) ⟨by decide, by decide⟩ (by kernel_rfl) fun x y hok p hp => by
 simp only [Qap, Qam] at hp
 exact (QM3 x.1 x.2.1 x.2.2.1 x.2.2.2.1 (by simpa using hok)).trans hp
theorem QTw : QwU.lok QlF := by
 repeat (first | exact trivial | exact QIA | refine ⟨?_, ?_⟩)
theorem s_f100 (l : List Qaa) (e : Int) (h : QpP l e = true) : QHl l e = some (.t .bool (Qcm l e), []) := by
 have h : QaZ l = true := h
 simp only [QHl, h, Bool.and_true, Int.toNat_zero]
 rw [decide_eq_true ⟨trivial, Int.le_refl 0, by simp only [llen]; omega⟩, Qac]
 unfold Qcm
 cases QhM l e 0 <;> rfl
def QEN : Ent := spec (.pr (.sl Qad) (.pr tI .nil)) (fun x => (QpP x.1 x.2.1)) (fun x => (.t .bool (Qcm x.1 x.2.1)))
theorem QSe : Meets Tryz.prog 100 (strip QEN) := Qag (R := runF QlF QwU QGc false) (mG Tryz.func100 (by kernel_rfl) Tryz.ntmps100 (by kernel_rfl) QU3 QTw) fun x hok => (e_f100 x.1 x.2.1).trans (s_f100 x.1 x.2.1 hok)
def heldF (c : Qaa) (h : List Int) (d e : Int) : Bool := bif ieq e 13 then ilt d c.2.2.2.2.2.2.1 || ige d c.2.2.2.2.2.2.2.1 else !hasF h c.2.2.2.2.2.1.1
def Qle (_c : Qaa) (h : List Int) (_d _e : Int) : Bool := decide (h.length ≤ 100000)
noncomputable def QCX : TC := (.sq (.reg (rT Tryz.f99 0)) (.sq (.sq (.reg (rT Tryz.f99 1)) (.cd (.t 10) (.sq (.reg (rT Tryz.f99 2)) .rt) .sk)) (.sq (.reg (rT Tryz.f99 3)) .rt)))
def QPt : List (RV × Option Ty) := [((.t 8), some .bool)]
def g_f99 : G := ⟨TYs, [], 27, EL [(101, Qkz)], keeps, (fun _ _ => none), IL [], RL []⟩
def r_f99 (p0 : Qaa) (p1 : List Int) (p2 p3 : Int) : Option (V × List VO) := br (ieq p3 13) (br (ilt p2 p0.2.2.2.2.2.2.1) (some (.t .bool true, [])) (some (.t .bool (ige p2 p0.2.2.2.2.2.2.2.1), []))) (br (QaY p1 p0.2.2.2.2.2.1.1) (some (.t .bool (!(hasF p1 p0.2.2.2.2.2.1.1)), [])) none)
theorem e_f99 (p0 : Qaa) (p1 : List Int) (p2 p3 : Int) : runF g_f99 QCX QPt false [.t Qad p0, .t (.sl tI) p1, .t tI p2, .t tI p3] [] = r_f99 p0 p1 p2 p3 := by kernel_rfl
theorem en_f99 : Qah Tryz.prog 99 := .inr ⟨by decide, _, Tryz.func99, by kernel_rfl, by kernel_rfl⟩
theorem gk_f99 : GOk Tryz.prog g_f99 := Qal _ (gA (gC Qp2 Qpd gN))
theorem lk_f99 : QCX.lok g_f99 := by repeat (first | exact trivial | refine ⟨?_, ?_⟩)
theorem s_f99 (c : Qaa) (h : List Int) (d e : Int) (hok : Qle c h d e = true) : r_f99 c h d e = some (.t .bool (heldF c h d e), []) := by
 simp only [r_f99, show ∀ v, QaY h v = true from fun _ => hok, Qac]
 unfold heldF
 cases ieq e 13 with
 | false => rfl
 | true =>
  rw [Qac, cond_true]
  cases ilt d c.2.2.2.2.2.2.1 <;> rfl
def QOY : Ent := spec (.pr Qad (.pr (.sl tI) (.pr tI (.pr tI .nil)))) (fun x => (Qle x.1 x.2.1 x.2.2.1 x.2.2.2.1)) (fun x => (.t .bool (heldF x.1 x.2.1 x.2.2.1 x.2.2.2.1)))
theorem ms_f99 : Meets Tryz.prog 99 (strip QOY) := Qag (R := runF g_f99 QCX QPt false) (mG Tryz.func99 (by kernel_rfl) Tryz.ntmps99 (by kernel_rfl) gk_f99 lk_f99) fun x hok => (e_f99 x.1 x.2.1 x.2.2.1 x.2.2.2.1).trans (s_f99 x.1 x.2.1 x.2.2.1 x.2.2.2.1 hok)
def badC (c : Qaa) : Bool := !QaC c
noncomputable def QC1 : TC := (.sq (.reg (rT Tryz.f95 0)) (.sq (.reg (rT Tryz.f95 1)) .rt))
def QPx : List (RV × Option Ty) := [((.t 2), some .bool)]
def g_f95 : G := ⟨TYs, [], 6, EL [(96, QDK)], keeps, (fun _ _ => none), IL [], RL []⟩
def r_f95 (p0 : Qaa) : Option (V × List VO) := br (QaG p0) (some (.t .bool (ine (QeR p0) 0), [])) none
theorem e_f95 (p0 : Qaa) : runF g_f95 QC1 QPx false [.t Qad p0] [] = r_f95 p0 := by kernel_rfl
theorem en_f95 : Qah Tryz.prog 95 := .inr ⟨by decide, _, Tryz.func95, by kernel_rfl, by kernel_rfl⟩
theorem gk_f95 : GOk Tryz.prog g_f95 := Qal _ (gA (gC QQC QQq gN))
theorem lk_f95 : QC1.lok g_f95 := by repeat (first | exact trivial | refine ⟨?_, ?_⟩)
theorem s_f95 (c : Qaa) (h : QaG c = true) : r_f95 c = some (.t .bool (badC c), []) := by
 simp only [r_f95, h, Qac, Qg2]
 rfl
def QO1 : Ent := spec (.pr Qad .nil) (fun x => (QaG x.1)) (fun x => (.t .bool (badC x.1)))
theorem ms_f95 : Meets Tryz.prog 95 (strip QO1) := Qag (R := runF g_f95 QC1 QPx false) (mG Tryz.func95 (by kernel_rfl) Tryz.ntmps95 (by kernel_rfl) gk_f95 lk_f95) fun x hok => (e_f95 x.1).trans (s_f95 x.1 hok)
def okBad (l : List Qaa) : Bool := QaZ l
theorem QHw {l : List Qaa} (h : okBad l = true) : l.length ≤ 100000 := Qp7 h
def ixBad (l : List Qaa) : Int := match fstG badC l with | some k => (k : Int) | none => -1
def QcQ : Fg := ⟨[(0, some (.sl Qad)), (1, none), (7, some tI), (8, some tI)], []⟩
noncomputable def QdA : TC := (.sq (.reg (rT Tryz.f137 2)) (.sq (.cd (.t 9) .sk (.fg ⟨[], []⟩ (.ex 0))) (.sq (.bk 1 (.sq (.reg (rT Tryz.f137 3)) (.sq (.reg (rT Tryz.f137 4)) (.cd (.t 16) (.sq (.reg (rT Tryz.f137 5)) (.fg ⟨[(4, some tI)], []⟩ .rt)) .sk)))) (.reg (rT Tryz.f137 6)))))
noncomputable def Qku : TC := (.sq (.reg (rT Tryz.f137 0)) (.sq (.sq (.reg (rT Tryz.f137 1)) (.bk 0 (.lp 0 QcQ QdA))) (.sq (.reg (rT Tryz.f137 7)) .rt)))
def QqN : List (RV × Option Ty) := [((.t 4), some tI)]
abbrev Qf7 : Sh := ⟨[(0, .ty (.sl Qad)), (1, .cf 95), (7, .ty tI), (8, .ty tI)], []⟩
def QfV (x0 : List Qaa) (x7 x8 : Int) : VS := Qf7.st (x0, (), x7, x8, ()) ()
abbrev QlM : Sh := ⟨[(4, .ty tI)], []⟩
def QbS (x4 : Int) : VS := QlM.st (x4, ()) ()
abbrev Qos : Sh := ⟨[], []⟩
def Qcc  : VS := Qos.st () ()
def QyW : VS → Option (Bool × List (Bool × Exit × VS)) := mkL Qf7 (fun x y => (rngOk x.1 x.2.2.1 x.2.2.2.1 && okBad x.1)) (fun x y => [(((fstG badC (x.1.drop x.2.2.2.1.toNat)).isSome), .ret, QbS (x.2.2.2.1 + ((fstG badC (x.1.drop x.2.2.2.1.toNat)).getD 0 : Nat))), (true, .exit 0, Qcc)])
def QcL : G := ⟨TYs, [], 19, EL [(95, QO1)], keeps, (Ls [QyW]), IL [], RL []⟩
def Qqc (x0 : List Qaa) (x7 x8 : Int) : Option (Exit × VS) :=
 let a1 := lgt Qad x0 (Int.toNat x8)
 br (ilt x8 x7) (br (cIx x0 x8) (br (QaG a1) (br (badC a1) (some (.ret, QbS x8)) (some (.normal, QfV x0 x7 (iadd .i64 x8 1)))) none) none) (some (.exit 0, Qcc))
noncomputable def Qeg (x0 : List Qaa) (x7 x8 : Int) : Option (Exit × VS) := loopF (Qak QcL QcQ QdA) (QfV x0 x7 x8)
noncomputable def Qfm (x0 : List Qaa) (x7 x8 : Int) : Option (Exit × VS) :=
 let a1 := lgt Qad x0 (Int.toNat x8)
 br (ilt x8 x7) (br (cIx x0 x8) (br (QaG a1) (br (badC a1) (some (.ret, QbS x8)) (Qeg x0 x7 (iadd .i64 x8 1))) none) none) (some (.exit 0, Qcc))
def Qek (x0 : List Qaa) (x7 x8 : Int) : Option (Exit × VS) :=
 let a1 := fstG badC (x0.drop x8.toNat)
 br (a1.isSome) (some (.ret, QbS (x8 + (a1.getD 0 : Nat)))) <| some (.exit 0, Qcc)
theorem QvB (x0 : List Qaa) (x7 x8 : Int) : Qak QcL QcQ QdA (QfV x0 x7 x8) = Qqc x0 x7 x8 := by kernel_rfl
theorem Qla (x0 : List Qaa) (x7 x8 : Int) : Qeg x0 x7 x8 = Qfm x0 x7 x8 := (Qan _ _).trans (by
 rw [QvB]
 simp only [Qqc, Qfm, Qax, nxt_n, nxt_r, nxt_e, nxt_0]
 rfl)
def QoW (p0 : List Qaa) : Option (V × List VO) :=
 let a1 := (fstG badC (p0.drop (0 : Int).toNat))
 br (rngOk p0 (llen p0) (0 : Int) && okBad p0) (br (a1.isSome) (some (.t tI ((0 : Int) + (a1.getD 0 : Nat)), [])) (some (.t tI (-1), []))) none
theorem QJR (p0 : List Qaa) : runF QcL Qku QqN false [.t (.sl Qad) p0, .c (.func (.func 95) ⟨[]⟩ ⟨[]⟩)] [] = QoW p0 := by kernel_rfl
theorem QCn : Qah Tryz.prog 137 := .inr ⟨by decide, _, Tryz.func137, by kernel_rfl, by kernel_rfl⟩
theorem QCe : GOk Tryz.prog QcL := Qal _ (gA (gC en_f95 ms_f95 gN))
theorem Qyc (x0 : List Qaa) (x7 x8 : Int) (h : (rngOk x0 x7 x8 && okBad x0) = true) : Qeg x0 x7 x8 = Qek x0 x7 x8 := by
 simp only [Bool.and_eq_true] at h
 obtain ⟨h0, hc⟩ := h
 obtain ⟨rfl, h3, k, rfl, hk⟩ := rng_k h0
 clear h0
 refine Qat x0 (fun k => Qeg x0 (x0.length : Int) (k : Int) = Qek x0 (x0.length : Int) (k : Int)) ?_ ?_ k hk
 ·rw [Qla]
  simp [Qfm, Qek, Qar, Qaf, fstG]
 ·intro k hk ih
  rw [Qla]
  have hx := Qp8 hc hk
  simp only [Qfm, Qar, Qau, hk, decide_true, Qac, Int.toNat_natCast, add1 (show k < 4611686018427387904 by omega), ih, Qay (y := Qad) hk, hx]
  simp only [Qek, Int.toNat_natCast, List.drop_eq_getElem_cons hk, fstG]
  cases h : (badC x0[k]) with
  | true => simp [Qac]
  | false =>
   simp only [Qaf, Bool.false_eq_true, if_false]
   cases hq : fstG badC (x0.drop (k + 1)) with
   | none => rfl
   | some j =>
    simp only [Option.map_some, Option.isSome_some, Option.getD_some, Qac]
    congr 3
    omega
theorem QuH : ∀ S l p, QcL.L 0 (fgt QcQ S) = some (true, l) → pickA l = some p → loopF (Qak QcL QcQ QdA) S = some p :=
 QaD (s := Qf7) ⟨by decide, by decide⟩ (by kernel_rfl) fun x y hok p hp => by
 simp only [Qap, Qam] at hp
 exact (Qyc x.1 x.2.2.1 x.2.2.2.1 (by simpa using hok)).trans hp
theorem QB4 : Qku.lok QcL := by
 repeat (first | exact trivial | exact QuH | refine ⟨?_, ?_⟩)
theorem QE1 (l : List Qaa) (h : okBad l = true) : QoW l = some (.t tI (ixBad l), []) := by
 have hl := QHw h
 simp only [QoW, rng_0 hl, h, Bool.and_self, Qac, Int.toNat_zero, List.drop_zero, ixBad]
 cases fstG badC l <;> simp [Qac, Qaf]
def QqH : Ent := specH [.ty (.sl Qad), .cf 95] [] (fun x d => (okBad x.1)) (fun x d => (.t tI (ixBad x.1)))
theorem QBY : Meets Tryz.prog 137 (strip QqH) := (QaO (R := runF QcL Qku QqN false) (mG Tryz.func137 (by kernel_rfl) Tryz.ntmps137 (by kernel_rfl) QCe QB4) fun x d hok => (QJR x.1).trans (QE1 x.1 hok))
def Qqh (l : List Qaa) : Bool := l.any badC
noncomputable def Qnf : TC := (.sq (.reg (rT Tryz.f94 0)) (.sq (.reg (rT Tryz.f94 1)) .rt))
def Qui : List (RV × Option Ty) := [((.t 4), some .bool)]
def Qm1 : G := ⟨TYs, [], 9, EL [(137, QqH)], keeps, (fun _ _ => none), IL [], RL []⟩
def Qsa (p0 : List Qaa) : Option (V × List VO) := br (okBad p0) (some (.t .bool (ige (ixBad p0) 0), [])) none
theorem QNC (p0 : List Qaa) : runF Qm1 Qnf Qui false [.t (.sl Qad) p0, .c (.func (.func 95) ⟨[]⟩ ⟨[]⟩)] [] = Qsa p0 := by kernel_rfl
theorem QJl : Qah Tryz.prog 94 := .inr ⟨by decide, _, Tryz.func94, by kernel_rfl, by kernel_rfl⟩
theorem QI5 : GOk Tryz.prog Qm1 := Qal _ (gA (gC QCn QBY gN))
theorem QIG : Qnf.lok Qm1 := by repeat (first | exact trivial | refine ⟨?_, ?_⟩)
theorem QLH (l : List Qaa) (h : okBad l = true) : Qsa l = some (.t .bool (Qqh l), []) := by
 simp only [Qsa, h, Qac]
 have e : ige (ixBad l) 0 = Qqh l := by
  unfold ixBad Qqh
  cases hq : fstG badC l with
  | none => rw [QbP.1 hq]; rfl
  | some k =>
   rw [← Qbv, hq]
   simp only [ige, Option.isSome_some, decide_eq_true_eq]
   omega
 rw [e]
def Qts : Ent := specH [.ty (.sl Qad), .cf 95] [] (fun x d => (okBad x.1)) (fun x d => (.t .bool (Qqh x.1)))
theorem QHF : Meets Tryz.prog 94 (strip Qts) := (QaO (R := runF Qm1 Qnf Qui false) (mG Tryz.func94 (by kernel_rfl) Tryz.ntmps94 (by kernel_rfl) QI5 QIG) fun x d hok => (QNC x.1).trans (QLH x.1 hok))
noncomputable def QCY : TC := (.sq (.reg (rT Tryz.f98 0)) (.sq (.reg (rT Tryz.f98 1)) .rt))
def QPu : List (RV × Option Ty) := [((.t 5), some .bool)]
def g_f98 : G := ⟨TYs, [], 11, EL [(99, QOY)], keeps, (fun _ _ => none), IL [], RL []⟩
def r_f98 (p0 : Qaa) (d0 : List Int) (d1 d2 : Int) : Option (V × List VO) := br (Qle p0 d0 d1 d2) (some (.t .bool (heldF p0 d0 d1 d2), [.box (.t (.sl tI) d0), .box (.t tI d1), .box (.t tI d2)])) none
theorem e_f98 (p0 : Qaa) (d0 : List Int) (d1 d2 : Int) : runF g_f98 QCY QPu false [.t Qad p0, .ptr 50000 0, .ptr 50001 0, .ptr 50002 0] [.box (.t (.sl tI) d0), .box (.t tI d1), .box (.t tI d2)] = r_f98 p0 d0 d1 d2 := by kernel_rfl
theorem en_f98 : Qah Tryz.prog 98 := .inr ⟨by decide, _, Tryz.func98, by kernel_rfl, by kernel_rfl⟩
theorem gk_f98 : GOk Tryz.prog g_f98 := Qal _ (gA (gC en_f99 ms_f99 gN))
theorem lk_f98 : QCY.lok g_f98 := by repeat (first | exact trivial | refine ⟨?_, ?_⟩)
theorem s_f98 (c : Qaa) (h : List Int) (d e : Int) (hok : Qle c h d e = true) : r_f98 c h d e = some (.t .bool (heldF c h d e), [.box (.t (.sl tI) h), .box (.t tI d), .box (.t tI e)]) := by
 simp only [r_f98, hok, Qac]
def QOZ : Ent := QfJ [.ty Qad, .ptr 50000 0, .ptr 50001 0, .ptr 50002 0] [(.sl tI), tI, tI] (fun x d => (Qle x.1 d.1 d.2.1 d.2.2.1)) (fun x d => (.t .bool (heldF x.1 d.1 d.2.1 d.2.2.1)))
theorem ms_f98 : Meets Tryz.prog 98 (strip QOZ) := Qcg (QaO (R := runF g_f98 QCY QPu false) (mG Tryz.func98 (by kernel_rfl) Tryz.ntmps98 (by kernel_rfl) gk_f98 lk_f98) fun x d hok => (e_f98 x.1 d.1 d.2.1 d.2.2.1).trans (s_f98 x.1 d.1 d.2.1 d.2.2.1 hok))
def QcZ (l : List Qaa) (h : List Int) (_d _e : Int) : Bool := decide (l.length ≤ 100000 ∧ h.length ≤ 100000)
theorem QBU {l : List Qaa} {h : List Int} {d e : Int} (hq : QcZ l h d e = true) : l.length ≤ 100000 := (of_decide_eq_true hq).1
def QqZ (l : List Qaa) (d0 : List Int) (d1 : Int) (d2 : Int) : Int := match fstG (fun c => heldF c d0 d1 d2) l with | some k => (k : Int) | none => -1
def QcP : Fg := ⟨[(0, some (.sl Qad)), (1, none), (7, some tI), (8, some tI)], [(50000, some (.sl tI)), (50001, some tI), (50002, some tI)]⟩
noncomputable def Qdz : TC := (.sq (.reg (rT Tryz.f137 2)) (.sq (.cd (.t 9) .sk (.fg ⟨[], [(50000, some (.sl tI)), (50001, some tI), (50002, some tI)]⟩ (.ex 0))) (.sq (.bk 1 (.sq (.reg (rT Tryz.f137 3)) (.sq (.reg (rT Tryz.f137 4)) (.cd (.t 16) (.sq (.reg (rT Tryz.f137 5)) (.fg ⟨[(4, some tI)], [(50000, some (.sl tI)), (50001, some tI), (50002, some tI)]⟩ .rt)) .sk)))) (.reg (rT Tryz.f137 6)))))
noncomputable def Qkt : TC := (.sq (.reg (rT Tryz.f137 0)) (.sq (.sq (.reg (rT Tryz.f137 1)) (.bk 0 (.lp 0 QcP Qdz))) (.sq (.reg (rT Tryz.f137 7)) .rt)))
def QqM : List (RV × Option Ty) := [((.t 4), some tI)]
abbrev Qf6 : Sh := ⟨[(0, .ty (.sl Qad)), (1, .fn 98 [(50000, 0), (50001, 0), (50002, 0)]), (7, .ty tI), (8, .ty tI)], [(50000, .box (.sl tI)), (50001, .box tI), (50002, .box tI)]⟩
def QfU (x0 : List Qaa) (x7 x8 : Int) (y50000 : List Int) (y50001 y50002 : Int) : VS := Qf6.st (x0, (), x7, x8, ()) (y50000, y50001, y50002, ())
abbrev QlL : Sh := ⟨[(4, .ty tI)], [(50000, .box (.sl tI)), (50001, .box tI), (50002, .box tI)]⟩
def QbR (x4 : Int) (y50000 : List Int) (y50001 y50002 : Int) : VS := QlL.st (x4, ()) (y50000, y50001, y50002, ())
abbrev Qor : Sh := ⟨[], [(50000, .box (.sl tI)), (50001, .box tI), (50002, .box tI)]⟩
def Qcb (y50000 : List Int) (y50001 y50002 : Int) : VS := Qor.st () (y50000, y50001, y50002, ())
def QyV : VS → Option (Bool × List (Bool × Exit × VS)) := mkL Qf6 (fun x y => (rngOk x.1 x.2.2.1 x.2.2.2.1 && QcZ x.1 y.1 y.2.1 y.2.2.1)) (fun x y => [(((fstG (fun c => heldF c y.1 y.2.1 y.2.2.1) (x.1.drop x.2.2.2.1.toNat)).isSome), .ret, QbR (x.2.2.2.1 + ((fstG (fun c => heldF c y.1 y.2.1 y.2.2.1) (x.1.drop x.2.2.2.1.toNat)).getD 0 : Nat)) (y.1) (y.2.1) (y.2.2.1)), (true, .exit 0, Qcb (y.1) (y.2.1) (y.2.2.1))])
def QcK : G := ⟨TYs, [], 19, EL [(98, QOZ)], keeps, (Ls [QyV]), IL [], RL []⟩
def Qqb (x0 : List Qaa) (x7 x8 : Int) (y50000 : List Int) (y50001 y50002 : Int) : Option (Exit × VS) :=
 let a1 := lgt Qad x0 (Int.toNat x8)
 br (ilt x8 x7) (br (cIx x0 x8) (br (Qle a1 y50000 y50001 y50002) (br (heldF a1 y50000 y50001 y50002) (some (.ret, QbR x8 y50000 y50001 y50002)) (some (.normal, QfU x0 x7 (iadd .i64 x8 1) y50000 y50001 y50002))) none) none) (some (.exit 0, Qcb y50000 y50001 y50002))
noncomputable def Qef (x0 : List Qaa) (x7 x8 : Int) (y50000 : List Int) (y50001 y50002 : Int) : Option (Exit × VS) := loopF (Qak QcK QcP Qdz) (QfU x0 x7 x8 y50000 y50001 y50002)
noncomputable def Qfl (x0 : List Qaa) (x7 x8 : Int) (y50000 : List Int) (y50001 y50002 : Int) : Option (Exit × VS) :=
 let a1 := lgt Qad x0 (Int.toNat x8)
 br (ilt x8 x7) (br (cIx x0 x8) (br (Qle a1 y50000 y50001 y50002) (br (heldF a1 y50000 y50001 y50002) (some (.ret, QbR x8 y50000 y50001 y50002)) (Qef x0 x7 (iadd .i64 x8 1) y50000 y50001 y50002)) none) none) (some (.exit 0, Qcb y50000 y50001 y50002))
def Qej (x0 : List Qaa) (x7 x8 : Int) (y50000 : List Int) (y50001 y50002 : Int) : Option (Exit × VS) := br ((fstG (fun c => heldF c y50000 y50001 y50002) (x0.drop x8.toNat)).isSome) (some (.ret, QbR (x8 + ((fstG (fun c => heldF c y50000 y50001 y50002) (x0.drop x8.toNat)).getD 0 : Nat)) (y50000) (y50001) (y50002))) <| some (.exit 0, Qcb (y50000) (y50001) (y50002))
theorem QvA (x0 : List Qaa) (x7 x8 : Int) (y50000 : List Int) (y50001 y50002 : Int) : Qak QcK QcP Qdz (QfU x0 x7 x8 y50000 y50001 y50002) = Qqb x0 x7 x8 y50000 y50001 y50002 := by kernel_rfl
theorem Qk9 (x0 : List Qaa) (x7 x8 : Int) (y50000 : List Int) (y50001 y50002 : Int) : Qef x0 x7 x8 y50000 y50001 y50002 = Qfl x0 x7 x8 y50000 y50001 y50002 := (Qan _ _).trans (by
 rw [QvA]
 simp only [Qqb, Qfl, Qax, nxt_n, nxt_r, nxt_e, nxt_0]
 rfl)
def QoV (p0 : List Qaa) (d0 : List Int) (d1 d2 : Int) : Option (V × List VO) :=
 let a1 := (p0.drop (0 : Int).toNat)
 br (rngOk p0 (llen p0) (0 : Int) && QcZ p0 d0 d1 d2) (br ((fstG (fun c => heldF c d0 d1 d2) a1).isSome) (some (.t tI ((0 : Int) + ((fstG (fun c => heldF c d0 d1 d2) a1).getD 0 : Nat)), [.box (.t (.sl tI) (d0)), .box (.t tI (d1)), .box (.t tI (d2))])) (some (.t tI (-1), [.box (.t (.sl tI) (d0)), .box (.t tI (d1)), .box (.t tI (d2))]))) none
theorem QJQ (p0 : List Qaa) (d0 : List Int) (d1 d2 : Int) : runF QcK Qkt QqM false [.t (.sl Qad) p0, .fn 98 [(.ptr 50000 0), (.ptr 50001 0), (.ptr 50002 0)]] [.box (.t (.sl tI) d0), .box (.t tI d1), .box (.t tI d2)] = QoV p0 d0 d1 d2 := by kernel_rfl
theorem QCm : Qah Tryz.prog 137 := .inr ⟨by decide, _, Tryz.func137, by kernel_rfl, by kernel_rfl⟩
theorem QCd : GOk Tryz.prog QcK := Qal _ (gA (gC en_f98 ms_f98 gN))
theorem Qyb (x0 : List Qaa) (x7 x8 : Int) (y50000 : List Int) (y50001 y50002 : Int) (h : (rngOk x0 x7 x8 && QcZ x0 y50000 y50001 y50002) = true) : Qef x0 x7 x8 y50000 y50001 y50002 = Qej x0 x7 x8 y50000 y50001 y50002 := by
 simp only [Bool.and_eq_true] at h
 obtain ⟨h0, hc⟩ := h
 obtain ⟨rfl, h3, k, rfl, hk⟩ := rng_k h0
 clear h0
 refine Qat x0 (fun k => Qef x0 (x0.length : Int) (k : Int) y50000 y50001 y50002 = Qej x0 (x0.length : Int) (k : Int) y50000 y50001 y50002) ?_ ?_ k hk
 ·rw [Qk9]
  simp [Qfl, Qej, Qar, Qaf, fstG]
 ·intro k hk ih
  rw [Qk9]
  have hx := show Qle x0[k] y50000 y50001 y50002 = true from decide_eq_true (of_decide_eq_true hc).2
  simp only [Qfl, Qar, Qau, hk, decide_true, Qac, Int.toNat_natCast, add1 (show k < 4611686018427387904 by omega), ih, Qay (y := Qad) hk, hx]
  simp only [Qej, Int.toNat_natCast, List.drop_eq_getElem_cons hk, fstG]
  cases h : (heldF x0[k] y50000 y50001 y50002) with
  | true => simp [Qac]
  | false =>
   simp only [Qaf, Bool.false_eq_true, if_false]
   cases hq : fstG (fun c => heldF c y50000 y50001 y50002) (x0.drop (k + 1)) with
   | none => rfl
   | some j =>
    simp only [Option.map_some, Option.isSome_some, Option.getD_some, Qac]
    congr 3
    omega
theorem QuG : ∀ S l p, QcK.L 0 (fgt QcP S) = some (true, l) → pickA l = some p → loopF (Qak QcK QcP Qdz) S = some p :=
 QaD (s := Qf6) ⟨by decide, by decide⟩ (by kernel_rfl) fun x y hok p hp => by
 simp only [Qap, Qam] at hp
 exact (Qyb x.1 x.2.2.1 x.2.2.2.1 y.1 y.2.1 y.2.2.1 (by simpa using hok)).trans hp
theorem QB3 : Qkt.lok QcK := by
 repeat (first | exact trivial | exact QuG | refine ⟨?_, ?_⟩)
theorem QE0 (l : List Qaa) (d0 : List Int) (d1 d2 : Int) (h : QcZ l d0 d1 d2 = true) : QoV l d0 d1 d2 = some (.t tI (QqZ l d0 d1 d2), [.box (.t (.sl tI) d0), .box (.t tI d1), .box (.t tI d2)]) := by
 have hl := QBU h
 simp only [QoV, rng_0 hl, h, Bool.and_self, Qac, Int.toNat_zero, List.drop_zero, QqZ]
 cases fstG (fun c => heldF c d0 d1 d2) l <;> simp [Qac, Qaf]
def QqG : Ent := QfJ [.ty (.sl Qad), .fn 98 [(50000, 0), (50001, 0), (50002, 0)]] [(.sl tI), tI, tI] (fun x d => (QcZ x.1 d.1 d.2.1 d.2.2.1)) (fun x d => (.t tI (QqZ x.1 d.1 d.2.1 d.2.2.1)))
theorem QBX : Meets Tryz.prog 137 (strip QqG) := Qcg (QaO (R := runF QcK Qkt QqM false) (mG Tryz.func137 (by kernel_rfl) Tryz.ntmps137 (by kernel_rfl) QCd QB3) fun x d hok => (QJQ x.1 d.1 d.2.1 d.2.2.1).trans (QE0 x.1 d.1 d.2.1 d.2.2.1 hok))
def Qcy (l : List Qaa) (d0 : List Int) (d1 : Int) (d2 : Int) : Bool := l.any (fun c => heldF c d0 d1 d2)
noncomputable def Qne : TC := (.sq (.reg (rT Tryz.f94 0)) (.sq (.reg (rT Tryz.f94 1)) .rt))
def Quh : List (RV × Option Ty) := [((.t 4), some .bool)]
def Qm0 : G := ⟨TYs, [], 9, EL [(137, QqG)], keeps, (fun _ _ => none), IL [], RL []⟩
def Qr9 (p0 : List Qaa) (d0 : List Int) (d1 d2 : Int) : Option (V × List VO) := br (QcZ p0 d0 d1 d2) (some (.t .bool (ige (QqZ p0 d0 d1 d2) 0), [.box (.t (.sl tI) d0), .box (.t tI d1), .box (.t tI d2)])) none
theorem QNB (p0 : List Qaa) (d0 : List Int) (d1 d2 : Int) : runF Qm0 Qne Quh false [.t (.sl Qad) p0, .fn 98 [(.ptr 50000 0), (.ptr 50001 0), (.ptr 50002 0)]] [.box (.t (.sl tI) d0), .box (.t tI d1), .box (.t tI d2)] = Qr9 p0 d0 d1 d2 := by kernel_rfl
theorem QJk : Qah Tryz.prog 94 := .inr ⟨by decide, _, Tryz.func94, by kernel_rfl, by kernel_rfl⟩
theorem QI4 : GOk Tryz.prog Qm0 := Qal _ (gA (gC QCm QBX gN))
theorem QIF : Qne.lok Qm0 := by repeat (first | exact trivial | refine ⟨?_, ?_⟩)
theorem QLG (l : List Qaa) (d0 : List Int) (d1 d2 : Int) (h : QcZ l d0 d1 d2 = true) : Qr9 l d0 d1 d2 = some (.t .bool (Qcy l d0 d1 d2), [.box (.t (.sl tI) d0), .box (.t tI d1), .box (.t tI d2)]) := by
 simp only [Qr9, h, Qac]
 have e : ige (QqZ l d0 d1 d2) 0 = Qcy l d0 d1 d2 := by
  unfold QqZ Qcy
  cases hq : fstG (fun c => heldF c d0 d1 d2) l with
  | none => rw [QbP.1 hq]; rfl
  | some k =>
   rw [← Qbv, hq]
   simp only [ige, Option.isSome_some, decide_eq_true_eq]
   omega
 rw [e]
def Qtr : Ent := QfJ [.ty (.sl Qad), .fn 98 [(50000, 0), (50001, 0), (50002, 0)]] [(.sl tI), tI, tI] (fun x d => (QcZ x.1 d.1 d.2.1 d.2.2.1)) (fun x d => (.t .bool (Qcy x.1 d.1 d.2.1 d.2.2.1)))
theorem QHE : Meets Tryz.prog 94 (strip Qtr) := Qcg (QaO (R := runF Qm0 Qne Quh false) (mG Tryz.func94 (by kernel_rfl) Tryz.ntmps94 (by kernel_rfl) QI4 QIF) fun x d hok => (QNB x.1 d.1 d.2.1 d.2.2.1).trans (QLG x.1 d.1 d.2.1 d.2.2.1 hok))
end
end Go.Proofs.YtckcgijklnloiaaGreat.K
namespace Go.Proofs.YtckcgijklnloiaaGreat.K
open Go.RowKit
noncomputable section
abbrev lastC (l : List Qaa) : Qaa := cAt l (l.length - 1)
def chkCh (l : List Qaa) (a h : List Int) (d : Int) (n : ByteArray) : Int :=
 if l.length = 0 then 4 else if 8 < l.length then 3 else
 bif Qqh l then 9 else bif !hasS (Qaz (cAt l 0)) n then 14 else bif Qcy l h d 13 then 13 else bif Qcy l h d 7 then 7 else
 bif Qcm l 11 then 11 else bif Qcm l 15 then 15 else bif Qcm l 10 then 10 else bif !hasF a (cSeal (lastC l)).1 then 12 else 0
def Qid (l : List Qaa) (a h : List Int) (_d : Int) (_n : ByteArray) : Bool := QaZ l && decide (a.length ≤ 100000 ∧ h.length ≤ 100000)
def heldZ (l : List Qaa) (h : List Int) (d : Int) (k : Nat) : Option Int := (([13, 7] : List Int).drop k).find? fun e => Qcy l h d e
def failZ (l : List Qaa) (k : Nat) : Option Int := (([11, 15, 10] : List Int).drop k).find? fun e => Qcm l e
theorem QHC {l : List Qaa} (h : QaZ l = true) {k : Nat} (hk : k < l.length) : (Qaz (cAt l k)).length ≤ 100000 := Qvz (QKj h hk)
abbrev Trip : Type := Int × Int × Int × Unit
def Qj7 : Fg := ⟨[(0, some (.sl Qad)), (1, some (.sl tI)), (7, none), (8, none), (34, some Qai), (35, some tI)], [(7, some (.sl tI)), (8, some tI)]⟩
noncomputable def QlX : TC := (.sq (.reg (rT Tryz.f57 10)) (.sq (.cd (.t 36) .sk (.fg ⟨[(0, some (.sl Qad)), (1, some (.sl tI))], []⟩ (.ex 1))) (.sq (.bk 2 (.sq (.reg (rT Tryz.f57 11)) (.sq (.reg (rT Tryz.f57 12)) (.cd (.t 40) (.sq (.reg (rT Tryz.f57 13)) (.fg ⟨[(10, some tI)], []⟩ .rt)) .sk)))) (.reg (rT Tryz.f57 14)))))
def Qvl : Fg := ⟨[(0, some (.sl Qad)), (1, some (.sl tI)), (43, some (.pr tI (.pr tI (.pr tI .nil)))), (44, some tI)], []⟩
noncomputable def Qy1 : TC := (.sq (.reg (rT Tryz.f57 16)) (.sq (.cd (.t 45) .sk (.fg ⟨[(0, some (.sl Qad)), (1, some (.sl tI))], []⟩ (.ex 3))) (.sq (.bk 4 (.sq (.reg (rT Tryz.f57 17)) (.sq (.reg (rT Tryz.f57 18)) (.cd (.t 49) (.sq (.reg (rT Tryz.f57 19)) (.fg ⟨[(10, some tI)], []⟩ .rt)) .sk)))) (.reg (rT Tryz.f57 20)))))
noncomputable def QDe : TC := (.sq (.reg (rT Tryz.f57 0)) (.sq (.bk 0 (.sq (.reg (rT Tryz.f57 1)) (.cd (.t 15) (.sq (.reg (rT Tryz.f57 2)) .rt) (.sq (.reg (rT Tryz.f57 3)) (.cd (.t 19) (.sq (.reg (rT Tryz.f57 4)) .rt) (.sq (.reg (rT Tryz.f57 5)) (.cd (.t 23) (.sq (.reg (rT Tryz.f57 6)) .rt) (.sq (.reg (rT Tryz.f57 7)) (.cd (.t 26) (.sq (.reg (rT Tryz.f57 8)) .rt) .sk))))))))) (.sq (.sq (.reg (rT Tryz.f57 9)) (.bk 1 (.lp 0 Qj7 QlX))) (.sq (.sq (.reg (rT Tryz.f57 15)) (.bk 3 (.lp 1 Qvl Qy1))) (.sq (.sq (.reg (rT Tryz.f57 21)) (.cd (.t 62) (.sq (.reg (rT Tryz.f57 22)) .rt) .sk)) (.sq (.reg (rT Tryz.f57 23)) .rt))))))
def QPK : List (RV × Option Ty) := [((.t 10), some tI)]
abbrev QrD : Sh := ⟨[(0, .ty (.sl Qad)), (1, .ty (.sl tI)), (7, .ptr 7 0), (8, .ptr 8 0), (34, .ty Qai), (35, .ty tI)], [(7, .box (.sl tI)), (8, .box tI)]⟩
def Qrk (x0 : List Qaa) (x1 : List Int) (x34 : Keep) (x35 : Int) (y7 : List Int) (y8 : Int) : VS := QrD.st (x0, x1, (), (), x34, x35, ()) (y7, y8, ())
abbrev QtI : Sh := ⟨[(10, .ty tI)], []⟩
def QdE (x10 : Int) : VS := QtI.st (x10, ()) ()
abbrev Qxc : Sh := ⟨[(0, .ty (.sl Qad)), (1, .ty (.sl tI))], []⟩
def QeZ (x0 : List Qaa) (x1 : List Int) : VS := Qxc.st (x0, x1, ()) ()
abbrev QEY : Sh := ⟨[(0, .ty (.sl Qad)), (1, .ty (.sl tI)), (43, .ty (.pr tI (.pr tI (.pr tI .nil)))), (44, .ty tI)], []⟩
def QDI (x0 : List Qaa) (x1 : List Int) (x43 : (Int × (Int × (Int × Unit)))) (x44 : Int) : VS := QEY.st (x0, x1, x43, x44, ()) ()
abbrev QBK : Sh := ⟨[(10, .ty tI)], []⟩
def Qg4 (x10 : Int) : VS := QBK.st (x10, ()) ()
abbrev QEX : Sh := ⟨[(0, .ty (.sl Qad)), (1, .ty (.sl tI))], []⟩
def QiO (x0 : List Qaa) (x1 : List Int) : VS := QEX.st (x0, x1, ()) ()
def QWe : VS → Option (Bool × List (Bool × Exit × VS)) := mkL QrD (fun x y => (x.2.2.2.2.1 == ((13, (7, ())) : Keep) && decide (0 ≤ x.2.2.2.2.2.1 ∧ x.2.2.2.2.2.1 ≤ 2) && QcZ x.1 y.1 y.2.1 0)) (fun x y => [(((heldZ x.1 y.1 y.2.1 x.2.2.2.2.2.1.toNat).isSome), .ret, QdE ((heldZ x.1 y.1 y.2.1 x.2.2.2.2.2.1.toNat).getD 0)), (true, .exit 1, QeZ (x.1) (x.2.1))])
def L_f95 : VS → Option (Bool × List (Bool × Exit × VS)) := mkL QEY (fun x y => (x.2.2.1 == ((11, (15, (10, ()))) : Trip) && decide (0 ≤ x.2.2.2.1 ∧ x.2.2.2.1 ≤ 3) && QaZ x.1)) (fun x y => [(((failZ x.1 x.2.2.2.1.toNat).isSome), .ret, Qg4 ((failZ x.1 x.2.2.2.1.toNat).getD 0)), (true, .exit 3, QiO (x.1) (x.2.1))])
def g_f57 : G := ⟨TYs, [], 63, EL [(94, Qtr), (94, Qts), (97, QO0), (100, QEN), (101, Qkz), (1002562, Qf1), (1002594, Qf0)], keeps, (Ls [QWe, L_f95]), IL [], RL []⟩
def QKY (x0 : List Qaa) (x1 : List Int) (x34 : Keep) (x35 : Int) (y7 : List Int) (y8 : Int) : Option (Exit × VS) :=
 let a1 := Qbs tI 2 x34 x35
 br (ilt x35 2) (br (arrOk tI 2 x34 x35) (br (QcZ x0 y7 y8 a1) (br (Qcy x0 y7 y8 a1) (some (.ret, QdE a1)) (some (.normal, Qrk x0 x1 x34 (iadd .i64 x35 1) y7 y8))) none) none) (some (.exit 1, QeZ x0 x1))
noncomputable def Qhm (x0 : List Qaa) (x1 : List Int) (x34 : Keep) (x35 : Int) (y7 : List Int) (y8 : Int) : Option (Exit × VS) := loopF (Qak g_f57 Qj7 QlX) (Qrk x0 x1 x34 x35 y7 y8)
noncomputable def Qsx (x0 : List Qaa) (x1 : List Int) (x34 : Keep) (x35 : Int) (y7 : List Int) (y8 : Int) : Option (Exit × VS) :=
 let a1 := Qbs tI 2 x34 x35
 br (ilt x35 2) (br (arrOk tI 2 x34 x35) (br (QcZ x0 y7 y8 a1) (br (Qcy x0 y7 y8 a1) (some (.ret, QdE a1)) (Qhm x0 x1 x34 (iadd .i64 x35 1) y7 y8)) none) none) (some (.exit 1, QeZ x0 x1))
def Qhr (x0 : List Qaa) (x1 : List Int) (x34 : Keep) (x35 : Int) (y7 : List Int) (y8 : Int) : Option (Exit × VS) :=
 let a1 := heldZ x0 y7 y8 x35.toNat
 br (a1.isSome) (some (.ret, QdE (a1.getD 0))) <| some (.exit 1, QeZ (x0) (x1))
theorem QOa (x0 : List Qaa) (x1 : List Int) (x34 : Keep) (x35 : Int) (y7 : List Int) (y8 : Int) : Qak g_f57 Qj7 QlX (Qrk x0 x1 x34 x35 y7 y8) = QKY x0 x1 x34 x35 y7 y8 := by kernel_rfl
theorem QsP (x0 : List Qaa) (x1 : List Int) (x34 : Keep) (x35 : Int) (y7 : List Int) (y8 : Int) : Qhm x0 x1 x34 x35 y7 y8 = Qsx x0 x1 x34 x35 y7 y8 := (Qan _ _).trans (by
 rw [QOa]
 simp only [QKY, Qsx, Qax, nxt_n, nxt_r, nxt_e, nxt_0]
 rfl)
def b_f95 (x0 : List Qaa) (x1 : List Int) (x43 : (Int × (Int × (Int × Unit)))) (x44 : Int) : Option (Exit × VS) :=
 let a1 := Qbs tI 3 x43 x44
 br (ilt x44 3) (br (arrOk tI 3 x43 x44) (br (QpP x0 a1) (br (Qcm x0 a1) (some (.ret, Qg4 a1)) (some (.normal, QDI x0 x1 x43 (iadd .i64 x44 1)))) none) none) (some (.exit 3, QiO x0 x1))
noncomputable def Qpg (x0 : List Qaa) (x1 : List Int) (x43 : (Int × (Int × (Int × Unit)))) (x44 : Int) : Option (Exit × VS) := loopF (Qak g_f57 Qvl Qy1) (QDI x0 x1 x43 x44)
noncomputable def n_f95 (x0 : List Qaa) (x1 : List Int) (x43 : (Int × (Int × (Int × Unit)))) (x44 : Int) : Option (Exit × VS) :=
 let a1 := Qbs tI 3 x43 x44
 br (ilt x44 3) (br (arrOk tI 3 x43 x44) (br (QpP x0 a1) (br (Qcm x0 a1) (some (.ret, Qg4 a1)) (Qpg x0 x1 x43 (iadd .i64 x44 1))) none) none) (some (.exit 3, QiO x0 x1))
def Qld (x0 : List Qaa) (x1 : List Int) (x43 : (Int × (Int × (Int × Unit)))) (x44 : Int) : Option (Exit × VS) := br ((failZ x0 x44.toNat).isSome) (some (.ret, Qg4 ((failZ x0 x44.toNat).getD 0))) <| some (.exit 3, QiO (x0) (x1))
theorem be_f95 (x0 : List Qaa) (x1 : List Int) (x43 : (Int × (Int × (Int × Unit)))) (x44 : Int) : Qak g_f57 Qvl Qy1 (QDI x0 x1 x43 x44) = b_f95 x0 x1 x43 x44 := by kernel_rfl
theorem Qzx (x0 : List Qaa) (x1 : List Int) (x43 : (Int × (Int × (Int × Unit)))) (x44 : Int) : Qpg x0 x1 x43 x44 = n_f95 x0 x1 x43 x44 := (Qan _ _).trans (by
 rw [be_f95]
 simp only [b_f95, n_f95, Qax, nxt_n, nxt_r, nxt_e, nxt_0]
 rfl)
def r_f57 (p0 : List Qaa) (p1 p2 : List Int) (p3 : Int) (p4 : ByteArray) : Option (V × List VO) :=
 let a1 := ((((((((((((((lgt Qad (p0) (Int.toNat (isub .i64 (llen (p0)) 1))).2).2).2).2).2).2).2).2).2).2).2).1).1)
 let a2 := ((((((((((((lgt Qad p0 (Int.toNat 0)).2).2).2).2).2).2).2).2).2).2).1)
 let a3 := (heldZ p0 p2 p3 (0 : Int).toNat)
 let a4 := (failZ (p0) (0 : Int).toNat)
 br (ieq (llen p0) 0) (some (.t tI 4, [])) (br (igt (llen p0) 8) (some (.t tI 3, [])) (br (okBad p0) (br (Qqh p0) (some (.t tI 9, [])) (br (cIx p0 0) (br (QjX a2 p4) (br (!(hasS a2 p4)) (some (.t tI 14, [])) (br ((13, (7, ())) == ((13, (7, ())) : Keep) && decide (0 ≤ (0 : Int) ∧ (0 : Int) ≤ 2) && QcZ p0 p2 p3 0) (br (a3.isSome) (some (.t tI (a3.getD 0), [])) (br ((11, (15, (10, ()))) == ((11, (15, (10, ()))) : Trip) && decide (0 ≤ (0 : Int) ∧ (0 : Int) ≤ 3) && QaZ (p0)) (br (a4.isSome) (some (.t tI (a4.getD 0), [])) (br (cIx (p0) (isub .i64 (llen (p0)) 1)) (br (QaY (p1) a1) (br (!(hasF (p1) a1)) (some (.t tI 12, [])) (some (.t tI 0, []))) none) none)) none)) none)) none) none)) none))
theorem e_f57 (p0 : List Qaa) (p1 p2 : List Int) (p3 : Int) (p4 : ByteArray) : runF g_f57 QDe QPK false [.t (.sl Qad) p0, .t (.sl tI) p1, .t (.sl tI) p2, .t tI p3, .t .str p4] [] = r_f57 p0 p1 p2 p3 p4 := by kernel_rfl
theorem en_f57 : Qah Tryz.prog 57 := .inr ⟨by decide, _, Tryz.func57, by kernel_rfl, by kernel_rfl⟩
theorem gk_f57 : GOk Tryz.prog g_f57 := Qal _ (gA (gC QJk QHE (gC QJl QHF (gC en_f97 ms_f97 (gC QVV QSe (gC Qp2 Qpd (gC QpX Qo8 (gC QpW Qo7 gN))))))))
theorem QTD (x0 : List Qaa) (x1 : List Int) (x34 : Keep) (x35 : Int) (y7 : List Int) (y8 : Int) (h : (x34 == ((13, (7, ())) : Keep) && decide (0 ≤ x35 ∧ x35 ≤ 2) && QcZ x0 y7 y8 0) = true) : Qhm x0 x1 x34 x35 y7 y8 = Qhr x0 x1 x34 x35 y7 y8 := by
 simp only [Bool.and_eq_true, decide_eq_true_eq, beq_iff_eq] at h
 obtain ⟨⟨rfl, h1, h2⟩, hc⟩ := h
 have hc : ∀ e, QcZ x0 y7 y8 e = true := fun e => hc
 obtain ⟨k, rfl⟩ := Int.eq_ofNat_of_zero_le h1
 have k2 : Qhm x0 x1 (13, (7, ())) ((2 : Nat) : Int) y7 y8 = Qhr x0 x1 (13, (7, ())) ((2 : Nat) : Int) y7 y8 := by
  rw [QsP]
  rfl
 have k1 : Qhm x0 x1 (13, (7, ())) ((1 : Nat) : Int) y7 y8 = Qhr x0 x1 (13, (7, ())) ((1 : Nat) : Int) y7 y8 := by
  rw [QsP]
  simp only [Qsx, hc, show ilt ((1 : Nat) : Int) 2 = true from rfl, show arrOk tI 2 ((13, (7, ())) : Keep) ((1 : Nat) : Int) = true from rfl, show Qbs tI 2 ((13, (7, ())) : Keep) ((1 : Nat) : Int) = 7 from rfl, Qac, show iadd .i64 ((1 : Nat) : Int) 1 = ((2 : Nat) : Int) from rfl, k2]
  simp only [Qhr, heldZ, Int.toNat_natCast, List.drop_succ_cons, List.drop_zero, List.drop_nil, List.find?_cons, List.find?_nil]
  cases Qcy x0 y7 y8 7 <;> rfl
 have k0 : Qhm x0 x1 (13, (7, ())) ((0 : Nat) : Int) y7 y8 = Qhr x0 x1 (13, (7, ())) ((0 : Nat) : Int) y7 y8 := by
  rw [QsP]
  simp only [Qsx, hc, show ilt ((0 : Nat) : Int) 2 = true from rfl, show arrOk tI 2 ((13, (7, ())) : Keep) ((0 : Nat) : Int) = true from rfl, show Qbs tI 2 ((13, (7, ())) : Keep) ((0 : Nat) : Int) = 13 from rfl, Qac, show iadd .i64 ((0 : Nat) : Int) 1 = ((1 : Nat) : Int) from rfl, k1]
  simp only [Qhr, heldZ, Int.toNat_natCast, List.drop_succ_cons, List.drop_zero, List.drop_nil, List.find?_cons, List.find?_nil]
  cases Qcy x0 y7 y8 13 <;> rfl
 have : k = 0 ∨ k = 1 ∨ k = 2 := by omega
 rcases this with rfl | rfl | rfl
 ·exact k0
 ·exact k1
 ·exact k2
theorem l_f95 (x0 : List Qaa) (x1 : List Int) (x43 : (Int × (Int × (Int × Unit)))) (x44 : Int) (h : (x43 == ((11, (15, (10, ()))) : Trip) && decide (0 ≤ x44 ∧ x44 ≤ 3) && QaZ x0) = true) : Qpg x0 x1 x43 x44 = Qld x0 x1 x43 x44 := by
 simp only [Bool.and_eq_true, decide_eq_true_eq, beq_iff_eq] at h
 obtain ⟨⟨rfl, h1, h2⟩, hc⟩ := h
 have hc : ∀ e, QpP x0 e = true := fun e => hc
 obtain ⟨k, rfl⟩ := Int.eq_ofNat_of_zero_le h1
 have k3 : Qpg x0 x1 (11, (15, (10, ()))) ((3 : Nat) : Int) = Qld x0 x1 (11, (15, (10, ()))) ((3 : Nat) : Int) := by
  rw [Qzx]
  rfl
 have k2 : Qpg x0 x1 (11, (15, (10, ()))) ((2 : Nat) : Int) = Qld x0 x1 (11, (15, (10, ()))) ((2 : Nat) : Int) := by
  rw [Qzx]
  simp only [n_f95, hc, show ilt ((2 : Nat) : Int) 3 = true from rfl, show arrOk tI 3 ((11, (15, (10, ()))) : Trip) ((2 : Nat) : Int) = true from rfl, show Qbs tI 3 ((11, (15, (10, ()))) : Trip) ((2 : Nat) : Int) = 10 from rfl, Qac, show iadd .i64 ((2 : Nat) : Int) 1 = ((3 : Nat) : Int) from rfl, k3]
  simp only [Qld, failZ, Int.toNat_natCast, List.drop_succ_cons, List.drop_zero, List.drop_nil, List.find?_cons, List.find?_nil]
  cases Qcm x0 10 <;> rfl
 have k1 : Qpg x0 x1 (11, (15, (10, ()))) ((1 : Nat) : Int) = Qld x0 x1 (11, (15, (10, ()))) ((1 : Nat) : Int) := by
  rw [Qzx]
  simp only [n_f95, hc, show ilt ((1 : Nat) : Int) 3 = true from rfl, show arrOk tI 3 ((11, (15, (10, ()))) : Trip) ((1 : Nat) : Int) = true from rfl, show Qbs tI 3 ((11, (15, (10, ()))) : Trip) ((1 : Nat) : Int) = 15 from rfl, Qac, show iadd .i64 ((1 : Nat) : Int) 1 = ((2 : Nat) : Int) from rfl, k2]
  simp only [Qld, failZ, Int.toNat_natCast, List.drop_succ_cons, List.drop_zero, List.drop_nil, List.find?_cons, List.find?_nil]
  cases Qcm x0 15 <;> rfl
 have k0 : Qpg x0 x1 (11, (15, (10, ()))) ((0 : Nat) : Int) = Qld x0 x1 (11, (15, (10, ()))) ((0 : Nat) : Int) := by
  rw [Qzx]
  simp only [n_f95, hc, show ilt ((0 : Nat) : Int) 3 = true from rfl, show arrOk tI 3 ((11, (15, (10, ()))) : Trip) ((0 : Nat) : Int) = true from rfl, show Qbs tI 3 ((11, (15, (10, ()))) : Trip) ((0 : Nat) : Int) = 11 from rfl, Qac, show iadd .i64 ((0 : Nat) : Int) 1 = ((1 : Nat) : Int) from rfl, k1]
  simp only [Qld, failZ, Int.toNat_natCast, List.drop_succ_cons, List.drop_zero, List.drop_nil, List.find?_cons, List.find?_nil]
  cases Qcm x0 11 <;> rfl
 have : k = 0 ∨ k = 1 ∨ k = 2 ∨ k = 3 := by omega
 rcases this with rfl | rfl | rfl | rfl
 ·exact k0
 ·exact k1
 ·exact k2
 ·exact k3
theorem QMh : ∀ S l p, g_f57.L 0 (fgt Qj7 S) = some (true, l) → pickA l = some p → loopF (Qak g_f57 Qj7 QlX) S = some p :=
 QaD (s := QrD) ⟨by decide, by decide⟩ (by kernel_rfl) fun x y hok p hp => by
 simp only [Qap, Qam] at hp
 exact (QTD x.1 x.2.1 x.2.2.2.2.1 x.2.2.2.2.2.1 y.1 y.2.1 (by simpa using hok)).trans hp
theorem lo_f95 : ∀ S l p, g_f57.L 1 (fgt Qvl S) = some (true, l) → pickA l = some p → loopF (Qak g_f57 Qvl Qy1) S = some p :=
 QaD (s := QEY) ⟨by decide, by decide⟩ (by kernel_rfl) fun x y hok p hp => by
 simp only [Qap, Qam] at hp
 exact (l_f95 x.1 x.2.1 x.2.2.1 x.2.2.2.1 (by simpa using hok)).trans hp
theorem lk_f57 : QDe.lok g_f57 := by
 repeat (first | exact trivial | exact QMh | exact lo_f95 | refine ⟨?_, ?_⟩)
theorem s_f57 (l : List Qaa) (a h : List Int) (d : Int) (n : ByteArray) (hok : Qid l a h d n = true) : r_f57 l a h d n = some (.t tI (chkCh l a h d n), []) := by
 simp only [Qid, Bool.and_eq_true, decide_eq_true_eq] at hok
 obtain ⟨hc, ha, hh⟩ := hok
 have hl := Qp7 hc
 unfold chkCh
 by_cases h0 : l.length = 0
 ·simp only [r_f57, show ieq (llen l) 0 = true from beq_iff_eq.2 (by simp only [llen]; omega), Qac, if_pos h0]
 by_cases h8 : 8 < l.length
 ·simp only [r_f57, show ieq (llen l) 0 = false from beq_eq_false_iff_ne.2 (by simp only [llen]; omega), Qaf, show igt (llen l) 8 = true from decide_eq_true (by simp only [llen]; omega), Qac, if_neg h0, if_pos h8]
 have c1 : ∀ e, QcZ l h d e = true := fun e => decide_eq_true ⟨hl, hh⟩
 have c2 : cIx l 0 = true := by simp only [cIx, decide_eq_true_eq]; omega
 have c3 : QjX (Qaz (cAt l 0)) n = true := by
  have := QHC hc (show 0 < l.length by omega)
  exact decide_eq_true (by omega)
 have c4 : isub .i64 (llen l) 1 = ((l.length - 1 : Nat) : Int) := by rw [Qch (by simp only [llen]; omega)]; simp only [llen]; omega
 have c5 : cIx l ((l.length - 1 : Nat) : Int) = true := by simp only [cIx, decide_eq_true_eq]; omega
 have c6 : ∀ v, QaY a v = true := fun v => decide_eq_true ha
 have d1 : decide ((0 : Int) ≤ 0 ∧ (0 : Int) ≤ 2) = true := rfl
 have d2 : decide ((0 : Int) ≤ 0 ∧ (0 : Int) ≤ 3) = true := rfl
 simp only [r_f57, show ieq (llen l) 0 = false from beq_eq_false_iff_ne.2 (by simp only [llen]; omega), Qaf, show igt (llen l) 8 = false from decide_eq_false (by simp only [llen]; omega), if_neg h0, if_neg h8, show okBad l = true from hc, hc, c1, c2, c4, c5, c6, d1, d2, Qac, Int.toNat_natCast, Int.toNat_zero, show lgt Qad l 0 = cAt l 0 from rfl, show lgt Qad l (l.length - 1) = lastC l from rfl, beq_self_eq_true, Bool.and_self]
 rw [show (QjX (cAt l 0).2.2.2.2.2.2.2.2.2.2.1 n) = true from c3, Qac]
 cases Qqh l with
 | true => rfl
 | false =>
  rw [Qaf, cond_false]
  cases hasS (Qaz (cAt l 0)) n with
  | false => rfl
  | true =>
   rw [Bool.not_true, Qaf, cond_false]
   simp only [heldZ, failZ, List.drop_zero, List.find?_cons, List.find?_nil]
   cases Qcy l h d 13 with
   | true => rfl
   | false =>
    rw [cond_false]
    cases Qcy l h d 7 with
    | true => rfl
    | false =>
     rw [cond_false]
     simp only [Option.isSome_none, Qaf]
     cases Qcm l 11 with
     | true => rfl
     | false =>
      rw [cond_false]
      cases Qcm l 15 with
      | true => rfl
      | false =>
       rw [cond_false]
       cases Qcm l 10 with
       | true => rfl
       | false =>
        simp only [Option.isSome_none, Qaf, cond_false]
        cases hasF a (cSeal (lastC l)).1 <;> rfl
def QO9 : Ent := spec (.pr (.sl Qad) (.pr (.sl tI) (.pr (.sl tI) (.pr tI (.pr .str .nil))))) (fun x => (Qid x.1 x.2.1 x.2.2.1 x.2.2.2.1 x.2.2.2.2.1)) (fun x => (.t tI (chkCh x.1 x.2.1 x.2.2.1 x.2.2.2.1 x.2.2.2.2.1)))
theorem ms_f57 : Meets Tryz.prog 57 (strip QO9) := Qag (R := runF g_f57 QDe QPK false) (mG Tryz.func57 (by kernel_rfl) Tryz.ntmps57 (by kernel_rfl) gk_f57 lk_f57) fun x hok => (e_f57 x.1 x.2.1 x.2.2.1 x.2.2.2.1 x.2.2.2.2.1).trans (s_f57 x.1 x.2.1 x.2.2.1 x.2.2.2.1 x.2.2.2.2.1 hok)
end
end Go.Proofs.YtckcgijklnloiaaGreat.K
