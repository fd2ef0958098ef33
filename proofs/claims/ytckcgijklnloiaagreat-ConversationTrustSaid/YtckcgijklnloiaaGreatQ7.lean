import Derived.Test.YtckcgijklnloiaaGreatQ6
import Derived.Test.YtckcgijklnloiaaGreatQ3
import Derived.Shelf.Small.Strs
import Derived.Ground.NamesProg
set_option linter.unusedSimpArgs false
set_option linter.unusedVariables false
namespace Go.Proofs
open Go.Shelf
def Tryz.lays137_ren : Go.Shelf.Ren := ⟨fun | 137 => 179 | 217 => 208 | 266 => 229 | n => n, fun | 9 => 9 | 5 => 5 | 3 => 3 | n => n, fun | n => n⟩
theorem Tryz.lays137 : Go.Proofs.Lays.n137 Tryz.prog Tryz.lays137_ren := {
 mixed := by kernel_rfl
 f137 := Tryz.func179.trans (congrArg some (by kernel_rfl))
 f217 := Tryz.func208.trans (congrArg some (by kernel_rfl))
 f266 := Tryz.func229.trans (congrArg some (by kernel_rfl))
 t3 := Tryz.underlying3
 a3 := Tryz.isAgg3
 z3 := Tryz.sizeOf3
 v3 := Tryz.zeroValue3
 t5 := Tryz.underlying5
 a5 := Tryz.isAgg5
 z5 := Tryz.sizeOf5
 v5 := Tryz.zeroValue5
 t9 := Tryz.underlying9
 a9 := Tryz.isAgg9
 z9 := Tryz.sizeOf9
 v9 := Tryz.zeroValue9 }
end Go.Proofs
namespace Go.Proofs.YtckcgijklnloiaaGreat.K
open Go.RowKit Go.Shelf
noncomputable section
def ixB (s : ByteArray) (c : Int) : Int := Lib.indexByte s.data.toList c.toNat.toUInt8
def QFD : Ent := spec (.pr .str (.pr (.int .u8) .nil)) (fun x => true) (fun x => (.t tI (ixB x.1 x.2.1)))
theorem QXA : Qai Tryz.prog 179 := .inr ⟨by decide, _, Tryz.func179, by kernel_rfl, by kernel_rfl⟩
theorem QTO : Meets Tryz.prog 179 (strip QFD) := Qy0 fun x hok X w σ vs hfin hc => by
 obtain ⟨s, c, u⟩ := x
 simp only [Ty.canon, V.ds, V.d, Ty.d, Cs, C] at hc
 obtain ⟨v1, r1, rfl, ⟨rfl, _⟩, v2, r2, rfl, ⟨rfl, _⟩, rfl⟩ := hc
 refine (Any.strings_IndexByte Tryz.lays137 s c w).mono ?_
 rintro e w' ⟨rfl, rfl⟩
 refine ⟨_, rfl, ?_, Below.refl _ _⟩
 simp only [V.d, Ty.d, C]
 exact ⟨rfl, rfl⟩
def Qiq (c : Int) (o : ByteArray) : Bool := (ige c 97 && ile c 122) || ((ige c 65 && ile c 90) || ((ige c 48 && ile c 57) || ige (ixB o c) 0))
noncomputable def Qxs : TC := (.sq (.reg (rT Tryz.f154 0)) (.sq (.reg (rT Tryz.f154 1)) .rt))
def QHa : List (RV × Option Ty) := [((.t 4), some .bool)]
def QBu : G := ⟨TYs, [], 33, EL [(179, QFD)], keeps, (fun _ _ => none), IL [], RL []⟩
def Qtj (p0 : Int) (p1 : ByteArray) : Option (V × List VO) := br (ige p0 48) (br (ile p0 57) (some (.t .bool true, [])) (some (.t .bool (ige (ixB p1 p0) 0), []))) (some (.t .bool (ige (ixB p1 p0) 0), []))
def Qtk (p0 : Int) (p1 : ByteArray) : Option (V × List VO) := br (ige p0 65) (br (ile p0 90) (some (.t .bool true, [])) (Qtj p0 p1)) (Qtj p0 p1)
def QIq (p0 : Int) (p1 : ByteArray) : Option (V × List VO) := br (ige p0 97) (br (ile p0 122) (some (.t .bool true, [])) (Qtk p0 p1)) (Qtk p0 p1)
theorem e_f154 (p0 : Int) (p1 : ByteArray) : runF QBu Qxs QHa false [.t (.int .u8) p0, .t .str p1] [] = QIq p0 p1 := by kernel_rfl
theorem QXL : Qai Tryz.prog 154 := .inr ⟨by decide, _, Tryz.func154, by kernel_rfl, by kernel_rfl⟩
theorem QWM : GOk Tryz.prog QBu := Qal _ (gA (gC QXA QTO gN))
theorem QVa : Qxs.lok QBu := by repeat (first | exact trivial | refine ⟨?_, ?_⟩)
theorem brO {a b r : Bool} {X : Option (V × List VO)} (h : X = some (.t .bool r, [])) : br a (br b (some (.t .bool true, [])) X) X = some (.t .bool ((a && b) || r), []) := by
 subst h
 cases a <;> cases b <;> rfl
theorem s_f154 (c : Int) (o : ByteArray) : QIq c o = some (.t .bool (Qiq c o), []) := by
 simp only [QIq, Qtk, Qtj]
 exact brO (brO (brO rfl))
def QFO : Ent := spec (.pr (.int .u8) (.pr .str .nil)) (fun x => true) (fun x => (.t .bool (Qiq x.1 x.2.1)))
theorem QTZ : Meets Tryz.prog 154 (strip QFO) := Qag (R := runF QBu Qxs QHa false) (mG Tryz.func154 (by kernel_rfl) Tryz.ntmps154 (by kernel_rfl) QWM QVa) fun x _ => (e_f154 x.1 x.2.1).trans (s_f154 x.1 x.2.1)
def wordC (c : Int) : Bool := !(ilt c 97 || igt c 122) || (!(ilt c 65 || igt c 90) || (!(ilt c 48 || igt c 57) || (ieq c 45 || (ieq c 95 || ieq c 46))))
def wordF (s : ByteArray) : Bool := (QaI s).all wordC && decide (1 ≤ s.size ∧ s.size ≤ 32)
set_option maxRecDepth 100000 in
theorem QVE : ((List.range 256).all fun n => Qiq (n : Int) (ByteArray.mk #[45, 95, 46]) == wordC (n : Int)) = true := by kernel_rfl
theorem QOf {s : ByteArray} {c : Int} (h : c ∈ QaI s) : Qiq c (ByteArray.mk #[45, 95, 46]) = wordC c := by
 obtain ⟨b, _, rfl⟩ := List.mem_map.1 h
 have := List.all_eq_true.1 QVE b.toNat (by rw [List.mem_range]; exact b.toNat_lt)
 exact eq_of_beq this
def Qhd : Fg := ⟨[(0, some .str), (6, some (.sl (.int .u8))), (7, some tI), (8, some tI)], []⟩
noncomputable def Qi0 : TC := (.sq (.reg (rT Tryz.f114 2)) (.sq (.cd (.t 9) .sk (.fg ⟨[(0, some .str)], []⟩ (.ex 0))) (.sq (.bk 1 (.sq (.reg (rT Tryz.f114 3)) (.sq (.reg (rT Tryz.f114 4)) (.cd (.t 14) (.sq (.reg (rT Tryz.f114 5)) (.fg ⟨[(2, some .bool)], []⟩ .rt)) .sk)))) (.reg (rT Tryz.f114 6)))))
noncomputable def QxQ : TC := (.sq (.reg (rT Tryz.f114 0)) (.sq (.sq (.reg (rT Tryz.f114 1)) (.bk 0 (.lp 0 Qhd Qi0))) (.sq (.reg (rT Tryz.f114 7)) .rt)))
def QHy : List (RV × Option Ty) := [((.t 2), some .bool)]
abbrev Qpm : Sh := ⟨[(0, .ty .str), (6, .ty (.sl (.int .u8))), (7, .ty tI), (8, .ty tI)], []⟩
def Qox (x0 : ByteArray) (x6 : List Int) (x7 x8 : Int) : VS := Qpm.st (x0, x6, x7, x8, ()) ()
abbrev QsV : Sh := ⟨[(2, .ty .bool)], []⟩
def Qdg (x2 : Bool) : VS := QsV.st (x2, ()) ()
abbrev Qvg : Sh := ⟨[(0, .ty .str)], []⟩
def Qee (x0 : ByteArray) : VS := Qvg.st (x0, ()) ()
def QQO : VS → Option (Bool × List (Bool × Exit × VS)) := mkL Qpm (fun x y => (rngG x.2.1 x.2.2.1 x.2.2.2.1 && samB x.2.1 (QaI x.1))) (fun x y => [((!((x.2.1.drop x.2.2.2.1.toNat).all wordC)), .ret, Qdg (false)), (true, .exit 0, Qee (x.1))])
def Ql4 : G := ⟨TYs, [], 24, EL [(154, QFO), (30120144, Qa5)], keeps, (Ls [QQO]), IL [], RL []⟩
def QCF (x0 : ByteArray) (x6 : List Int) (x7 x8 : Int) : Option (Exit × VS) := br (ilt x8 x7) (br (cIx x6 x8) (br (!(Qiq (lgt (.int .u8) x6 (Int.toNat x8)) (ByteArray.mk #[45, 95, 46]))) (some (.ret, Qdg false)) (some (.normal, Qox x0 x6 x7 (iadd .i64 x8 1)))) none) (some (.exit 0, Qee x0))
noncomputable def QjK (x0 : ByteArray) (x6 : List Int) (x7 x8 : Int) : Option (Exit × VS) := loopF (Qaj Ql4 Qhd Qi0) (Qox x0 x6 x7 x8)
noncomputable def Qnf (x0 : ByteArray) (x6 : List Int) (x7 x8 : Int) : Option (Exit × VS) := br (ilt x8 x7) (br (cIx x6 x8) (br (!(Qiq (lgt (.int .u8) x6 (Int.toNat x8)) (ByteArray.mk #[45, 95, 46]))) (some (.ret, Qdg false)) (QjK x0 x6 x7 (iadd .i64 x8 1))) none) (some (.exit 0, Qee x0))
def Qkb (x0 : ByteArray) (x6 : List Int) (x7 x8 : Int) : Option (Exit × VS) := br (!((x6.drop x8.toNat).all wordC)) (some (.ret, Qdg (false))) <| some (.exit 0, Qee (x0))
theorem QMs (x0 : ByteArray) (x6 : List Int) (x7 x8 : Int) : Qaj Ql4 Qhd Qi0 (Qox x0 x6 x7 x8) = QCF x0 x6 x7 x8 := by kernel_rfl
theorem Qwc (x0 : ByteArray) (x6 : List Int) (x7 x8 : Int) : QjK x0 x6 x7 x8 = Qnf x0 x6 x7 x8 := (Qao _ _).trans (by
 rw [QMs]
 simp only [QCF, Qnf, QaA, nxt_n, nxt_r, nxt_e, nxt_0]
 rfl)
def QIH (p0 : ByteArray) : Option (V × List VO) := br (Qbe p0) (br (rngG (QaI p0) (llen (QaI p0)) (0 : Int) && samB (QaI p0) (QaI p0)) (br (!(((QaI p0).drop (0 : Int).toNat).all wordC)) (some (.t .bool (false), [])) (br (ige (slen (p0)) 1) (some (.t .bool (ile (slen (p0)) 32), [])) (some (.t .bool false, [])))) none) none
theorem e_f114 (p0 : ByteArray) : runF Ql4 QxQ QHy false [.t .str p0] [] = QIH p0 := by kernel_rfl
theorem QX3 : Qai Tryz.prog 114 := .inr ⟨by decide, _, Tryz.func114, by kernel_rfl, by kernel_rfl⟩
theorem QXa : GOk Tryz.prog Ql4 := Qal _ (gA (gC QXL QTZ (gC Qbs Qbr gN)))
theorem QOK (x0 : ByteArray) (x6 : List Int) (x7 x8 : Int) (h : (rngG x6 x7 x8 && samB x6 (QaI x0)) = true) : QjK x0 x6 x7 x8 = Qkb x0 x6 x7 x8 := by
 simp only [Bool.and_eq_true] at h
 obtain ⟨h, hs⟩ := h
 have hs := Qyv hs
 obtain ⟨rfl, h3, k, rfl, hk⟩ := QHG h
 clear h
 refine Qau x6 (fun k => QjK x0 x6 (x6.length : Int) (k : Int) = Qkb x0 x6 (x6.length : Int) (k : Int)) ?_ ?_ k hk
 ·rw [Qwc]
  simp [Qnf, Qkb, Qat, Qaf]
 ·intro k hk ih
  rw [Qwc]
  have hw : Qiq x6[k] (ByteArray.mk #[45, 95, 46]) = wordC x6[k] := QOf (s := x0) (by rw [← hs]; exact List.getElem_mem hk)
  simp only [Qnf, Qat, Qax, hk, decide_true, Qad, Int.toNat_natCast, add1G (show k < 9223372036854775807 by omega), Qaz (y := .int .u8) hk, ih, hw]
  simp only [Qkb, Int.toNat_natCast, List.drop_eq_getElem_cons hk, List.all_cons]
  cases wordC x6[k] <;> rfl
theorem QJ1 : ∀ S l p, Ql4.L 0 (fgt Qhd S) = some (true, l) → pickA l = some p → loopF (Qaj Ql4 Qhd Qi0) S = some p :=
 QaB (s := Qpm) ⟨by decide, by decide⟩ (by kernel_rfl) fun x y hok p hp => by
 simp only [Qas, Qan] at hp
 exact (QOK x.1 x.2.1 x.2.2.1 x.2.2.2.1 (by simpa using hok)).trans hp
theorem QVy : QxQ.lok Ql4 := by
 repeat (first | exact trivial | exact QJ1 | refine ⟨?_, ?_⟩)
theorem s_f114 (s : ByteArray) (h : nameG s = true) : QIH s = some (.t .bool (wordF s), []) := by
 simp only [nameG, decide_eq_true_eq] at h
 have hl := Qdm s
 simp only [QIH, show Qbe s = true from decide_eq_true (by omega), QHH (show (QaI s).length ≤ 9223372036854775807 by omega), Qpq, Bool.and_self, Qad, Int.toNat_zero, List.drop_zero, wordF]
 cases (QaI s).all wordC with
 | false => rfl
 | true =>
  simp only [Bool.not_true, Qaf, Bool.true_and]
  refine QaE (fun g => ?_) (fun g => ?_)
  ·simp only [ige, slen, decide_eq_true_eq] at g
   apply QuE
   rw [Bool.eq_iff_iff]
   simp only [ile, slen, decide_eq_true_eq]
   omega
  ·simp only [ige, slen, decide_eq_false_iff_not] at g
   apply QuE
   rw [eq_comm, decide_eq_false_iff_not]
   omega
def QF7 : Ent := spec (.pr .str .nil) (fun x => (nameG x.1)) (fun x => (.t .bool (wordF x.1)))
theorem QUh : Meets Tryz.prog 114 (strip QF7) := Qag (R := runF Ql4 QxQ QHy false) (mG Tryz.func114 (by kernel_rfl) Tryz.ntmps114 (by kernel_rfl) QXa QVy) fun x hok => (e_f114 x.1).trans (s_f114 x.1 hok)
def Qbq {α : Type} (l : List α) : Bool := decide (l.length ≤ 100000)
def ascUp (l : List Int) (k : Nat) : Bool := (List.range' k (l.length - k)).all fun j => decide (j = 0) || ilt (l.getD (j - 1) 0) (l.getD j 0)
def ascF (l : List Int) : Bool := ascUp l 0
theorem QMR (l : List Int) : ascUp l l.length = true := by
 unfold ascUp
 rw [Nat.sub_self]
 rfl
theorem QDW {l : List Int} {k : Nat} (hk : k < l.length) : ascUp l k = ((decide (k = 0) || ilt (l.getD (k - 1) 0) l[k]) && ascUp l (k + 1)) := by
 have : l.length - k = (l.length - (k + 1)) + 1 := by omega
 unfold ascUp
 rw [this, List.range'_succ, List.all_cons]
 simp only [List.getD_eq_getElem?_getD, List.getElem?_eq_getElem hk, Option.getD_some]
theorem asc_br {β : Type} {l : List Int} {k : Nat} (hk : k < l.length) (hb : k < 4611686018427387904) (bad ok : Option β) :
  br (igt (k : Int) 0) (br (cIx l (isub .i64 (k : Int) 1)) (br (ige (lgt tI l (Int.toNat (isub .i64 (k : Int) 1))) l[k]) bad ok) none) ok = br (decide (k = 0) || ilt (l.getD (k - 1) 0) l[k]) ok bad := by
 by_cases h0 : k = 0
 ·subst h0
  rw [show igt ((0 : Nat) : Int) 0 = false from rfl, Qaf, decide_eq_true rfl, Bool.true_or, Qad]
 ·have e : isub .i64 (k : Int) 1 = ((k - 1 : Nat) : Int) := by rw [Qco (by omega)]; omega
  rw [show igt (k : Int) 0 = true from decide_eq_true (by omega), Qad, e, Int.toNat_natCast, Qax, decide_eq_true (show k - 1 < l.length by omega), Qad, decide_eq_false h0, Bool.false_or, QtV]
  show br (!ilt (l.getD (k - 1) 0) l[k]) bad ok = _
  cases ilt (l.getD (k - 1) 0) l[k] <;> rfl
noncomputable def QLz : List DO := dT Tryz.f116 4
def Qhb : Fg := ⟨[(0, some (.sl tI)), (5, some tI), (6, some tI)], []⟩
noncomputable def QiY : TC := (.sq (.reg (rT Tryz.f116 2)) (.sq (.cd (.t 7) .sk (.fg ⟨[], []⟩ (.ex 0))) (.sq (.bk 1 (.sq (.reg (rT Tryz.f116 3)) (.sq (.dr QLz [(0, []), (1, []), (2, []), (3, []), (4, []), (5, []), (6, []), (7, []), (8, []), (9, []), (10, []), (11, []), (12, []), (13, [])] (.of [0, 1, 2, 3, 4, 5, 6, 7, 8, 9, 10, 11, 12, 13])) (.cd (.t 22) (.sq (.reg (rT Tryz.f116 5)) (.fg ⟨[(2, some .bool)], []⟩ .rt)) .sk)))) (.reg (rT Tryz.f116 6)))))
noncomputable def QxO : TC := (.sq (.reg (rT Tryz.f116 0)) (.sq (.sq (.reg (rT Tryz.f116 1)) (.bk 0 (.lp 0 Qhb QiY))) (.sq (.reg (rT Tryz.f116 7)) .rt)))
def QHw : List (RV × Option Ty) := [((.t 2), some .bool)]
abbrev Qpk : Sh := ⟨[(0, .ty (.sl tI)), (5, .ty tI), (6, .ty tI)], []⟩
def Qi7 (x0 : List Int) (x5 x6 : Int) : VS := Qpk.st (x0, x5, x6, ()) ()
abbrev QsT : Sh := ⟨[(2, .ty .bool)], []⟩
def Qdf (x2 : Bool) : VS := QsT.st (x2, ()) ()
abbrev Qve : Sh := ⟨[], []⟩
def Qec  : VS := Qve.st () ()
def QQM : VS → Option (Bool × List (Bool × Exit × VS)) := mkL Qpk (fun x y => (rngOk x.1 x.2.1 x.2.2.1)) (fun x y => [((!ascUp x.1 x.2.2.1.toNat), .ret, Qdf (false)), (true, .exit 0, Qec)])
def Ql2 : G := ⟨TYs, [], 24, EL [], keeps, (Ls [QQM]), IL [], RL []⟩
def QCD (x0 : List Int) (x5 x6 : Int) : Option (Exit × VS) := br (ilt x6 x5) (br (igt x6 0) (br (cIx x0 (isub .i64 x6 1)) (br (cIx x0 x6) (br (ige (lgt tI x0 (Int.toNat (isub .i64 x6 1))) (lgt tI x0 (Int.toNat x6))) (some (.ret, Qdf false)) (some (.normal, Qi7 x0 x5 (iadd .i64 x6 1)))) none) none) (some (.normal, Qi7 x0 x5 (iadd .i64 x6 1)))) (some (.exit 0, Qec))
noncomputable def QgG (x0 : List Int) (x5 x6 : Int) : Option (Exit × VS) := loopF (Qaj Ql2 Qhb QiY) (Qi7 x0 x5 x6)
noncomputable def Qnd (x0 : List Int) (x5 x6 : Int) : Option (Exit × VS) := br (ilt x6 x5) (br (igt x6 0) (br (cIx x0 (isub .i64 x6 1)) (br (cIx x0 x6) (br (ige (lgt tI x0 (Int.toNat (isub .i64 x6 1))) (lgt tI x0 (Int.toNat x6))) (some (.ret, Qdf false)) (QgG x0 x5 (iadd .i64 x6 1))) none) none) (QgG x0 x5 (iadd .i64 x6 1))) (some (.exit 0, Qec))
def Qj9 (x0 : List Int) (x5 x6 : Int) : Option (Exit × VS) := br (!ascUp x0 x6.toNat) (some (.ret, Qdf (false))) <| some (.exit 0, Qec)
theorem QMq (x0 : List Int) (x5 x6 : Int) : Qaj Ql2 Qhb QiY (Qi7 x0 x5 x6) = QCD x0 x5 x6 := by kernel_rfl
theorem Qwa (x0 : List Int) (x5 x6 : Int) : QgG x0 x5 x6 = Qnd x0 x5 x6 := (Qao _ _).trans (by
 rw [QMq]
 simp only [QCD, Qnd, QaA, nxt_n, nxt_r, nxt_e, nxt_0]
 rfl)
def QIF (p0 : List Int) : Option (V × List VO) := br (rngOk p0 (llen p0) (0 : Int)) (br (!ascUp p0 (0 : Int).toNat) (some (.t .bool (false), [])) (some (.t .bool true, []))) none
theorem e_f116 (p0 : List Int) : runF Ql2 QxO QHw false [.t (.sl tI) p0] [] = QIF p0 := by kernel_rfl
theorem QX1 : Qai Tryz.prog 116 := .inr ⟨by decide, _, Tryz.func116, by kernel_rfl, by kernel_rfl⟩
theorem QW8 : GOk Tryz.prog Ql2 := Qal _ (fun p hp => by cases hp)
theorem QOI (x0 : List Int) (x5 x6 : Int) (h : (rngOk x0 x5 x6) = true) : QgG x0 x5 x6 = Qj9 x0 x5 x6 := by
 obtain ⟨rfl, h3, k, rfl, hk⟩ := rng_k h
 clear h
 refine Qau x0 (fun k => QgG x0 (x0.length : Int) (k : Int) = Qj9 x0 (x0.length : Int) (k : Int)) ?_ ?_ k hk
 ·rw [Qwa]
  simp only [Qnd, Qj9, Qat, Nat.lt_irrefl, decide_false, Qaf, Int.toNat_natCast, QMR, Bool.not_true]
 ·intro k hk ih
  rw [Qwa]
  simp only [Qnd, Qat, Qax, hk, decide_true, Qad, Int.toNat_natCast, add1 (show k < 4611686018427387904 by omega), Qaz (y := tI) hk, ih, asc_br hk (show k < 4611686018427387904 by omega)]
  simp only [Qj9, Int.toNat_natCast, QDW hk]
  cases decide (k = 0) || ilt (x0.getD (k - 1) 0) x0[k] <;> rfl
theorem QJZ : ∀ S l p, Ql2.L 0 (fgt Qhb S) = some (true, l) → pickA l = some p → loopF (Qaj Ql2 Qhb QiY) S = some p :=
 QaB (s := Qpk) ⟨by decide, by decide⟩ (by kernel_rfl) fun x y hok p hp => by
 simp only [Qas, Qan] at hp
 exact (QOI x.1 x.2.1 x.2.2.1 (by simpa using hok)).trans hp
theorem QVw : QxO.lok Ql2 := by
 repeat (first | exact trivial | exact QJZ | refine ⟨?_, ?_⟩)
theorem s_f116 (l : List Int) (h : Qbq l = true) : QIF l = some (.t .bool (ascF l), []) := by
 simp only [Qbq, decide_eq_true_eq] at h
 simp only [QIF, rng_0 h, Qad, Int.toNat_zero]
 unfold ascF
 cases ascUp l 0 <;> rfl
def QF5 : Ent := spec (.pr (.sl tI) .nil) (fun x => (Qbq x.1)) (fun x => (.t .bool (ascF x.1)))
theorem QUf : Meets Tryz.prog 116 (strip QF5) := Qag (R := runF Ql2 QxO QHw false) (mG Tryz.func116 (by kernel_rfl) Tryz.ntmps116 (by kernel_rfl) QW8 QVw) fun x hok => (e_f116 x.1).trans (s_f116 x.1 hok)
def hashF (a : Int) : Bool := ieq (kindF a) 1
noncomputable def QxL : TC := (.sq (.reg (rT Tryz.f122 0)) (.sq (.reg (rT Tryz.f122 1)) .rt))
def QHt : List (RV × Option Ty) := [((.t 2), some .bool)]
def QBG : G := ⟨TYs, [], 6, EL [(155, Qsh)], keeps, (fun _ _ => none), IL [], RL []⟩
def QSm (p0 : Int) : Option (V × List VO) := some (.t .bool (ieq (kindF p0) 1), [])
theorem e_f122 (p0 : Int) : runF QBG QxL QHt false [.t tI p0] [] = QSm p0 := by kernel_rfl
theorem QXZ : Qai Tryz.prog 122 := .inr ⟨by decide, _, Tryz.func122, by kernel_rfl, by kernel_rfl⟩
theorem QW5 : GOk Tryz.prog QBG := Qal _ (gA (gC QzE QyO gN))
theorem QVt : QxL.lok QBG := by repeat (first | exact trivial | refine ⟨?_, ?_⟩)
theorem s_f122 (a : Int) : QSm a = some (.t .bool (hashF a), []) := rfl
def QF3 : Ent := spec (.pr tI .nil) (fun x => true) (fun x => (.t .bool (hashF x.1)))
theorem QUd : Meets Tryz.prog 122 (strip QF3) := Qag (R := runF QBG QxL QHt false) (mG Tryz.func122 (by kernel_rfl) Tryz.ntmps122 (by kernel_rfl) QW5 QVt) fun x _ => (e_f122 x.1).trans (s_f122 x.1)
def QfT (l : List Int) (k : Nat) : Bool := (List.range' k (l.length - k)).all fun j => ieq (QaO (l.getD j 0)).2 0 && !hasF (l.take j) (l.getD j 0)
def suitF (l : List Int) : Bool := QfT l 0
theorem QCQ (l : List Int) : QfT l l.length = true := by
 unfold QfT
 rw [Nat.sub_self]
 rfl
theorem QxU {l : List Int} {k : Nat} (hk : k < l.length) : QfT l k = ((ieq (QaO l[k]).2 0 && !hasF (l.take k) l[k]) && QfT l (k + 1)) := by
 have : l.length - k = (l.length - (k + 1)) + 1 := by omega
 unfold QfT
 rw [this, List.range'_succ, List.all_cons]
 simp only [List.getD_eq_getElem?_getD, List.getElem?_eq_getElem hk, Option.getD_some]
theorem QNO (l : List Int) (k : Nat) : lsl l 0 (k : Int) = l.take k := by
 simp [lsl]
theorem QPS {l : List Int} {k : Nat} (hk : k ≤ l.length) : cSl l 0 (k : Int) ((List.length l : Nat) : Int) = true := by
 simp only [cSl, decide_eq_true_eq]
 omega
def Qhc : Fg := ⟨[(0, some (.sl tI)), (7, some (.sl tI)), (8, some tI), (9, some tI)], []⟩
noncomputable def QiZ : TC := (.sq (.reg (rT Tryz.f115 2)) (.sq (.cd (.t 10) .sk (.fg ⟨[], []⟩ (.ex 0))) (.sq (.bk 1 (.sq (.reg (rT Tryz.f115 3)) (.sq (.reg (rT Tryz.f115 4)) (.sq (.reg (rT Tryz.f115 5)) (.cd (.t 27) (.sq (.reg (rT Tryz.f115 6)) (.fg ⟨[(2, some .bool)], []⟩ .rt)) .sk))))) (.reg (rT Tryz.f115 7)))))
noncomputable def QxP : TC := (.sq (.reg (rT Tryz.f115 0)) (.sq (.sq (.reg (rT Tryz.f115 1)) (.bk 0 (.lp 0 Qhc QiZ))) (.sq (.reg (rT Tryz.f115 8)) .rt)))
def QHx : List (RV × Option Ty) := [((.t 2), some .bool)]
abbrev Qpl : Sh := ⟨[(0, .ty (.sl tI)), (7, .ty (.sl tI)), (8, .ty tI), (9, .ty tI)], []⟩
def Qow (x0 x7 : List Int) (x8 x9 : Int) : VS := Qpl.st (x0, x7, x8, x9, ()) ()
abbrev QsU : Sh := ⟨[(2, .ty .bool)], []⟩
def QbO (x2 : Bool) : VS := QsU.st (x2, ()) ()
abbrev Qvf : Sh := ⟨[], []⟩
def Qed  : VS := Qvf.st () ()
def QQN : VS → Option (Bool × List (Bool × Exit × VS)) := mkL Qpl (fun x y => (rngOk x.2.1 x.2.2.1 x.2.2.2.1 && samB x.1 x.2.1)) (fun x y => [((!QfT x.2.1 x.2.2.2.1.toNat), .ret, QbO (false)), (true, .exit 0, Qed)])
def Ql3 : G := ⟨TYs, [], 29, EL [(85, Quy), (101, QkY)], keeps, (Ls [QQN]), IL [], RL []⟩
def QCE (x0 x7 : List Int) (x8 x9 : Int) : Option (Exit × VS) :=
 let a1 := lgt tI x7 (Int.toNat x9)
 br (ilt x9 x8) (br (cIx x7 x9) (br (ine ((QaO a1).2) 0) (some (.ret, QbO false)) (br (cSl x0 0 x9 ((List.length x0 : Nat) : Int)) (br (Qbh (lsl x0 0 x9) a1) (br (hasF (lsl x0 0 x9) a1) (some (.ret, QbO false)) (some (.normal, Qow x0 x7 x8 (iadd .i64 x9 1)))) none) none)) none) (some (.exit 0, Qed))
noncomputable def QjJ (x0 x7 : List Int) (x8 x9 : Int) : Option (Exit × VS) := loopF (Qaj Ql3 Qhc QiZ) (Qow x0 x7 x8 x9)
noncomputable def Qne (x0 x7 : List Int) (x8 x9 : Int) : Option (Exit × VS) :=
 let a1 := lgt tI x7 (Int.toNat x9)
 br (ilt x9 x8) (br (cIx x7 x9) (br (ine ((QaO a1).2) 0) (some (.ret, QbO false)) (br (cSl x0 0 x9 ((List.length x0 : Nat) : Int)) (br (Qbh (lsl x0 0 x9) a1) (br (hasF (lsl x0 0 x9) a1) (some (.ret, QbO false)) (QjJ x0 x7 x8 (iadd .i64 x9 1))) none) none)) none) (some (.exit 0, Qed))
def Qka (x0 x7 : List Int) (x8 x9 : Int) : Option (Exit × VS) := br (!QfT x7 x9.toNat) (some (.ret, QbO (false))) <| some (.exit 0, Qed)
theorem QMr (x0 x7 : List Int) (x8 x9 : Int) : Qaj Ql3 Qhc QiZ (Qow x0 x7 x8 x9) = QCE x0 x7 x8 x9 := by kernel_rfl
theorem Qwb (x0 x7 : List Int) (x8 x9 : Int) : QjJ x0 x7 x8 x9 = Qne x0 x7 x8 x9 := (Qao _ _).trans (by
 rw [QMr]
 simp only [QCE, Qne, QaA, nxt_n, nxt_r, nxt_e, nxt_0]
 rfl)
def QIG (p0 : List Int) : Option (V × List VO) := br (rngOk p0 (llen p0) (0 : Int) && samB p0 p0) (br (!QfT p0 (0 : Int).toNat) (some (.t .bool (false), [])) (some (.t .bool true, []))) none
theorem e_f115 (p0 : List Int) : runF Ql3 QxP QHx false [.t (.sl tI) p0] [] = QIG p0 := by kernel_rfl
theorem QX2 : Qai Tryz.prog 115 := .inr ⟨by decide, _, Tryz.func115, by kernel_rfl, by kernel_rfl⟩
theorem QW9 : GOk Tryz.prog Ql3 := Qal _ (gA (gC QBY QAB (gC QqM QpY gN)))
theorem QOJ (x0 x7 : List Int) (x8 x9 : Int) (h : (rngOk x7 x8 x9 && samB x0 x7) = true) : QjJ x0 x7 x8 x9 = Qka x0 x7 x8 x9 := by
 simp only [Bool.and_eq_true] at h
 obtain ⟨h0, hs⟩ := h
 have hs := Qyv hs
 subst hs
 obtain ⟨rfl, h3, k, rfl, hk⟩ := rng_k h0
 clear h0
 refine Qau x0 (fun k => QjJ x0 x0 (x0.length : Int) (k : Int) = Qka x0 x0 (x0.length : Int) (k : Int)) ?_ ?_ k hk
 ·rw [Qwb]
  simp only [Qne, Qka, Qat, Nat.lt_irrefl, decide_false, Qaf, Int.toNat_natCast, QCQ, Bool.not_true]
 ·intro k hk ih
  rw [Qwb]
  have hi : Qbh (x0.take k) x0[k] = true := decide_eq_true (by rw [List.length_take]; omega)
  simp only [Qne, Qat, Qax, hk, decide_true, Qad, Int.toNat_natCast, add1 (show k < 4611686018427387904 by omega), Qaz (y := tI) hk, ih, QNO, QPS (show k ≤ x0.length by omega), hi, Qzk]
  simp only [Qka, Int.toNat_natCast, QxU hk]
  cases ieq (QaO x0[k]).2 0 <;> cases hasF (x0.take k) x0[k] <;> rfl
theorem QJ0 : ∀ S l p, Ql3.L 0 (fgt Qhc S) = some (true, l) → pickA l = some p → loopF (Qaj Ql3 Qhc QiZ) S = some p :=
 QaB (s := Qpl) ⟨by decide, by decide⟩ (by kernel_rfl) fun x y hok p hp => by
 simp only [Qas, Qan] at hp
 exact (QOJ x.1 x.2.1 x.2.2.1 x.2.2.2.1 (by simpa using hok)).trans hp
theorem QVx : QxP.lok Ql3 := by
 repeat (first | exact trivial | exact QJ0 | refine ⟨?_, ?_⟩)
theorem s_f115 (l : List Int) (h : Qbq l = true) : QIG l = some (.t .bool (suitF l), []) := by
 simp only [Qbq, decide_eq_true_eq] at h
 simp only [QIG, rng_0 h, Qpq, Bool.and_self, Qad, Int.toNat_zero]
 unfold suitF
 cases QfT l 0 <;> rfl
def QF6 : Ent := spec (.pr (.sl tI) .nil) (fun x => (Qbq x.1)) (fun x => (.t .bool (suitF x.1)))
theorem QUg : Meets Tryz.prog 115 (strip QF6) := Qag (R := runF Ql3 QxP QHx false) (mG Tryz.func115 (by kernel_rfl) Tryz.ntmps115 (by kernel_rfl) QW9 QVx) fun x hok => (e_f115 x.1).trans (s_f115 x.1 hok)
def nKey (n : Int) : Bool := !keyI n
noncomputable def Qh9 : TC := (.sq (.reg (rT Tryz.f119 0)) (.sq (.reg (rT Tryz.f119 1)) .rt))
def Qpx : List (RV × Option Ty) := [((.t 3), some .bool)]
def QhM : G := ⟨TYs, [], 8, EL [(121, Qsk)], keeps, (fun _ _ => none), IL [], RL []⟩
def Qk9 (p0 : Int) : Option (V × List VO) := some (.t .bool (!(keyI p0)), [.box (.c (.func (.func 121) #[] #[]))])
theorem QDG (p0 : Int) : runF QhM Qh9 Qpx false [.t tI p0, .ptr 50000 0] [.box (.c (.func (.func 121) ⟨[]⟩ ⟨[]⟩))] = Qk9 p0 := by kernel_rfl
theorem QzK : Qai Tryz.prog 119 := .inr ⟨by decide, _, Tryz.func119, by kernel_rfl, by kernel_rfl⟩
theorem Qzs : GOk Tryz.prog QhM := Qal _ (gA (gC QzI QyS gN))
theorem Qzc : Qh9.lok QhM := by repeat (first | exact trivial | refine ⟨?_, ?_⟩)
theorem QC2 (n : Int) : Qk9 n = some (.t .bool (nKey n), [.box (.c (.func (.func 121) #[] #[]))]) := by
 simp only [Qk9]
 rfl
def QoD : Ent := specB [.ty tI, .ptr 50000 0] [.bc 121] (fun x y => true) (fun x y => (.t .bool (nKey x.1))) (fun x y => [.box (.c (.func (.func 121) #[] #[]))])
theorem QyU : Meets Tryz.prog 119 (strip QoD) := QcA (QaU (R := runF QhM Qh9 Qpx false) (mG Tryz.func119 (by kernel_rfl) Tryz.ntmps119 (by kernel_rfl) Qzs Qzc) fun x y _ => (QDG x.1).trans (QC2 x.1))
def ixKey (l : List Int) : Int := match fstG nKey l with | some k => (k : Int) | none => -1
def Qbk : Fg := ⟨[(0, some (.sl tI)), (1, none), (7, some tI), (8, some tI)], [(50000, none)]⟩
noncomputable def QbI : TC := (.sq (.reg (rT Tryz.f128 2)) (.sq (.cd (.t 9) .sk (.fg ⟨[], [(50000, none)]⟩ (.ex 0))) (.sq (.bk 1 (.sq (.reg (rT Tryz.f128 3)) (.sq (.reg (rT Tryz.f128 4)) (.cd (.t 16) (.sq (.reg (rT Tryz.f128 5)) (.fg ⟨[(4, some tI)], [(50000, none)]⟩ .rt)) .sk)))) (.reg (rT Tryz.f128 6)))))
noncomputable def Qdo : TC := (.sq (.reg (rT Tryz.f128 0)) (.sq (.sq (.reg (rT Tryz.f128 1)) (.bk 0 (.lp 0 Qbk QbI))) (.sq (.reg (rT Tryz.f128 7)) .rt)))
def Qgq : List (RV × Option Ty) := [((.t 4), some tI)]
abbrev Qcv : Sh := ⟨[(0, .ty (.sl tI)), (1, .fn 119 [(50000, 0)]), (7, .ty tI), (8, .ty tI)], [(50000, .bc 121)]⟩
def Qct (x0 : List Int) (x7 x8 : Int) : VS := Qcv.st (x0, (), x7, x8, ()) ((), ())
abbrev Qgl : Sh := ⟨[(4, .ty tI)], [(50000, .bc 121)]⟩
def Qa9 (x4 : Int) : VS := Qgl.st (x4, ()) ((), ())
abbrev QhW : Sh := ⟨[], [(50000, .bc 121)]⟩
def Qbg  : VS := QhW.st () ((), ())
def Qml : VS → Option (Bool × List (Bool × Exit × VS)) := mkL Qcv (fun x y => (rngOk x.1 x.2.2.1 x.2.2.2.1)) (fun x y => [(((fstG nKey (x.1.drop x.2.2.2.1.toNat)).isSome), .ret, Qa9 (x.2.2.2.1 + ((fstG nKey (x.1.drop x.2.2.2.1.toNat)).getD 0 : Nat))), (true, .exit 0, Qbg)])
def Qa3 : G := ⟨TYs, [], 19, EL [(119, QoD)], keeps, (Ls [Qml]), IL [], RL []⟩
def Qf2 (x0 : List Int) (x7 x8 : Int) : Option (Exit × VS) := br (ilt x8 x7) (br (cIx x0 x8) (br (nKey (lgt tI x0 (Int.toNat x8))) (some (.ret, Qa9 x8)) (some (.normal, Qct x0 x7 (iadd .i64 x8 1)))) none) (some (.exit 0, Qbg))
noncomputable def QbR (x0 : List Int) (x7 x8 : Int) : Option (Exit × VS) := loopF (Qaj Qa3 Qbk QbI) (Qct x0 x7 x8)
noncomputable def Qb4 (x0 : List Int) (x7 x8 : Int) : Option (Exit × VS) := br (ilt x8 x7) (br (cIx x0 x8) (br (nKey (lgt tI x0 (Int.toNat x8))) (some (.ret, Qa9 x8)) (QbR x0 x7 (iadd .i64 x8 1))) none) (some (.exit 0, Qbg))
def QbT (x0 : List Int) (x7 x8 : Int) : Option (Exit × VS) :=
 let a1 := fstG nKey (x0.drop x8.toNat)
 br (a1.isSome) (some (.ret, Qa9 (x8 + (a1.getD 0 : Nat)))) <| some (.exit 0, Qbg)
theorem Qlp (x0 : List Int) (x7 x8 : Int) : Qaj Qa3 Qbk QbI (Qct x0 x7 x8) = Qf2 x0 x7 x8 := by kernel_rfl
theorem QeT (x0 : List Int) (x7 x8 : Int) : QbR x0 x7 x8 = Qb4 x0 x7 x8 := (Qao _ _).trans (by
 rw [Qlp]
 simp only [Qf2, Qb4, QaA, nxt_n, nxt_r, nxt_e, nxt_0]
 rfl)
def QeE (p0 : List Int) : Option (V × List VO) :=
 let a1 := (fstG nKey (p0.drop (0 : Int).toNat))
 br (rngOk p0 (llen p0) (0 : Int)) (br (a1.isSome) (some (.t tI ((0 : Int) + (a1.getD 0 : Nat)), [.box (.c (.func (.func 121) #[] #[]))])) (some (.t tI (-1), [.box (.c (.func (.func 121) #[] #[]))]))) none
theorem Qre (p0 : List Int) : runF Qa3 Qdo Qgq false [.t (.sl tI) p0, .fn 119 [(.ptr 50000 0)]] [.box (.c (.func (.func 121) ⟨[]⟩ ⟨[]⟩))] = QeE p0 := by kernel_rfl
theorem QqJ : Qai Tryz.prog 128 := .inr ⟨by decide, _, Tryz.func128, by kernel_rfl, by kernel_rfl⟩
theorem Qqq : GOk Tryz.prog Qa3 := Qal _ (gA (gC QzK QyU gN))
theorem Qmi (x0 : List Int) (x7 x8 : Int) (h : (rngOk x0 x7 x8) = true) : QbR x0 x7 x8 = QbT x0 x7 x8 := by
 obtain ⟨rfl, h3, k, rfl, hk⟩ := rng_k h
 clear h
 refine Qau x0 (fun k => QbR x0 (x0.length : Int) (k : Int) = QbT x0 (x0.length : Int) (k : Int)) ?_ ?_ k hk
 ·rw [QeT]
  simp [Qb4, QbT, Qat, Qaf, fstG]
 ·intro k hk ih
  rw [QeT]
  simp only [Qb4, Qat, Qax, hk, decide_true, Qad, Int.toNat_natCast, add1 (show k < 4611686018427387904 by omega), ih, Qaz (y := tI) hk]
  simp only [QbT, Int.toNat_natCast, List.drop_eq_getElem_cons hk, fstG]
  cases h : nKey x0[k] with
  | true => simp [Qad]
  | false =>
   simp only [Qaf, Bool.false_eq_true, if_false]
   cases hq : fstG nKey (x0.drop (k + 1)) with
   | none => rfl
   | some j =>
    simp only [Option.map_some, Option.isSome_some, Option.getD_some, Qad]
    congr 3
    omega
theorem Qlf : ∀ S l p, Qa3.L 0 (fgt Qbk S) = some (true, l) → pickA l = some p → loopF (Qaj Qa3 Qbk QbI) S = some p :=
 QaB (s := Qcv) ⟨by decide, by decide⟩ (by kernel_rfl) fun x y hok p hp => by
 simp only [Qas, Qan] at hp
 exact (Qmi x.1 x.2.2.1 x.2.2.2.1 (by simpa using hok)).trans hp
theorem Qqa : Qdo.lok Qa3 := by
 repeat (first | exact trivial | exact Qlf | refine ⟨?_, ?_⟩)
theorem Qq6 (l : List Int) (h : Qbq l = true) : QeE l = some (.t tI (ixKey l), [.box (.c (.func (.func 121) #[] #[]))]) := by
 simp only [Qbq, decide_eq_true_eq] at h
 simp only [QeE, rng_0 h, Qad, Int.toNat_zero, List.drop_zero, ixKey]
 cases fstG nKey l <;> simp [Qad, Qaf]
def Qge : Ent := specB [.ty (.sl tI), .fn 119 [(50000, 0)]] [.bc 121] (fun x y => (Qbq x.1)) (fun x y => (.t tI (ixKey x.1))) (fun x y => [.box (.c (.func (.func 121) #[] #[]))])
theorem QpV : Meets Tryz.prog 128 (strip Qge) := QcA (QaU (R := runF Qa3 Qdo Qgq false) (mG Tryz.func128 (by kernel_rfl) Tryz.ntmps128 (by kernel_rfl) Qqq Qqa) fun x y hok => (Qre x.1).trans (Qq6 x.1 hok))
def QqZ (l : List Int) : Bool := !l.all keyI
noncomputable def Qdq : TC := (.sq (.reg (rT Tryz.f120 0)) (.sq (.reg (rT Tryz.f120 1)) .rt))
def Qgs : List (RV × Option Ty) := [((.t 4), some .bool)]
def QcG : G := ⟨TYs, [], 9, EL [(128, Qge)], keeps, (fun _ _ => none), IL [], RL []⟩
def QeG (p0 : List Int) : Option (V × List VO) := br (Qbq p0) (some (.t .bool (ige (ixKey p0) 0), [.box (.c (.func (.func 121) #[] #[]))])) none
theorem Qrg (p0 : List Int) : runF QcG Qdq Qgs false [.t (.sl tI) p0, .fn 119 [(.ptr 50000 0)]] [.box (.c (.func (.func 121) ⟨[]⟩ ⟨[]⟩))] = QeG p0 := by kernel_rfl
theorem QqL : Qai Tryz.prog 120 := .inr ⟨by decide, _, Tryz.func120, by kernel_rfl, by kernel_rfl⟩
theorem Qqs : GOk Tryz.prog QcG := Qal _ (gA (gC QqJ QpV gN))
theorem Qqc : Qdq.lok QcG := by repeat (first | exact trivial | refine ⟨?_, ?_⟩)
theorem Qq8 (l : List Int) (h : Qbq l = true) : QeG l = some (.t .bool (QqZ l), [.box (.c (.func (.func 121) #[] #[]))]) := by
 simp only [QeG, h, Qad]
 have e : ige (ixKey l) 0 = QqZ l := by
  have e2 : QqZ l = l.any nKey := by
   unfold QqZ
   rw [List.not_all_eq_any_not]
   rfl
  rw [e2]
  unfold ixKey
  cases hq : fstG nKey l with
  | none => rw [QbA.1 hq]; rfl
  | some k =>
   rw [← QbB, hq]
   simp only [ige, Option.isSome_some, decide_eq_true_eq]
   omega
 rw [e]
def Qgg : Ent := specB [.ty (.sl tI), .fn 119 [(50000, 0)]] [.bc 121] (fun x y => (Qbq x.1)) (fun x y => (.t .bool (QqZ x.1))) (fun x y => [.box (.c (.func (.func 121) #[] #[]))])
theorem QpX : Meets Tryz.prog 120 (strip Qgg) := QcA (QaU (R := runF QcG Qdq Qgs false) (mG Tryz.func120 (by kernel_rfl) Tryz.ntmps120 (by kernel_rfl) Qqs Qqc) fun x y hok => (Qrg x.1).trans (Qq8 x.1 hok))
noncomputable def Qib : TC := (.sq (.reg (rT Tryz.f118 0)) (.sq (.reg (rT Tryz.f118 1)) .rt))
def Qpz : List (RV × Option Ty) := [((.t 2), none)]
def QhO : G := ⟨TYs, [], 4, EL [], keeps, (fun _ _ => none), IL [], RL []⟩
def QrA  : Option (V × List VO) := some (.fn 119 [(.ptr 50000 0)], [.box (.c (.func (.func 121) #[] #[]))])
theorem QDI  : runF QhO Qib Qpz true [.c (.func (.func 121) ⟨[]⟩ ⟨[]⟩)] [] = QrA  := by kernel_rfl
theorem QzM : Qai Tryz.prog 118 := .inr ⟨by decide, _, Tryz.func118, by kernel_rfl, by kernel_rfl⟩
theorem Qzu : GOk Tryz.prog QhO := Qal _ (fun p hp => by cases hp)
theorem Qze : Qib.lok QhO := by repeat (first | exact trivial | refine ⟨?_, ?_⟩)
theorem QC4 : QrA = some (.fn 119 [.ptr 50000 0], [.box (.c (.func (.func 121) #[] #[]))]) := rfl
def QoF : Ent := specB [.cf 121] [] (fun x y => true) (fun x y => (.fn 119 [(.ptr 50000 0)])) (fun x y => [.box (.c (.func (.func 121) #[] #[]))])
theorem QyW : Meets Tryz.prog 118 (strip QoF) := QcA (QaU (R := runF QhO Qib Qpz true) (mG Tryz.func118 (by kernel_rfl) Tryz.ntmps118 (by kernel_rfl) Qzu Qze) fun x y _ => (QDI ).trans (QC4 ))
def nHash (n : Int) : Bool := !hashF n
noncomputable def Qh8 : TC := (.sq (.reg (rT Tryz.f119 0)) (.sq (.reg (rT Tryz.f119 1)) .rt))
def Qpw : List (RV × Option Ty) := [((.t 3), some .bool)]
def QhL : G := ⟨TYs, [], 8, EL [(122, QF3)], keeps, (fun _ _ => none), IL [], RL []⟩
def Qk8 (p0 : Int) : Option (V × List VO) := some (.t .bool (!(hashF p0)), [.box (.c (.func (.func 122) #[] #[]))])
theorem QDF (p0 : Int) : runF QhL Qh8 Qpw false [.t tI p0, .ptr 50000 0] [.box (.c (.func (.func 122) ⟨[]⟩ ⟨[]⟩))] = Qk8 p0 := by kernel_rfl
theorem QzJ : Qai Tryz.prog 119 := .inr ⟨by decide, _, Tryz.func119, by kernel_rfl, by kernel_rfl⟩
theorem Qzr : GOk Tryz.prog QhL := Qal _ (gA (gC QXZ QUd gN))
theorem Qzb : Qh8.lok QhL := by repeat (first | exact trivial | refine ⟨?_, ?_⟩)
theorem QC1 (n : Int) : Qk8 n = some (.t .bool (nHash n), [.box (.c (.func (.func 122) #[] #[]))]) := by
 simp only [Qk8]
 rfl
def QoC : Ent := specB [.ty tI, .ptr 50000 0] [.bc 122] (fun x y => true) (fun x y => (.t .bool (nHash x.1))) (fun x y => [.box (.c (.func (.func 122) #[] #[]))])
theorem QyT : Meets Tryz.prog 119 (strip QoC) := QcA (QaU (R := runF QhL Qh8 Qpw false) (mG Tryz.func119 (by kernel_rfl) Tryz.ntmps119 (by kernel_rfl) Qzr Qzb) fun x y _ => (QDF x.1).trans (QC1 x.1))
def QrI (l : List Int) : Int := match fstG nHash l with | some k => (k : Int) | none => -1
def Qbj : Fg := ⟨[(0, some (.sl tI)), (1, none), (7, some tI), (8, some tI)], [(50000, none)]⟩
noncomputable def QbH : TC := (.sq (.reg (rT Tryz.f128 2)) (.sq (.cd (.t 9) .sk (.fg ⟨[], [(50000, none)]⟩ (.ex 0))) (.sq (.bk 1 (.sq (.reg (rT Tryz.f128 3)) (.sq (.reg (rT Tryz.f128 4)) (.cd (.t 16) (.sq (.reg (rT Tryz.f128 5)) (.fg ⟨[(4, some tI)], [(50000, none)]⟩ .rt)) .sk)))) (.reg (rT Tryz.f128 6)))))
noncomputable def Qdn : TC := (.sq (.reg (rT Tryz.f128 0)) (.sq (.sq (.reg (rT Tryz.f128 1)) (.bk 0 (.lp 0 Qbj QbH))) (.sq (.reg (rT Tryz.f128 7)) .rt)))
def Qgp : List (RV × Option Ty) := [((.t 4), some tI)]
abbrev Qcu : Sh := ⟨[(0, .ty (.sl tI)), (1, .fn 119 [(50000, 0)]), (7, .ty tI), (8, .ty tI)], [(50000, .bc 122)]⟩
def Qcs (x0 : List Int) (x7 x8 : Int) : VS := Qcu.st (x0, (), x7, x8, ()) ((), ())
abbrev Qgk : Sh := ⟨[(4, .ty tI)], [(50000, .bc 122)]⟩
def Qa8 (x4 : Int) : VS := Qgk.st (x4, ()) ((), ())
abbrev QhV : Sh := ⟨[], [(50000, .bc 122)]⟩
def Qbf  : VS := QhV.st () ((), ())
def Qmk : VS → Option (Bool × List (Bool × Exit × VS)) := mkL Qcu (fun x y => (rngOk x.1 x.2.2.1 x.2.2.2.1)) (fun x y => [(((fstG nHash (x.1.drop x.2.2.2.1.toNat)).isSome), .ret, Qa8 (x.2.2.2.1 + ((fstG nHash (x.1.drop x.2.2.2.1.toNat)).getD 0 : Nat))), (true, .exit 0, Qbf)])
def Qa2 : G := ⟨TYs, [], 19, EL [(119, QoC)], keeps, (Ls [Qmk]), IL [], RL []⟩
def Qf1 (x0 : List Int) (x7 x8 : Int) : Option (Exit × VS) := br (ilt x8 x7) (br (cIx x0 x8) (br (nHash (lgt tI x0 (Int.toNat x8))) (some (.ret, Qa8 x8)) (some (.normal, Qcs x0 x7 (iadd .i64 x8 1)))) none) (some (.exit 0, Qbf))
noncomputable def QbQ (x0 : List Int) (x7 x8 : Int) : Option (Exit × VS) := loopF (Qaj Qa2 Qbj QbH) (Qcs x0 x7 x8)
noncomputable def Qb3 (x0 : List Int) (x7 x8 : Int) : Option (Exit × VS) := br (ilt x8 x7) (br (cIx x0 x8) (br (nHash (lgt tI x0 (Int.toNat x8))) (some (.ret, Qa8 x8)) (QbQ x0 x7 (iadd .i64 x8 1))) none) (some (.exit 0, Qbf))
def QbS (x0 : List Int) (x7 x8 : Int) : Option (Exit × VS) :=
 let a1 := fstG nHash (x0.drop x8.toNat)
 br (a1.isSome) (some (.ret, Qa8 (x8 + (a1.getD 0 : Nat)))) <| some (.exit 0, Qbf)
theorem Qlo (x0 : List Int) (x7 x8 : Int) : Qaj Qa2 Qbj QbH (Qcs x0 x7 x8) = Qf1 x0 x7 x8 := by kernel_rfl
theorem QeS (x0 : List Int) (x7 x8 : Int) : QbQ x0 x7 x8 = Qb3 x0 x7 x8 := (Qao _ _).trans (by
 rw [Qlo]
 simp only [Qf1, Qb3, QaA, nxt_n, nxt_r, nxt_e, nxt_0]
 rfl)
def QeD (p0 : List Int) : Option (V × List VO) :=
 let a1 := (fstG nHash (p0.drop (0 : Int).toNat))
 br (rngOk p0 (llen p0) (0 : Int)) (br (a1.isSome) (some (.t tI ((0 : Int) + (a1.getD 0 : Nat)), [.box (.c (.func (.func 122) #[] #[]))])) (some (.t tI (-1), [.box (.c (.func (.func 122) #[] #[]))]))) none
theorem Qrd (p0 : List Int) : runF Qa2 Qdn Qgp false [.t (.sl tI) p0, .fn 119 [(.ptr 50000 0)]] [.box (.c (.func (.func 122) ⟨[]⟩ ⟨[]⟩))] = QeD p0 := by kernel_rfl
theorem QqI : Qai Tryz.prog 128 := .inr ⟨by decide, _, Tryz.func128, by kernel_rfl, by kernel_rfl⟩
theorem Qqp : GOk Tryz.prog Qa2 := Qal _ (gA (gC QzJ QyT gN))
theorem Qmh (x0 : List Int) (x7 x8 : Int) (h : (rngOk x0 x7 x8) = true) : QbQ x0 x7 x8 = QbS x0 x7 x8 := by
 obtain ⟨rfl, h3, k, rfl, hk⟩ := rng_k h
 clear h
 refine Qau x0 (fun k => QbQ x0 (x0.length : Int) (k : Int) = QbS x0 (x0.length : Int) (k : Int)) ?_ ?_ k hk
 ·rw [QeS]
  simp [Qb3, QbS, Qat, Qaf, fstG]
 ·intro k hk ih
  rw [QeS]
  simp only [Qb3, Qat, Qax, hk, decide_true, Qad, Int.toNat_natCast, add1 (show k < 4611686018427387904 by omega), ih, Qaz (y := tI) hk]
  simp only [QbS, Int.toNat_natCast, List.drop_eq_getElem_cons hk, fstG]
  cases h : nHash x0[k] with
  | true => simp [Qad]
  | false =>
   simp only [Qaf, Bool.false_eq_true, if_false]
   cases hq : fstG nHash (x0.drop (k + 1)) with
   | none => rfl
   | some j =>
    simp only [Option.map_some, Option.isSome_some, Option.getD_some, Qad]
    congr 3
    omega
theorem Qle : ∀ S l p, Qa2.L 0 (fgt Qbj S) = some (true, l) → pickA l = some p → loopF (Qaj Qa2 Qbj QbH) S = some p :=
 QaB (s := Qcu) ⟨by decide, by decide⟩ (by kernel_rfl) fun x y hok p hp => by
 simp only [Qas, Qan] at hp
 exact (Qmh x.1 x.2.2.1 x.2.2.2.1 (by simpa using hok)).trans hp
theorem Qp9 : Qdn.lok Qa2 := by
 repeat (first | exact trivial | exact Qle | refine ⟨?_, ?_⟩)
theorem Qq5 (l : List Int) (h : Qbq l = true) : QeD l = some (.t tI (QrI l), [.box (.c (.func (.func 122) #[] #[]))]) := by
 simp only [Qbq, decide_eq_true_eq] at h
 simp only [QeD, rng_0 h, Qad, Int.toNat_zero, List.drop_zero, QrI]
 cases fstG nHash l <;> simp [Qad, Qaf]
def Qgd : Ent := specB [.ty (.sl tI), .fn 119 [(50000, 0)]] [.bc 122] (fun x y => (Qbq x.1)) (fun x y => (.t tI (QrI x.1))) (fun x y => [.box (.c (.func (.func 122) #[] #[]))])
theorem QpU : Meets Tryz.prog 128 (strip Qgd) := QcA (QaU (R := runF Qa2 Qdn Qgp false) (mG Tryz.func128 (by kernel_rfl) Tryz.ntmps128 (by kernel_rfl) Qqp Qp9) fun x y hok => (Qrd x.1).trans (Qq5 x.1 hok))
def Qit (l : List Int) : Bool := !l.all hashF
noncomputable def Qdp : TC := (.sq (.reg (rT Tryz.f120 0)) (.sq (.reg (rT Tryz.f120 1)) .rt))
def Qgr : List (RV × Option Ty) := [((.t 4), some .bool)]
def QcF : G := ⟨TYs, [], 9, EL [(128, Qgd)], keeps, (fun _ _ => none), IL [], RL []⟩
def QeF (p0 : List Int) : Option (V × List VO) := br (Qbq p0) (some (.t .bool (ige (QrI p0) 0), [.box (.c (.func (.func 122) #[] #[]))])) none
theorem Qrf (p0 : List Int) : runF QcF Qdp Qgr false [.t (.sl tI) p0, .fn 119 [(.ptr 50000 0)]] [.box (.c (.func (.func 122) ⟨[]⟩ ⟨[]⟩))] = QeF p0 := by kernel_rfl
theorem QqK : Qai Tryz.prog 120 := .inr ⟨by decide, _, Tryz.func120, by kernel_rfl, by kernel_rfl⟩
theorem Qqr : GOk Tryz.prog QcF := Qal _ (gA (gC QqI QpU gN))
theorem Qqb : Qdp.lok QcF := by repeat (first | exact trivial | refine ⟨?_, ?_⟩)
theorem Qq7 (l : List Int) (h : Qbq l = true) : QeF l = some (.t .bool (Qit l), [.box (.c (.func (.func 122) #[] #[]))]) := by
 simp only [QeF, h, Qad]
 have e : ige (QrI l) 0 = Qit l := by
  have e2 : Qit l = l.any nHash := by
   unfold Qit
   rw [List.not_all_eq_any_not]
   rfl
  rw [e2]
  unfold QrI
  cases hq : fstG nHash l with
  | none => rw [QbA.1 hq]; rfl
  | some k =>
   rw [← QbB, hq]
   simp only [ige, Option.isSome_some, decide_eq_true_eq]
   omega
 rw [e]
def Qgf : Ent := specB [.ty (.sl tI), .fn 119 [(50000, 0)]] [.bc 122] (fun x y => (Qbq x.1)) (fun x y => (.t .bool (Qit x.1))) (fun x y => [.box (.c (.func (.func 122) #[] #[]))])
theorem QpW : Meets Tryz.prog 120 (strip Qgf) := QcA (QaU (R := runF QcF Qdp Qgr false) (mG Tryz.func120 (by kernel_rfl) Tryz.ntmps120 (by kernel_rfl) Qqr Qqb) fun x y hok => (Qrf x.1).trans (Qq7 x.1 hok))
noncomputable def Qia : TC := (.sq (.reg (rT Tryz.f118 0)) (.sq (.reg (rT Tryz.f118 1)) .rt))
def Qpy : List (RV × Option Ty) := [((.t 2), none)]
def QhN : G := ⟨TYs, [], 4, EL [], keeps, (fun _ _ => none), IL [], RL []⟩
def Qrz  : Option (V × List VO) := some (.fn 119 [(.ptr 50000 0)], [.box (.c (.func (.func 122) #[] #[]))])
theorem QDH  : runF QhN Qia Qpy true [.c (.func (.func 122) ⟨[]⟩ ⟨[]⟩)] [] = Qrz  := by kernel_rfl
theorem QzL : Qai Tryz.prog 118 := .inr ⟨by decide, _, Tryz.func118, by kernel_rfl, by kernel_rfl⟩
theorem Qzt : GOk Tryz.prog QhN := Qal _ (fun p hp => by cases hp)
theorem Qzd : Qia.lok QhN := by repeat (first | exact trivial | refine ⟨?_, ?_⟩)
theorem QC3 : Qrz = some (.fn 119 [.ptr 50000 0], [.box (.c (.func (.func 122) #[] #[]))]) := rfl
def QoE : Ent := specB [.cf 122] [] (fun x y => true) (fun x y => (.fn 119 [(.ptr 50000 0)])) (fun x y => [.box (.c (.func (.func 122) #[] #[]))])
theorem QyV : Meets Tryz.prog 118 (strip QoE) := QcA (QaU (R := runF QhN Qia Qpy true) (mG Tryz.func118 (by kernel_rfl) Tryz.ntmps118 (by kernel_rfl) Qzt Qzd) fun x y _ => (QDH ).trans (QC3 ))
end
end Go.Proofs.YtckcgijklnloiaaGreat.K
namespace Go.Proofs.YtckcgijklnloiaaGreat.K
open Go.RowKit
noncomputable section
theorem Qn6 {c : Int} (h : ieq (QaO c).2 0 = true) : 1 ≤ c ∧ c ≤ 16 := by
 unfold QaO at h
 split at h
 ·simp [ieq] at h
 ·omega
theorem QkX {l : List Int} (h : suitF l = true) : ∀ (k : Nat) (hk : k < l.length), (1 ≤ l[k] ∧ l[k] ≤ 16) ∧ ¬ l[k] ∈ l.take k := by
 intro k hk
 simp only [suitF, QfT, List.all_eq_true, List.mem_range'_1, Bool.and_eq_true, Bool.not_eq_true'] at h
 obtain ⟨h1, h2⟩ := h k ⟨by omega, by omega⟩
 simp only [List.getD_eq_getElem?_getD, List.getElem?_eq_getElem hk, Option.getD_some] at h1 h2
 refine ⟨Qn6 h1, fun hm => ?_⟩
 simp only [hasF] at h2
 rw [List.contains_iff_mem.2 hm] at h2
 cases h2
theorem Qrj {l : List Int} (h : suitF l = true) : l.Nodup := by
 have h2 := QkX h
 rw [List.nodup_iff_pairwise_ne, List.pairwise_iff_getElem]
 intro i j hi hj hij he
 refine (h2 j hj).2 ?_
 rw [← he]
 exact List.mem_iff_getElem.2 ⟨i, by rw [List.length_take]; omega, by rw [List.getElem_take]⟩
theorem QM8 {l : List Int} (h : suitF l = true) : l.length ≤ 16 := by
 have h1 := Qrj h
 have h2 := QkX h
 have h3 : l ⊆ [1, 2, 3, 4, 5, 6, 7, 8, 9, 10, 11, 12, 13, 14, 15, 16] := by
  intro x hx
  obtain ⟨k, hk, rfl⟩ := List.mem_iff_getElem.1 hx
  have := (h2 k hk).1
  simp only [List.mem_cons, List.not_mem_nil, or_false]
  omega
 exact h1.length_le_of_subset h3
abbrev Qaw (e : Qab) : List Int := e.2.2.2.1
abbrev eIds (e : Qab) : List Qar := e.2.2.2.2.2.1
abbrev eAnch (e : Qab) : List Int := e.2.2.2.2.2.2.1
abbrev eHash (e : Qab) : List Int := e.2.2.2.2.2.2.2.1
def idOk (x : Qar) : Bool := Qja x.1 x.2.1 x.2.2.1
def idLen (x : Qar) : Bool := QaR x.2.2.1
def QaT (e : Qab) : Bool := nameG e.1 && decide ((Qaw e).length ≤ 100000 ∧ (eIds e).length ≤ 100000 ∧ (eAnch e).length ≤ 100000 ∧ (eHash e).length ≤ 100000) && (eIds e).all idLen
def QaV (e : Qab) : Bool :=
 wordF e.1 && (!ilt e.2.1 1 && (!igt e.2.1 e.2.2.1 && (!igt e.2.2.1 4 && (suitF (Qaw e) && (!igt (llen (eIds e)) 4 && (!igt (llen (eAnch e)) 16 && (ascF (eAnch e) && (ascF (eHash e) && ((eIds e).all idOk && ((eAnch e).all keyI && (eHash e).all hashF))))))))))
def Qez (e : Qab) : Int := bif QaV e then 0 else 19
theorem QLM (e : Qab) : ieq (Qez e) 0 = QaV e := by
 unfold Qez
 cases QaV e <;> rfl
theorem Qwz (e : Qab) : ine (Qez e) 0 = !QaV e := by
 unfold Qez
 cases QaV e <;> rfl
noncomputable def QPx : List DO := dT Tryz.f76 12
def Qkn : Fg := ⟨[(1, none), (56, some (.sl Qap)), (57, some tI), (58, some tI)], [(1, some Qae)]⟩
noncomputable def Qmp : TC := (.sq (.reg (rT Tryz.f76 6)) (.sq (.cd (.t 59) .sk (.fg ⟨[(1, none)], [(1, some Qae)]⟩ (.ex 0))) (.sq (.bk 1 (.sq (.reg (rT Tryz.f76 7)) (.sq (.reg (rT Tryz.f76 8)) (.cd (.t 69) (.sq (.reg (rT Tryz.f76 9)) (.fg ⟨[(2, some tI)], []⟩ .rt)) .sk)))) (.reg (rT Tryz.f76 10)))))
noncomputable def QEq : TC := (.sq (.reg (rT Tryz.f76 0)) (.sq (.sq (.reg (rT Tryz.f76 1)) (.cd (.t 32) (.sq (.reg (rT Tryz.f76 2)) .rt) .sk)) (.sq (.sq (.reg (rT Tryz.f76 3)) (.cd (.t 54) (.sq (.reg (rT Tryz.f76 4)) .rt) .sk)) (.sq (.sq (.reg (rT Tryz.f76 5)) (.bk 0 (.lp 0 Qkn Qmp))) (.sq (.reg (rT Tryz.f76 11)) (.sq (.sq (.dr QPx [(0, [1]), (1, [1]), (2, []), (3, [74, 5074, 10074, 15074]), (4, [74, 75, 5074, 5075, 10074, 10075, 15074, 15075]), (5, []), (6, [1]), (7, [1]), (8, []), (9, [80, 5080, 10080, 15080]), (10, [80, 81, 5080, 5081, 10080, 10081, 15080, 15081]), (11, [])] (.of [0, 1, 2, 3, 4, 5, 6, 7, 8, 9, 10, 11])) (.cd (.t 82) (.sq (.reg (rT Tryz.f76 13)) .rt) .sk)) (.sq (.reg (rT Tryz.f76 14)) .rt)))))))
def QRD : List (RV × Option Ty) := [((.t 2), some tI)]
abbrev Qsr : Sh := ⟨[(1, .ptr 1 0), (56, .ty (.sl Qap)), (57, .ty tI), (58, .ty tI)], [(1, .box Qae)]⟩
def Qr3 (x56 : List Qar) (x57 x58 : Int) (y1 : Qab) : VS := Qsr.st ((), x56, x57, x58, ()) (y1, ())
abbrev QuI : Sh := ⟨[(2, .ty tI)], []⟩
def QdJ (x2 : Int) : VS := QuI.st (x2, ()) ()
abbrev Qyc : Sh := ⟨[(1, .ptr 1 0)], [(1, .box Qae)]⟩
def Qe3 (y1 : Qab) : VS := Qyc.st ((), ()) (y1, ())
def QYq : VS → Option (Bool × List (Bool × Exit × VS)) := mkL Qsr (fun x y => (rngOk x.2.1 x.2.2.1 x.2.2.2.1 && x.2.1.all idLen)) (fun x y => [((!(x.2.1.drop x.2.2.2.1.toNat).all idOk), .ret, QdJ (19)), (true, .exit 0, Qe3 (y.1))])
def g_f76 : G := ⟨TYs, [], 83, EL [(114, QF7), (115, QF6), (116, QF5), (117, QF4), (118, QoF), (118, QoE), (120, Qgg), (120, Qgf)], keeps, (Ls [QYq]), IL [], RL []⟩
def QMx (x56 : List Qar) (x57 x58 : Int) (y1 : Qab) : Option (Exit × VS) :=
 let a1 := lgt Qap x56 (Int.toNat x58)
 br (ilt x58 x57) (br (cIx x56 x58) (br (QoJ (a1.1) ((a1.2).1) (((a1.2).2).1)) (br (!(Qja (a1.1) ((a1.2).1) (((a1.2).2).1))) (some (.ret, QdJ 19)) (some (.normal, Qr3 x56 x57 (iadd .i64 x58 1) y1))) none) none) (some (.exit 0, Qe3 y1))
noncomputable def Qni (x56 : List Qar) (x57 x58 : Int) (y1 : Qab) : Option (Exit × VS) := loopF (Qaj g_f76 Qkn Qmp) (Qr3 x56 x57 x58 y1)
noncomputable def Qts (x56 : List Qar) (x57 x58 : Int) (y1 : Qab) : Option (Exit × VS) :=
 let a1 := lgt Qap x56 (Int.toNat x58)
 br (ilt x58 x57) (br (cIx x56 x58) (br (QoJ (a1.1) ((a1.2).1) (((a1.2).2).1)) (br (!(Qja (a1.1) ((a1.2).1) (((a1.2).2).1))) (some (.ret, QdJ 19)) (Qni x56 x57 (iadd .i64 x58 1) y1)) none) none) (some (.exit 0, Qe3 y1))
def Qnu (x56 : List Qar) (x57 x58 : Int) (y1 : Qab) : Option (Exit × VS) := br (!(x56.drop x58.toNat).all idOk) (some (.ret, QdJ (19))) <| some (.exit 0, Qe3 (y1))
theorem QPZ (x56 : List Qar) (x57 x58 : Int) (y1 : Qab) : Qaj g_f76 Qkn Qmp (Qr3 x56 x57 x58 y1) = QMx x56 x57 x58 y1 := by kernel_rfl
theorem QAH (x56 : List Qar) (x57 x58 : Int) (y1 : Qab) : Qni x56 x57 x58 y1 = Qts x56 x57 x58 y1 := (Qao _ _).trans (by
 rw [QPZ]
 simp only [QMx, Qts, QaA, nxt_n, nxt_r, nxt_e, nxt_0]
 rfl)
def r_f76 (p0 : Qab) : Option (V × List VO) :=
 let a1 := (((((((p0).2).2).2).2).2).2)
 br (nameG p0.1) (br (!(wordF p0.1)) (some (.t tI 19, [])) (br (ilt p0.2.1 1) (some (.t tI 19, [])) (br (igt p0.2.1 p0.2.2.1) (some (.t tI 19, [])) (br (igt p0.2.2.1 4) (some (.t tI 19, [])) (br (Qbq p0.2.2.2.1) (br (!(suitF p0.2.2.2.1)) (some (.t tI 19, [])) (br (igt (llen p0.2.2.2.2.2.1) 4) (some (.t tI 19, [])) (br (igt (llen p0.2.2.2.2.2.2.1) 16) (some (.t tI 19, [])) (br (Qbq p0.2.2.2.2.2.2.1) (br (!(ascF p0.2.2.2.2.2.2.1)) (some (.t tI 19, [])) (br (Qbq p0.2.2.2.2.2.2.2.1) (br (!(ascF p0.2.2.2.2.2.2.2.1)) (some (.t tI 19, [])) (br (rngOk p0.2.2.2.2.2.1 (llen p0.2.2.2.2.2.1) (0 : Int) && p0.2.2.2.2.2.1.all idLen) (br (!(p0.2.2.2.2.2.1.drop (0 : Int).toNat).all idOk) (some (.t tI (19), [])) (br (Qbq (a1.1)) (br (QqZ (a1.1)) (some (.t tI 19, [])) (br (Qbq ((a1.2).1)) (br (Qit ((a1.2).1)) (some (.t tI 19, [])) (some (.t tI 0, []))) none)) none)) none)) none)) none)))) none))))) none
theorem e_f76 (p0 : Qab) : runF g_f76 QEq QRD false [.t Qae p0] [] = r_f76 p0 := by kernel_rfl
theorem QKV : Qai Tryz.prog 76 := .inr ⟨by decide, _, Tryz.func76, by kernel_rfl, by kernel_rfl⟩
theorem gk_f76 : GOk Tryz.prog g_f76 := Qal _ (gA (gC QX3 QUh (gC QX2 QUg (gC QX1 QUf (gC QX0 QUe (gC QzM QyW (gC QzL QyV (gC QqL QpX (gC QqK QpW gN)))))))))
theorem QVI (x56 : List Qar) (x57 x58 : Int) (y1 : Qab) (h : (rngOk x56 x57 x58 && x56.all idLen) = true) : Qni x56 x57 x58 y1 = Qnu x56 x57 x58 y1 := by
 simp only [Bool.and_eq_true, List.all_eq_true] at h
 obtain ⟨h0, hc⟩ := h
 obtain ⟨rfl, h3, k, rfl, hk⟩ := rng_k h0
 clear h0
 refine Qau x56 (fun k => Qni x56 (x56.length : Int) (k : Int) y1 = Qnu x56 (x56.length : Int) (k : Int) y1) ?_ ?_ k hk
 ·rw [QAH]
  simp only [Qts, Qnu, Qat, Nat.lt_irrefl, decide_false, Qaf, Int.toNat_natCast, List.drop_length, List.all_nil, Bool.not_true]
 ·intro k hk ih
  rw [QAH]
  have hx : QoJ x56[k].1 x56[k].2.1 x56[k].2.2.1 = true := hc x56[k] (List.getElem_mem hk)
  simp only [Qts, Qat, Qax, hk, decide_true, Qad, Int.toNat_natCast, add1 (show k < 4611686018427387904 by omega), Qaz (y := Qap) hk, hx, ih]
  simp only [Qnu, Int.toNat_natCast, List.drop_eq_getElem_cons hk, List.all_cons, idOk]
  cases Qja x56[k].1 x56[k].2.1 x56[k].2.2.1 <;> rfl
theorem QNT : ∀ S l p, g_f76.L 0 (fgt Qkn S) = some (true, l) → pickA l = some p → loopF (Qaj g_f76 Qkn Qmp) S = some p :=
 QaB (s := Qsr) ⟨by decide, by decide⟩ (by kernel_rfl) fun x y hok p hp => by
 simp only [Qas, Qan] at hp
 exact (QVI x.2.1 x.2.2.1 x.2.2.2.1 y.1 (by simpa using hok)).trans hp
theorem lk_f76 : QEq.lok g_f76 := by
 repeat (first | exact trivial | exact QNT | refine ⟨?_, ?_⟩)
theorem s_f76 (e : Qab) (h : QaT e = true) : r_f76 e = some (.t tI (Qez e), []) := by
 simp only [QaT, Bool.and_eq_true, decide_eq_true_eq] at h
 obtain ⟨⟨h1, h2, h3, h4, h5⟩, h6⟩ := h
 have q2 : Qbq (Qaw e) = true := decide_eq_true h2
 have q4 : Qbq (eAnch e) = true := decide_eq_true h4
 have q5 : Qbq (eHash e) = true := decide_eq_true h5
 unfold Qez
 simp only [r_f76, h1, q2, q4, q5, rng_0 h3, h6, Bool.and_self, Qad, Int.toNat_zero, List.drop_zero, QqZ, Qit]
 refine br9 (fun g => by simp only [Bool.not_eq_true'] at g; simp [QaV, g]) fun g1 => br9 (fun g => by simp [QaV, g]) fun g2 => br9 (fun g => by simp [QaV, g]) fun g3 => br9 (fun g => by simp [QaV, g]) fun g4 => br9 (fun g => by simp only [Bool.not_eq_true'] at g; simp [QaV, g]) fun g5 => br9 (fun g => by simp [QaV, g]) fun g6 => br9 (fun g => by simp [QaV, g]) fun g7 => br9 (fun g => by simp only [Bool.not_eq_true'] at g; simp [QaV, g]) fun g8 => br9 (fun g => by simp only [Bool.not_eq_true'] at g; simp [QaV, g]) fun g9 => br9 (fun g => by simp only [Bool.not_eq_true'] at g; simp [QaV, g]) fun g10 => br9 (fun g => by simp only [Bool.not_eq_true'] at g; simp [QaV, g]) fun g11 => br9 (fun g => by simp only [Bool.not_eq_true'] at g; simp [QaV, g]) fun g12 => ?_
 simp only [Bool.not_eq_false'] at g1 g5 g8 g9 g10 g11 g12
 have : QaV e = true := by
  simp only [QaV, g1, g2, g3, g4, g5, g6, g7, g8, g9, g10, g11, g12, Bool.not_false, Bool.and_self]
 rw [this]
 rfl
def Qz8 : Ent := spec (.pr Qae .nil) (fun x => (QaT x.1)) (fun x => (.t tI (Qez x.1)))
theorem QJa : Meets Tryz.prog 76 (strip Qz8) := Qag (R := runF g_f76 QEq QRD false) (mG Tryz.func76 (by kernel_rfl) Tryz.ntmps76 (by kernel_rfl) gk_f76 lk_f76) fun x hok => (e_f76 x.1).trans (s_f76 x.1 hok)
end
end Go.Proofs.YtckcgijklnloiaaGreat.K
namespace Go.Proofs.YtckcgijklnloiaaGreat.K
open Go.RowKit
def coeO (b : Ty) : VO → VO
 | .box (.ag [.t b' x]) => if b' = b ∧ b'.row = false then .box (.t b' x) else .box (.ag [.t b' x])
 | o => o
def coeOs : List Ty → List VO → List VO
 | b :: bs, o :: os => coeO b o :: coeOs bs os
 | _, os => os
def QfU (l : List SV) (bs : List Ty) (ok : SVt l → boxT bs → Bool) (F : SVt l → boxT bs → V) : Ent := fun args objs => specH l bs ok F args (coeOs bs objs)
section
variable {P : Program} {X : Nat → Nat → Prop} {w : World} {σ : Pl}
theorem QYa {b : Ty} {o : VO} {k : Nat} (h : OAt X w σ k o) : OAt X w σ k (coeO b o) := by
 unfold coeO
 split
 ·rename_i b' x
  split
  ·rename_i hq
   obtain ⟨g, ty, vs, h1, h2, h3, h4⟩ := h
   refine ⟨g, ty, vs, h1, h2, ?_, h4⟩
   have e1 : (V.ag [.t b' x]).d.cells = [b'.d x] := rfl
   have e2 : (V.t b' x).d.cells = [b'.d x] := by
    show (b'.d x).cells = _
    rw [Ty.d_cells, Ty.d_one b' x hq.2]
   rw [e2, ← e1]
   exact h3
  ·exact h
 ·exact h
theorem QX9 {b : Ty} {o : VO} (h : o ≠ .no) : coeO b o ≠ .no := by
 unfold coeO
 split
 ·split <;> simp
 ·exact h
theorem QkF : ∀ (bs : List Ty) (os : List VO), (coeOs bs os).length = os.length
 | [], os => rfl
 | b :: bs, [] => rfl
 | b :: bs, o :: os => by rw [coeOs, List.length_cons, List.length_cons, QkF bs os]
theorem QB8 : ∀ (bs : List Ty) (os : List VO) (j : Nat) (o : VO), (coeOs bs os)[j]? = some o → ∃ o', os[j]? = some o' ∧ (o = o' ∨ ∃ b, o = coeO b o')
 | [], os, j, o, h => ⟨o, h, .inl rfl⟩
 | b :: bs, [], j, o, h => ⟨o, h, .inl rfl⟩
 | b :: bs, o1 :: os, 0, o, h => by
  simp only [coeOs, List.getElem?_cons_zero, Option.some.injEq] at h
  exact ⟨o1, rfl, .inr ⟨b, h.symm⟩⟩
 | b :: bs, o1 :: os, j + 1, o, h => by
  simp only [coeOs, List.getElem?_cons_succ] at h
  obtain ⟨o', h1, h2⟩ := QB8 bs os j o h
  exact ⟨o', by rw [List.getElem?_cons_succ]; exact h1, h2⟩
theorem Qcn {f : FuncId} {l : List SV} {bs : List Ty} {ok : SVt l → boxT bs → Bool} {F : SVt l → boxT bs → V} (hM : Meets P f (strip (specH l bs ok F))) : Meets P f (strip (QfU l bs ok F)) := by
 intro args objs r os hF X w σ vs hfin hl hc
 have := hM args (coeOs bs objs) r os hF X w σ vs hfin ⟨fun j o hj => by
  obtain ⟨o', h1, h2⟩ := QB8 bs objs j o hj
  obtain ⟨g1, g2⟩ := hl.at_ j o' h1
  rcases h2 with rfl | ⟨b, rfl⟩
  ·exact ⟨g1, g2⟩
  ·exact ⟨QYa g1, QX9 g2⟩, fun i j b hij hi hj => hl.apart i j b hij (by rwa [QkF] at hi) (by rwa [QkF] at hj)⟩ hc
 rw [QkF] at this
 exact this
end
end Go.Proofs.YtckcgijklnloiaaGreat.K
namespace Go.Proofs.YtckcgijklnloiaaGreat.K
open Go.RowKit
noncomputable section
theorem QkH {l : List Qaa} (h : QaR l = true) {k : Nat} (hk : k < l.length) : QaG l[k] = true := by
 simp only [QaR, Bool.and_eq_true, List.all_eq_true] at h
 exact h.2 _ (List.getElem_mem hk)
theorem Qhg {l : List Qaa} (h : QaR l = true) : l.length ≤ 100000 := by
 simp only [QaR, Bool.and_eq_true, decide_eq_true_eq] at h
 exact h.1
abbrev cAt (l : List Qaa) (k : Nat) : Qaa := l.getD k zCert
theorem QYb {l : List Qaa} {k : Nat} (hk : k < l.length) : cAt l k = l[k] := by
 simp only [cAt, List.getD_eq_getElem?_getD, List.getElem?_eq_getElem hk, Option.getD_some]
theorem QLR {l : List Qaa} (h : QaR l = true) {k : Nat} (hk : k < l.length) : QaG (cAt l k) = true := by
 rw [QYb hk]
 exact QkH h hk
def pathF (l : List Qaa) (i : Int) : Bool := !ilt i 0 && (!ige i (llen l) && (ieq i 0 || ((cAt l i.toNat).2.2.2.2.2.2.2.2.1 && ige (cAt l i.toNat).2.2.2.2.2.2.2.2.2.1 (i - 1))))
def QpJ (l : List Qaa) (_i : Int) : Bool := decide (l.length ≤ 100000)
theorem QIQ (l : List Qaa) (i : Int) (h : QpJ l i = true) : br (ilt i 0) (some (V.t .bool false, ([] : List VO))) (br (ige i (llen l)) (some (V.t .bool false, [])) (br (ieq i 0) (some (V.t .bool true, [])) (br (cIx l i) (br (lgt Qac l (Int.toNat i)).2.2.2.2.2.2.2.2.1 (br (cIx l i) (some (V.t .bool (ige (lgt Qac l (Int.toNat i)).2.2.2.2.2.2.2.2.2.1 (isub .i64 i 1)), [])) none) (some (V.t .bool false, []))) none))) = some (V.t .bool (pathF l i), []) := by
 simp only [QpJ, decide_eq_true_eq] at h
 unfold pathF
 cases hi : ilt i 0 with
 | true => rfl
 | false =>
  have hn := of_decide_eq_false hi
  rw [Qaf, Bool.not_false, Bool.true_and]
  cases h1 : ige i (llen l) with
  | true => rfl
  | false =>
   have h2 := of_decide_eq_false h1
   rw [Qaf, Bool.not_false, Bool.true_and]
   cases h0 : ieq i 0 with
   | true => rfl
   | false =>
    have hl : llen l ≤ 100000 := by simp only [llen]; omega
    have hc : cIx l i = true := decide_eq_true ⟨by omega, by simp only [llen] at h2; omega⟩
    rw [Qaf, Bool.false_or, hc, Qad, Qco (by omega)]
    exact brA rfl
noncomputable def Qxz : TC := (.sq (.reg (rT Tryz.f140 0)) (.sq (.sq (.reg (rT Tryz.f140 1)) (.cd (.t 12) (.sq (.reg (rT Tryz.f140 2)) .rt) .sk)) (.sq (.reg (rT Tryz.f140 3)) .rt)))
def QHh : List (RV × Option Ty) := [((.t 4), some .bool)]
def QBz : G := ⟨TYs, [], 32, EL [], keeps, (fun _ _ => none), IL [], RL []⟩
def QIw (p0 : List Qaa) (p1 : Int) : Option (V × List VO) :=
 let a1 := (((((((((lgt Qac p0 (Int.toNat p1)).2).2).2).2).2).2).2).2)
 br (ilt p1 0) (some (.t .bool false, [])) (br (ige p1 (llen p0)) (some (.t .bool false, [])) (br (ieq p1 0) (some (.t .bool true, [])) (br (cIx p0 p1) (br (a1.1) (br (cIx p0 p1) (some (.t .bool (ige ((a1.2).1) (isub .i64 p1 1)), [])) none) (some (.t .bool false, []))) none)))
theorem e_f140 (p0 : List Qaa) (p1 : Int) : runF QBz Qxz QHh false [.t (.sl Qac) p0, .t tI p1] [] = QIw p0 p1 := by kernel_rfl
theorem QXQ : Qai Tryz.prog 140 := .inr ⟨by decide, _, Tryz.func140, by kernel_rfl, by kernel_rfl⟩
theorem QWT : GOk Tryz.prog QBz := Qal _ (fun p hp => by cases hp)
theorem QVh : Qxz.lok QBz := by repeat (first | exact trivial | refine ⟨?_, ?_⟩)
theorem s_f140 (l : List Qaa) (i : Int) (h : QpJ l i = true) : QIw l i = some (.t .bool (pathF l i), []) := by
 simp only [QIw]
 exact QIQ l i h
def QFT : Ent := spec (.pr (.sl Qac) (.pr tI .nil)) (fun x => (QpJ x.1 x.2.1)) (fun x => (.t .bool (pathF x.1 x.2.1)))
theorem QT4 : Meets Tryz.prog 140 (strip QFT) := Qag (R := runF QBz Qxz QHh false) (mG Tryz.func140 (by kernel_rfl) Tryz.ntmps140 (by kernel_rfl) QWT QVh) fun x hok => (e_f140 x.1 x.2.1).trans (s_f140 x.1 x.2.1 hok)
def QsY (l : List Qaa) (k : Nat) : Int := if k + 1 < l.length then (cAt l (k + 1)).2.2.2.2.1 else (cSeal (cAt l k)).1
def Qgo (l : List Qaa) (i : Int) : Int := QsY l i.toNat
def Qht (l : List Qaa) (i : Int) : Bool := decide (0 ≤ i ∧ i < l.length ∧ l.length ≤ 100000)
theorem add1N {k : Nat} (h : k < 4611686018427387904) : Int.toNat (iadd .i64 (k : Int) 1) = k + 1 := by rw [add1 h]; rfl
noncomputable def Qxx : TC := (.sq (.reg (rT Tryz.f142 0)) (.sq (.sq (.reg (rT Tryz.f142 1)) (.cd (.t 9) (.sq (.reg (rT Tryz.f142 2)) .rt) .sk)) (.sq (.reg (rT Tryz.f142 3)) .rt)))
def QHf : List (RV × Option Ty) := [((.t 4), some tI)]
def QBx : G := ⟨TYs, [], 22, EL [], keeps, (fun _ _ => none), IL [], RL []⟩
def QIu (p0 : List Qaa) (p1 : Int) : Option (V × List VO) :=
 let a1 := iadd .i64 p1 1
 br (ilt a1 (llen p0)) (br (cIx p0 a1) (some (.t tI ((((((lgt Qac p0 (Int.toNat a1)).2).2).2).2).1), [])) none) (br (cIx p0 p1) (some (.t tI ((((((((((((((lgt Qac p0 (Int.toNat p1)).2).2).2).2).2).2).2).2).2).2).2).1).1), [])) none)
theorem e_f142 (p0 : List Qaa) (p1 : Int) : runF QBx Qxx QHf false [.t (.sl Qac) p0, .t tI p1] [] = QIu p0 p1 := by kernel_rfl
theorem QXO : Qai Tryz.prog 142 := .inr ⟨by decide, _, Tryz.func142, by kernel_rfl, by kernel_rfl⟩
theorem QWR : GOk Tryz.prog QBx := Qal _ (fun p hp => by cases hp)
theorem QVf : Qxx.lok QBx := by repeat (first | exact trivial | refine ⟨?_, ?_⟩)
theorem s_f142 (l : List Qaa) (i : Int) (h : Qht l i = true) : QIu l i = some (.t tI (Qgo l i), []) := by
 simp only [Qht, decide_eq_true_eq] at h
 obtain ⟨h1, h2, h3⟩ := h
 obtain ⟨k, rfl⟩ := Int.eq_ofNat_of_zero_le h1
 simp only [QIu, add1N (show k < 4611686018427387904 by omega), add1 (show k < 4611686018427387904 by omega), Qax, Int.toNat_natCast]
 unfold Qgo QsY
 rw [Int.toNat_natCast]
 by_cases hk : k + 1 < l.length
 ·rw [show ilt ((k + 1 : Nat) : Int) (llen l) = true from decide_eq_true (by simp only [llen]; omega), Qad, decide_eq_true hk, Qad, if_pos hk]
 ·rw [show ilt ((k + 1 : Nat) : Int) (llen l) = false from decide_eq_false (by simp only [llen]; omega), Qaf, decide_eq_true (show k < l.length by omega), Qad, if_neg hk]
def QFR : Ent := spec (.pr (.sl Qac) (.pr tI .nil)) (fun x => (Qht x.1 x.2.1)) (fun x => (.t tI (Qgo x.1 x.2.1)))
theorem QT2 : Meets Tryz.prog 142 (strip QFR) := Qag (R := runF QBx Qxx QHf false) (mG Tryz.func142 (by kernel_rfl) Tryz.ntmps142 (by kernel_rfl) QWR QVf) fun x hok => (e_f142 x.1 x.2.1).trans (s_f142 x.1 x.2.1 hok)
def Qzw (l : List Qaa) (e : Int) (k : Nat) : Bool :=
 bif ieq e 11 then decide (k + 1 < l.length) && sne (cAt l k).2.1 (cAt l (k + 1)).2.2.1
 else bif ieq e 15 then !pathF l k else !Qk0 (cAt l k) (QsY l k)
def Qh2 (l : List Qaa) (e : Int) (k : Nat) : Bool := (List.range' k (l.length - k)).any (Qzw l e)
def QbX (l : List Qaa) (e : Int) : Bool := Qh2 l e 0
theorem QDt (l : List Qaa) (e : Int) : Qh2 l e l.length = false := by
 unfold Qh2
 rw [Nat.sub_self]
 rfl
theorem Qzx {l : List Qaa} {e : Int} {k : Nat} (hk : k < l.length) : Qh2 l e k = (Qzw l e k || Qh2 l e (k + 1)) := by
 have : l.length - k = (l.length - (k + 1)) + 1 := by omega
 unfold Qh2
 rw [this, List.range'_succ, List.any_cons]
def Qqz (l : List Qaa) (_e : Int) : Bool := QaR l
noncomputable def QLB : List DO := dT Tryz.f100 7
noncomputable def QLA : List DO := dT Tryz.f100 10
def Qhe : Fg := ⟨[(0, some (.sl Qac)), (1, some tI), (8, some tI), (9, some tI)], []⟩
noncomputable def Qi1 : TC := (.sq (.reg (rT Tryz.f100 2)) (.sq (.cd (.t 10) .sk (.fg ⟨[], []⟩ (.ex 0))) (.sq (.bk 1 (.sq (.reg (rT Tryz.f100 3)) (.sq (.reg (rT Tryz.f100 4)) (.sq (.sq (.reg (rT Tryz.f100 5)) (.bk 2 (.sq (.reg (rT Tryz.f100 6)) (.cd (.t 22) (.dr QLB [(0, []), (1, []), (2, []), (3, []), (4, []), (5, []), (6, []), (7, []), (8, []), (9, []), (10, []), (11, []), (12, []), (13, []), (14, []), (15, []), (16, []), (17, []), (18, []), (19, [])] (.of [0, 1, 2, 3, 4, 5, 6, 7, 8, 9, 10, 11, 12, 13, 14, 15, 16, 17, 18, 19])) (.sq (.reg (rT Tryz.f100 8)) (.cd (.t 43) (.reg (rT Tryz.f100 9)) (.dr QLA [(0, []), (1, []), (2, []), (3, []), (4, []), (5, []), (6, []), (7, []), (8, []), (9, [])] (.of [0, 1, 2, 3, 4, 5, 6, 7, 8, 9])))))))) (.sq (.reg (rT Tryz.f100 11)) (.cd (.t 49) (.sq (.reg (rT Tryz.f100 12)) (.fg ⟨[(4, some .bool)], []⟩ .rt)) .sk)))))) (.reg (rT Tryz.f100 13)))))
noncomputable def QxT : TC := (.sq (.reg (rT Tryz.f100 0)) (.sq (.sq (.reg (rT Tryz.f100 1)) (.bk 0 (.lp 0 Qhe Qi1))) (.sq (.reg (rT Tryz.f100 14)) .rt)))
def QHB : List (RV × Option Ty) := [((.t 4), some .bool)]
abbrev Qpn : Sh := ⟨[(0, .ty (.sl Qac)), (1, .ty tI), (8, .ty tI), (9, .ty tI)], []⟩
def QeN (x0 : List Qaa) (x1 x8 x9 : Int) : VS := Qpn.st (x0, x1, x8, x9, ()) ()
abbrev QsW : Sh := ⟨[(4, .ty .bool)], []⟩
def Qba (x4 : Bool) : VS := QsW.st (x4, ()) ()
abbrev Qvh : Sh := ⟨[], []⟩
def Qef  : VS := Qvh.st () ()
def QQP : VS → Option (Bool × List (Bool × Exit × VS)) := mkL Qpn (fun x y => (decide (x.2.2.1 = x.1.length ∧ 0 ≤ x.2.2.2.1 ∧ x.2.2.2.1 ≤ x.2.2.1) && QaR x.1)) (fun x y => [((Qh2 x.1 x.2.1 x.2.2.2.1.toNat), .ret, Qba (true)), (true, .exit 0, Qef)])
def Ql5 : G := ⟨TYs, [], 51, EL [(140, QFT), (141, QFS), (142, QFR)], keeps, (Ls [QQP]), IL [], RL []⟩
def QCG (x0 : List Qaa) (x1 x8 x9 : Int) : Option (Exit × VS) :=
 let a1 := iadd .i64 x9 1
 let a2 := lgt Qac x0 (Int.toNat x9)
 br (ilt x9 x8) (br (ieq x1 11) (br (ilt a1 (llen x0)) (br (cIx x0 x9) (br (cIx x0 a1) (br (sne ((a2.2).1) ((((lgt Qac x0 (Int.toNat a1)).2).2).1)) (some (.ret, Qba true)) (some (.normal, QeN x0 x1 x8 a1))) none) none) (some (.normal, QeN x0 x1 x8 a1))) (br (ieq x1 15) (br (QpJ x0 x9) (br (!(pathF x0 x9)) (some (.ret, Qba true)) (some (.normal, QeN x0 x1 x8 a1))) none) (br (cIx x0 x9) (br (Qht x0 x9) (br (QeA a2 (Qgo x0 x9)) (br (!(Qk0 a2 (Qgo x0 x9))) (some (.ret, Qba true)) (some (.normal, QeN x0 x1 x8 a1))) none) none) none))) (some (.exit 0, Qef))
noncomputable def Qdw (x0 : List Qaa) (x1 x8 x9 : Int) : Option (Exit × VS) := loopF (Qaj Ql5 Qhe Qi1) (QeN x0 x1 x8 x9)
noncomputable def Qng (x0 : List Qaa) (x1 x8 x9 : Int) : Option (Exit × VS) :=
 let a1 := iadd .i64 x9 1
 let a2 := lgt Qac x0 (Int.toNat x9)
 br (ilt x9 x8) (br (ieq x1 11) (br (ilt a1 (llen x0)) (br (cIx x0 x9) (br (cIx x0 a1) (br (sne ((a2.2).1) ((((lgt Qac x0 (Int.toNat a1)).2).2).1)) (some (.ret, Qba true)) (Qdw x0 x1 x8 a1)) none) none) (Qdw x0 x1 x8 a1)) (br (ieq x1 15) (br (QpJ x0 x9) (br (!(pathF x0 x9)) (some (.ret, Qba true)) (Qdw x0 x1 x8 a1)) none) (br (cIx x0 x9) (br (Qht x0 x9) (br (QeA a2 (Qgo x0 x9)) (br (!(Qk0 a2 (Qgo x0 x9))) (some (.ret, Qba true)) (Qdw x0 x1 x8 a1)) none) none) none))) (some (.exit 0, Qef))
def Qkc (x0 : List Qaa) (x1 x8 x9 : Int) : Option (Exit × VS) := br (Qh2 x0 x1 x9.toNat) (some (.ret, Qba (true))) <| some (.exit 0, Qef)
theorem QMt (x0 : List Qaa) (x1 x8 x9 : Int) : Qaj Ql5 Qhe Qi1 (QeN x0 x1 x8 x9) = QCG x0 x1 x8 x9 := by kernel_rfl
theorem Qwd (x0 : List Qaa) (x1 x8 x9 : Int) : Qdw x0 x1 x8 x9 = Qng x0 x1 x8 x9 := (Qao _ _).trans (by
 rw [QMt]
 simp only [QCG, Qng, QaA, nxt_n, nxt_r, nxt_e, nxt_0]
 rfl)
def QIJ (p0 : List Qaa) (p1 : Int) : Option (V × List VO) := br (decide ((llen p0) = p0.length ∧ 0 ≤ (0 : Int) ∧ (0 : Int) ≤ (llen p0)) && QaR p0) (br (Qh2 p0 p1 (0 : Int).toNat) (some (.t .bool (true), [])) (some (.t .bool false, []))) none
theorem e_f100 (p0 : List Qaa) (p1 : Int) : runF Ql5 QxT QHB false [.t (.sl Qac) p0, .t tI p1] [] = QIJ p0 p1 := by kernel_rfl
theorem QX5 : Qai Tryz.prog 100 := .inr ⟨by decide, _, Tryz.func100, by kernel_rfl, by kernel_rfl⟩
theorem QXd : GOk Tryz.prog Ql5 := Qal _ (gA (gC QXQ QT4 (gC QXP QT3 (gC QXO QT2 gN))))
theorem QOL (x0 : List Qaa) (x1 x8 x9 : Int) (h : (decide (x8 = x0.length ∧ 0 ≤ x9 ∧ x9 ≤ x8) && QaR x0) = true) : Qdw x0 x1 x8 x9 = Qkc x0 x1 x8 x9 := by
 simp only [Bool.and_eq_true, decide_eq_true_eq] at h
 obtain ⟨⟨rfl, h0, h1⟩, hc⟩ := h
 obtain ⟨k, rfl⟩ := Int.eq_ofNat_of_zero_le h0
 have hl := Qhg hc
 refine Qau x0 (fun k => Qdw x0 x1 (x0.length : Int) (k : Int) = Qkc x0 x1 (x0.length : Int) (k : Int)) ?_ ?_ k (by omega)
 ·rw [Qwd]
  simp only [Qng, Qkc, Qat, Nat.lt_irrefl, decide_false, Qaf, Int.toNat_natCast, QDt]
 ·intro k hk ih
  rw [Qwd]
  have hx := QkH hc hk
  have hs : Qht x0 (k : Int) = true := decide_eq_true (by omega)
  have hp : QpJ x0 (k : Int) = true := decide_eq_true hl
  simp only [Qng, Qat, Qax, hk, decide_true, Qad, Int.toNat_natCast, add1N (show k < 4611686018427387904 by omega), add1 (show k < 4611686018427387904 by omega), hs, hp, ih, show lgt Qac x0 k = cAt x0 k from rfl, show ∀ q, QeA (cAt x0 k) q = true from fun q => QLR hc hk, Qgo]
  simp only [Qkc, Int.toNat_natCast, Qzx hk, Qzw]
  cases h1 : ieq x1 11 with
  | true =>
   rw [Qad, cond_true]
   by_cases hk2 : k + 1 < x0.length
   ·rw [decide_eq_true hk2, Qad, Qad, Bool.true_and]
    show br (sne (cAt x0 k).2.1 (cAt x0 (k + 1)).2.2.1) _ _ = _
    cases sne (cAt x0 k).2.1 (cAt x0 (k + 1)).2.2.1 <;> rfl
   ·rw [decide_eq_false hk2, Qaf, Bool.false_and, Bool.false_or]
  | false =>
   rw [Qaf, cond_false]
   cases h2 : ieq x1 15 with
   | true =>
    rw [Qad, cond_true]
    cases pathF x0 (k : Int) <;> rfl
   | false =>
    rw [Qaf, cond_false]
    cases Qk0 (cAt x0 k) (QsY x0 k) <;> rfl
theorem QJ2 : ∀ S l p, Ql5.L 0 (fgt Qhe S) = some (true, l) → pickA l = some p → loopF (Qaj Ql5 Qhe Qi1) S = some p :=
 QaB (s := Qpn) ⟨by decide, by decide⟩ (by kernel_rfl) fun x y hok p hp => by
 simp only [Qas, Qan] at hp
 exact (QOL x.1 x.2.1 x.2.2.1 x.2.2.2.1 (by simpa using hok)).trans hp
theorem QVB : QxT.lok Ql5 := by
 repeat (first | exact trivial | exact QJ2 | refine ⟨?_, ?_⟩)
theorem s_f100 (l : List Qaa) (e : Int) (h : Qqz l e = true) : QIJ l e = some (.t .bool (QbX l e), []) := by
 have h : QaR l = true := h
 simp only [QIJ, h, Bool.and_true, Int.toNat_zero]
 rw [decide_eq_true ⟨trivial, Int.le_refl 0, by simp only [llen]; omega⟩, Qad]
 unfold QbX
 cases Qh2 l e 0 <;> rfl
def QF9 : Ent := spec (.pr (.sl Qac) (.pr tI .nil)) (fun x => (Qqz x.1 x.2.1)) (fun x => (.t .bool (QbX x.1 x.2.1)))
theorem QUj : Meets Tryz.prog 100 (strip QF9) := Qag (R := runF Ql5 QxT QHB false) (mG Tryz.func100 (by kernel_rfl) Tryz.ntmps100 (by kernel_rfl) QXd QVB) fun x hok => (e_f100 x.1 x.2.1).trans (s_f100 x.1 x.2.1 hok)
def heldF (c : Qaa) (h : List Int) (d e : Int) : Bool := bif ieq e 13 then ilt d c.2.2.2.2.2.2.1 || ige d c.2.2.2.2.2.2.2.1 else !hasF h c.2.2.2.2.2.1.1
def QlE (_c : Qaa) (h : List Int) (_d _e : Int) : Bool := decide (h.length ≤ 100000)
noncomputable def QEa : TC := (.sq (.reg (rT Tryz.f99 0)) (.sq (.sq (.reg (rT Tryz.f99 1)) (.cd (.t 10) (.sq (.reg (rT Tryz.f99 2)) .rt) .sk)) (.sq (.reg (rT Tryz.f99 3)) .rt)))
def QRn : List (RV × Option Ty) := [((.t 8), some .bool)]
def g_f99 : G := ⟨TYs, [], 27, EL [(101, QkY)], keeps, (fun _ _ => none), IL [], RL []⟩
def r_f99 (p0 : Qaa) (p1 : List Int) (p2 p3 : Int) : Option (V × List VO) := br (ieq p3 13) (br (ilt p2 p0.2.2.2.2.2.2.1) (some (.t .bool true, [])) (some (.t .bool (ige p2 p0.2.2.2.2.2.2.2.1), []))) (br (Qbh p1 p0.2.2.2.2.2.1.1) (some (.t .bool (!(hasF p1 p0.2.2.2.2.2.1.1)), [])) none)
theorem e_f99 (p0 : Qaa) (p1 : List Int) (p2 p3 : Int) : runF g_f99 QEa QRn false [.t Qac p0, .t (.sl tI) p1, .t tI p2, .t tI p3] [] = r_f99 p0 p1 p2 p3 := by kernel_rfl
theorem en_f99 : Qai Tryz.prog 99 := .inr ⟨by decide, _, Tryz.func99, by kernel_rfl, by kernel_rfl⟩
theorem gk_f99 : GOk Tryz.prog g_f99 := Qal _ (gA (gC QqM QpY gN))
theorem lk_f99 : QEa.lok g_f99 := by repeat (first | exact trivial | refine ⟨?_, ?_⟩)
theorem s_f99 (c : Qaa) (h : List Int) (d e : Int) (hok : QlE c h d e = true) : r_f99 c h d e = some (.t .bool (heldF c h d e), []) := by
 simp only [r_f99, show ∀ v, Qbh h v = true from fun _ => hok, Qad]
 unfold heldF
 cases ieq e 13 with
 | false => rfl
 | true =>
  rw [Qad, cond_true]
  cases ilt d c.2.2.2.2.2.2.1 <;> rfl
def QQT : Ent := spec (.pr Qac (.pr (.sl tI) (.pr tI (.pr tI .nil)))) (fun x => (QlE x.1 x.2.1 x.2.2.1 x.2.2.2.1)) (fun x => (.t .bool (heldF x.1 x.2.1 x.2.2.1 x.2.2.2.1)))
theorem ms_f99 : Meets Tryz.prog 99 (strip QQT) := Qag (R := runF g_f99 QEa QRn false) (mG Tryz.func99 (by kernel_rfl) Tryz.ntmps99 (by kernel_rfl) gk_f99 lk_f99) fun x hok => (e_f99 x.1 x.2.1 x.2.2.1 x.2.2.2.1).trans (s_f99 x.1 x.2.1 x.2.2.1 x.2.2.2.1 hok)
def badC (c : Qaa) : Bool := !QaD c
noncomputable def QEe : TC := (.sq (.reg (rT Tryz.f95 0)) (.sq (.reg (rT Tryz.f95 1)) .rt))
def QRr : List (RV × Option Ty) := [((.t 2), some .bool)]
def g_f95 : G := ⟨TYs, [], 6, EL [(96, QE2)], keeps, (fun _ _ => none), IL [], RL []⟩
def r_f95 (p0 : Qaa) : Option (V × List VO) := br (QaG p0) (some (.t .bool (ine (QeV p0) 0), [])) none
theorem e_f95 (p0 : Qaa) : runF g_f95 QEe QRr false [.t Qac p0] [] = r_f95 p0 := by kernel_rfl
theorem en_f95 : Qai Tryz.prog 95 := .inr ⟨by decide, _, Tryz.func95, by kernel_rfl, by kernel_rfl⟩
theorem gk_f95 : GOk Tryz.prog g_f95 := Qal _ (gA (gC QSF QSp gN))
theorem lk_f95 : QEe.lok g_f95 := by repeat (first | exact trivial | refine ⟨?_, ?_⟩)
theorem s_f95 (c : Qaa) (h : QaG c = true) : r_f95 c = some (.t .bool (badC c), []) := by
 simp only [r_f95, h, Qad, Qhf]
 rfl
def QQW : Ent := spec (.pr Qac .nil) (fun x => (QaG x.1)) (fun x => (.t .bool (badC x.1)))
theorem ms_f95 : Meets Tryz.prog 95 (strip QQW) := Qag (R := runF g_f95 QEe QRr false) (mG Tryz.func95 (by kernel_rfl) Tryz.ntmps95 (by kernel_rfl) gk_f95 lk_f95) fun x hok => (e_f95 x.1).trans (s_f95 x.1 hok)
def okBad (l : List Qaa) : Bool := QaR l
theorem QIV {l : List Qaa} (h : okBad l = true) : l.length ≤ 100000 := Qhg h
def ixBad (l : List Qaa) : Int := match fstG badC l with | some k => (k : Int) | none => -1
def QcU : Fg := ⟨[(0, some (.sl Qac)), (1, none), (7, some tI), (8, some tI)], []⟩
noncomputable def QdG : TC := (.sq (.reg (rT Tryz.f137 2)) (.sq (.cd (.t 9) .sk (.fg ⟨[], []⟩ (.ex 0))) (.sq (.bk 1 (.sq (.reg (rT Tryz.f137 3)) (.sq (.reg (rT Tryz.f137 4)) (.cd (.t 16) (.sq (.reg (rT Tryz.f137 5)) (.fg ⟨[(4, some tI)], []⟩ .rt)) .sk)))) (.reg (rT Tryz.f137 6)))))
noncomputable def QkU : TC := (.sq (.reg (rT Tryz.f137 0)) (.sq (.sq (.reg (rT Tryz.f137 1)) (.bk 0 (.lp 0 QcU QdG))) (.sq (.reg (rT Tryz.f137 7)) .rt)))
def Qrv : List (RV × Option Ty) := [((.t 4), some tI)]
abbrev Qgi : Sh := ⟨[(0, .ty (.sl Qac)), (1, .cf 95), (7, .ty tI), (8, .ty tI)], []⟩
def Qf6 (x0 : List Qaa) (x7 x8 : Int) : VS := Qgi.st (x0, (), x7, x8, ()) ()
abbrev Qme : Sh := ⟨[(4, .ty tI)], []⟩
def Qb0 (x4 : Int) : VS := Qme.st (x4, ()) ()
abbrev Qpc : Sh := ⟨[], []⟩
def Qcj  : VS := Qpc.st () ()
def QzZ : VS → Option (Bool × List (Bool × Exit × VS)) := mkL Qgi (fun x y => (rngOk x.1 x.2.2.1 x.2.2.2.1 && okBad x.1)) (fun x y => [(((fstG badC (x.1.drop x.2.2.2.1.toNat)).isSome), .ret, Qb0 (x.2.2.2.1 + ((fstG badC (x.1.drop x.2.2.2.1.toNat)).getD 0 : Nat))), (true, .exit 0, Qcj)])
def QcP : G := ⟨TYs, [], 19, EL [(95, QQW)], keeps, (Ls [QzZ]), IL [], RL []⟩
def QqW (x0 : List Qaa) (x7 x8 : Int) : Option (Exit × VS) :=
 let a1 := lgt Qac x0 (Int.toNat x8)
 br (ilt x8 x7) (br (cIx x0 x8) (br (QaG a1) (br (badC a1) (some (.ret, Qb0 x8)) (some (.normal, Qf6 x0 x7 (iadd .i64 x8 1)))) none) none) (some (.exit 0, Qcj))
noncomputable def Qem (x0 : List Qaa) (x7 x8 : Int) : Option (Exit × VS) := loopF (Qaj QcP QcU QdG) (Qf6 x0 x7 x8)
noncomputable def Qfw (x0 : List Qaa) (x7 x8 : Int) : Option (Exit × VS) :=
 let a1 := lgt Qac x0 (Int.toNat x8)
 br (ilt x8 x7) (br (cIx x0 x8) (br (QaG a1) (br (badC a1) (some (.ret, Qb0 x8)) (Qem x0 x7 (iadd .i64 x8 1))) none) none) (some (.exit 0, Qcj))
def Qeq (x0 : List Qaa) (x7 x8 : Int) : Option (Exit × VS) :=
 let a1 := fstG badC (x0.drop x8.toNat)
 br (a1.isSome) (some (.ret, Qb0 (x8 + (a1.getD 0 : Nat)))) <| some (.exit 0, Qcj)
theorem QwB (x0 : List Qaa) (x7 x8 : Int) : Qaj QcP QcU QdG (Qf6 x0 x7 x8) = QqW x0 x7 x8 := by kernel_rfl
theorem QlA (x0 : List Qaa) (x7 x8 : Int) : Qem x0 x7 x8 = Qfw x0 x7 x8 := (Qao _ _).trans (by
 rw [QwB]
 simp only [QqW, Qfw, QaA, nxt_n, nxt_r, nxt_e, nxt_0]
 rfl)
def QpG (p0 : List Qaa) : Option (V × List VO) :=
 let a1 := (fstG badC (p0.drop (0 : Int).toNat))
 br (rngOk p0 (llen p0) (0 : Int) && okBad p0) (br (a1.isSome) (some (.t tI ((0 : Int) + (a1.getD 0 : Nat)), [])) (some (.t tI (-1), []))) none
theorem QLm (p0 : List Qaa) : runF QcP QkU Qrv false [.t (.sl Qac) p0, .c (.func (.func 95) ⟨[]⟩ ⟨[]⟩)] [] = QpG p0 := by kernel_rfl
theorem QDy : Qai Tryz.prog 137 := .inr ⟨by decide, _, Tryz.func137, by kernel_rfl, by kernel_rfl⟩
theorem QDp : GOk Tryz.prog QcP := Qal _ (gA (gC en_f95 ms_f95 gN))
theorem Qzh (x0 : List Qaa) (x7 x8 : Int) (h : (rngOk x0 x7 x8 && okBad x0) = true) : Qem x0 x7 x8 = Qeq x0 x7 x8 := by
 simp only [Bool.and_eq_true] at h
 obtain ⟨h0, hc⟩ := h
 obtain ⟨rfl, h3, k, rfl, hk⟩ := rng_k h0
 clear h0
 refine Qau x0 (fun k => Qem x0 (x0.length : Int) (k : Int) = Qeq x0 (x0.length : Int) (k : Int)) ?_ ?_ k hk
 ·rw [QlA]
  simp [Qfw, Qeq, Qat, Qaf, fstG]
 ·intro k hk ih
  rw [QlA]
  have hx := QkH hc hk
  simp only [Qfw, Qat, Qax, hk, decide_true, Qad, Int.toNat_natCast, add1 (show k < 4611686018427387904 by omega), ih, Qaz (y := Qac) hk, hx]
  simp only [Qeq, Int.toNat_natCast, List.drop_eq_getElem_cons hk, fstG]
  cases h : (badC x0[k]) with
  | true => simp [Qad]
  | false =>
   simp only [Qaf, Bool.false_eq_true, if_false]
   cases hq : fstG badC (x0.drop (k + 1)) with
   | none => rfl
   | some j =>
    simp only [Option.map_some, Option.isSome_some, Option.getD_some, Qad]
    congr 3
    omega
theorem QvI : ∀ S l p, QcP.L 0 (fgt QcU S) = some (true, l) → pickA l = some p → loopF (Qaj QcP QcU QdG) S = some p :=
 QaB (s := Qgi) ⟨by decide, by decide⟩ (by kernel_rfl) fun x y hok p hp => by
 simp only [Qas, Qan] at hp
 exact (Qzh x.1 x.2.2.1 x.2.2.2.1 (by simpa using hok)).trans hp
theorem QDf : QkU.lok QcP := by
 repeat (first | exact trivial | exact QvI | refine ⟨?_, ?_⟩)
theorem QGq (l : List Qaa) (h : okBad l = true) : QpG l = some (.t tI (ixBad l), []) := by
 have hl := QIV h
 simp only [QpG, rng_0 hl, h, Bool.and_self, Qad, Int.toNat_zero, List.drop_zero, ixBad]
 cases fstG badC l <;> simp [Qad, Qaf]
def Qrq : Ent := specH [.ty (.sl Qac), .cf 95] [] (fun x d => (okBad x.1)) (fun x d => (.t tI (ixBad x.1)))
theorem QC9 : Meets Tryz.prog 137 (strip Qrq) := (QaP (R := runF QcP QkU Qrv false) (mG Tryz.func137 (by kernel_rfl) Tryz.ntmps137 (by kernel_rfl) QDp QDf) fun x d hok => (QLm x.1).trans (QGq x.1 hok))
def QkL (l : List Qaa) : Bool := l.any badC
noncomputable def QnY : TC := (.sq (.reg (rT Tryz.f94 0)) (.sq (.reg (rT Tryz.f94 1)) .rt))
def Qvj : List (RV × Option Ty) := [((.t 4), some .bool)]
def QnI : G := ⟨TYs, [], 9, EL [(137, Qrq)], keeps, (fun _ _ => none), IL [], RL []⟩
def Qs4 (p0 : List Qaa) : Option (V × List VO) := br (okBad p0) (some (.t .bool (ige (ixBad p0) 0), [])) none
theorem QPk (p0 : List Qaa) : runF QnI QnY Qvj false [.t (.sl Qac) p0, .c (.func (.func 95) ⟨[]⟩ ⟨[]⟩)] [] = Qs4 p0 := by kernel_rfl
theorem QKP : Qai Tryz.prog 94 := .inr ⟨by decide, _, Tryz.func94, by kernel_rfl, by kernel_rfl⟩
theorem QKA : GOk Tryz.prog QnI := Qal _ (gA (gC QDy QC9 gN))
theorem QJ8 : QnY.lok QnI := by repeat (first | exact trivial | refine ⟨?_, ?_⟩)
theorem QNk (l : List Qaa) (h : okBad l = true) : Qs4 l = some (.t .bool (QkL l), []) := by
 simp only [Qs4, h, Qad]
 have e : ige (ixBad l) 0 = QkL l := by
  unfold ixBad QkL
  cases hq : fstG badC l with
  | none => rw [QbA.1 hq]; rfl
  | some k =>
   rw [← QbB, hq]
   simp only [ige, Option.isSome_some, decide_eq_true_eq]
   omega
 rw [e]
def Quu : Ent := specH [.ty (.sl Qac), .cf 95] [] (fun x d => (okBad x.1)) (fun x d => (.t .bool (QkL x.1)))
theorem QI4 : Meets Tryz.prog 94 (strip Quu) := (QaP (R := runF QnI QnY Qvj false) (mG Tryz.func94 (by kernel_rfl) Tryz.ntmps94 (by kernel_rfl) QKA QJ8) fun x d hok => (QPk x.1).trans (QNk x.1 hok))
noncomputable def QEb : TC := (.sq (.reg (rT Tryz.f98 0)) (.sq (.reg (rT Tryz.f98 1)) .rt))
def QRo : List (RV × Option Ty) := [((.t 5), some .bool)]
def g_f98 : G := ⟨TYs, [], 11, EL [(99, QQT)], keeps, (fun _ _ => none), IL [], RL []⟩
def r_f98 (p0 : Qaa) (d0 : List Int) (d1 d2 : Int) : Option (V × List VO) := br (QlE p0 d0 d1 d2) (some (.t .bool (heldF p0 d0 d1 d2), [.box (.t (.sl tI) d0), .box (.t tI d1), .box (.t tI d2)])) none
theorem e_f98 (p0 : Qaa) (d0 : List Int) (d1 d2 : Int) : runF g_f98 QEb QRo false [.t Qac p0, .ptr 50000 0, .ptr 50001 0, .ptr 50002 0] [.box (.t (.sl tI) d0), .box (.t tI d1), .box (.t tI d2)] = r_f98 p0 d0 d1 d2 := by kernel_rfl
theorem en_f98 : Qai Tryz.prog 98 := .inr ⟨by decide, _, Tryz.func98, by kernel_rfl, by kernel_rfl⟩
theorem gk_f98 : GOk Tryz.prog g_f98 := Qal _ (gA (gC en_f99 ms_f99 gN))
theorem lk_f98 : QEb.lok g_f98 := by repeat (first | exact trivial | refine ⟨?_, ?_⟩)
theorem s_f98 (c : Qaa) (h : List Int) (d e : Int) (hok : QlE c h d e = true) : r_f98 c h d e = some (.t .bool (heldF c h d e), [.box (.t (.sl tI) h), .box (.t tI d), .box (.t tI e)]) := by
 simp only [r_f98, hok, Qad]
def QQU : Ent := QfU [.ty Qac, .ptr 50000 0, .ptr 50001 0, .ptr 50002 0] [(.sl tI), tI, tI] (fun x d => (QlE x.1 d.1 d.2.1 d.2.2.1)) (fun x d => (.t .bool (heldF x.1 d.1 d.2.1 d.2.2.1)))
theorem ms_f98 : Meets Tryz.prog 98 (strip QQU) := Qcn (QaP (R := runF g_f98 QEb QRo false) (mG Tryz.func98 (by kernel_rfl) Tryz.ntmps98 (by kernel_rfl) gk_f98 lk_f98) fun x d hok => (e_f98 x.1 d.1 d.2.1 d.2.2.1).trans (s_f98 x.1 d.1 d.2.1 d.2.2.1 hok))
def Qc3 (l : List Qaa) (h : List Int) (_d _e : Int) : Bool := decide (l.length ≤ 100000 ∧ h.length ≤ 100000)
theorem QC5 {l : List Qaa} {h : List Int} {d e : Int} (hq : Qc3 l h d e = true) : l.length ≤ 100000 := (of_decide_eq_true hq).1
def QrH (l : List Qaa) (d0 : List Int) (d1 : Int) (d2 : Int) : Int := match fstG (fun c => heldF c d0 d1 d2) l with | some k => (k : Int) | none => -1
def QcT : Fg := ⟨[(0, some (.sl Qac)), (1, none), (7, some tI), (8, some tI)], [(50000, some (.sl tI)), (50001, some tI), (50002, some tI)]⟩
noncomputable def QdF : TC := (.sq (.reg (rT Tryz.f137 2)) (.sq (.cd (.t 9) .sk (.fg ⟨[], [(50000, some (.sl tI)), (50001, some tI), (50002, some tI)]⟩ (.ex 0))) (.sq (.bk 1 (.sq (.reg (rT Tryz.f137 3)) (.sq (.reg (rT Tryz.f137 4)) (.cd (.t 16) (.sq (.reg (rT Tryz.f137 5)) (.fg ⟨[(4, some tI)], [(50000, some (.sl tI)), (50001, some tI), (50002, some tI)]⟩ .rt)) .sk)))) (.reg (rT Tryz.f137 6)))))
noncomputable def QkT : TC := (.sq (.reg (rT Tryz.f137 0)) (.sq (.sq (.reg (rT Tryz.f137 1)) (.bk 0 (.lp 0 QcT QdF))) (.sq (.reg (rT Tryz.f137 7)) .rt)))
def Qru : List (RV × Option Ty) := [((.t 4), some tI)]
abbrev Qgh : Sh := ⟨[(0, .ty (.sl Qac)), (1, .fn 98 [(50000, 0), (50001, 0), (50002, 0)]), (7, .ty tI), (8, .ty tI)], [(50000, .box (.sl tI)), (50001, .box tI), (50002, .box tI)]⟩
def Qf5 (x0 : List Qaa) (x7 x8 : Int) (y50000 : List Int) (y50001 y50002 : Int) : VS := Qgh.st (x0, (), x7, x8, ()) (y50000, y50001, y50002, ())
abbrev Qmd : Sh := ⟨[(4, .ty tI)], [(50000, .box (.sl tI)), (50001, .box tI), (50002, .box tI)]⟩
def QbZ (x4 : Int) (y50000 : List Int) (y50001 y50002 : Int) : VS := Qmd.st (x4, ()) (y50000, y50001, y50002, ())
abbrev Qpb : Sh := ⟨[], [(50000, .box (.sl tI)), (50001, .box tI), (50002, .box tI)]⟩
def Qci (y50000 : List Int) (y50001 y50002 : Int) : VS := Qpb.st () (y50000, y50001, y50002, ())
def QzY : VS → Option (Bool × List (Bool × Exit × VS)) := mkL Qgh (fun x y => (rngOk x.1 x.2.2.1 x.2.2.2.1 && Qc3 x.1 y.1 y.2.1 y.2.2.1)) (fun x y => [(((fstG (fun c => heldF c y.1 y.2.1 y.2.2.1) (x.1.drop x.2.2.2.1.toNat)).isSome), .ret, QbZ (x.2.2.2.1 + ((fstG (fun c => heldF c y.1 y.2.1 y.2.2.1) (x.1.drop x.2.2.2.1.toNat)).getD 0 : Nat)) (y.1) (y.2.1) (y.2.2.1)), (true, .exit 0, Qci (y.1) (y.2.1) (y.2.2.1))])
def QcO : G := ⟨TYs, [], 19, EL [(98, QQU)], keeps, (Ls [QzY]), IL [], RL []⟩
def QqV (x0 : List Qaa) (x7 x8 : Int) (y50000 : List Int) (y50001 y50002 : Int) : Option (Exit × VS) :=
 let a1 := lgt Qac x0 (Int.toNat x8)
 br (ilt x8 x7) (br (cIx x0 x8) (br (QlE a1 y50000 y50001 y50002) (br (heldF a1 y50000 y50001 y50002) (some (.ret, QbZ x8 y50000 y50001 y50002)) (some (.normal, Qf5 x0 x7 (iadd .i64 x8 1) y50000 y50001 y50002))) none) none) (some (.exit 0, Qci y50000 y50001 y50002))
noncomputable def Qel (x0 : List Qaa) (x7 x8 : Int) (y50000 : List Int) (y50001 y50002 : Int) : Option (Exit × VS) := loopF (Qaj QcO QcT QdF) (Qf5 x0 x7 x8 y50000 y50001 y50002)
noncomputable def Qfv (x0 : List Qaa) (x7 x8 : Int) (y50000 : List Int) (y50001 y50002 : Int) : Option (Exit × VS) :=
 let a1 := lgt Qac x0 (Int.toNat x8)
 br (ilt x8 x7) (br (cIx x0 x8) (br (QlE a1 y50000 y50001 y50002) (br (heldF a1 y50000 y50001 y50002) (some (.ret, QbZ x8 y50000 y50001 y50002)) (Qel x0 x7 (iadd .i64 x8 1) y50000 y50001 y50002)) none) none) (some (.exit 0, Qci y50000 y50001 y50002))
def Qep (x0 : List Qaa) (x7 x8 : Int) (y50000 : List Int) (y50001 y50002 : Int) : Option (Exit × VS) := br ((fstG (fun c => heldF c y50000 y50001 y50002) (x0.drop x8.toNat)).isSome) (some (.ret, QbZ (x8 + ((fstG (fun c => heldF c y50000 y50001 y50002) (x0.drop x8.toNat)).getD 0 : Nat)) (y50000) (y50001) (y50002))) <| some (.exit 0, Qci (y50000) (y50001) (y50002))
theorem QwA (x0 : List Qaa) (x7 x8 : Int) (y50000 : List Int) (y50001 y50002 : Int) : Qaj QcO QcT QdF (Qf5 x0 x7 x8 y50000 y50001 y50002) = QqV x0 x7 x8 y50000 y50001 y50002 := by kernel_rfl
theorem Qlz (x0 : List Qaa) (x7 x8 : Int) (y50000 : List Int) (y50001 y50002 : Int) : Qel x0 x7 x8 y50000 y50001 y50002 = Qfv x0 x7 x8 y50000 y50001 y50002 := (Qao _ _).trans (by
 rw [QwA]
 simp only [QqV, Qfv, QaA, nxt_n, nxt_r, nxt_e, nxt_0]
 rfl)
def QpF (p0 : List Qaa) (d0 : List Int) (d1 d2 : Int) : Option (V × List VO) :=
 let a1 := (p0.drop (0 : Int).toNat)
 br (rngOk p0 (llen p0) (0 : Int) && Qc3 p0 d0 d1 d2) (br ((fstG (fun c => heldF c d0 d1 d2) a1).isSome) (some (.t tI ((0 : Int) + ((fstG (fun c => heldF c d0 d1 d2) a1).getD 0 : Nat)), [.box (.t (.sl tI) (d0)), .box (.t tI (d1)), .box (.t tI (d2))])) (some (.t tI (-1), [.box (.t (.sl tI) (d0)), .box (.t tI (d1)), .box (.t tI (d2))]))) none
theorem QLl (p0 : List Qaa) (d0 : List Int) (d1 d2 : Int) : runF QcO QkT Qru false [.t (.sl Qac) p0, .fn 98 [(.ptr 50000 0), (.ptr 50001 0), (.ptr 50002 0)]] [.box (.t (.sl tI) d0), .box (.t tI d1), .box (.t tI d2)] = QpF p0 d0 d1 d2 := by kernel_rfl
theorem QDx : Qai Tryz.prog 137 := .inr ⟨by decide, _, Tryz.func137, by kernel_rfl, by kernel_rfl⟩
theorem QDo : GOk Tryz.prog QcO := Qal _ (gA (gC en_f98 ms_f98 gN))
theorem Qzg (x0 : List Qaa) (x7 x8 : Int) (y50000 : List Int) (y50001 y50002 : Int) (h : (rngOk x0 x7 x8 && Qc3 x0 y50000 y50001 y50002) = true) : Qel x0 x7 x8 y50000 y50001 y50002 = Qep x0 x7 x8 y50000 y50001 y50002 := by
 simp only [Bool.and_eq_true] at h
 obtain ⟨h0, hc⟩ := h
 obtain ⟨rfl, h3, k, rfl, hk⟩ := rng_k h0
 clear h0
 refine Qau x0 (fun k => Qel x0 (x0.length : Int) (k : Int) y50000 y50001 y50002 = Qep x0 (x0.length : Int) (k : Int) y50000 y50001 y50002) ?_ ?_ k hk
 ·rw [Qlz]
  simp [Qfv, Qep, Qat, Qaf, fstG]
 ·intro k hk ih
  rw [Qlz]
  have hx := show QlE x0[k] y50000 y50001 y50002 = true from decide_eq_true (of_decide_eq_true hc).2
  simp only [Qfv, Qat, Qax, hk, decide_true, Qad, Int.toNat_natCast, add1 (show k < 4611686018427387904 by omega), ih, Qaz (y := Qac) hk, hx]
  simp only [Qep, Int.toNat_natCast, List.drop_eq_getElem_cons hk, fstG]
  cases h : (heldF x0[k] y50000 y50001 y50002) with
  | true => simp [Qad]
  | false =>
   simp only [Qaf, Bool.false_eq_true, if_false]
   cases hq : fstG (fun c => heldF c y50000 y50001 y50002) (x0.drop (k + 1)) with
   | none => rfl
   | some j =>
    simp only [Option.map_some, Option.isSome_some, Option.getD_some, Qad]
    congr 3
    omega
theorem QvH : ∀ S l p, QcO.L 0 (fgt QcT S) = some (true, l) → pickA l = some p → loopF (Qaj QcO QcT QdF) S = some p :=
 QaB (s := Qgh) ⟨by decide, by decide⟩ (by kernel_rfl) fun x y hok p hp => by
 simp only [Qas, Qan] at hp
 exact (Qzg x.1 x.2.2.1 x.2.2.2.1 y.1 y.2.1 y.2.2.1 (by simpa using hok)).trans hp
theorem QDe : QkT.lok QcO := by
 repeat (first | exact trivial | exact QvH | refine ⟨?_, ?_⟩)
theorem QGp (l : List Qaa) (d0 : List Int) (d1 d2 : Int) (h : Qc3 l d0 d1 d2 = true) : QpF l d0 d1 d2 = some (.t tI (QrH l d0 d1 d2), [.box (.t (.sl tI) d0), .box (.t tI d1), .box (.t tI d2)]) := by
 have hl := QC5 h
 simp only [QpF, rng_0 hl, h, Bool.and_self, Qad, Int.toNat_zero, List.drop_zero, QrH]
 cases fstG (fun c => heldF c d0 d1 d2) l <;> simp [Qad, Qaf]
def Qrp : Ent := QfU [.ty (.sl Qac), .fn 98 [(50000, 0), (50001, 0), (50002, 0)]] [(.sl tI), tI, tI] (fun x d => (Qc3 x.1 d.1 d.2.1 d.2.2.1)) (fun x d => (.t tI (QrH x.1 d.1 d.2.1 d.2.2.1)))
theorem QC8 : Meets Tryz.prog 137 (strip Qrp) := Qcn (QaP (R := runF QcO QkT Qru false) (mG Tryz.func137 (by kernel_rfl) Tryz.ntmps137 (by kernel_rfl) QDo QDe) fun x d hok => (QLl x.1 d.1 d.2.1 d.2.2.1).trans (QGp x.1 d.1 d.2.1 d.2.2.1 hok))
def QbF (l : List Qaa) (d0 : List Int) (d1 : Int) (d2 : Int) : Bool := l.any (fun c => heldF c d0 d1 d2)
noncomputable def QnX : TC := (.sq (.reg (rT Tryz.f94 0)) (.sq (.reg (rT Tryz.f94 1)) .rt))
def Qvi : List (RV × Option Ty) := [((.t 4), some .bool)]
def QnH : G := ⟨TYs, [], 9, EL [(137, Qrp)], keeps, (fun _ _ => none), IL [], RL []⟩
def Qs3 (p0 : List Qaa) (d0 : List Int) (d1 d2 : Int) : Option (V × List VO) := br (Qc3 p0 d0 d1 d2) (some (.t .bool (ige (QrH p0 d0 d1 d2) 0), [.box (.t (.sl tI) d0), .box (.t tI d1), .box (.t tI d2)])) none
theorem QPj (p0 : List Qaa) (d0 : List Int) (d1 d2 : Int) : runF QnH QnX Qvi false [.t (.sl Qac) p0, .fn 98 [(.ptr 50000 0), (.ptr 50001 0), (.ptr 50002 0)]] [.box (.t (.sl tI) d0), .box (.t tI d1), .box (.t tI d2)] = Qs3 p0 d0 d1 d2 := by kernel_rfl
theorem QKO : Qai Tryz.prog 94 := .inr ⟨by decide, _, Tryz.func94, by kernel_rfl, by kernel_rfl⟩
theorem QKz : GOk Tryz.prog QnH := Qal _ (gA (gC QDx QC8 gN))
theorem QJ7 : QnX.lok QnH := by repeat (first | exact trivial | refine ⟨?_, ?_⟩)
theorem QNj (l : List Qaa) (d0 : List Int) (d1 d2 : Int) (h : Qc3 l d0 d1 d2 = true) : Qs3 l d0 d1 d2 = some (.t .bool (QbF l d0 d1 d2), [.box (.t (.sl tI) d0), .box (.t tI d1), .box (.t tI d2)]) := by
 simp only [Qs3, h, Qad]
 have e : ige (QrH l d0 d1 d2) 0 = QbF l d0 d1 d2 := by
  unfold QrH QbF
  cases hq : fstG (fun c => heldF c d0 d1 d2) l with
  | none => rw [QbA.1 hq]; rfl
  | some k =>
   rw [← QbB, hq]
   simp only [ige, Option.isSome_some, decide_eq_true_eq]
   omega
 rw [e]
def Qut : Ent := QfU [.ty (.sl Qac), .fn 98 [(50000, 0), (50001, 0), (50002, 0)]] [(.sl tI), tI, tI] (fun x d => (Qc3 x.1 d.1 d.2.1 d.2.2.1)) (fun x d => (.t .bool (QbF x.1 d.1 d.2.1 d.2.2.1)))
theorem QI3 : Meets Tryz.prog 94 (strip Qut) := Qcn (QaP (R := runF QnH QnX Qvi false) (mG Tryz.func94 (by kernel_rfl) Tryz.ntmps94 (by kernel_rfl) QKz QJ7) fun x d hok => (QPj x.1 d.1 d.2.1 d.2.2.1).trans (QNj x.1 d.1 d.2.1 d.2.2.1 hok))
end
end Go.Proofs.YtckcgijklnloiaaGreat.K
namespace Go.Proofs.YtckcgijklnloiaaGreat.K
open Go.RowKit
noncomputable section
abbrev lastC (l : List Qaa) : Qaa := cAt l (l.length - 1)
def chkCh (l : List Qaa) (a h : List Int) (d : Int) (n : ByteArray) : Int :=
 if l.length = 0 then 4 else if 8 < l.length then 3 else
 bif QkL l then 9 else bif !hasS (QaC (cAt l 0)) n then 14 else bif QbF l h d 13 then 13 else bif QbF l h d 7 then 7 else
 bif QbX l 11 then 11 else bif QbX l 15 then 15 else bif QbX l 10 then 10 else bif !hasF a (cSeal (lastC l)).1 then 12 else 0
def QdC (l : List Qaa) (a h : List Int) (_d : Int) (_n : ByteArray) : Bool := QaR l && decide (a.length ≤ 100000 ∧ h.length ≤ 100000)
def heldZ (l : List Qaa) (h : List Int) (d : Int) (k : Nat) : Option Int := (([13, 7] : List Int).drop k).find? fun e => QbF l h d e
def failZ (l : List Qaa) (k : Nat) : Option Int := (([11, 15, 10] : List Int).drop k).find? fun e => QbX l e
theorem QI1 {l : List Qaa} (h : QaR l = true) {k : Nat} (hk : k < l.length) : (QaC (cAt l k)).length ≤ 100000 := QqS (QLR h hk)
abbrev Trip : Type := Int × Int × Int × Unit
def Qkp : Fg := ⟨[(0, some (.sl Qac)), (1, some (.sl tI)), (7, none), (8, none), (34, some Qah), (35, some tI)], [(7, some (.sl tI)), (8, some tI)]⟩
noncomputable def Qmr : TC := (.sq (.reg (rT Tryz.f57 10)) (.sq (.cd (.t 36) .sk (.fg ⟨[(0, some (.sl Qac)), (1, some (.sl tI))], []⟩ (.ex 1))) (.sq (.bk 2 (.sq (.reg (rT Tryz.f57 11)) (.sq (.reg (rT Tryz.f57 12)) (.cd (.t 40) (.sq (.reg (rT Tryz.f57 13)) (.fg ⟨[(10, some tI)], []⟩ .rt)) .sk)))) (.reg (rT Tryz.f57 14)))))
def Qwl : Fg := ⟨[(0, some (.sl Qac)), (1, some (.sl tI)), (43, some (.pr tI (.pr tI (.pr tI .nil)))), (44, some tI)], []⟩
noncomputable def Qz5 : TC := (.sq (.reg (rT Tryz.f57 16)) (.sq (.cd (.t 45) .sk (.fg ⟨[(0, some (.sl Qac)), (1, some (.sl tI))], []⟩ (.ex 3))) (.sq (.bk 4 (.sq (.reg (rT Tryz.f57 17)) (.sq (.reg (rT Tryz.f57 18)) (.cd (.t 49) (.sq (.reg (rT Tryz.f57 19)) (.fg ⟨[(10, some tI)], []⟩ .rt)) .sk)))) (.reg (rT Tryz.f57 20)))))
noncomputable def QEt : TC := (.sq (.reg (rT Tryz.f57 0)) (.sq (.bk 0 (.sq (.reg (rT Tryz.f57 1)) (.cd (.t 15) (.sq (.reg (rT Tryz.f57 2)) .rt) (.sq (.reg (rT Tryz.f57 3)) (.cd (.t 19) (.sq (.reg (rT Tryz.f57 4)) .rt) (.sq (.reg (rT Tryz.f57 5)) (.cd (.t 23) (.sq (.reg (rT Tryz.f57 6)) .rt) (.sq (.reg (rT Tryz.f57 7)) (.cd (.t 26) (.sq (.reg (rT Tryz.f57 8)) .rt) .sk))))))))) (.sq (.sq (.reg (rT Tryz.f57 9)) (.bk 1 (.lp 0 Qkp Qmr))) (.sq (.sq (.reg (rT Tryz.f57 15)) (.bk 3 (.lp 1 Qwl Qz5))) (.sq (.sq (.reg (rT Tryz.f57 21)) (.cd (.t 62) (.sq (.reg (rT Tryz.f57 22)) .rt) .sk)) (.sq (.reg (rT Tryz.f57 23)) .rt))))))
def QRG : List (RV × Option Ty) := [((.t 10), some tI)]
abbrev Qst : Sh := ⟨[(0, .ty (.sl Qac)), (1, .ty (.sl tI)), (7, .ptr 7 0), (8, .ptr 8 0), (34, .ty Qah), (35, .ty tI)], [(7, .box (.sl tI)), (8, .box tI)]⟩
def Qr5 (x0 : List Qaa) (x1 : List Int) (x34 : Keep) (x35 : Int) (y7 : List Int) (y8 : Int) : VS := Qst.st (x0, x1, (), (), x34, x35, ()) (y7, y8, ())
abbrev QuJ : Sh := ⟨[(10, .ty tI)], []⟩
def QdK (x10 : Int) : VS := QuJ.st (x10, ()) ()
abbrev Qyg : Sh := ⟨[(0, .ty (.sl Qac)), (1, .ty (.sl tI))], []⟩
def Qe5 (x0 : List Qaa) (x1 : List Int) : VS := Qyg.st (x0, x1, ()) ()
abbrev QGn : Sh := ⟨[(0, .ty (.sl Qac)), (1, .ty (.sl tI)), (43, .ty (.pr tI (.pr tI (.pr tI .nil)))), (44, .ty tI)], []⟩
def QE0 (x0 : List Qaa) (x1 : List Int) (x43 : (Int × (Int × (Int × Unit)))) (x44 : Int) : VS := QGn.st (x0, x1, x43, x44, ()) ()
abbrev QCV : Sh := ⟨[(10, .ty tI)], []⟩
def Qhi (x10 : Int) : VS := QCV.st (x10, ()) ()
abbrev QGm : Sh := ⟨[(0, .ty (.sl Qac)), (1, .ty (.sl tI))], []⟩
def Qi2 (x0 : List Qaa) (x1 : List Int) : VS := QGm.st (x0, x1, ()) ()
def QYs : VS → Option (Bool × List (Bool × Exit × VS)) := mkL Qst (fun x y => (x.2.2.2.2.1 == ((13, (7, ())) : Keep) && decide (0 ≤ x.2.2.2.2.2.1 ∧ x.2.2.2.2.2.1 ≤ 2) && Qc3 x.1 y.1 y.2.1 0)) (fun x y => [(((heldZ x.1 y.1 y.2.1 x.2.2.2.2.2.1.toNat).isSome), .ret, QdK ((heldZ x.1 y.1 y.2.1 x.2.2.2.2.2.1.toNat).getD 0)), (true, .exit 1, Qe5 (x.1) (x.2.1))])
def L_f95 : VS → Option (Bool × List (Bool × Exit × VS)) := mkL QGn (fun x y => (x.2.2.1 == ((11, (15, (10, ()))) : Trip) && decide (0 ≤ x.2.2.2.1 ∧ x.2.2.2.1 ≤ 3) && QaR x.1)) (fun x y => [(((failZ x.1 x.2.2.2.1.toNat).isSome), .ret, Qhi ((failZ x.1 x.2.2.2.1.toNat).getD 0)), (true, .exit 3, Qi2 (x.1) (x.2.1))])
def g_f57 : G := ⟨TYs, [], 63, EL [(94, Qut), (94, Quu), (97, QQV), (100, QF9), (101, QkY), (1002562, Qgc), (1002594, Qgb)], keeps, (Ls [QYs, L_f95]), IL [], RL []⟩
def QMz (x0 : List Qaa) (x1 : List Int) (x34 : Keep) (x35 : Int) (y7 : List Int) (y8 : Int) : Option (Exit × VS) :=
 let a1 := Qbw tI 2 x34 x35
 br (ilt x35 2) (br (arrOk tI 2 x34 x35) (br (Qc3 x0 y7 y8 a1) (br (QbF x0 y7 y8 a1) (some (.ret, QdK a1)) (some (.normal, Qr5 x0 x1 x34 (iadd .i64 x35 1) y7 y8))) none) none) (some (.exit 1, Qe5 x0 x1))
noncomputable def QhB (x0 : List Qaa) (x1 : List Int) (x34 : Keep) (x35 : Int) (y7 : List Int) (y8 : Int) : Option (Exit × VS) := loopF (Qaj g_f57 Qkp Qmr) (Qr5 x0 x1 x34 x35 y7 y8)
noncomputable def Qtu (x0 : List Qaa) (x1 : List Int) (x34 : Keep) (x35 : Int) (y7 : List Int) (y8 : Int) : Option (Exit × VS) :=
 let a1 := Qbw tI 2 x34 x35
 br (ilt x35 2) (br (arrOk tI 2 x34 x35) (br (Qc3 x0 y7 y8 a1) (br (QbF x0 y7 y8 a1) (some (.ret, QdK a1)) (QhB x0 x1 x34 (iadd .i64 x35 1) y7 y8)) none) none) (some (.exit 1, Qe5 x0 x1))
def QhH (x0 : List Qaa) (x1 : List Int) (x34 : Keep) (x35 : Int) (y7 : List Int) (y8 : Int) : Option (Exit × VS) :=
 let a1 := heldZ x0 y7 y8 x35.toNat
 br (a1.isSome) (some (.ret, QdK (a1.getD 0))) <| some (.exit 1, Qe5 (x0) (x1))
theorem QP1 (x0 : List Qaa) (x1 : List Int) (x34 : Keep) (x35 : Int) (y7 : List Int) (y8 : Int) : Qaj g_f57 Qkp Qmr (Qr5 x0 x1 x34 x35 y7 y8) = QMz x0 x1 x34 x35 y7 y8 := by kernel_rfl
theorem QtQ (x0 : List Qaa) (x1 : List Int) (x34 : Keep) (x35 : Int) (y7 : List Int) (y8 : Int) : QhB x0 x1 x34 x35 y7 y8 = Qtu x0 x1 x34 x35 y7 y8 := (Qao _ _).trans (by
 rw [QP1]
 simp only [QMz, Qtu, QaA, nxt_n, nxt_r, nxt_e, nxt_0]
 rfl)
def b_f95 (x0 : List Qaa) (x1 : List Int) (x43 : (Int × (Int × (Int × Unit)))) (x44 : Int) : Option (Exit × VS) :=
 let a1 := Qbw tI 3 x43 x44
 br (ilt x44 3) (br (arrOk tI 3 x43 x44) (br (Qqz x0 a1) (br (QbX x0 a1) (some (.ret, Qhi a1)) (some (.normal, QE0 x0 x1 x43 (iadd .i64 x44 1)))) none) none) (some (.exit 3, Qi2 x0 x1))
noncomputable def Qp0 (x0 : List Qaa) (x1 : List Int) (x43 : (Int × (Int × (Int × Unit)))) (x44 : Int) : Option (Exit × VS) := loopF (Qaj g_f57 Qwl Qz5) (QE0 x0 x1 x43 x44)
noncomputable def n_f95 (x0 : List Qaa) (x1 : List Int) (x43 : (Int × (Int × (Int × Unit)))) (x44 : Int) : Option (Exit × VS) :=
 let a1 := Qbw tI 3 x43 x44
 br (ilt x44 3) (br (arrOk tI 3 x43 x44) (br (Qqz x0 a1) (br (QbX x0 a1) (some (.ret, Qhi a1)) (Qp0 x0 x1 x43 (iadd .i64 x44 1))) none) none) (some (.exit 3, Qi2 x0 x1))
def QlD (x0 : List Qaa) (x1 : List Int) (x43 : (Int × (Int × (Int × Unit)))) (x44 : Int) : Option (Exit × VS) := br ((failZ x0 x44.toNat).isSome) (some (.ret, Qhi ((failZ x0 x44.toNat).getD 0))) <| some (.exit 3, Qi2 (x0) (x1))
theorem be_f95 (x0 : List Qaa) (x1 : List Int) (x43 : (Int × (Int × (Int × Unit)))) (x44 : Int) : Qaj g_f57 Qwl Qz5 (QE0 x0 x1 x43 x44) = b_f95 x0 x1 x43 x44 := by kernel_rfl
theorem QAD (x0 : List Qaa) (x1 : List Int) (x43 : (Int × (Int × (Int × Unit)))) (x44 : Int) : Qp0 x0 x1 x43 x44 = n_f95 x0 x1 x43 x44 := (Qao _ _).trans (by
 rw [be_f95]
 simp only [b_f95, n_f95, QaA, nxt_n, nxt_r, nxt_e, nxt_0]
 rfl)
def r_f57 (p0 : List Qaa) (p1 p2 : List Int) (p3 : Int) (p4 : ByteArray) : Option (V × List VO) :=
 let a1 := ((((((((((((((lgt Qac (p0) (Int.toNat (isub .i64 (llen (p0)) 1))).2).2).2).2).2).2).2).2).2).2).2).1).1)
 let a2 := ((((((((((((lgt Qac p0 (Int.toNat 0)).2).2).2).2).2).2).2).2).2).2).1)
 let a3 := (heldZ p0 p2 p3 (0 : Int).toNat)
 let a4 := (failZ (p0) (0 : Int).toNat)
 br (ieq (llen p0) 0) (some (.t tI 4, [])) (br (igt (llen p0) 8) (some (.t tI 3, [])) (br (okBad p0) (br (QkL p0) (some (.t tI 9, [])) (br (cIx p0 0) (br (Qkd a2 p4) (br (!(hasS a2 p4)) (some (.t tI 14, [])) (br ((13, (7, ())) == ((13, (7, ())) : Keep) && decide (0 ≤ (0 : Int) ∧ (0 : Int) ≤ 2) && Qc3 p0 p2 p3 0) (br (a3.isSome) (some (.t tI (a3.getD 0), [])) (br ((11, (15, (10, ()))) == ((11, (15, (10, ()))) : Trip) && decide (0 ≤ (0 : Int) ∧ (0 : Int) ≤ 3) && QaR (p0)) (br (a4.isSome) (some (.t tI (a4.getD 0), [])) (br (cIx (p0) (isub .i64 (llen (p0)) 1)) (br (Qbh (p1) a1) (br (!(hasF (p1) a1)) (some (.t tI 12, [])) (some (.t tI 0, []))) none) none)) none)) none)) none) none)) none))
theorem e_f57 (p0 : List Qaa) (p1 p2 : List Int) (p3 : Int) (p4 : ByteArray) : runF g_f57 QEt QRG false [.t (.sl Qac) p0, .t (.sl tI) p1, .t (.sl tI) p2, .t tI p3, .t .str p4] [] = r_f57 p0 p1 p2 p3 p4 := by kernel_rfl
theorem QSI : Qai Tryz.prog 57 := .inr ⟨by decide, _, Tryz.func57, by kernel_rfl, by kernel_rfl⟩
theorem gk_f57 : GOk Tryz.prog g_f57 := Qal _ (gA (gC QKO QI3 (gC QKP QI4 (gC en_f97 ms_f97 (gC QX5 QUj (gC QqM QpY (gC QqH QpT (gC QqG QpS gN))))))))
theorem QVK (x0 : List Qaa) (x1 : List Int) (x34 : Keep) (x35 : Int) (y7 : List Int) (y8 : Int) (h : (x34 == ((13, (7, ())) : Keep) && decide (0 ≤ x35 ∧ x35 ≤ 2) && Qc3 x0 y7 y8 0) = true) : QhB x0 x1 x34 x35 y7 y8 = QhH x0 x1 x34 x35 y7 y8 := by
 simp only [Bool.and_eq_true, decide_eq_true_eq, beq_iff_eq] at h
 obtain ⟨⟨rfl, h1, h2⟩, hc⟩ := h
 have hc : ∀ e, Qc3 x0 y7 y8 e = true := fun e => hc
 obtain ⟨k, rfl⟩ := Int.eq_ofNat_of_zero_le h1
 have k2 : QhB x0 x1 (13, (7, ())) ((2 : Nat) : Int) y7 y8 = QhH x0 x1 (13, (7, ())) ((2 : Nat) : Int) y7 y8 := by
  rw [QtQ]
  rfl
 have k1 : QhB x0 x1 (13, (7, ())) ((1 : Nat) : Int) y7 y8 = QhH x0 x1 (13, (7, ())) ((1 : Nat) : Int) y7 y8 := by
  rw [QtQ]
  simp only [Qtu, hc, show ilt ((1 : Nat) : Int) 2 = true from rfl, show arrOk tI 2 ((13, (7, ())) : Keep) ((1 : Nat) : Int) = true from rfl, show Qbw tI 2 ((13, (7, ())) : Keep) ((1 : Nat) : Int) = 7 from rfl, Qad, show iadd .i64 ((1 : Nat) : Int) 1 = ((2 : Nat) : Int) from rfl, k2]
  simp only [QhH, heldZ, Int.toNat_natCast, List.drop_succ_cons, List.drop_zero, List.drop_nil, List.find?_cons, List.find?_nil]
  cases QbF x0 y7 y8 7 <;> rfl
 have k0 : QhB x0 x1 (13, (7, ())) ((0 : Nat) : Int) y7 y8 = QhH x0 x1 (13, (7, ())) ((0 : Nat) : Int) y7 y8 := by
  rw [QtQ]
  simp only [Qtu, hc, show ilt ((0 : Nat) : Int) 2 = true from rfl, show arrOk tI 2 ((13, (7, ())) : Keep) ((0 : Nat) : Int) = true from rfl, show Qbw tI 2 ((13, (7, ())) : Keep) ((0 : Nat) : Int) = 13 from rfl, Qad, show iadd .i64 ((0 : Nat) : Int) 1 = ((1 : Nat) : Int) from rfl, k1]
  simp only [QhH, heldZ, Int.toNat_natCast, List.drop_succ_cons, List.drop_zero, List.drop_nil, List.find?_cons, List.find?_nil]
  cases QbF x0 y7 y8 13 <;> rfl
 have : k = 0 ∨ k = 1 ∨ k = 2 := by omega
 rcases this with rfl | rfl | rfl
 ·exact k0
 ·exact k1
 ·exact k2
theorem l_f95 (x0 : List Qaa) (x1 : List Int) (x43 : (Int × (Int × (Int × Unit)))) (x44 : Int) (h : (x43 == ((11, (15, (10, ()))) : Trip) && decide (0 ≤ x44 ∧ x44 ≤ 3) && QaR x0) = true) : Qp0 x0 x1 x43 x44 = QlD x0 x1 x43 x44 := by
 simp only [Bool.and_eq_true, decide_eq_true_eq, beq_iff_eq] at h
 obtain ⟨⟨rfl, h1, h2⟩, hc⟩ := h
 have hc : ∀ e, Qqz x0 e = true := fun e => hc
 obtain ⟨k, rfl⟩ := Int.eq_ofNat_of_zero_le h1
 have k3 : Qp0 x0 x1 (11, (15, (10, ()))) ((3 : Nat) : Int) = QlD x0 x1 (11, (15, (10, ()))) ((3 : Nat) : Int) := by
  rw [QAD]
  rfl
 have k2 : Qp0 x0 x1 (11, (15, (10, ()))) ((2 : Nat) : Int) = QlD x0 x1 (11, (15, (10, ()))) ((2 : Nat) : Int) := by
  rw [QAD]
  simp only [n_f95, hc, show ilt ((2 : Nat) : Int) 3 = true from rfl, show arrOk tI 3 ((11, (15, (10, ()))) : Trip) ((2 : Nat) : Int) = true from rfl, show Qbw tI 3 ((11, (15, (10, ()))) : Trip) ((2 : Nat) : Int) = 10 from rfl, Qad, show iadd .i64 ((2 : Nat) : Int) 1 = ((3 : Nat) : Int) from rfl, k3]
  simp only [QlD, failZ, Int.toNat_natCast, List.drop_succ_cons, List.drop_zero, List.drop_nil, List.find?_cons, List.find?_nil]
  cases QbX x0 10 <;> rfl
 have k1 : Qp0 x0 x1 (11, (15, (10, ()))) ((1 : Nat) : Int) = QlD x0 x1 (11, (15, (10, ()))) ((1 : Nat) : Int) := by
  rw [QAD]
  simp only [n_f95, hc, show ilt ((1 : Nat) : Int) 3 = true from rfl, show arrOk tI 3 ((11, (15, (10, ()))) : Trip) ((1 : Nat) : Int) = true from rfl, show Qbw tI 3 ((11, (15, (10, ()))) : Trip) ((1 : Nat) : Int) = 15 from rfl, Qad, show iadd .i64 ((1 : Nat) : Int) 1 = ((2 : Nat) : Int) from rfl, k2]
  simp only [QlD, failZ, Int.toNat_natCast, List.drop_succ_cons, List.drop_zero, List.drop_nil, List.find?_cons, List.find?_nil]
  cases QbX x0 15 <;> rfl
 have k0 : Qp0 x0 x1 (11, (15, (10, ()))) ((0 : Nat) : Int) = QlD x0 x1 (11, (15, (10, ()))) ((0 : Nat) : Int) := by
  rw [QAD]
  simp only [n_f95, hc, show ilt ((0 : Nat) : Int) 3 = true from rfl, show arrOk tI 3 ((11, (15, (10, ()))) : Trip) ((0 : Nat) : Int) = true from rfl, show Qbw tI 3 ((11, (15, (10, ()))) : Trip) ((0 : Nat) : Int) = 11 from rfl, Qad, show iadd .i64 ((0 : Nat) : Int) 1 = ((1 : Nat) : Int) from rfl, k1]
  simp only [QlD, failZ, Int.toNat_natCast, List.drop_succ_cons, List.drop_zero, List.drop_nil, List.find?_cons, List.find?_nil]
  cases QbX x0 11 <;> rfl
 have : k = 0 ∨ k = 1 ∨ k = 2 ∨ k = 3 := by omega
 rcases this with rfl | rfl | rfl | rfl
 ·exact k0
 ·exact k1
 ·exact k2
 ·exact k3
theorem QNV : ∀ S l p, g_f57.L 0 (fgt Qkp S) = some (true, l) → pickA l = some p → loopF (Qaj g_f57 Qkp Qmr) S = some p :=
 QaB (s := Qst) ⟨by decide, by decide⟩ (by kernel_rfl) fun x y hok p hp => by
 simp only [Qas, Qan] at hp
 exact (QVK x.1 x.2.1 x.2.2.2.2.1 x.2.2.2.2.2.1 y.1 y.2.1 (by simpa using hok)).trans hp
theorem lo_f95 : ∀ S l p, g_f57.L 1 (fgt Qwl S) = some (true, l) → pickA l = some p → loopF (Qaj g_f57 Qwl Qz5) S = some p :=
 QaB (s := QGn) ⟨by decide, by decide⟩ (by kernel_rfl) fun x y hok p hp => by
 simp only [Qas, Qan] at hp
 exact (l_f95 x.1 x.2.1 x.2.2.1 x.2.2.2.1 (by simpa using hok)).trans hp
theorem lk_f57 : QEt.lok g_f57 := by
 repeat (first | exact trivial | exact QNV | exact lo_f95 | refine ⟨?_, ?_⟩)
theorem s_f57 (l : List Qaa) (a h : List Int) (d : Int) (n : ByteArray) (hok : QdC l a h d n = true) : r_f57 l a h d n = some (.t tI (chkCh l a h d n), []) := by
 simp only [QdC, Bool.and_eq_true, decide_eq_true_eq] at hok
 obtain ⟨hc, ha, hh⟩ := hok
 have hl := Qhg hc
 unfold chkCh
 by_cases h0 : l.length = 0
 ·simp only [r_f57, show ieq (llen l) 0 = true from beq_iff_eq.2 (by simp only [llen]; omega), Qad, if_pos h0]
 by_cases h8 : 8 < l.length
 ·simp only [r_f57, show ieq (llen l) 0 = false from beq_eq_false_iff_ne.2 (by simp only [llen]; omega), Qaf, show igt (llen l) 8 = true from decide_eq_true (by simp only [llen]; omega), Qad, if_neg h0, if_pos h8]
 have c1 : ∀ e, Qc3 l h d e = true := fun e => decide_eq_true ⟨hl, hh⟩
 have c2 : cIx l 0 = true := by simp only [cIx, decide_eq_true_eq]; omega
 have c3 : Qkd (QaC (cAt l 0)) n = true := by
  have := QI1 hc (show 0 < l.length by omega)
  exact decide_eq_true (by omega)
 have c4 : isub .i64 (llen l) 1 = ((l.length - 1 : Nat) : Int) := by rw [Qco (by simp only [llen]; omega)]; simp only [llen]; omega
 have c5 : cIx l ((l.length - 1 : Nat) : Int) = true := by simp only [cIx, decide_eq_true_eq]; omega
 have c6 : ∀ v, Qbh a v = true := fun v => decide_eq_true ha
 have d1 : decide ((0 : Int) ≤ 0 ∧ (0 : Int) ≤ 2) = true := rfl
 have d2 : decide ((0 : Int) ≤ 0 ∧ (0 : Int) ≤ 3) = true := rfl
 simp only [r_f57, show ieq (llen l) 0 = false from beq_eq_false_iff_ne.2 (by simp only [llen]; omega), Qaf, show igt (llen l) 8 = false from decide_eq_false (by simp only [llen]; omega), if_neg h0, if_neg h8, show okBad l = true from hc, hc, c1, c2, c4, c5, c6, d1, d2, Qad, Int.toNat_natCast, Int.toNat_zero, show lgt Qac l 0 = cAt l 0 from rfl, show lgt Qac l (l.length - 1) = lastC l from rfl, beq_self_eq_true, Bool.and_self]
 rw [show (Qkd (cAt l 0).2.2.2.2.2.2.2.2.2.2.1 n) = true from c3, Qad]
 cases QkL l with
 | true => rfl
 | false =>
  rw [Qaf, cond_false]
  cases hasS (QaC (cAt l 0)) n with
  | false => rfl
  | true =>
   rw [Bool.not_true, Qaf, cond_false]
   simp only [heldZ, failZ, List.drop_zero, List.find?_cons, List.find?_nil]
   cases QbF l h d 13 with
   | true => rfl
   | false =>
    rw [cond_false]
    cases QbF l h d 7 with
    | true => rfl
    | false =>
     rw [cond_false]
     simp only [Option.isSome_none, Qaf]
     cases QbX l 11 with
     | true => rfl
     | false =>
      rw [cond_false]
      cases QbX l 15 with
      | true => rfl
      | false =>
       rw [cond_false]
       cases QbX l 10 with
       | true => rfl
       | false =>
        simp only [Option.isSome_none, Qaf, cond_false]
        cases hasF a (cSeal (lastC l)).1 <;> rfl
def QE5 : Ent := spec (.pr (.sl Qac) (.pr (.sl tI) (.pr (.sl tI) (.pr tI (.pr .str .nil))))) (fun x => (QdC x.1 x.2.1 x.2.2.1 x.2.2.2.1 x.2.2.2.2.1)) (fun x => (.t tI (chkCh x.1 x.2.1 x.2.2.1 x.2.2.2.1 x.2.2.2.2.1)))
theorem QSs : Meets Tryz.prog 57 (strip QE5) := Qag (R := runF g_f57 QEt QRG false) (mG Tryz.func57 (by kernel_rfl) Tryz.ntmps57 (by kernel_rfl) gk_f57 lk_f57) fun x hok => (e_f57 x.1 x.2.1 x.2.2.1 x.2.2.2.1 x.2.2.2.2.1).trans (s_f57 x.1 x.2.1 x.2.2.1 x.2.2.2.1 x.2.2.2.2.1 hok)
end
end Go.Proofs.YtckcgijklnloiaaGreat.K
