import Derived.Test.YtkngeegkjhipeaaGreatN9
import Derived.Shelf.Small.Strs
import Derived.Ground.NamesProg
set_option linter.unusedSimpArgs false
set_option linter.unusedVariables false
namespace Go.Proofs
open Go.Shelf
def Tryz.lays137_ren : Go.Shelf.Ren := ⟨fun | 137 => 133 | 217 => 146 | 266 => 167 | n => n, fun | 9 => 9 | 5 => 5 | 3 => 3 | n => n, fun | n => n⟩
theorem Tryz.lays137 : Go.Proofs.Lays.n137 Tryz.prog Tryz.lays137_ren := {
 mixed := by kernel_rfl
 f137 := Tryz.func133.trans (congrArg some (by kernel_rfl))
 f217 := Tryz.func146.trans (congrArg some (by kernel_rfl))
 f266 := Tryz.func167.trans (congrArg some (by kernel_rfl))
 t3 := Tryz.underlying3
 a3 := Tryz.isAgg3
 z3 := Tryz.sizeOf3
 v3 := Tryz.zeroValue3
 t5 := Tryz.underlying5
 a5 := Tryz.isAgg5
 z5 := Tryz.sizeOf5
 v5 := Tryz.zeroValue5
 t9 := Tryz.underlying9
 a9 := Tryz.isAgg9
 z9 := Tryz.sizeOf9
 v9 := Tryz.zeroValue9 }
end Go.Proofs
namespace Go.Proofs.YtkngeegkjhipeaaGreat.K
open Go.RowKit Go.Shelf
noncomputable section
def ixB (s : ByteArray) (c : Int) : Int := Lib.indexByte s.data.toList c.toNat.toUInt8
def QA4 : Ent := spec (.pr .str (.pr (.int .u8) .nil)) (fun x => true) (fun x => (.t tI (ixB x.1 x.2.1)))
theorem QQJ : Qag Tryz.prog 133 := .inr ⟨by decide, _, Tryz.func133, by kernel_rfl, by kernel_rfl⟩
theorem QNX : Meets Tryz.prog 133 (strip QA4) := Qvm fun x hok X w σ vs hfin hc => by
 obtain ⟨s, c, u⟩ := x
 simp only [Ty.canon, V.ds, V.d, Ty.d, Cs, C] at hc
 obtain ⟨v1, r1, rfl, ⟨rfl, _⟩, v2, r2, rfl, ⟨rfl, _⟩, rfl⟩ := hc
 refine (Any.strings_IndexByte Tryz.lays137 s c w).mono ?_
 rintro e w' ⟨rfl, rfl⟩
 refine ⟨_, rfl, ?_, Below.refl _ _⟩
 simp only [V.d, Ty.d, C]
 exact ⟨rfl, rfl⟩
def QgY (c : Int) (o : ByteArray) : Bool := (ige c 97 && ile c 122) || ((ige c 65 && ile c 90) || ((ige c 48 && ile c 57) || ige (ixB o c) 0))
noncomputable def Qt8 : TC := (.sq (.reg (rT Tryz.f106 0)) (.sq (.reg (rT Tryz.f106 1)) .rt))
def QCc : List (RV × Option Ty) := [((.t 4), some .bool)]
def Qxt : G := ⟨TYs, [], 33, EL [(133, QA4)], keeps, (fun _ _ => none), IL [], RL []⟩
def QpM (p0 : Int) (p1 : ByteArray) : Option (V × List VO) := br (ige p0 48) (br (ile p0 57) (some (.t .bool true, [])) (some (.t .bool (ige (ixB p1 p0) 0), []))) (some (.t .bool (ige (ixB p1 p0) 0), []))
def QpN (p0 : Int) (p1 : ByteArray) : Option (V × List VO) := br (ige p0 65) (br (ile p0 90) (some (.t .bool true, [])) (QpM p0 p1)) (QpM p0 p1)
def QC4 (p0 : Int) (p1 : ByteArray) : Option (V × List VO) := br (ige p0 97) (br (ile p0 122) (some (.t .bool true, [])) (QpN p0 p1)) (QpN p0 p1)
theorem e_f106 (p0 : Int) (p1 : ByteArray) : runF Qxt Qt8 QCc false [.t (.int .u8) p0, .t .str p1] [] = QC4 p0 p1 := by kernel_rfl
theorem QQV : Qag Tryz.prog 106 := .inr ⟨by decide, _, Tryz.func106, by kernel_rfl, by kernel_rfl⟩
theorem QQl : GOk Tryz.prog Qxt := Qan _ (gA (gC QQJ QNX gN))
theorem QO6 : Qt8.lok Qxt := by repeat (first | exact trivial | refine ⟨?_, ?_⟩)
theorem brO {a b r : Bool} {X : Option (V × List VO)} (h : X = some (.t .bool r, [])) : br a (br b (some (.t .bool true, [])) X) X = some (.t .bool ((a && b) || r), []) := by
 subst h
 cases a <;> cases b <;> rfl
theorem s_f106 (c : Int) (o : ByteArray) : QC4 c o = some (.t .bool (QgY c o), []) := by
 simp only [QC4, QpN, QpM]
 exact brO (brO (brO rfl))
def QBg : Ent := spec (.pr (.int .u8) (.pr .str .nil)) (fun x => true) (fun x => (.t .bool (QgY x.1 x.2.1)))
theorem QN9 : Meets Tryz.prog 106 (strip QBg) := Qaf (R := runF Qxt Qt8 QCc false) (mG Tryz.func106 (by kernel_rfl) Tryz.ntmps106 (by kernel_rfl) QQl QO6) fun x _ => (e_f106 x.1 x.2.1).trans (s_f106 x.1 x.2.1)
def wordC (c : Int) : Bool := !(ilt c 97 || igt c 122) || (!(ilt c 65 || igt c 90) || (!(ilt c 48 || igt c 57) || (ieq c 45 || (ieq c 95 || ieq c 46))))
def wordF (s : ByteArray) : Bool := (QaH s).all wordC && decide (1 ≤ s.size ∧ s.size ≤ 32)
set_option maxRecDepth 100000 in
theorem QO8 : ((List.range 256).all fun n => QgY (n : Int) (ByteArray.mk #[45, 95, 46]) == wordC (n : Int)) = true := by kernel_rfl
theorem QIg {s : ByteArray} {c : Int} (h : c ∈ QaH s) : QgY c (ByteArray.mk #[45, 95, 46]) = wordC c := by
 obtain ⟨b, _, rfl⟩ := List.mem_map.1 h
 have := List.all_eq_true.1 QO8 b.toNat (by rw [List.mem_range]; exact b.toNat_lt)
 exact eq_of_beq this
def Qiu : Fg := ⟨[(0, some .str), (6, some (.sl (.int .u8))), (7, some tI), (8, some tI)], []⟩
noncomputable def Qkc : TC := (.sq (.reg (rT Tryz.f75 2)) (.sq (.cd (.t 9) .sk (.fg ⟨[(0, some .str)], []⟩ (.ex 0))) (.sq (.bk 1 (.sq (.reg (rT Tryz.f75 3)) (.sq (.reg (rT Tryz.f75 4)) (.cd (.t 14) (.sq (.reg (rT Tryz.f75 5)) (.fg ⟨[(2, some .bool)], []⟩ .rt)) .sk)))) (.reg (rT Tryz.f75 6)))))
noncomputable def QzF : TC := (.sq (.reg (rT Tryz.f75 0)) (.sq (.sq (.reg (rT Tryz.f75 1)) (.bk 0 (.lp 0 Qiu Qkc))) (.sq (.reg (rT Tryz.f75 7)) .rt)))
def QLE : List (RV × Option Ty) := [((.t 2), some .bool)]
abbrev Qo5 : Sh := ⟨[(0, .ty .str), (6, .ty (.sl (.int .u8))), (7, .ty tI), (8, .ty tI)], []⟩
def QoI (x0 : ByteArray) (x6 : List Int) (x7 x8 : Int) : VS := Qo5.st (x0, x6, x7, x8, ()) ()
abbrev Qrj : Sh := ⟨[(2, .ty .bool)], []⟩
def Qda (x2 : Bool) : VS := Qrj.st (x2, ()) ()
abbrev Quw : Sh := ⟨[(0, .ty .str)], []⟩
def Qei (x0 : ByteArray) : VS := Quw.st (x0, ()) ()
def QRk : VS → Option (Bool × List (Bool × Exit × VS)) := mkL Qo5 (fun x y => (rngG x.2.1 x.2.2.1 x.2.2.2.1 && samB x.2.1 (QaH x.1))) (fun x y => [((!((x.2.1.drop x.2.2.2.1.toNat).all wordC)), .ret, Qda (false)), (true, .exit 0, Qei (x.1))])
def g_f75 : G := ⟨TYs, [], 24, EL [(106, QBg), (22760144, QaX)], keeps, (Ls [QRk]), IL [], RL []⟩
def QGy (x0 : ByteArray) (x6 : List Int) (x7 x8 : Int) : Option (Exit × VS) := br (ilt x8 x7) (br (cIx x6 x8) (br (!(QgY (lgt (.int .u8) x6 (Int.toNat x8)) (ByteArray.mk #[45, 95, 46]))) (some (.ret, Qda false)) (some (.normal, QoI x0 x6 x7 (iadd .i64 x8 1)))) none) (some (.exit 0, Qei x0))
noncomputable def QkV (x0 : ByteArray) (x6 : List Int) (x7 x8 : Int) : Option (Exit × VS) := loopF (Qaj g_f75 Qiu Qkc) (QoI x0 x6 x7 x8)
noncomputable def QpY (x0 : ByteArray) (x6 : List Int) (x7 x8 : Int) : Option (Exit × VS) := br (ilt x8 x7) (br (cIx x6 x8) (br (!(QgY (lgt (.int .u8) x6 (Int.toNat x8)) (ByteArray.mk #[45, 95, 46]))) (some (.ret, Qda false)) (QkV x0 x6 x7 (iadd .i64 x8 1))) none) (some (.exit 0, Qei x0))
def Qla (x0 : ByteArray) (x6 : List Int) (x7 x8 : Int) : Option (Exit × VS) := br (!((x6.drop x8.toNat).all wordC)) (some (.ret, Qda (false))) <| some (.exit 0, Qei (x0))
theorem QJT (x0 : ByteArray) (x6 : List Int) (x7 x8 : Int) : Qaj g_f75 Qiu Qkc (QoI x0 x6 x7 x8) = QGy x0 x6 x7 x8 := by kernel_rfl
theorem QwE (x0 : ByteArray) (x6 : List Int) (x7 x8 : Int) : QkV x0 x6 x7 x8 = QpY x0 x6 x7 x8 := (Qaq _ _).trans (by
 rw [QJT]
 simp only [QGy, QpY, QaE, nxt_n, nxt_r, nxt_e, nxt_0]
 rfl)
def r_f75 (p0 : ByteArray) : Option (V × List VO) := br (Qa3 p0) (br (rngG (QaH p0) (llen (QaH p0)) (0 : Int) && samB (QaH p0) (QaH p0)) (br (!(((QaH p0).drop (0 : Int).toNat).all wordC)) (some (.t .bool (false), [])) (br (ige (slen (p0)) 1) (some (.t .bool (ile (slen (p0)) 32), [])) (some (.t .bool false, [])))) none) none
theorem e_f75 (p0 : ByteArray) : runF g_f75 QzF QLE false [.t .str p0] [] = r_f75 p0 := by kernel_rfl
theorem en_f75 : Qag Tryz.prog 75 := .inr ⟨by decide, _, Tryz.func75, by kernel_rfl, by kernel_rfl⟩
theorem gk_f75 : GOk Tryz.prog g_f75 := Qan _ (gA (gC QQV QN9 (gC Qbc Qba gN)))
theorem QPf (x0 : ByteArray) (x6 : List Int) (x7 x8 : Int) (h : (rngG x6 x7 x8 && samB x6 (QaH x0)) = true) : QkV x0 x6 x7 x8 = Qla x0 x6 x7 x8 := by
 simp only [Bool.and_eq_true] at h
 obtain ⟨h, hs⟩ := h
 have hs := QuO hs
 obtain ⟨rfl, h3, k, rfl, hk⟩ := QCi h
 clear h
 refine Qav x6 (fun k => QkV x0 x6 (x6.length : Int) (k : Int) = Qla x0 x6 (x6.length : Int) (k : Int)) ?_ ?_ k hk
 ·rw [QwE]
  simp [QpY, Qla, Qaz, Qae]
 ·intro k hk ih
  rw [QwE]
  have hw : QgY x6[k] (ByteArray.mk #[45, 95, 46]) = wordC x6[k] := QIg (s := x0) (by rw [← hs]; exact List.getElem_mem hk)
  simp only [QpY, Qaz, Qay, hk, decide_true, Qac, Int.toNat_natCast, add1G (show k < 9223372036854775807 by omega), QaG (y := .int .u8) hk, ih, hw]
  simp only [Qla, Int.toNat_natCast, List.drop_eq_getElem_cons hk, List.all_cons]
  cases wordC x6[k] <;> rfl
theorem QHY : ∀ S l p, g_f75.L 0 (fgt Qiu S) = some (true, l) → pickA l = some p → loopF (Qaj g_f75 Qiu Qkc) S = some p :=
 QaF (s := Qo5) ⟨by decide, by decide⟩ (by kernel_rfl) fun x y hok p hp => by
 simp only [Qas, Qap] at hp
 exact (QPf x.1 x.2.1 x.2.2.1 x.2.2.2.1 (by simpa using hok)).trans hp
theorem lk_f75 : QzF.lok g_f75 := by
 repeat (first | exact trivial | exact QHY | refine ⟨?_, ?_⟩)
theorem s_f75 (s : ByteArray) (h : nameG s = true) : r_f75 s = some (.t .bool (wordF s), []) := by
 simp only [nameG, decide_eq_true_eq] at h
 have hl := QcQ s
 simp only [r_f75, show Qa3 s = true from decide_eq_true (by omega), QCj (show (QaH s).length ≤ 9223372036854775807 by omega), QmG, Bool.and_self, Qac, Int.toNat_zero, List.drop_zero, wordF]
 cases (QaH s).all wordC with
 | false => rfl
 | true =>
  simp only [Bool.not_true, Qae, Bool.true_and]
  refine QaP (fun g => ?_) (fun g => ?_)
  ·simp only [ige, slen, decide_eq_true_eq] at g
   apply Qrc
   rw [Bool.eq_iff_iff]
   simp only [ile, slen, decide_eq_true_eq]
   omega
  ·simp only [ige, slen, decide_eq_false_iff_not] at g
   apply Qrc
   rw [eq_comm, decide_eq_false_iff_not]
   omega
def QKP : Ent := spec (.pr .str .nil) (fun x => (nameG x.1)) (fun x => (.t .bool (wordF x.1)))
theorem ms_f75 : Meets Tryz.prog 75 (strip QKP) := Qaf (R := runF g_f75 QzF QLE false) (mG Tryz.func75 (by kernel_rfl) Tryz.ntmps75 (by kernel_rfl) gk_f75 lk_f75) fun x hok => (e_f75 x.1).trans (s_f75 x.1 hok)
def Qa8 {α : Type} (l : List α) : Bool := decide (l.length ≤ 100000)
def ascUp (l : List Int) (k : Nat) : Bool := (List.range' k (l.length - k)).all fun j => decide (j = 0) || ilt (l.getD (j - 1) 0) (l.getD j 0)
def ascF (l : List Int) : Bool := ascUp l 0
theorem QGP (l : List Int) : ascUp l l.length = true := by
 unfold ascUp
 rw [Nat.sub_self]
 rfl
theorem Qy7 {l : List Int} {k : Nat} (hk : k < l.length) : ascUp l k = ((decide (k = 0) || ilt (l.getD (k - 1) 0) l[k]) && ascUp l (k + 1)) := by
 have : l.length - k = (l.length - (k + 1)) + 1 := by omega
 unfold ascUp
 rw [this, List.range'_succ, List.all_cons]
 simp only [List.getD_eq_getElem?_getD, List.getElem?_eq_getElem hk, Option.getD_some]
theorem asc_br {β : Type} {l : List Int} {k : Nat} (hk : k < l.length) (hb : k < 4611686018427387904) (bad ok : Option β) :
  br (igt (k : Int) 0) (br (cIx l (isub .i64 (k : Int) 1)) (br (ige (lgt tI l (Int.toNat (isub .i64 (k : Int) 1))) l[k]) bad ok) none) ok = br (decide (k = 0) || ilt (l.getD (k - 1) 0) l[k]) ok bad := by
 by_cases h0 : k = 0
 ·subst h0
  rw [show igt ((0 : Nat) : Int) 0 = false from rfl, Qae, decide_eq_true rfl, Bool.true_or, Qac]
 ·have e : isub .i64 (k : Int) 1 = ((k - 1 : Nat) : Int) := by rw [QbE (by omega)]; omega
  rw [show igt (k : Int) 0 = true from decide_eq_true (by omega), Qac, e, Int.toNat_natCast, Qay, decide_eq_true (show k - 1 < l.length by omega), Qac, decide_eq_false h0, Bool.false_or, Qqn]
  show br (!ilt (l.getD (k - 1) 0) l[k]) bad ok = _
  cases ilt (l.getD (k - 1) 0) l[k] <;> rfl
noncomputable def QJn : List DO := dT Tryz.f77 4
def Qis : Fg := ⟨[(0, some (.sl tI)), (5, some tI), (6, some tI)], []⟩
noncomputable def Qka : TC := (.sq (.reg (rT Tryz.f77 2)) (.sq (.cd (.t 7) .sk (.fg ⟨[], []⟩ (.ex 0))) (.sq (.bk 1 (.sq (.reg (rT Tryz.f77 3)) (.sq (.dr QJn [(0, []), (1, []), (2, []), (3, []), (4, []), (5, []), (6, []), (7, []), (8, []), (9, []), (10, []), (11, []), (12, []), (13, [])] (.of [0, 1, 2, 3, 4, 5, 6, 7, 8, 9, 10, 11, 12, 13])) (.cd (.t 22) (.sq (.reg (rT Tryz.f77 5)) (.fg ⟨[(2, some .bool)], []⟩ .rt)) .sk)))) (.reg (rT Tryz.f77 6)))))
noncomputable def QzD : TC := (.sq (.reg (rT Tryz.f77 0)) (.sq (.sq (.reg (rT Tryz.f77 1)) (.bk 0 (.lp 0 Qis Qka))) (.sq (.reg (rT Tryz.f77 7)) .rt)))
def QLC : List (RV × Option Ty) := [((.t 2), some .bool)]
abbrev Qo3 : Sh := ⟨[(0, .ty (.sl tI)), (5, .ty tI), (6, .ty tI)], []⟩
def Qkt (x0 : List Int) (x5 x6 : Int) : VS := Qo3.st (x0, x5, x6, ()) ()
abbrev Qrh : Sh := ⟨[(2, .ty .bool)], []⟩
def Qc9 (x2 : Bool) : VS := Qrh.st (x2, ()) ()
abbrev Quu : Sh := ⟨[], []⟩
def Qeg  : VS := Quu.st () ()
def QRi : VS → Option (Bool × List (Bool × Exit × VS)) := mkL Qo3 (fun x y => (rngOk x.1 x.2.1 x.2.2.1)) (fun x y => [((!ascUp x.1 x.2.2.1.toNat), .ret, Qc9 (false)), (true, .exit 0, Qeg)])
def g_f77 : G := ⟨TYs, [], 24, EL [], keeps, (Ls [QRi]), IL [], RL []⟩
def QGw (x0 : List Int) (x5 x6 : Int) : Option (Exit × VS) := br (ilt x6 x5) (br (igt x6 0) (br (cIx x0 (isub .i64 x6 1)) (br (cIx x0 x6) (br (ige (lgt tI x0 (Int.toNat (isub .i64 x6 1))) (lgt tI x0 (Int.toNat x6))) (some (.ret, Qc9 false)) (some (.normal, Qkt x0 x5 (iadd .i64 x6 1)))) none) none) (some (.normal, Qkt x0 x5 (iadd .i64 x6 1)))) (some (.exit 0, Qeg))
noncomputable def QhG (x0 : List Int) (x5 x6 : Int) : Option (Exit × VS) := loopF (Qaj g_f77 Qis Qka) (Qkt x0 x5 x6)
noncomputable def QpW (x0 : List Int) (x5 x6 : Int) : Option (Exit × VS) := br (ilt x6 x5) (br (igt x6 0) (br (cIx x0 (isub .i64 x6 1)) (br (cIx x0 x6) (br (ige (lgt tI x0 (Int.toNat (isub .i64 x6 1))) (lgt tI x0 (Int.toNat x6))) (some (.ret, Qc9 false)) (QhG x0 x5 (iadd .i64 x6 1))) none) none) (QhG x0 x5 (iadd .i64 x6 1))) (some (.exit 0, Qeg))
def Qk8 (x0 : List Int) (x5 x6 : Int) : Option (Exit × VS) := br (!ascUp x0 x6.toNat) (some (.ret, Qc9 (false))) <| some (.exit 0, Qeg)
theorem QJR (x0 : List Int) (x5 x6 : Int) : Qaj g_f77 Qis Qka (Qkt x0 x5 x6) = QGw x0 x5 x6 := by kernel_rfl
theorem QwC (x0 : List Int) (x5 x6 : Int) : QhG x0 x5 x6 = QpW x0 x5 x6 := (Qaq _ _).trans (by
 rw [QJR]
 simp only [QGw, QpW, QaE, nxt_n, nxt_r, nxt_e, nxt_0]
 rfl)
def r_f77 (p0 : List Int) : Option (V × List VO) := br (rngOk p0 (llen p0) (0 : Int)) (br (!ascUp p0 (0 : Int).toNat) (some (.t .bool (false), [])) (some (.t .bool true, []))) none
theorem e_f77 (p0 : List Int) : runF g_f77 QzD QLC false [.t (.sl tI) p0] [] = r_f77 p0 := by kernel_rfl
theorem en_f77 : Qag Tryz.prog 77 := .inr ⟨by decide, _, Tryz.func77, by kernel_rfl, by kernel_rfl⟩
theorem gk_f77 : GOk Tryz.prog g_f77 := Qan _ (fun p hp => by cases hp)
theorem QPd (x0 : List Int) (x5 x6 : Int) (h : (rngOk x0 x5 x6) = true) : QhG x0 x5 x6 = Qk8 x0 x5 x6 := by
 obtain ⟨rfl, h3, k, rfl, hk⟩ := rng_k h
 clear h
 refine Qav x0 (fun k => QhG x0 (x0.length : Int) (k : Int) = Qk8 x0 (x0.length : Int) (k : Int)) ?_ ?_ k hk
 ·rw [QwC]
  simp only [QpW, Qk8, Qaz, Nat.lt_irrefl, decide_false, Qae, Int.toNat_natCast, QGP, Bool.not_true]
 ·intro k hk ih
  rw [QwC]
  simp only [QpW, Qaz, Qay, hk, decide_true, Qac, Int.toNat_natCast, add1 (show k < 4611686018427387904 by omega), QaG (y := tI) hk, ih, asc_br hk (show k < 4611686018427387904 by omega)]
  simp only [Qk8, Int.toNat_natCast, Qy7 hk]
  cases decide (k = 0) || ilt (x0.getD (k - 1) 0) x0[k] <;> rfl
theorem QHW : ∀ S l p, g_f77.L 0 (fgt Qis S) = some (true, l) → pickA l = some p → loopF (Qaj g_f77 Qis Qka) S = some p :=
 QaF (s := Qo3) ⟨by decide, by decide⟩ (by kernel_rfl) fun x y hok p hp => by
 simp only [Qas, Qap] at hp
 exact (QPd x.1 x.2.1 x.2.2.1 (by simpa using hok)).trans hp
theorem lk_f77 : QzD.lok g_f77 := by
 repeat (first | exact trivial | exact QHW | refine ⟨?_, ?_⟩)
theorem s_f77 (l : List Int) (h : Qa8 l = true) : r_f77 l = some (.t .bool (ascF l), []) := by
 simp only [Qa8, decide_eq_true_eq] at h
 simp only [r_f77, rng_0 h, Qac, Int.toNat_zero]
 unfold ascF
 cases ascUp l 0 <;> rfl
def QKN : Ent := spec (.pr (.sl tI) .nil) (fun x => (Qa8 x.1)) (fun x => (.t .bool (ascF x.1)))
theorem ms_f77 : Meets Tryz.prog 77 (strip QKN) := Qaf (R := runF g_f77 QzD QLC false) (mG Tryz.func77 (by kernel_rfl) Tryz.ntmps77 (by kernel_rfl) gk_f77 lk_f77) fun x hok => (e_f77 x.1).trans (s_f77 x.1 hok)
def hashF (a : Int) : Bool := ieq (kindF a) 1
noncomputable def QzA : TC := (.sq (.reg (rT Tryz.f83 0)) (.sq (.reg (rT Tryz.f83 1)) .rt))
def QLz : List (RV × Option Ty) := [((.t 2), some .bool)]
def g_f83 : G := ⟨TYs, [], 6, EL [(108, QoV)], keeps, (fun _ _ => none), IL [], RL []⟩
def r_f83 (p0 : Int) : Option (V × List VO) := some (.t .bool (ieq (kindF p0) 1), [])
theorem e_f83 (p0 : Int) : runF g_f83 QzA QLz false [.t tI p0] [] = r_f83 p0 := by kernel_rfl
theorem en_f83 : Qag Tryz.prog 83 := .inr ⟨by decide, _, Tryz.func83, by kernel_rfl, by kernel_rfl⟩
theorem gk_f83 : GOk Tryz.prog g_f83 := Qan _ (gA (gC QvM Qvi gN))
theorem lk_f83 : QzA.lok g_f83 := by repeat (first | exact trivial | refine ⟨?_, ?_⟩)
theorem s_f83 (a : Int) : r_f83 a = some (.t .bool (hashF a), []) := rfl
def QKL : Ent := spec (.pr tI .nil) (fun x => true) (fun x => (.t .bool (hashF x.1)))
theorem ms_f83 : Meets Tryz.prog 83 (strip QKL) := Qaf (R := runF g_f83 QzA QLz false) (mG Tryz.func83 (by kernel_rfl) Tryz.ntmps83 (by kernel_rfl) gk_f83 lk_f83) fun x _ => (e_f83 x.1).trans (s_f83 x.1)
def QeZ (l : List Int) (k : Nat) : Bool := (List.range' k (l.length - k)).all fun j => ieq (QaA (l.getD j 0)).2 0 && !hasF (l.take j) (l.getD j 0)
def suitF (l : List Int) : Bool := QeZ l 0
theorem Qyp (l : List Int) : QeZ l l.length = true := by
 unfold QeZ
 rw [Nat.sub_self]
 rfl
theorem Qua {l : List Int} {k : Nat} (hk : k < l.length) : QeZ l k = ((ieq (QaA l[k]).2 0 && !hasF (l.take k) l[k]) && QeZ l (k + 1)) := by
 have : l.length - k = (l.length - (k + 1)) + 1 := by omega
 unfold QeZ
 rw [this, List.range'_succ, List.all_cons]
 simp only [List.getD_eq_getElem?_getD, List.getElem?_eq_getElem hk, Option.getD_some]
theorem QHQ (l : List Int) (k : Nat) : lsl l 0 (k : Int) = l.take k := by
 simp [lsl]
theorem QJJ {l : List Int} {k : Nat} (hk : k ≤ l.length) : cSl l 0 (k : Int) ((List.length l : Nat) : Int) = true := by
 simp only [cSl, decide_eq_true_eq]
 omega
def Qit : Fg := ⟨[(0, some (.sl tI)), (7, some (.sl tI)), (8, some tI), (9, some tI)], []⟩
noncomputable def Qkb : TC := (.sq (.reg (rT Tryz.f76 2)) (.sq (.cd (.t 10) .sk (.fg ⟨[], []⟩ (.ex 0))) (.sq (.bk 1 (.sq (.reg (rT Tryz.f76 3)) (.sq (.reg (rT Tryz.f76 4)) (.sq (.reg (rT Tryz.f76 5)) (.cd (.t 27) (.sq (.reg (rT Tryz.f76 6)) (.fg ⟨[(2, some .bool)], []⟩ .rt)) .sk))))) (.reg (rT Tryz.f76 7)))))
noncomputable def QzE : TC := (.sq (.reg (rT Tryz.f76 0)) (.sq (.sq (.reg (rT Tryz.f76 1)) (.bk 0 (.lp 0 Qit Qkb))) (.sq (.reg (rT Tryz.f76 8)) .rt)))
def QLD : List (RV × Option Ty) := [((.t 2), some .bool)]
abbrev Qo4 : Sh := ⟨[(0, .ty (.sl tI)), (7, .ty (.sl tI)), (8, .ty tI), (9, .ty tI)], []⟩
def QoH (x0 x7 : List Int) (x8 x9 : Int) : VS := Qo4.st (x0, x7, x8, x9, ()) ()
abbrev Qri : Sh := ⟨[(2, .ty .bool)], []⟩
def QbI (x2 : Bool) : VS := Qri.st (x2, ()) ()
abbrev Quv : Sh := ⟨[], []⟩
def Qeh  : VS := Quv.st () ()
def QRj : VS → Option (Bool × List (Bool × Exit × VS)) := mkL Qo4 (fun x y => (rngOk x.2.1 x.2.2.1 x.2.2.2.1 && samB x.1 x.2.1)) (fun x y => [((!QeZ x.2.1 x.2.2.2.1.toNat), .ret, QbI (false)), (true, .exit 0, Qeh)])
def g_f76 : G := ⟨TYs, [], 29, EL [(48, Qq5), (59, Qoa)], keeps, (Ls [QRj]), IL [], RL []⟩
def QGx (x0 x7 : List Int) (x8 x9 : Int) : Option (Exit × VS) :=
 let a1 := lgt tI x7 (Int.toNat x9)
 br (ilt x9 x8) (br (cIx x7 x9) (br (ine ((QaA a1).2) 0) (some (.ret, QbI false)) (br (cSl x0 0 x9 ((List.length x0 : Nat) : Int)) (br (QaY (lsl x0 0 x9) a1) (br (hasF (lsl x0 0 x9) a1) (some (.ret, QbI false)) (some (.normal, QoH x0 x7 x8 (iadd .i64 x9 1)))) none) none)) none) (some (.exit 0, Qeh))
noncomputable def QkU (x0 x7 : List Int) (x8 x9 : Int) : Option (Exit × VS) := loopF (Qaj g_f76 Qit Qkb) (QoH x0 x7 x8 x9)
noncomputable def QpX (x0 x7 : List Int) (x8 x9 : Int) : Option (Exit × VS) :=
 let a1 := lgt tI x7 (Int.toNat x9)
 br (ilt x9 x8) (br (cIx x7 x9) (br (ine ((QaA a1).2) 0) (some (.ret, QbI false)) (br (cSl x0 0 x9 ((List.length x0 : Nat) : Int)) (br (QaY (lsl x0 0 x9) a1) (br (hasF (lsl x0 0 x9) a1) (some (.ret, QbI false)) (QkU x0 x7 x8 (iadd .i64 x9 1))) none) none)) none) (some (.exit 0, Qeh))
def Qk9 (x0 x7 : List Int) (x8 x9 : Int) : Option (Exit × VS) := br (!QeZ x7 x9.toNat) (some (.ret, QbI (false))) <| some (.exit 0, Qeh)
theorem QJS (x0 x7 : List Int) (x8 x9 : Int) : Qaj g_f76 Qit Qkb (QoH x0 x7 x8 x9) = QGx x0 x7 x8 x9 := by kernel_rfl
theorem QwD (x0 x7 : List Int) (x8 x9 : Int) : QkU x0 x7 x8 x9 = QpX x0 x7 x8 x9 := (Qaq _ _).trans (by
 rw [QJS]
 simp only [QGx, QpX, QaE, nxt_n, nxt_r, nxt_e, nxt_0]
 rfl)
def r_f76 (p0 : List Int) : Option (V × List VO) := br (rngOk p0 (llen p0) (0 : Int) && samB p0 p0) (br (!QeZ p0 (0 : Int).toNat) (some (.t .bool (false), [])) (some (.t .bool true, []))) none
theorem e_f76 (p0 : List Int) : runF g_f76 QzE QLD false [.t (.sl tI) p0] [] = r_f76 p0 := by kernel_rfl
theorem en_f76 : Qag Tryz.prog 76 := .inr ⟨by decide, _, Tryz.func76, by kernel_rfl, by kernel_rfl⟩
theorem gk_f76 : GOk Tryz.prog g_f76 := Qan _ (gA (gC QxF Qwu (gC Qs1 Qsf gN)))
theorem QPe (x0 x7 : List Int) (x8 x9 : Int) (h : (rngOk x7 x8 x9 && samB x0 x7) = true) : QkU x0 x7 x8 x9 = Qk9 x0 x7 x8 x9 := by
 simp only [Bool.and_eq_true] at h
 obtain ⟨h0, hs⟩ := h
 have hs := QuO hs
 subst hs
 obtain ⟨rfl, h3, k, rfl, hk⟩ := rng_k h0
 clear h0
 refine Qav x0 (fun k => QkU x0 x0 (x0.length : Int) (k : Int) = Qk9 x0 x0 (x0.length : Int) (k : Int)) ?_ ?_ k hk
 ·rw [QwD]
  simp only [QpX, Qk9, Qaz, Nat.lt_irrefl, decide_false, Qae, Int.toNat_natCast, Qyp, Bool.not_true]
 ·intro k hk ih
  rw [QwD]
  have hi : QaY (x0.take k) x0[k] = true := decide_eq_true (by rw [List.length_take]; omega)
  simp only [QpX, Qaz, Qay, hk, decide_true, Qac, Int.toNat_natCast, add1 (show k < 4611686018427387904 by omega), QaG (y := tI) hk, ih, QHQ, QJJ (show k ≤ x0.length by omega), hi, Qqm]
  simp only [Qk9, Int.toNat_natCast, Qua hk]
  cases ieq (QaA x0[k]).2 0 <;> cases hasF (x0.take k) x0[k] <;> rfl
theorem QHX : ∀ S l p, g_f76.L 0 (fgt Qit S) = some (true, l) → pickA l = some p → loopF (Qaj g_f76 Qit Qkb) S = some p :=
 QaF (s := Qo4) ⟨by decide, by decide⟩ (by kernel_rfl) fun x y hok p hp => by
 simp only [Qas, Qap] at hp
 exact (QPe x.1 x.2.1 x.2.2.1 x.2.2.2.1 (by simpa using hok)).trans hp
theorem lk_f76 : QzE.lok g_f76 := by
 repeat (first | exact trivial | exact QHX | refine ⟨?_, ?_⟩)
theorem s_f76 (l : List Int) (h : Qa8 l = true) : r_f76 l = some (.t .bool (suitF l), []) := by
 simp only [Qa8, decide_eq_true_eq] at h
 simp only [r_f76, rng_0 h, QmG, Bool.and_self, Qac, Int.toNat_zero]
 unfold suitF
 cases QeZ l 0 <;> rfl
def QKO : Ent := spec (.pr (.sl tI) .nil) (fun x => (Qa8 x.1)) (fun x => (.t .bool (suitF x.1)))
theorem ms_f76 : Meets Tryz.prog 76 (strip QKO) := Qaf (R := runF g_f76 QzE QLD false) (mG Tryz.func76 (by kernel_rfl) Tryz.ntmps76 (by kernel_rfl) gk_f76 lk_f76) fun x hok => (e_f76 x.1).trans (s_f76 x.1 hok)
def nKey (n : Int) : Bool := !keyI n
noncomputable def QlC : TC := (.sq (.reg (rT Tryz.f80 0)) (.sq (.reg (rT Tryz.f80 1)) .rt))
def QrO : List (RV × Option Ty) := [((.t 3), some .bool)]
def Qlm : G := ⟨TYs, [], 8, EL [(82, Qv5)], keeps, (fun _ _ => none), IL [], RL []⟩
def QpA (p0 : Int) : Option (V × List VO) := some (.t .bool (!(keyI p0)), [.box (.c (.func (.func 82) #[] #[]))])
theorem QJa (p0 : Int) : runF Qlm QlC QrO false [.t tI p0, .ptr 50000 0] [.box (.c (.func (.func 82) ⟨[]⟩ ⟨[]⟩))] = QpA p0 := by kernel_rfl
theorem QFb : Qag Tryz.prog 80 := .inr ⟨by decide, _, Tryz.func80, by kernel_rfl, by kernel_rfl⟩
theorem QEQ : GOk Tryz.prog Qlm := Qan _ (gA (gC QE9 QDs gN))
theorem QEk : QlC.lok Qlm := by repeat (first | exact trivial | refine ⟨?_, ?_⟩)
theorem QHl (n : Int) : QpA n = some (.t .bool (nKey n), [.box (.c (.func (.func 82) #[] #[]))]) := by
 simp only [QpA]
 rfl
def QqY : Ent := specB [.ty tI, .ptr 50000 0] [.bc 82] (fun x y => true) (fun x y => (.t .bool (nKey x.1))) (fun x y => [.box (.c (.func (.func 82) #[] #[]))])
theorem QDu : Meets Tryz.prog 80 (strip QqY) := Qb8 (QaI (R := runF Qlm QlC QrO false) (mG Tryz.func80 (by kernel_rfl) Tryz.ntmps80 (by kernel_rfl) QEQ QEk) fun x y _ => (QJa x.1).trans (QHl x.1))
def ixKey (l : List Int) : Int := match fstG nKey l with | some k => (k : Int) | none => -1
def QbA : Fg := ⟨[(0, some (.sl tI)), (1, none), (7, some tI), (8, some tI)], [(50000, none)]⟩
noncomputable def Qcc : TC := (.sq (.reg (rT Tryz.f40 2)) (.sq (.cd (.t 9) .sk (.fg ⟨[], [(50000, none)]⟩ (.ex 0))) (.sq (.bk 1 (.sq (.reg (rT Tryz.f40 3)) (.sq (.reg (rT Tryz.f40 4)) (.cd (.t 16) (.sq (.reg (rT Tryz.f40 5)) (.fg ⟨[(4, some tI)], [(50000, none)]⟩ .rt)) .sk)))) (.reg (rT Tryz.f40 6)))))
noncomputable def Qfc : TC := (.sq (.reg (rT Tryz.f40 0)) (.sq (.sq (.reg (rT Tryz.f40 1)) (.bk 0 (.lp 0 QbA Qcc))) (.sq (.reg (rT Tryz.f40 7)) .rt)))
def QjC : List (RV × Option Ty) := [((.t 4), some tI)]
abbrev QdO : Sh := ⟨[(0, .ty (.sl tI)), (1, .fn 80 [(50000, 0)]), (7, .ty tI), (8, .ty tI)], [(50000, .bc 82)]⟩
def QdL (x0 : List Int) (x7 x8 : Int) : VS := QdO.st (x0, (), x7, x8, ()) ((), ())
abbrev Qhw : Sh := ⟨[(4, .ty tI)], [(50000, .bc 82)]⟩
def Qbf (x4 : Int) : VS := Qhw.st (x4, ()) ((), ())
abbrev Qi4 : Sh := ⟨[], [(50000, .bc 82)]⟩
def Qbo  : VS := Qi4.st () ((), ())
def QqJ : VS → Option (Bool × List (Bool × Exit × VS)) := mkL QdO (fun x y => (rngOk x.1 x.2.2.1 x.2.2.2.1)) (fun x y => [(((fstG nKey (x.1.drop x.2.2.2.1.toNat)).isSome), .ret, Qbf (x.2.2.2.1 + ((fstG nKey (x.1.drop x.2.2.2.1.toNat)).getD 0 : Nat))), (true, .exit 0, Qbo)])
def Qbj : G := ⟨TYs, [], 19, EL [(80, QqY)], keeps, (Ls [QqJ]), IL [], RL []⟩
def QiN (x0 : List Int) (x7 x8 : Int) : Option (Exit × VS) := br (ilt x8 x7) (br (cIx x0 x8) (br (nKey (lgt tI x0 (Int.toNat x8))) (some (.ret, Qbf x8)) (some (.normal, QdL x0 x7 (iadd .i64 x8 1)))) none) (some (.exit 0, Qbo))
noncomputable def Qcj (x0 : List Int) (x7 x8 : Int) : Option (Exit × VS) := loopF (Qaj Qbj QbA Qcc) (QdL x0 x7 x8)
noncomputable def QcG (x0 : List Int) (x7 x8 : Int) : Option (Exit × VS) := br (ilt x8 x7) (br (cIx x0 x8) (br (nKey (lgt tI x0 (Int.toNat x8))) (some (.ret, Qbf x8)) (Qcj x0 x7 (iadd .i64 x8 1))) none) (some (.exit 0, Qbo))
def Qcl (x0 : List Int) (x7 x8 : Int) : Option (Exit × VS) :=
 let a1 := fstG nKey (x0.drop x8.toNat)
 br (a1.isSome) (some (.ret, Qbf (x8 + (a1.getD 0 : Nat)))) <| some (.exit 0, Qbo)
theorem Qn3 (x0 : List Int) (x7 x8 : Int) : Qaj Qbj QbA Qcc (QdL x0 x7 x8) = QiN x0 x7 x8 := by kernel_rfl
theorem Qgy (x0 : List Int) (x7 x8 : Int) : Qcj x0 x7 x8 = QcG x0 x7 x8 := (Qaq _ _).trans (by
 rw [Qn3]
 simp only [QiN, QcG, QaE, nxt_n, nxt_r, nxt_e, nxt_0]
 rfl)
def QgT (p0 : List Int) : Option (V × List VO) :=
 let a1 := (fstG nKey (p0.drop (0 : Int).toNat))
 br (rngOk p0 (llen p0) (0 : Int)) (br (a1.isSome) (some (.t tI ((0 : Int) + (a1.getD 0 : Nat)), [.box (.c (.func (.func 82) #[] #[]))])) (some (.t tI (-1), [.box (.c (.func (.func 82) #[] #[]))]))) none
theorem QvQ (p0 : List Int) : runF Qbj Qfc QjC false [.t (.sl tI) p0, .fn 80 [(.ptr 50000 0)]] [.box (.c (.func (.func 82) ⟨[]⟩ ⟨[]⟩))] = QgT p0 := by kernel_rfl
theorem Qs3 : Qag Tryz.prog 40 := .inr ⟨by decide, _, Tryz.func40, by kernel_rfl, by kernel_rfl⟩
theorem QsT : GOk Tryz.prog Qbj := Qan _ (gA (gC QFb QDu gN))
theorem Qql (x0 : List Int) (x7 x8 : Int) (h : (rngOk x0 x7 x8) = true) : Qcj x0 x7 x8 = Qcl x0 x7 x8 := by
 obtain ⟨rfl, h3, k, rfl, hk⟩ := rng_k h
 clear h
 refine Qav x0 (fun k => Qcj x0 (x0.length : Int) (k : Int) = Qcl x0 (x0.length : Int) (k : Int)) ?_ ?_ k hk
 ·rw [Qgy]
  simp [QcG, Qcl, Qaz, Qae, fstG]
 ·intro k hk ih
  rw [Qgy]
  simp only [QcG, Qaz, Qay, hk, decide_true, Qac, Int.toNat_natCast, add1 (show k < 4611686018427387904 by omega), ih, QaG (y := tI) hk]
  simp only [Qcl, Int.toNat_natCast, List.drop_eq_getElem_cons hk, fstG]
  cases h : nKey x0[k] with
  | true => simp [Qac]
  | false =>
   simp only [Qae, Bool.false_eq_true, if_false]
   cases hq : fstG nKey (x0.drop (k + 1)) with
   | none => rfl
   | some j =>
    simp only [Option.map_some, Option.isSome_some, Option.getD_some, Qac]
    congr 3
    omega
theorem QnY : ∀ S l p, Qbj.L 0 (fgt QbA S) = some (true, l) → pickA l = some p → loopF (Qaj Qbj QbA Qcc) S = some p :=
 QaF (s := QdO) ⟨by decide, by decide⟩ (by kernel_rfl) fun x y hok p hp => by
 simp only [Qas, Qap] at hp
 exact (Qql x.1 x.2.2.1 x.2.2.2.1 (by simpa using hok)).trans hp
theorem QsJ : Qfc.lok Qbj := by
 repeat (first | exact trivial | exact QnY | refine ⟨?_, ?_⟩)
theorem QuS (l : List Int) (h : Qa8 l = true) : QgT l = some (.t tI (ixKey l), [.box (.c (.func (.func 82) #[] #[]))]) := by
 simp only [Qa8, decide_eq_true_eq] at h
 simp only [QgT, rng_0 h, Qac, Int.toNat_zero, List.drop_zero, ixKey]
 cases fstG nKey l <;> simp [Qac, Qae]
def Qjx : Ent := specB [.ty (.sl tI), .fn 80 [(50000, 0)]] [.bc 82] (fun x y => (Qa8 x.1)) (fun x y => (.t tI (ixKey x.1))) (fun x y => [.box (.c (.func (.func 82) #[] #[]))])
theorem Qsh : Meets Tryz.prog 40 (strip Qjx) := Qb8 (QaI (R := runF Qbj Qfc QjC false) (mG Tryz.func40 (by kernel_rfl) Tryz.ntmps40 (by kernel_rfl) QsT QsJ) fun x y hok => (QvQ x.1).trans (QuS x.1 hok))
def QnN (l : List Int) : Bool := !l.all keyI
noncomputable def Qfa : TC := (.sq (.reg (rT Tryz.f81 0)) (.sq (.reg (rT Tryz.f81 1)) .rt))
def QjA : List (RV × Option Ty) := [((.t 4), some .bool)]
def QeU : G := ⟨TYs, [], 9, EL [(40, Qjx)], keeps, (fun _ _ => none), IL [], RL []⟩
def QgR (p0 : List Int) : Option (V × List VO) := br (Qa8 p0) (some (.t .bool (ige (ixKey p0) 0), [.box (.c (.func (.func 82) #[] #[]))])) none
theorem QvO (p0 : List Int) : runF QeU Qfa QjA false [.t (.sl tI) p0, .fn 80 [(.ptr 50000 0)]] [.box (.c (.func (.func 82) ⟨[]⟩ ⟨[]⟩))] = QgR p0 := by kernel_rfl
theorem Qs0 : Qag Tryz.prog 81 := .inr ⟨by decide, _, Tryz.func81, by kernel_rfl, by kernel_rfl⟩
theorem QsR : GOk Tryz.prog QeU := Qan _ (gA (gC Qs3 Qsh gN))
theorem QsH : Qfa.lok QeU := by repeat (first | exact trivial | refine ⟨?_, ?_⟩)
theorem QuQ (l : List Int) (h : Qa8 l = true) : QgR l = some (.t .bool (QnN l), [.box (.c (.func (.func 82) #[] #[]))]) := by
 simp only [QgR, h, Qac]
 have e : ige (ixKey l) 0 = QnN l := by
  have e2 : QnN l = l.any nKey := by
   unfold QnN
   rw [List.not_all_eq_any_not]
   rfl
  rw [e2]
  unfold ixKey
  cases hq : fstG nKey l with
  | none => rw [Qcr.1 hq]; rfl
  | some k =>
   rw [← QcW, hq]
   simp only [ige, Option.isSome_some, decide_eq_true_eq]
   omega
 rw [e]
def Qjv : Ent := specB [.ty (.sl tI), .fn 80 [(50000, 0)]] [.bc 82] (fun x y => (Qa8 x.1)) (fun x y => (.t .bool (QnN x.1))) (fun x y => [.box (.c (.func (.func 82) #[] #[]))])
theorem Qse : Meets Tryz.prog 81 (strip Qjv) := Qb8 (QaI (R := runF QeU Qfa QjA false) (mG Tryz.func81 (by kernel_rfl) Tryz.ntmps81 (by kernel_rfl) QsR QsH) fun x y hok => (QvO x.1).trans (QuQ x.1 hok))
noncomputable def QlE : TC := (.sq (.reg (rT Tryz.f79 0)) (.sq (.reg (rT Tryz.f79 1)) .rt))
def QrQ : List (RV × Option Ty) := [((.t 2), none)]
def Qlo : G := ⟨TYs, [], 4, EL [], keeps, (fun _ _ => none), IL [], RL []⟩
def Qwk  : Option (V × List VO) := some (.fn 80 [(.ptr 50000 0)], [.box (.c (.func (.func 82) #[] #[]))])
theorem QJc  : runF Qlo QlE QrQ true [.c (.func (.func 82) ⟨[]⟩ ⟨[]⟩)] [] = Qwk  := by kernel_rfl
theorem QFd : Qag Tryz.prog 79 := .inr ⟨by decide, _, Tryz.func79, by kernel_rfl, by kernel_rfl⟩
theorem QES : GOk Tryz.prog Qlo := Qan _ (fun p hp => by cases hp)
theorem QEm : QlE.lok Qlo := by repeat (first | exact trivial | refine ⟨?_, ?_⟩)
theorem QHn : Qwk = some (.fn 80 [.ptr 50000 0], [.box (.c (.func (.func 82) #[] #[]))]) := rfl
def Qq0 : Ent := specB [.cf 82] [] (fun x y => true) (fun x y => (.fn 80 [(.ptr 50000 0)])) (fun x y => [.box (.c (.func (.func 82) #[] #[]))])
theorem QDw : Meets Tryz.prog 79 (strip Qq0) := Qb8 (QaI (R := runF Qlo QlE QrQ true) (mG Tryz.func79 (by kernel_rfl) Tryz.ntmps79 (by kernel_rfl) QES QEm) fun x y _ => (QJc ).trans (QHn ))
def nHash (n : Int) : Bool := !hashF n
noncomputable def QlB : TC := (.sq (.reg (rT Tryz.f80 0)) (.sq (.reg (rT Tryz.f80 1)) .rt))
def QrN : List (RV × Option Ty) := [((.t 3), some .bool)]
def Qll : G := ⟨TYs, [], 8, EL [(83, QKL)], keeps, (fun _ _ => none), IL [], RL []⟩
def Qpz (p0 : Int) : Option (V × List VO) := some (.t .bool (!(hashF p0)), [.box (.c (.func (.func 83) #[] #[]))])
theorem QI9 (p0 : Int) : runF Qll QlB QrN false [.t tI p0, .ptr 50000 0] [.box (.c (.func (.func 83) ⟨[]⟩ ⟨[]⟩))] = Qpz p0 := by kernel_rfl
theorem QFa : Qag Tryz.prog 80 := .inr ⟨by decide, _, Tryz.func80, by kernel_rfl, by kernel_rfl⟩
theorem QEP : GOk Tryz.prog Qll := Qan _ (gA (gC en_f83 ms_f83 gN))
theorem QEj : QlB.lok Qll := by repeat (first | exact trivial | refine ⟨?_, ?_⟩)
theorem QHk (n : Int) : Qpz n = some (.t .bool (nHash n), [.box (.c (.func (.func 83) #[] #[]))]) := by
 simp only [Qpz]
 rfl
def QqX : Ent := specB [.ty tI, .ptr 50000 0] [.bc 83] (fun x y => true) (fun x y => (.t .bool (nHash x.1))) (fun x y => [.box (.c (.func (.func 83) #[] #[]))])
theorem QDt : Meets Tryz.prog 80 (strip QqX) := Qb8 (QaI (R := runF Qll QlB QrN false) (mG Tryz.func80 (by kernel_rfl) Tryz.ntmps80 (by kernel_rfl) QEP QEj) fun x y _ => (QI9 x.1).trans (QHk x.1))
def Qok (l : List Int) : Int := match fstG nHash l with | some k => (k : Int) | none => -1
def Qbz : Fg := ⟨[(0, some (.sl tI)), (1, none), (7, some tI), (8, some tI)], [(50000, none)]⟩
noncomputable def Qcb : TC := (.sq (.reg (rT Tryz.f40 2)) (.sq (.cd (.t 9) .sk (.fg ⟨[], [(50000, none)]⟩ (.ex 0))) (.sq (.bk 1 (.sq (.reg (rT Tryz.f40 3)) (.sq (.reg (rT Tryz.f40 4)) (.cd (.t 16) (.sq (.reg (rT Tryz.f40 5)) (.fg ⟨[(4, some tI)], [(50000, none)]⟩ .rt)) .sk)))) (.reg (rT Tryz.f40 6)))))
noncomputable def Qfb : TC := (.sq (.reg (rT Tryz.f40 0)) (.sq (.sq (.reg (rT Tryz.f40 1)) (.bk 0 (.lp 0 Qbz Qcb))) (.sq (.reg (rT Tryz.f40 7)) .rt)))
def QjB : List (RV × Option Ty) := [((.t 4), some tI)]
abbrev QdN : Sh := ⟨[(0, .ty (.sl tI)), (1, .fn 80 [(50000, 0)]), (7, .ty tI), (8, .ty tI)], [(50000, .bc 83)]⟩
def QdK (x0 : List Int) (x7 x8 : Int) : VS := QdN.st (x0, (), x7, x8, ()) ((), ())
abbrev Qhv : Sh := ⟨[(4, .ty tI)], [(50000, .bc 83)]⟩
def Qbe (x4 : Int) : VS := Qhv.st (x4, ()) ((), ())
abbrev Qi3 : Sh := ⟨[], [(50000, .bc 83)]⟩
def Qbn  : VS := Qi3.st () ((), ())
def QqI : VS → Option (Bool × List (Bool × Exit × VS)) := mkL QdN (fun x y => (rngOk x.1 x.2.2.1 x.2.2.2.1)) (fun x y => [(((fstG nHash (x.1.drop x.2.2.2.1.toNat)).isSome), .ret, Qbe (x.2.2.2.1 + ((fstG nHash (x.1.drop x.2.2.2.1.toNat)).getD 0 : Nat))), (true, .exit 0, Qbn)])
def Qbi : G := ⟨TYs, [], 19, EL [(80, QqX)], keeps, (Ls [QqI]), IL [], RL []⟩
def QiM (x0 : List Int) (x7 x8 : Int) : Option (Exit × VS) := br (ilt x8 x7) (br (cIx x0 x8) (br (nHash (lgt tI x0 (Int.toNat x8))) (some (.ret, Qbe x8)) (some (.normal, QdK x0 x7 (iadd .i64 x8 1)))) none) (some (.exit 0, Qbn))
noncomputable def Qci (x0 : List Int) (x7 x8 : Int) : Option (Exit × VS) := loopF (Qaj Qbi Qbz Qcb) (QdK x0 x7 x8)
noncomputable def QcF (x0 : List Int) (x7 x8 : Int) : Option (Exit × VS) := br (ilt x8 x7) (br (cIx x0 x8) (br (nHash (lgt tI x0 (Int.toNat x8))) (some (.ret, Qbe x8)) (Qci x0 x7 (iadd .i64 x8 1))) none) (some (.exit 0, Qbn))
def Qck (x0 : List Int) (x7 x8 : Int) : Option (Exit × VS) :=
 let a1 := fstG nHash (x0.drop x8.toNat)
 br (a1.isSome) (some (.ret, Qbe (x8 + (a1.getD 0 : Nat)))) <| some (.exit 0, Qbn)
theorem Qn2 (x0 : List Int) (x7 x8 : Int) : Qaj Qbi Qbz Qcb (QdK x0 x7 x8) = QiM x0 x7 x8 := by kernel_rfl
theorem Qgx (x0 : List Int) (x7 x8 : Int) : Qci x0 x7 x8 = QcF x0 x7 x8 := (Qaq _ _).trans (by
 rw [Qn2]
 simp only [QiM, QcF, QaE, nxt_n, nxt_r, nxt_e, nxt_0]
 rfl)
def QgS (p0 : List Int) : Option (V × List VO) :=
 let a1 := (fstG nHash (p0.drop (0 : Int).toNat))
 br (rngOk p0 (llen p0) (0 : Int)) (br (a1.isSome) (some (.t tI ((0 : Int) + (a1.getD 0 : Nat)), [.box (.c (.func (.func 83) #[] #[]))])) (some (.t tI (-1), [.box (.c (.func (.func 83) #[] #[]))]))) none
theorem QvP (p0 : List Int) : runF Qbi Qfb QjB false [.t (.sl tI) p0, .fn 80 [(.ptr 50000 0)]] [.box (.c (.func (.func 83) ⟨[]⟩ ⟨[]⟩))] = QgS p0 := by kernel_rfl
theorem Qs2 : Qag Tryz.prog 40 := .inr ⟨by decide, _, Tryz.func40, by kernel_rfl, by kernel_rfl⟩
theorem QsS : GOk Tryz.prog Qbi := Qan _ (gA (gC QFa QDt gN))
theorem Qqk (x0 : List Int) (x7 x8 : Int) (h : (rngOk x0 x7 x8) = true) : Qci x0 x7 x8 = Qck x0 x7 x8 := by
 obtain ⟨rfl, h3, k, rfl, hk⟩ := rng_k h
 clear h
 refine Qav x0 (fun k => Qci x0 (x0.length : Int) (k : Int) = Qck x0 (x0.length : Int) (k : Int)) ?_ ?_ k hk
 ·rw [Qgx]
  simp [QcF, Qck, Qaz, Qae, fstG]
 ·intro k hk ih
  rw [Qgx]
  simp only [QcF, Qaz, Qay, hk, decide_true, Qac, Int.toNat_natCast, add1 (show k < 4611686018427387904 by omega), ih, QaG (y := tI) hk]
  simp only [Qck, Int.toNat_natCast, List.drop_eq_getElem_cons hk, fstG]
  cases h : nHash x0[k] with
  | true => simp [Qac]
  | false =>
   simp only [Qae, Bool.false_eq_true, if_false]
   cases hq : fstG nHash (x0.drop (k + 1)) with
   | none => rfl
   | some j =>
    simp only [Option.map_some, Option.isSome_some, Option.getD_some, Qac]
    congr 3
    omega
theorem QnX : ∀ S l p, Qbi.L 0 (fgt Qbz S) = some (true, l) → pickA l = some p → loopF (Qaj Qbi Qbz Qcb) S = some p :=
 QaF (s := QdN) ⟨by decide, by decide⟩ (by kernel_rfl) fun x y hok p hp => by
 simp only [Qas, Qap] at hp
 exact (Qqk x.1 x.2.2.1 x.2.2.2.1 (by simpa using hok)).trans hp
theorem QsI : Qfb.lok Qbi := by
 repeat (first | exact trivial | exact QnX | refine ⟨?_, ?_⟩)
theorem QuR (l : List Int) (h : Qa8 l = true) : QgS l = some (.t tI (Qok l), [.box (.c (.func (.func 83) #[] #[]))]) := by
 simp only [Qa8, decide_eq_true_eq] at h
 simp only [QgS, rng_0 h, Qac, Int.toNat_zero, List.drop_zero, Qok]
 cases fstG nHash l <;> simp [Qac, Qae]
def Qjw : Ent := specB [.ty (.sl tI), .fn 80 [(50000, 0)]] [.bc 83] (fun x y => (Qa8 x.1)) (fun x y => (.t tI (Qok x.1))) (fun x y => [.box (.c (.func (.func 83) #[] #[]))])
theorem Qsg : Meets Tryz.prog 40 (strip Qjw) := Qb8 (QaI (R := runF Qbi Qfb QjB false) (mG Tryz.func40 (by kernel_rfl) Tryz.ntmps40 (by kernel_rfl) QsS QsI) fun x y hok => (QvP x.1).trans (QuR x.1 hok))
def Qg2 (l : List Int) : Bool := !l.all hashF
noncomputable def Qe9 : TC := (.sq (.reg (rT Tryz.f81 0)) (.sq (.reg (rT Tryz.f81 1)) .rt))
def Qjz : List (RV × Option Ty) := [((.t 4), some .bool)]
def QeT : G := ⟨TYs, [], 9, EL [(40, Qjw)], keeps, (fun _ _ => none), IL [], RL []⟩
def QgQ (p0 : List Int) : Option (V × List VO) := br (Qa8 p0) (some (.t .bool (ige (Qok p0) 0), [.box (.c (.func (.func 83) #[] #[]))])) none
theorem QvN (p0 : List Int) : runF QeT Qe9 Qjz false [.t (.sl tI) p0, .fn 80 [(.ptr 50000 0)]] [.box (.c (.func (.func 83) ⟨[]⟩ ⟨[]⟩))] = QgQ p0 := by kernel_rfl
theorem QsZ : Qag Tryz.prog 81 := .inr ⟨by decide, _, Tryz.func81, by kernel_rfl, by kernel_rfl⟩
theorem QsQ : GOk Tryz.prog QeT := Qan _ (gA (gC Qs2 Qsg gN))
theorem QsG : Qe9.lok QeT := by repeat (first | exact trivial | refine ⟨?_, ?_⟩)
theorem QuP (l : List Int) (h : Qa8 l = true) : QgQ l = some (.t .bool (Qg2 l), [.box (.c (.func (.func 83) #[] #[]))]) := by
 simp only [QgQ, h, Qac]
 have e : ige (Qok l) 0 = Qg2 l := by
  have e2 : Qg2 l = l.any nHash := by
   unfold Qg2
   rw [List.not_all_eq_any_not]
   rfl
  rw [e2]
  unfold Qok
  cases hq : fstG nHash l with
  | none => rw [Qcr.1 hq]; rfl
  | some k =>
   rw [← QcW, hq]
   simp only [ige, Option.isSome_some, decide_eq_true_eq]
   omega
 rw [e]
def Qju : Ent := specB [.ty (.sl tI), .fn 80 [(50000, 0)]] [.bc 83] (fun x y => (Qa8 x.1)) (fun x y => (.t .bool (Qg2 x.1))) (fun x y => [.box (.c (.func (.func 83) #[] #[]))])
theorem Qsd : Meets Tryz.prog 81 (strip Qju) := Qb8 (QaI (R := runF QeT Qe9 Qjz false) (mG Tryz.func81 (by kernel_rfl) Tryz.ntmps81 (by kernel_rfl) QsQ QsG) fun x y hok => (QvN x.1).trans (QuP x.1 hok))
noncomputable def QlD : TC := (.sq (.reg (rT Tryz.f79 0)) (.sq (.reg (rT Tryz.f79 1)) .rt))
def QrP : List (RV × Option Ty) := [((.t 2), none)]
def Qln : G := ⟨TYs, [], 4, EL [], keeps, (fun _ _ => none), IL [], RL []⟩
def Qwj  : Option (V × List VO) := some (.fn 80 [(.ptr 50000 0)], [.box (.c (.func (.func 83) #[] #[]))])
theorem QJb  : runF Qln QlD QrP true [.c (.func (.func 83) ⟨[]⟩ ⟨[]⟩)] [] = Qwj  := by kernel_rfl
theorem QFc : Qag Tryz.prog 79 := .inr ⟨by decide, _, Tryz.func79, by kernel_rfl, by kernel_rfl⟩
theorem QER : GOk Tryz.prog Qln := Qan _ (fun p hp => by cases hp)
theorem QEl : QlD.lok Qln := by repeat (first | exact trivial | refine ⟨?_, ?_⟩)
theorem QHm : Qwj = some (.fn 80 [.ptr 50000 0], [.box (.c (.func (.func 83) #[] #[]))]) := rfl
def QqZ : Ent := specB [.cf 83] [] (fun x y => true) (fun x y => (.fn 80 [(.ptr 50000 0)])) (fun x y => [.box (.c (.func (.func 83) #[] #[]))])
theorem QDv : Meets Tryz.prog 79 (strip QqZ) := Qb8 (QaI (R := runF Qln QlD QrP true) (mG Tryz.func79 (by kernel_rfl) Tryz.ntmps79 (by kernel_rfl) QER QEl) fun x y _ => (QJb ).trans (QHm ))
end
end Go.Proofs.YtkngeegkjhipeaaGreat.K
