import Derived.Test.YtckcgijklnloiaaGreatQ6
import Derived.Test.YtckcgijklnloiaaGreatQ3
import Derived.Shelf.Small.Strs
import Derived.Ground.NamesProg
set_option linter.unusedSimpArgs false
set_option linter.unusedVariables false
namespace Go.Proofs
open Go.Shelf
def Tryz.lays137_ren : Go.Shelf.Ren := ⟨fun | 137 => 179 | 217 => 208 | 266 => 229 | n => n, fun | 9 => 9 | 5 => 5 | 3 => 3 | n => n, fun | n => n⟩
theorem Tryz.lays137 : Go.Proofs.Lays.n137 Tryz.prog Tryz.lays137_ren := {
 mixed := by kernel_rfl
 f137 := Tryz.func179.trans (congrArg some (by kernel_rfl))
 f217 := Tryz.func208.trans (congrArg some (by kernel_rfl))
 f266 := Tryz.func229.trans (congrArg some (by kernel_rfl))
 t3 := Tryz.underlying3
 a3 := Tryz.isAgg3
 z3 := Tryz.sizeOf3
 v3 := Tryz.zeroValue3
 t5 := Tryz.underlying5
 a5 := Tryz.isAgg5
 z5 := Tryz.sizeOf5
 v5 := Tryz.zeroValue5
 t9 := Tryz.underlying9
 a9 := Tryz.isAgg9
 z9 := Tryz.sizeOf9
 v9 := Tryz.zeroValue9 }
end Go.Proofs
namespace Go.Proofs.YtckcgijklnloiaaGreat.K
open Go.RowKit Go.Shelf
noncomputable section
def ixB (s : ByteArray) (c : Int) : Int := Lib.indexByte s.data.toList c.toNat.toUInt8
def QEJ : Ent := spec (.pr .str (.pr (.int .u8) .nil)) (fun x => true) (fun x => (.t tI (ixB x.1 x.2.1)))
theorem QV7 : Qai Tryz.prog 179 := .inr ⟨by decide, _, Tryz.func179, by kernel_rfl, by kernel_rfl⟩
theorem QSp : Meets Tryz.prog 179 (strip QEJ) := Qyg fun x hok X w σ vs hfin hc => by
 obtain ⟨s, c, u⟩ := x
 simp only [Ty.canon, V.ds, V.d, Ty.d, Cs, C] at hc
 obtain ⟨v1, r1, rfl, ⟨rfl, _⟩, v2, r2, rfl, ⟨rfl, _⟩, rfl⟩ := hc
 refine (Any.strings_IndexByte Tryz.lays137 s c w).mono ?_
 rintro e w' ⟨rfl, rfl⟩
 refine ⟨_, rfl, ?_, Below.refl _ _⟩
 simp only [V.d, Ty.d, C]
 exact ⟨rfl, rfl⟩
def Qii (c : Int) (o : ByteArray) : Bool := (ige c 97 && ile c 122) || ((ige c 65 && ile c 90) || ((ige c 48 && ile c 57) || ige (ixB o c) 0))
noncomputable def QwO : TC := (.sq (.reg (rT Tryz.f154 0)) (.sq (.reg (rT Tryz.f154 1)) .rt))
def QGe : List (RV × Option Ty) := [((.t 4), some .bool)]
def QAD : G := ⟨TYs, [], 33, EL [(179, QEJ)], keeps, (fun _ _ => none), IL [], RL []⟩
def QsI (p0 : Int) (p1 : ByteArray) : Option (V × List VO) := br (ige p0 48) (br (ile p0 57) (some (.t .bool true, [])) (some (.t .bool (ige (ixB p1 p0) 0), []))) (some (.t .bool (ige (ixB p1 p0) 0), []))
def QsJ (p0 : Int) (p1 : ByteArray) : Option (V × List VO) := br (ige p0 65) (br (ile p0 90) (some (.t .bool true, [])) (QsI p0 p1)) (QsI p0 p1)
def QHw (p0 : Int) (p1 : ByteArray) : Option (V × List VO) := br (ige p0 97) (br (ile p0 122) (some (.t .bool true, [])) (QsJ p0 p1)) (QsJ p0 p1)
theorem e_f154 (p0 : Int) (p1 : ByteArray) : runF QAD QwO QGe false [.t (.int .u8) p0, .t .str p1] [] = QHw p0 p1 := by kernel_rfl
theorem QWi : Qai Tryz.prog 154 := .inr ⟨by decide, _, Tryz.func154, by kernel_rfl, by kernel_rfl⟩
theorem QVj : GOk Tryz.prog QAD := Qal _ (gA (gC QV7 QSp gN))
theorem QTM : QwO.lok QAD := by repeat (first | exact trivial | refine ⟨?_, ?_⟩)
theorem brO {a b r : Bool} {X : Option (V × List VO)} (h : X = some (.t .bool r, [])) : br a (br b (some (.t .bool true, [])) X) X = some (.t .bool ((a && b) || r), []) := by
 subst h
 cases a <;> cases b <;> rfl
theorem s_f154 (c : Int) (o : ByteArray) : QHw c o = some (.t .bool (Qii c o), []) := by
 simp only [QHw, QsJ, QsI]
 exact brO (brO (brO rfl))
def QEU : Ent := spec (.pr (.int .u8) (.pr .str .nil)) (fun x => true) (fun x => (.t .bool (Qii x.1 x.2.1)))
theorem QSA : Meets Tryz.prog 154 (strip QEU) := Qag (R := runF QAD QwO QGe false) (mG Tryz.func154 (by kernel_rfl) Tryz.ntmps154 (by kernel_rfl) QVj QTM) fun x _ => (e_f154 x.1 x.2.1).trans (s_f154 x.1 x.2.1)
def wordC (c : Int) : Bool := !(ilt c 97 || igt c 122) || (!(ilt c 65 || igt c 90) || (!(ilt c 48 || igt c 57) || (ieq c 45 || (ieq c 95 || ieq c 46))))
def wordF (s : ByteArray) : Bool := (QaI s).all wordC && decide (1 ≤ s.size ∧ s.size ≤ 32)
set_option maxRecDepth 100000 in
theorem QUg : ((List.range 256).all fun n => Qii (n : Int) (ByteArray.mk #[45, 95, 46]) == wordC (n : Int)) = true := by kernel_rfl
theorem QM7 {s : ByteArray} {c : Int} (h : c ∈ QaI s) : Qii c (ByteArray.mk #[45, 95, 46]) = wordC c := by
 obtain ⟨b, _, rfl⟩ := List.mem_map.1 h
 have := List.all_eq_true.1 QUg b.toNat (by rw [List.mem_range]; exact b.toNat_lt)
 exact eq_of_beq this
def Qg4 : Fg := ⟨[(0, some .str), (6, some (.sl (.int .u8))), (7, some tI), (8, some tI)], []⟩
noncomputable def QiT : TC := (.sq (.reg (rT Tryz.f114 2)) (.sq (.cd (.t 9) .sk (.fg ⟨[(0, some .str)], []⟩ (.ex 0))) (.sq (.bk 1 (.sq (.reg (rT Tryz.f114 3)) (.sq (.reg (rT Tryz.f114 4)) (.cd (.t 14) (.sq (.reg (rT Tryz.f114 5)) (.fg ⟨[(2, some .bool)], []⟩ .rt)) .sk)))) (.reg (rT Tryz.f114 6)))))
noncomputable def Qxc : TC := (.sq (.reg (rT Tryz.f114 0)) (.sq (.sq (.reg (rT Tryz.f114 1)) (.bk 0 (.lp 0 Qg4 QiT))) (.sq (.reg (rT Tryz.f114 7)) .rt)))
def QGC : List (RV × Option Ty) := [((.t 2), some .bool)]
abbrev QoS : Sh := ⟨[(0, .ty .str), (6, .ty (.sl (.int .u8))), (7, .ty tI), (8, .ty tI)], []⟩
def Qn2 (x0 : ByteArray) (x6 : List Int) (x7 x8 : Int) : VS := QoS.st (x0, x6, x7, x8, ()) ()
abbrev Qsl : Sh := ⟨[(2, .ty .bool)], []⟩
def Qdi (x2 : Bool) : VS := Qsl.st (x2, ()) ()
abbrev QuA : Sh := ⟨[(0, .ty .str)], []⟩
def Qef (x0 : ByteArray) : VS := QuA.st (x0, ()) ()
def QPt : VS → Option (Bool × List (Bool × Exit × VS)) := mkL QoS (fun x y => (rngG x.2.1 x.2.2.1 x.2.2.2.1 && samB x.2.1 (QaI x.1))) (fun x y => [((!((x.2.1.drop x.2.2.2.1.toNat).all wordC)), .ret, Qdi (false)), (true, .exit 0, Qef (x.1))])
def QlN : G := ⟨TYs, [], 24, EL [(154, QEU), (30120144, Qa8)], keeps, (Ls [QPt]), IL [], RL []⟩
def QBM (x0 : ByteArray) (x6 : List Int) (x7 x8 : Int) : Option (Exit × VS) := br (ilt x8 x7) (br (cIx x6 x8) (br (!(Qii (lgt (.int .u8) x6 (Int.toNat x8)) (ByteArray.mk #[45, 95, 46]))) (some (.ret, Qdi false)) (some (.normal, Qn2 x0 x6 x7 (iadd .i64 x8 1)))) none) (some (.exit 0, Qef x0))
noncomputable def QjB (x0 : ByteArray) (x6 : List Int) (x7 x8 : Int) : Option (Exit × VS) := loopF (Qak QlN Qg4 QiT) (Qn2 x0 x6 x7 x8)
noncomputable def QmW (x0 : ByteArray) (x6 : List Int) (x7 x8 : Int) : Option (Exit × VS) := br (ilt x8 x7) (br (cIx x6 x8) (br (!(Qii (lgt (.int .u8) x6 (Int.toNat x8)) (ByteArray.mk #[45, 95, 46]))) (some (.ret, Qdi false)) (QjB x0 x6 x7 (iadd .i64 x8 1))) none) (some (.exit 0, Qef x0))
def Qj2 (x0 : ByteArray) (x6 : List Int) (x7 x8 : Int) : Option (Exit × VS) := br (!((x6.drop x8.toNat).all wordC)) (some (.ret, Qdi (false))) <| some (.exit 0, Qef (x0))
theorem QLq (x0 : ByteArray) (x6 : List Int) (x7 x8 : Int) : Qak QlN Qg4 QiT (Qn2 x0 x6 x7 x8) = QBM x0 x6 x7 x8 := by kernel_rfl
theorem Qvw (x0 : ByteArray) (x6 : List Int) (x7 x8 : Int) : QjB x0 x6 x7 x8 = QmW x0 x6 x7 x8 := (Qao _ _).trans (by
 rw [QLq]
 simp only [QBM, QmW, Qay, nxt_n, nxt_r, nxt_e, nxt_0]
 rfl)
def QHN (p0 : ByteArray) : Option (V × List VO) := br (Qbh p0) (br (rngG (QaI p0) (llen (QaI p0)) (0 : Int) && samB (QaI p0) (QaI p0)) (br (!(((QaI p0).drop (0 : Int).toNat).all wordC)) (some (.t .bool (false), [])) (br (ige (slen (p0)) 1) (some (.t .bool (ile (slen (p0)) 32), [])) (some (.t .bool false, [])))) none) none
theorem e_f114 (p0 : ByteArray) : runF QlN Qxc QGC false [.t .str p0] [] = QHN p0 := by kernel_rfl
theorem QWA : Qai Tryz.prog 114 := .inr ⟨by decide, _, Tryz.func114, by kernel_rfl, by kernel_rfl⟩
theorem QVH : GOk Tryz.prog QlN := Qal _ (gA (gC QWi QSA (gC Qbr Qbq gN)))
theorem QNC (x0 : ByteArray) (x6 : List Int) (x7 x8 : Int) (h : (rngG x6 x7 x8 && samB x6 (QaI x0)) = true) : QjB x0 x6 x7 x8 = Qj2 x0 x6 x7 x8 := by
 simp only [Bool.and_eq_true] at h
 obtain ⟨h, hs⟩ := h
 have hs := QxL hs
 obtain ⟨rfl, h3, k, rfl, hk⟩ := QGL h
 clear h
 refine Qat x6 (fun k => QjB x0 x6 (x6.length : Int) (k : Int) = Qj2 x0 x6 (x6.length : Int) (k : Int)) ?_ ?_ k hk
 ·rw [Qvw]
  simp [QmW, Qj2, Qar, Qaf]
 ·intro k hk ih
  rw [Qvw]
  have hw : Qii x6[k] (ByteArray.mk #[45, 95, 46]) = wordC x6[k] := QM7 (s := x0) (by rw [← hs]; exact List.getElem_mem hk)
  simp only [QmW, Qar, Qav, hk, decide_true, Qac, Int.toNat_natCast, add1G (show k < 9223372036854775807 by omega), QaA (y := .int .u8) hk, ih, hw]
  simp only [Qj2, Int.toNat_natCast, List.drop_eq_getElem_cons hk, List.all_cons]
  cases wordC x6[k] <;> rfl
theorem QI5 : ∀ S l p, QlN.L 0 (fgt Qg4 S) = some (true, l) → pickA l = some p → loopF (Qak QlN Qg4 QiT) S = some p :=
 QaD (s := QoS) ⟨by decide, by decide⟩ (by kernel_rfl) fun x y hok p hp => by
 simp only [Qaq, Qan] at hp
 exact (QNC x.1 x.2.1 x.2.2.1 x.2.2.2.1 (by simpa using hok)).trans hp
theorem QUa : Qxc.lok QlN := by
 repeat (first | exact trivial | exact QI5 | refine ⟨?_, ?_⟩)
theorem s_f114 (s : ByteArray) (h : nameG s = true) : QHN s = some (.t .bool (wordF s), []) := by
 simp only [nameG, decide_eq_true_eq] at h
 have hl := Qdo s
 simp only [QHN, show Qbh s = true from decide_eq_true (by omega), QGM (show (QaI s).length ≤ 9223372036854775807 by omega), QoW, Bool.and_self, Qac, Int.toNat_zero, List.drop_zero, wordF]
 cases (QaI s).all wordC with
 | false => rfl
 | true =>
  simp only [Bool.not_true, Qaf, Bool.true_and]
  refine QaB (fun g => ?_) (fun g => ?_)
  ·simp only [ige, slen, decide_eq_true_eq] at g
   apply Qt0
   rw [Bool.eq_iff_iff]
   simp only [ile, slen, decide_eq_true_eq]
   omega
  ·simp only [ige, slen, decide_eq_false_iff_not] at g
   apply Qt0
   rw [eq_comm, decide_eq_false_iff_not]
   omega
def QFd : Ent := spec (.pr .str .nil) (fun x => (nameG x.1)) (fun x => (.t .bool (wordF x.1)))
theorem QSS : Meets Tryz.prog 114 (strip QFd) := Qag (R := runF QlN Qxc QGC false) (mG Tryz.func114 (by kernel_rfl) Tryz.ntmps114 (by kernel_rfl) QVH QUa) fun x hok => (e_f114 x.1).trans (s_f114 x.1 hok)
def Qbp {α : Type} (l : List α) : Bool := decide (l.length ≤ 100000)
def ascUp (l : List Int) (k : Nat) : Bool := (List.range' k (l.length - k)).all fun j => decide (j = 0) || ilt (l.getD (j - 1) 0) (l.getD j 0)
def ascF (l : List Int) : Bool := ascUp l 0
theorem QLJ (l : List Int) : ascUp l l.length = true := by
 unfold ascUp
 rw [Nat.sub_self]
 rfl
theorem QC4 {l : List Int} {k : Nat} (hk : k < l.length) : ascUp l k = ((decide (k = 0) || ilt (l.getD (k - 1) 0) l[k]) && ascUp l (k + 1)) := by
 have : l.length - k = (l.length - (k + 1)) + 1 := by omega
 unfold ascUp
 rw [this, List.range'_succ, List.all_cons]
 simp only [List.getD_eq_getElem?_getD, List.getElem?_eq_getElem hk, Option.getD_some]
theorem asc_br {β : Type} {l : List Int} {k : Nat} (hk : k < l.length) (hb : k < 4611686018427387904) (bad ok : Option β) :
  br (igt (k : Int) 0) (br (cIx l (isub .i64 (k : Int) 1)) (br (ige (lgt tI l (Int.toNat (isub .i64 (k : Int) 1))) l[k]) bad ok) none) ok = br (decide (k = 0) || ilt (l.getD (k - 1) 0) l[k]) ok bad := by
 by_cases h0 : k = 0
 ·subst h0
  rw [show igt ((0 : Nat) : Int) 0 = false from rfl, Qaf, decide_eq_true rfl, Bool.true_or, Qac]
 ·have e : isub .i64 (k : Int) 1 = ((k - 1 : Nat) : Int) := by rw [QbU (by omega)]; omega
  rw [show igt (k : Int) 0 = true from decide_eq_true (by omega), Qac, e, Int.toNat_natCast, Qav, decide_eq_true (show k - 1 < l.length by omega), Qac, decide_eq_false h0, Bool.false_or, Qtf]
  show br (!ilt (l.getD (k - 1) 0) l[k]) bad ok = _
  cases ilt (l.getD (k - 1) 0) l[k] <;> rfl
noncomputable def QKB : List DO := dT Tryz.f116 4
def Qg2 : Fg := ⟨[(0, some (.sl tI)), (5, some tI), (6, some tI)], []⟩
noncomputable def QiR : TC := (.sq (.reg (rT Tryz.f116 2)) (.sq (.cd (.t 7) .sk (.fg ⟨[], []⟩ (.ex 0))) (.sq (.bk 1 (.sq (.reg (rT Tryz.f116 3)) (.sq (.dr QKB [(0, []), (1, []), (2, []), (3, []), (4, []), (5, []), (6, []), (7, []), (8, []), (9, []), (10, []), (11, []), (12, []), (13, [])] (.of [0, 1, 2, 3, 4, 5, 6, 7, 8, 9, 10, 11, 12, 13])) (.cd (.t 22) (.sq (.reg (rT Tryz.f116 5)) (.fg ⟨[(2, some .bool)], []⟩ .rt)) .sk)))) (.reg (rT Tryz.f116 6)))))
noncomputable def Qxa : TC := (.sq (.reg (rT Tryz.f116 0)) (.sq (.sq (.reg (rT Tryz.f116 1)) (.bk 0 (.lp 0 Qg2 QiR))) (.sq (.reg (rT Tryz.f116 7)) .rt)))
def QGA : List (RV × Option Ty) := [((.t 2), some .bool)]
abbrev QoQ : Sh := ⟨[(0, .ty (.sl tI)), (5, .ty tI), (6, .ty tI)], []⟩
def Qi0 (x0 : List Int) (x5 x6 : Int) : VS := QoQ.st (x0, x5, x6, ()) ()
abbrev Qsj : Sh := ⟨[(2, .ty .bool)], []⟩
def Qdh (x2 : Bool) : VS := Qsj.st (x2, ()) ()
abbrev Quy : Sh := ⟨[], []⟩
def Qed  : VS := Quy.st () ()
def QPr : VS → Option (Bool × List (Bool × Exit × VS)) := mkL QoQ (fun x y => (rngOk x.1 x.2.1 x.2.2.1)) (fun x y => [((!ascUp x.1 x.2.2.1.toNat), .ret, Qdh (false)), (true, .exit 0, Qed)])
def QlL : G := ⟨TYs, [], 24, EL [], keeps, (Ls [QPr]), IL [], RL []⟩
def QBK (x0 : List Int) (x5 x6 : Int) : Option (Exit × VS) := br (ilt x6 x5) (br (igt x6 0) (br (cIx x0 (isub .i64 x6 1)) (br (cIx x0 x6) (br (ige (lgt tI x0 (Int.toNat (isub .i64 x6 1))) (lgt tI x0 (Int.toNat x6))) (some (.ret, Qdh false)) (some (.normal, Qi0 x0 x5 (iadd .i64 x6 1)))) none) none) (some (.normal, Qi0 x0 x5 (iadd .i64 x6 1)))) (some (.exit 0, Qed))
noncomputable def Qgy (x0 : List Int) (x5 x6 : Int) : Option (Exit × VS) := loopF (Qak QlL Qg2 QiR) (Qi0 x0 x5 x6)
noncomputable def QmU (x0 : List Int) (x5 x6 : Int) : Option (Exit × VS) := br (ilt x6 x5) (br (igt x6 0) (br (cIx x0 (isub .i64 x6 1)) (br (cIx x0 x6) (br (ige (lgt tI x0 (Int.toNat (isub .i64 x6 1))) (lgt tI x0 (Int.toNat x6))) (some (.ret, Qdh false)) (Qgy x0 x5 (iadd .i64 x6 1))) none) none) (Qgy x0 x5 (iadd .i64 x6 1))) (some (.exit 0, Qed))
def Qj0 (x0 : List Int) (x5 x6 : Int) : Option (Exit × VS) := br (!ascUp x0 x6.toNat) (some (.ret, Qdh (false))) <| some (.exit 0, Qed)
theorem QLo (x0 : List Int) (x5 x6 : Int) : Qak QlL Qg2 QiR (Qi0 x0 x5 x6) = QBK x0 x5 x6 := by kernel_rfl
theorem Qvu (x0 : List Int) (x5 x6 : Int) : Qgy x0 x5 x6 = QmU x0 x5 x6 := (Qao _ _).trans (by
 rw [QLo]
 simp only [QBK, QmU, Qay, nxt_n, nxt_r, nxt_e, nxt_0]
 rfl)
def QHL (p0 : List Int) : Option (V × List VO) := br (rngOk p0 (llen p0) (0 : Int)) (br (!ascUp p0 (0 : Int).toNat) (some (.t .bool (false), [])) (some (.t .bool true, []))) none
theorem e_f116 (p0 : List Int) : runF QlL Qxa QGA false [.t (.sl tI) p0] [] = QHL p0 := by kernel_rfl
theorem QWy : Qai Tryz.prog 116 := .inr ⟨by decide, _, Tryz.func116, by kernel_rfl, by kernel_rfl⟩
theorem QVF : GOk Tryz.prog QlL := Qal _ (fun p hp => by cases hp)
theorem QNA (x0 : List Int) (x5 x6 : Int) (h : (rngOk x0 x5 x6) = true) : Qgy x0 x5 x6 = Qj0 x0 x5 x6 := by
 obtain ⟨rfl, h3, k, rfl, hk⟩ := rng_k h
 clear h
 refine Qat x0 (fun k => Qgy x0 (x0.length : Int) (k : Int) = Qj0 x0 (x0.length : Int) (k : Int)) ?_ ?_ k hk
 ·rw [Qvu]
  simp only [QmU, Qj0, Qar, Nat.lt_irrefl, decide_false, Qaf, Int.toNat_natCast, QLJ, Bool.not_true]
 ·intro k hk ih
  rw [Qvu]
  simp only [QmU, Qar, Qav, hk, decide_true, Qac, Int.toNat_natCast, add1 (show k < 4611686018427387904 by omega), QaA (y := tI) hk, ih, asc_br hk (show k < 4611686018427387904 by omega)]
  simp only [Qj0, Int.toNat_natCast, QC4 hk]
  cases decide (k = 0) || ilt (x0.getD (k - 1) 0) x0[k] <;> rfl
theorem QI3 : ∀ S l p, QlL.L 0 (fgt Qg2 S) = some (true, l) → pickA l = some p → loopF (Qak QlL Qg2 QiR) S = some p :=
 QaD (s := QoQ) ⟨by decide, by decide⟩ (by kernel_rfl) fun x y hok p hp => by
 simp only [Qaq, Qan] at hp
 exact (QNA x.1 x.2.1 x.2.2.1 (by simpa using hok)).trans hp
theorem QT8 : Qxa.lok QlL := by
 repeat (first | exact trivial | exact QI3 | refine ⟨?_, ?_⟩)
theorem s_f116 (l : List Int) (h : Qbp l = true) : QHL l = some (.t .bool (ascF l), []) := by
 simp only [Qbp, decide_eq_true_eq] at h
 simp only [QHL, rng_0 h, Qac, Int.toNat_zero]
 unfold ascF
 cases ascUp l 0 <;> rfl
def QFb : Ent := spec (.pr (.sl tI) .nil) (fun x => (Qbp x.1)) (fun x => (.t .bool (ascF x.1)))
theorem QSQ : Meets Tryz.prog 116 (strip QFb) := Qag (R := runF QlL Qxa QGA false) (mG Tryz.func116 (by kernel_rfl) Tryz.ntmps116 (by kernel_rfl) QVF QT8) fun x hok => (e_f116 x.1).trans (s_f116 x.1 hok)
def hashF (a : Int) : Bool := ieq (kindF a) 1
noncomputable def Qw7 : TC := (.sq (.reg (rT Tryz.f122 0)) (.sq (.reg (rT Tryz.f122 1)) .rt))
def QGx : List (RV × Option Ty) := [((.t 2), some .bool)]
def QAP : G := ⟨TYs, [], 6, EL [(155, QrM)], keeps, (fun _ _ => none), IL [], RL []⟩
def QQX (p0 : Int) : Option (V × List VO) := some (.t .bool (ieq (kindF p0) 1), [])
theorem e_f122 (p0 : Int) : runF QAP Qw7 QGx false [.t tI p0] [] = QQX p0 := by kernel_rfl
theorem QWw : Qai Tryz.prog 122 := .inr ⟨by decide, _, Tryz.func122, by kernel_rfl, by kernel_rfl⟩
theorem QVC : GOk Tryz.prog QAP := Qal _ (gA (gC QyU Qx4 gN))
theorem QT5 : Qw7.lok QAP := by repeat (first | exact trivial | refine ⟨?_, ?_⟩)
theorem s_f122 (a : Int) : QQX a = some (.t .bool (hashF a), []) := rfl
def QE9 : Ent := spec (.pr tI .nil) (fun x => true) (fun x => (.t .bool (hashF x.1)))
theorem QSO : Meets Tryz.prog 122 (strip QE9) := Qag (R := runF QAP Qw7 QGx false) (mG Tryz.func122 (by kernel_rfl) Tryz.ntmps122 (by kernel_rfl) QVC QT5) fun x _ => (e_f122 x.1).trans (s_f122 x.1)
def QfN (l : List Int) (k : Nat) : Bool := (List.range' k (l.length - k)).all fun j => ieq (QaP (l.getD j 0)).2 0 && !hasF (l.take j) (l.getD j 0)
def suitF (l : List Int) : Bool := QfN l 0
theorem QBX (l : List Int) : QfN l l.length = true := by
 unfold QfN
 rw [Nat.sub_self]
 rfl
theorem Qxg {l : List Int} {k : Nat} (hk : k < l.length) : QfN l k = ((ieq (QaP l[k]).2 0 && !hasF (l.take k) l[k]) && QfN l (k + 1)) := by
 have : l.length - k = (l.length - (k + 1)) + 1 := by omega
 unfold QfN
 rw [this, List.range'_succ, List.all_cons]
 simp only [List.getD_eq_getElem?_getD, List.getElem?_eq_getElem hk, Option.getD_some]
theorem QML (l : List Int) (k : Nat) : lsl l 0 (k : Int) = l.take k := by
 simp [lsl]
theorem QOE {l : List Int} {k : Nat} (hk : k ≤ l.length) : cSl l 0 (k : Int) ((List.length l : Nat) : Int) = true := by
 simp only [cSl, decide_eq_true_eq]
 omega
def Qg3 : Fg := ⟨[(0, some (.sl tI)), (7, some (.sl tI)), (8, some tI), (9, some tI)], []⟩
noncomputable def QiS : TC := (.sq (.reg (rT Tryz.f115 2)) (.sq (.cd (.t 10) .sk (.fg ⟨[], []⟩ (.ex 0))) (.sq (.bk 1 (.sq (.reg (rT Tryz.f115 3)) (.sq (.reg (rT Tryz.f115 4)) (.sq (.reg (rT Tryz.f115 5)) (.cd (.t 27) (.sq (.reg (rT Tryz.f115 6)) (.fg ⟨[(2, some .bool)], []⟩ .rt)) .sk))))) (.reg (rT Tryz.f115 7)))))
noncomputable def Qxb : TC := (.sq (.reg (rT Tryz.f115 0)) (.sq (.sq (.reg (rT Tryz.f115 1)) (.bk 0 (.lp 0 Qg3 QiS))) (.sq (.reg (rT Tryz.f115 8)) .rt)))
def QGB : List (RV × Option Ty) := [((.t 2), some .bool)]
abbrev QoR : Sh := ⟨[(0, .ty (.sl tI)), (7, .ty (.sl tI)), (8, .ty tI), (9, .ty tI)], []⟩
def Qn1 (x0 x7 : List Int) (x8 x9 : Int) : VS := QoR.st (x0, x7, x8, x9, ()) ()
abbrev Qsk : Sh := ⟨[(2, .ty .bool)], []⟩
def QbK (x2 : Bool) : VS := Qsk.st (x2, ()) ()
abbrev Quz : Sh := ⟨[], []⟩
def Qee  : VS := Quz.st () ()
def QPs : VS → Option (Bool × List (Bool × Exit × VS)) := mkL QoR (fun x y => (rngOk x.2.1 x.2.2.1 x.2.2.2.1 && samB x.1 x.2.1)) (fun x y => [((!QfN x.2.1 x.2.2.2.1.toNat), .ret, QbK (false)), (true, .exit 0, Qee)])
def QlM : G := ⟨TYs, [], 29, EL [(85, QtT), (101, QkI)], keeps, (Ls [QPs]), IL [], RL []⟩
def QBL (x0 x7 : List Int) (x8 x9 : Int) : Option (Exit × VS) :=
 let a1 := lgt tI x7 (Int.toNat x9)
 br (ilt x9 x8) (br (cIx x7 x9) (br (ine ((QaP a1).2) 0) (some (.ret, QbK false)) (br (cSl x0 0 x9 ((List.length x0 : Nat) : Int)) (br (QbR (lsl x0 0 x9) a1) (br (hasF (lsl x0 0 x9) a1) (some (.ret, QbK false)) (some (.normal, Qn1 x0 x7 x8 (iadd .i64 x9 1)))) none) none)) none) (some (.exit 0, Qee))
noncomputable def QjA (x0 x7 : List Int) (x8 x9 : Int) : Option (Exit × VS) := loopF (Qak QlM Qg3 QiS) (Qn1 x0 x7 x8 x9)
noncomputable def QmV (x0 x7 : List Int) (x8 x9 : Int) : Option (Exit × VS) :=
 let a1 := lgt tI x7 (Int.toNat x9)
 br (ilt x9 x8) (br (cIx x7 x9) (br (ine ((QaP a1).2) 0) (some (.ret, QbK false)) (br (cSl x0 0 x9 ((List.length x0 : Nat) : Int)) (br (QbR (lsl x0 0 x9) a1) (br (hasF (lsl x0 0 x9) a1) (some (.ret, QbK false)) (QjA x0 x7 x8 (iadd .i64 x9 1))) none) none)) none) (some (.exit 0, Qee))
def Qj1 (x0 x7 : List Int) (x8 x9 : Int) : Option (Exit × VS) := br (!QfN x7 x9.toNat) (some (.ret, QbK (false))) <| some (.exit 0, Qee)
theorem QLp (x0 x7 : List Int) (x8 x9 : Int) : Qak QlM Qg3 QiS (Qn1 x0 x7 x8 x9) = QBL x0 x7 x8 x9 := by kernel_rfl
theorem Qvv (x0 x7 : List Int) (x8 x9 : Int) : QjA x0 x7 x8 x9 = QmV x0 x7 x8 x9 := (Qao _ _).trans (by
 rw [QLp]
 simp only [QBL, QmV, Qay, nxt_n, nxt_r, nxt_e, nxt_0]
 rfl)
def QHM (p0 : List Int) : Option (V × List VO) := br (rngOk p0 (llen p0) (0 : Int) && samB p0 p0) (br (!QfN p0 (0 : Int).toNat) (some (.t .bool (false), [])) (some (.t .bool true, []))) none
theorem e_f115 (p0 : List Int) : runF QlM Qxb QGB false [.t (.sl tI) p0] [] = QHM p0 := by kernel_rfl
theorem QWz : Qai Tryz.prog 115 := .inr ⟨by decide, _, Tryz.func115, by kernel_rfl, by kernel_rfl⟩
theorem QVG : GOk Tryz.prog QlM := Qal _ (gA (gC QA4 QzO (gC Qqm Qpu gN)))
theorem QNB (x0 x7 : List Int) (x8 x9 : Int) (h : (rngOk x7 x8 x9 && samB x0 x7) = true) : QjA x0 x7 x8 x9 = Qj1 x0 x7 x8 x9 := by
 simp only [Bool.and_eq_true] at h
 obtain ⟨h0, hs⟩ := h
 have hs := QxL hs
 subst hs
 obtain ⟨rfl, h3, k, rfl, hk⟩ := rng_k h0
 clear h0
 refine Qat x0 (fun k => QjA x0 x0 (x0.length : Int) (k : Int) = Qj1 x0 x0 (x0.length : Int) (k : Int)) ?_ ?_ k hk
 ·rw [Qvv]
  simp only [QmV, Qj1, Qar, Nat.lt_irrefl, decide_false, Qaf, Int.toNat_natCast, QBX, Bool.not_true]
 ·intro k hk ih
  rw [Qvv]
  have hi : QbR (x0.take k) x0[k] = true := decide_eq_true (by rw [List.length_take]; omega)
  simp only [QmV, Qar, Qav, hk, decide_true, Qac, Int.toNat_natCast, add1 (show k < 4611686018427387904 by omega), QaA (y := tI) hk, ih, QML, QOE (show k ≤ x0.length by omega), hi, QyA]
  simp only [Qj1, Int.toNat_natCast, Qxg hk]
  cases ieq (QaP x0[k]).2 0 <;> cases hasF (x0.take k) x0[k] <;> rfl
theorem QI4 : ∀ S l p, QlM.L 0 (fgt Qg3 S) = some (true, l) → pickA l = some p → loopF (Qak QlM Qg3 QiS) S = some p :=
 QaD (s := QoR) ⟨by decide, by decide⟩ (by kernel_rfl) fun x y hok p hp => by
 simp only [Qaq, Qan] at hp
 exact (QNB x.1 x.2.1 x.2.2.1 x.2.2.2.1 (by simpa using hok)).trans hp
theorem QT9 : Qxb.lok QlM := by
 repeat (first | exact trivial | exact QI4 | refine ⟨?_, ?_⟩)
theorem s_f115 (l : List Int) (h : Qbp l = true) : QHM l = some (.t .bool (suitF l), []) := by
 simp only [Qbp, decide_eq_true_eq] at h
 simp only [QHM, rng_0 h, QoW, Bool.and_self, Qac, Int.toNat_zero]
 unfold suitF
 cases QfN l 0 <;> rfl
def QFc : Ent := spec (.pr (.sl tI) .nil) (fun x => (Qbp x.1)) (fun x => (.t .bool (suitF x.1)))
theorem QSR : Meets Tryz.prog 115 (strip QFc) := Qag (R := runF QlM Qxb QGB false) (mG Tryz.func115 (by kernel_rfl) Tryz.ntmps115 (by kernel_rfl) QVG QT9) fun x hok => (e_f115 x.1).trans (s_f115 x.1 hok)
def nKey (n : Int) : Bool := !keyI n
noncomputable def Qh2 : TC := (.sq (.reg (rT Tryz.f119 0)) (.sq (.reg (rT Tryz.f119 1)) .rt))
def Qo3 : List (RV × Option Ty) := [((.t 3), some .bool)]
def QhC : G := ⟨TYs, [], 8, EL [(121, QrP)], keeps, (fun _ _ => none), IL [], RL []⟩
def QkT (p0 : Int) : Option (V × List VO) := some (.t .bool (!(keyI p0)), [.box (.c (.func (.func 121) #[] #[]))])
theorem QCO (p0 : Int) : runF QhC Qh2 Qo3 false [.t tI p0, .ptr 50000 0] [.box (.c (.func (.func 121) ⟨[]⟩ ⟨[]⟩))] = QkT p0 := by kernel_rfl
theorem Qy0 : Qai Tryz.prog 119 := .inr ⟨by decide, _, Tryz.func119, by kernel_rfl, by kernel_rfl⟩
theorem QyI : GOk Tryz.prog QhC := Qal _ (gA (gC QyY Qx8 gN))
theorem Qys : Qh2.lok QhC := by repeat (first | exact trivial | refine ⟨?_, ?_⟩)
theorem QCa (n : Int) : QkT n = some (.t .bool (nKey n), [.box (.c (.func (.func 121) #[] #[]))]) := by
 simp only [QkT]
 rfl
def Qn8 : Ent := specB [.ty tI, .ptr 50000 0] [.bc 121] (fun x y => true) (fun x y => (.t .bool (nKey x.1))) (fun x y => [.box (.c (.func (.func 121) #[] #[]))])
theorem Qya : Meets Tryz.prog 119 (strip Qn8) := QcC (QaU (R := runF QhC Qh2 Qo3 false) (mG Tryz.func119 (by kernel_rfl) Tryz.ntmps119 (by kernel_rfl) QyI Qys) fun x y _ => (QCO x.1).trans (QCa x.1))
def ixKey (l : List Int) : Int := match fstG nKey l with | some k => (k : Int) | none => -1
def Qbl : Fg := ⟨[(0, some (.sl tI)), (1, none), (7, some tI), (8, some tI)], [(50000, none)]⟩
noncomputable def QbE : TC := (.sq (.reg (rT Tryz.f128 2)) (.sq (.cd (.t 9) .sk (.fg ⟨[], [(50000, none)]⟩ (.ex 0))) (.sq (.bk 1 (.sq (.reg (rT Tryz.f128 3)) (.sq (.reg (rT Tryz.f128 4)) (.cd (.t 16) (.sq (.reg (rT Tryz.f128 5)) (.fg ⟨[(4, some tI)], [(50000, none)]⟩ .rt)) .sk)))) (.reg (rT Tryz.f128 6)))))
noncomputable def Qdr : TC := (.sq (.reg (rT Tryz.f128 0)) (.sq (.sq (.reg (rT Tryz.f128 1)) (.bk 0 (.lp 0 Qbl QbE))) (.sq (.reg (rT Tryz.f128 7)) .rt)))
def Qgk : List (RV × Option Ty) := [((.t 4), some tI)]
abbrev Qcx : Sh := ⟨[(0, .ty (.sl tI)), (1, .fn 119 [(50000, 0)]), (7, .ty tI), (8, .ty tI)], [(50000, .bc 121)]⟩
def Qcv (x0 : List Int) (x7 x8 : Int) : VS := Qcx.st (x0, (), x7, x8, ()) ((), ())
abbrev Qgf : Sh := ⟨[(4, .ty tI)], [(50000, .bc 121)]⟩
def Qbd (x4 : Int) : VS := Qgf.st (x4, ()) ((), ())
abbrev QhN : Sh := ⟨[], [(50000, .bc 121)]⟩
def Qbj  : VS := QhN.st () ((), ())
def Ql6 : VS → Option (Bool × List (Bool × Exit × VS)) := mkL Qcx (fun x y => (rngOk x.1 x.2.2.1 x.2.2.2.1)) (fun x y => [(((fstG nKey (x.1.drop x.2.2.2.1.toNat)).isSome), .ret, Qbd (x.2.2.2.1 + ((fstG nKey (x.1.drop x.2.2.2.1.toNat)).getD 0 : Nat))), (true, .exit 0, Qbj)])
def Qa6 : G := ⟨TYs, [], 19, EL [(119, Qn8)], keeps, (Ls [Ql6]), IL [], RL []⟩
def QfX (x0 : List Int) (x7 x8 : Int) : Option (Exit × VS) := br (ilt x8 x7) (br (cIx x0 x8) (br (nKey (lgt tI x0 (Int.toNat x8))) (some (.ret, Qbd x8)) (some (.normal, Qcv x0 x7 (iadd .i64 x8 1)))) none) (some (.exit 0, Qbj))
noncomputable def QbN (x0 : List Int) (x7 x8 : Int) : Option (Exit × VS) := loopF (Qak Qa6 Qbl QbE) (Qcv x0 x7 x8)
noncomputable def Qb3 (x0 : List Int) (x7 x8 : Int) : Option (Exit × VS) := br (ilt x8 x7) (br (cIx x0 x8) (br (nKey (lgt tI x0 (Int.toNat x8))) (some (.ret, Qbd x8)) (QbN x0 x7 (iadd .i64 x8 1))) none) (some (.exit 0, Qbj))
def QbP (x0 : List Int) (x7 x8 : Int) : Option (Exit × VS) :=
 let a1 := fstG nKey (x0.drop x8.toNat)
 br (a1.isSome) (some (.ret, Qbd (x8 + (a1.getD 0 : Nat)))) <| some (.exit 0, Qbj)
theorem Qk8 (x0 : List Int) (x7 x8 : Int) : Qak Qa6 Qbl QbE (Qcv x0 x7 x8) = QfX x0 x7 x8 := by kernel_rfl
theorem QeV (x0 : List Int) (x7 x8 : Int) : QbN x0 x7 x8 = Qb3 x0 x7 x8 := (Qao _ _).trans (by
 rw [Qk8]
 simp only [QfX, Qb3, Qay, nxt_n, nxt_r, nxt_e, nxt_0]
 rfl)
def QeG (p0 : List Int) : Option (V × List VO) :=
 let a1 := (fstG nKey (p0.drop (0 : Int).toNat))
 br (rngOk p0 (llen p0) (0 : Int)) (br (a1.isSome) (some (.t tI ((0 : Int) + (a1.getD 0 : Nat)), [.box (.c (.func (.func 121) #[] #[]))])) (some (.t tI (-1), [.box (.c (.func (.func 121) #[] #[]))]))) none
theorem QqN (p0 : List Int) : runF Qa6 Qdr Qgk false [.t (.sl tI) p0, .fn 119 [(.ptr 50000 0)]] [.box (.c (.func (.func 121) ⟨[]⟩ ⟨[]⟩))] = QeG p0 := by kernel_rfl
theorem Qqj : Qai Tryz.prog 128 := .inr ⟨by decide, _, Tryz.func128, by kernel_rfl, by kernel_rfl⟩
theorem QpZ : GOk Tryz.prog Qa6 := Qal _ (gA (gC Qy0 Qya gN))
theorem Ql3 (x0 : List Int) (x7 x8 : Int) (h : (rngOk x0 x7 x8) = true) : QbN x0 x7 x8 = QbP x0 x7 x8 := by
 obtain ⟨rfl, h3, k, rfl, hk⟩ := rng_k h
 clear h
 refine Qat x0 (fun k => QbN x0 (x0.length : Int) (k : Int) = QbP x0 (x0.length : Int) (k : Int)) ?_ ?_ k hk
 ·rw [QeV]
  simp [Qb3, QbP, Qar, Qaf, fstG]
 ·intro k hk ih
  rw [QeV]
  simp only [Qb3, Qar, Qav, hk, decide_true, Qac, Int.toNat_natCast, add1 (show k < 4611686018427387904 by omega), ih, QaA (y := tI) hk]
  simp only [QbP, Int.toNat_natCast, List.drop_eq_getElem_cons hk, fstG]
  cases h : nKey x0[k] with
  | true => simp [Qac]
  | false =>
   simp only [Qaf, Bool.false_eq_true, if_false]
   cases hq : fstG nKey (x0.drop (k + 1)) with
   | none => rfl
   | some j =>
    simp only [Option.map_some, Option.isSome_some, Option.getD_some, Qac]
    congr 3
    omega
theorem QkZ : ∀ S l p, Qa6.L 0 (fgt Qbl S) = some (true, l) → pickA l = some p → loopF (Qak Qa6 Qbl QbE) S = some p :=
 QaD (s := Qcx) ⟨by decide, by decide⟩ (by kernel_rfl) fun x y hok p hp => by
 simp only [Qaq, Qan] at hp
 exact (Ql3 x.1 x.2.2.1 x.2.2.2.1 (by simpa using hok)).trans hp
theorem QpJ : Qdr.lok Qa6 := by
 repeat (first | exact trivial | exact QkZ | refine ⟨?_, ?_⟩)
theorem QqF (l : List Int) (h : Qbp l = true) : QeG l = some (.t tI (ixKey l), [.box (.c (.func (.func 121) #[] #[]))]) := by
 simp only [Qbp, decide_eq_true_eq] at h
 simp only [QeG, rng_0 h, Qac, Int.toNat_zero, List.drop_zero, ixKey]
 cases fstG nKey l <;> simp [Qac, Qaf]
def Qf8 : Ent := specB [.ty (.sl tI), .fn 119 [(50000, 0)]] [.bc 121] (fun x y => (Qbp x.1)) (fun x y => (.t tI (ixKey x.1))) (fun x y => [.box (.c (.func (.func 121) #[] #[]))])
theorem Qpr : Meets Tryz.prog 128 (strip Qf8) := QcC (QaU (R := runF Qa6 Qdr Qgk false) (mG Tryz.func128 (by kernel_rfl) Tryz.ntmps128 (by kernel_rfl) QpZ QpJ) fun x y hok => (QqN x.1).trans (QqF x.1 hok))
def Qqy (l : List Int) : Bool := !l.all keyI
noncomputable def Qdt : TC := (.sq (.reg (rT Tryz.f120 0)) (.sq (.reg (rT Tryz.f120 1)) .rt))
def Qgm : List (RV × Option Ty) := [((.t 4), some .bool)]
def QcJ : G := ⟨TYs, [], 9, EL [(128, Qf8)], keeps, (fun _ _ => none), IL [], RL []⟩
def QeI (p0 : List Int) : Option (V × List VO) := br (Qbp p0) (some (.t .bool (ige (ixKey p0) 0), [.box (.c (.func (.func 121) #[] #[]))])) none
theorem QqP (p0 : List Int) : runF QcJ Qdt Qgm false [.t (.sl tI) p0, .fn 119 [(.ptr 50000 0)]] [.box (.c (.func (.func 121) ⟨[]⟩ ⟨[]⟩))] = QeI p0 := by kernel_rfl
theorem Qql : Qai Tryz.prog 120 := .inr ⟨by decide, _, Tryz.func120, by kernel_rfl, by kernel_rfl⟩
theorem Qp1 : GOk Tryz.prog QcJ := Qal _ (gA (gC Qqj Qpr gN))
theorem QpL : Qdt.lok QcJ := by repeat (first | exact trivial | refine ⟨?_, ?_⟩)
theorem QqH (l : List Int) (h : Qbp l = true) : QeI l = some (.t .bool (Qqy l), [.box (.c (.func (.func 121) #[] #[]))]) := by
 simp only [QeI, h, Qac]
 have e : ige (ixKey l) 0 = Qqy l := by
  have e2 : Qqy l = l.any nKey := by
   unfold Qqy
   rw [List.not_all_eq_any_not]
   rfl
  rw [e2]
  unfold ixKey
  cases hq : fstG nKey l with
  | none => rw [QbW.1 hq]; rfl
  | some k =>
   rw [← QbA, hq]
   simp only [ige, Option.isSome_some, decide_eq_true_eq]
   omega
 rw [e]
def Qga : Ent := specB [.ty (.sl tI), .fn 119 [(50000, 0)]] [.bc 121] (fun x y => (Qbp x.1)) (fun x y => (.t .bool (Qqy x.1))) (fun x y => [.box (.c (.func (.func 121) #[] #[]))])
theorem Qpt : Meets Tryz.prog 120 (strip Qga) := QcC (QaU (R := runF QcJ Qdt Qgm false) (mG Tryz.func120 (by kernel_rfl) Tryz.ntmps120 (by kernel_rfl) Qp1 QpL) fun x y hok => (QqP x.1).trans (QqH x.1 hok))
noncomputable def Qh4 : TC := (.sq (.reg (rT Tryz.f118 0)) (.sq (.reg (rT Tryz.f118 1)) .rt))
def Qo5 : List (RV × Option Ty) := [((.t 2), none)]
def QhE : G := ⟨TYs, [], 4, EL [], keeps, (fun _ _ => none), IL [], RL []⟩
def Qq8  : Option (V × List VO) := some (.fn 119 [(.ptr 50000 0)], [.box (.c (.func (.func 121) #[] #[]))])
theorem QCQ  : runF QhE Qh4 Qo5 true [.c (.func (.func 121) ⟨[]⟩ ⟨[]⟩)] [] = Qq8  := by kernel_rfl
theorem Qy2 : Qai Tryz.prog 118 := .inr ⟨by decide, _, Tryz.func118, by kernel_rfl, by kernel_rfl⟩
theorem QyK : GOk Tryz.prog QhE := Qal _ (fun p hp => by cases hp)
theorem Qyu : Qh4.lok QhE := by repeat (first | exact trivial | refine ⟨?_, ?_⟩)
theorem QCc : Qq8 = some (.fn 119 [.ptr 50000 0], [.box (.c (.func (.func 121) #[] #[]))]) := rfl
def Qoa : Ent := specB [.cf 121] [] (fun x y => true) (fun x y => (.fn 119 [(.ptr 50000 0)])) (fun x y => [.box (.c (.func (.func 121) #[] #[]))])
theorem Qyc : Meets Tryz.prog 118 (strip Qoa) := QcC (QaU (R := runF QhE Qh4 Qo5 true) (mG Tryz.func118 (by kernel_rfl) Tryz.ntmps118 (by kernel_rfl) QyK Qyu) fun x y _ => (QCQ ).trans (QCc ))
def nHash (n : Int) : Bool := !hashF n
noncomputable def Qh1 : TC := (.sq (.reg (rT Tryz.f119 0)) (.sq (.reg (rT Tryz.f119 1)) .rt))
def Qo2 : List (RV × Option Ty) := [((.t 3), some .bool)]
def QhB : G := ⟨TYs, [], 8, EL [(122, QE9)], keeps, (fun _ _ => none), IL [], RL []⟩
def QkS (p0 : Int) : Option (V × List VO) := some (.t .bool (!(hashF p0)), [.box (.c (.func (.func 122) #[] #[]))])
theorem QCN (p0 : Int) : runF QhB Qh1 Qo2 false [.t tI p0, .ptr 50000 0] [.box (.c (.func (.func 122) ⟨[]⟩ ⟨[]⟩))] = QkS p0 := by kernel_rfl
theorem QyZ : Qai Tryz.prog 119 := .inr ⟨by decide, _, Tryz.func119, by kernel_rfl, by kernel_rfl⟩
theorem QyH : GOk Tryz.prog QhB := Qal _ (gA (gC QWw QSO gN))
theorem Qyr : Qh1.lok QhB := by repeat (first | exact trivial | refine ⟨?_, ?_⟩)
theorem QB9 (n : Int) : QkS n = some (.t .bool (nHash n), [.box (.c (.func (.func 122) #[] #[]))]) := by
 simp only [QkS]
 rfl
def Qn7 : Ent := specB [.ty tI, .ptr 50000 0] [.bc 122] (fun x y => true) (fun x y => (.t .bool (nHash x.1))) (fun x y => [.box (.c (.func (.func 122) #[] #[]))])
theorem Qx9 : Meets Tryz.prog 119 (strip Qn7) := QcC (QaU (R := runF QhB Qh1 Qo2 false) (mG Tryz.func119 (by kernel_rfl) Tryz.ntmps119 (by kernel_rfl) QyH Qyr) fun x y _ => (QCN x.1).trans (QB9 x.1))
def Qrg (l : List Int) : Int := match fstG nHash l with | some k => (k : Int) | none => -1
def Qbk : Fg := ⟨[(0, some (.sl tI)), (1, none), (7, some tI), (8, some tI)], [(50000, none)]⟩
noncomputable def QbD : TC := (.sq (.reg (rT Tryz.f128 2)) (.sq (.cd (.t 9) .sk (.fg ⟨[], [(50000, none)]⟩ (.ex 0))) (.sq (.bk 1 (.sq (.reg (rT Tryz.f128 3)) (.sq (.reg (rT Tryz.f128 4)) (.cd (.t 16) (.sq (.reg (rT Tryz.f128 5)) (.fg ⟨[(4, some tI)], [(50000, none)]⟩ .rt)) .sk)))) (.reg (rT Tryz.f128 6)))))
noncomputable def Qdq : TC := (.sq (.reg (rT Tryz.f128 0)) (.sq (.sq (.reg (rT Tryz.f128 1)) (.bk 0 (.lp 0 Qbk QbD))) (.sq (.reg (rT Tryz.f128 7)) .rt)))
def Qgj : List (RV × Option Ty) := [((.t 4), some tI)]
abbrev Qcw : Sh := ⟨[(0, .ty (.sl tI)), (1, .fn 119 [(50000, 0)]), (7, .ty tI), (8, .ty tI)], [(50000, .bc 122)]⟩
def Qcu (x0 : List Int) (x7 x8 : Int) : VS := Qcw.st (x0, (), x7, x8, ()) ((), ())
abbrev Qge : Sh := ⟨[(4, .ty tI)], [(50000, .bc 122)]⟩
def Qbc (x4 : Int) : VS := Qge.st (x4, ()) ((), ())
abbrev QhM : Sh := ⟨[], [(50000, .bc 122)]⟩
def Qbi  : VS := QhM.st () ((), ())
def Ql5 : VS → Option (Bool × List (Bool × Exit × VS)) := mkL Qcw (fun x y => (rngOk x.1 x.2.2.1 x.2.2.2.1)) (fun x y => [(((fstG nHash (x.1.drop x.2.2.2.1.toNat)).isSome), .ret, Qbc (x.2.2.2.1 + ((fstG nHash (x.1.drop x.2.2.2.1.toNat)).getD 0 : Nat))), (true, .exit 0, Qbi)])
def Qa5 : G := ⟨TYs, [], 19, EL [(119, Qn7)], keeps, (Ls [Ql5]), IL [], RL []⟩
def QfW (x0 : List Int) (x7 x8 : Int) : Option (Exit × VS) := br (ilt x8 x7) (br (cIx x0 x8) (br (nHash (lgt tI x0 (Int.toNat x8))) (some (.ret, Qbc x8)) (some (.normal, Qcu x0 x7 (iadd .i64 x8 1)))) none) (some (.exit 0, Qbi))
noncomputable def QbM (x0 : List Int) (x7 x8 : Int) : Option (Exit × VS) := loopF (Qak Qa5 Qbk QbD) (Qcu x0 x7 x8)
noncomputable def Qb2 (x0 : List Int) (x7 x8 : Int) : Option (Exit × VS) := br (ilt x8 x7) (br (cIx x0 x8) (br (nHash (lgt tI x0 (Int.toNat x8))) (some (.ret, Qbc x8)) (QbM x0 x7 (iadd .i64 x8 1))) none) (some (.exit 0, Qbi))
def QbO (x0 : List Int) (x7 x8 : Int) : Option (Exit × VS) :=
 let a1 := fstG nHash (x0.drop x8.toNat)
 br (a1.isSome) (some (.ret, Qbc (x8 + (a1.getD 0 : Nat)))) <| some (.exit 0, Qbi)
theorem Qk7 (x0 : List Int) (x7 x8 : Int) : Qak Qa5 Qbk QbD (Qcu x0 x7 x8) = QfW x0 x7 x8 := by kernel_rfl
theorem QeU (x0 : List Int) (x7 x8 : Int) : QbM x0 x7 x8 = Qb2 x0 x7 x8 := (Qao _ _).trans (by
 rw [Qk7]
 simp only [QfW, Qb2, Qay, nxt_n, nxt_r, nxt_e, nxt_0]
 rfl)
def QeF (p0 : List Int) : Option (V × List VO) :=
 let a1 := (fstG nHash (p0.drop (0 : Int).toNat))
 br (rngOk p0 (llen p0) (0 : Int)) (br (a1.isSome) (some (.t tI ((0 : Int) + (a1.getD 0 : Nat)), [.box (.c (.func (.func 122) #[] #[]))])) (some (.t tI (-1), [.box (.c (.func (.func 122) #[] #[]))]))) none
theorem QqM (p0 : List Int) : runF Qa5 Qdq Qgj false [.t (.sl tI) p0, .fn 119 [(.ptr 50000 0)]] [.box (.c (.func (.func 122) ⟨[]⟩ ⟨[]⟩))] = QeF p0 := by kernel_rfl
theorem Qqi : Qai Tryz.prog 128 := .inr ⟨by decide, _, Tryz.func128, by kernel_rfl, by kernel_rfl⟩
theorem QpY : GOk Tryz.prog Qa5 := Qal _ (gA (gC QyZ Qx9 gN))
theorem Ql2 (x0 : List Int) (x7 x8 : Int) (h : (rngOk x0 x7 x8) = true) : QbM x0 x7 x8 = QbO x0 x7 x8 := by
 obtain ⟨rfl, h3, k, rfl, hk⟩ := rng_k h
 clear h
 refine Qat x0 (fun k => QbM x0 (x0.length : Int) (k : Int) = QbO x0 (x0.length : Int) (k : Int)) ?_ ?_ k hk
 ·rw [QeU]
  simp [Qb2, QbO, Qar, Qaf, fstG]
 ·intro k hk ih
  rw [QeU]
  simp only [Qb2, Qar, Qav, hk, decide_true, Qac, Int.toNat_natCast, add1 (show k < 4611686018427387904 by omega), ih, QaA (y := tI) hk]
  simp only [QbO, Int.toNat_natCast, List.drop_eq_getElem_cons hk, fstG]
  cases h : nHash x0[k] with
  | true => simp [Qac]
  | false =>
   simp only [Qaf, Bool.false_eq_true, if_false]
   cases hq : fstG nHash (x0.drop (k + 1)) with
   | none => rfl
   | some j =>
    simp only [Option.map_some, Option.isSome_some, Option.getD_some, Qac]
    congr 3
    omega
theorem QkY : ∀ S l p, Qa5.L 0 (fgt Qbk S) = some (true, l) → pickA l = some p → loopF (Qak Qa5 Qbk QbD) S = some p :=
 QaD (s := Qcw) ⟨by decide, by decide⟩ (by kernel_rfl) fun x y hok p hp => by
 simp only [Qaq, Qan] at hp
 exact (Ql2 x.1 x.2.2.1 x.2.2.2.1 (by simpa using hok)).trans hp
theorem QpI : Qdq.lok Qa5 := by
 repeat (first | exact trivial | exact QkY | refine ⟨?_, ?_⟩)
theorem QqE (l : List Int) (h : Qbp l = true) : QeF l = some (.t tI (Qrg l), [.box (.c (.func (.func 122) #[] #[]))]) := by
 simp only [Qbp, decide_eq_true_eq] at h
 simp only [QeF, rng_0 h, Qac, Int.toNat_zero, List.drop_zero, Qrg]
 cases fstG nHash l <;> simp [Qac, Qaf]
def Qf7 : Ent := specB [.ty (.sl tI), .fn 119 [(50000, 0)]] [.bc 122] (fun x y => (Qbp x.1)) (fun x y => (.t tI (Qrg x.1))) (fun x y => [.box (.c (.func (.func 122) #[] #[]))])
theorem Qpq : Meets Tryz.prog 128 (strip Qf7) := QcC (QaU (R := runF Qa5 Qdq Qgj false) (mG Tryz.func128 (by kernel_rfl) Tryz.ntmps128 (by kernel_rfl) QpY QpI) fun x y hok => (QqM x.1).trans (QqE x.1 hok))
def Qim (l : List Int) : Bool := !l.all hashF
noncomputable def Qds : TC := (.sq (.reg (rT Tryz.f120 0)) (.sq (.reg (rT Tryz.f120 1)) .rt))
def Qgl : List (RV × Option Ty) := [((.t 4), some .bool)]
def QcI : G := ⟨TYs, [], 9, EL [(128, Qf7)], keeps, (fun _ _ => none), IL [], RL []⟩
def QeH (p0 : List Int) : Option (V × List VO) := br (Qbp p0) (some (.t .bool (ige (Qrg p0) 0), [.box (.c (.func (.func 122) #[] #[]))])) none
theorem QqO (p0 : List Int) : runF QcI Qds Qgl false [.t (.sl tI) p0, .fn 119 [(.ptr 50000 0)]] [.box (.c (.func (.func 122) ⟨[]⟩ ⟨[]⟩))] = QeH p0 := by kernel_rfl
theorem Qqk : Qai Tryz.prog 120 := .inr ⟨by decide, _, Tryz.func120, by kernel_rfl, by kernel_rfl⟩
theorem Qp0 : GOk Tryz.prog QcI := Qal _ (gA (gC Qqi Qpq gN))
theorem QpK : Qds.lok QcI := by repeat (first | exact trivial | refine ⟨?_, ?_⟩)
theorem QqG (l : List Int) (h : Qbp l = true) : QeH l = some (.t .bool (Qim l), [.box (.c (.func (.func 122) #[] #[]))]) := by
 simp only [QeH, h, Qac]
 have e : ige (Qrg l) 0 = Qim l := by
  have e2 : Qim l = l.any nHash := by
   unfold Qim
   rw [List.not_all_eq_any_not]
   rfl
  rw [e2]
  unfold Qrg
  cases hq : fstG nHash l with
  | none => rw [QbW.1 hq]; rfl
  | some k =>
   rw [← QbA, hq]
   simp only [ige, Option.isSome_some, decide_eq_true_eq]
   omega
 rw [e]
def Qf9 : Ent := specB [.ty (.sl tI), .fn 119 [(50000, 0)]] [.bc 122] (fun x y => (Qbp x.1)) (fun x y => (.t .bool (Qim x.1))) (fun x y => [.box (.c (.func (.func 122) #[] #[]))])
theorem Qps : Meets Tryz.prog 120 (strip Qf9) := QcC (QaU (R := runF QcI Qds Qgl false) (mG Tryz.func120 (by kernel_rfl) Tryz.ntmps120 (by kernel_rfl) Qp0 QpK) fun x y hok => (QqO x.1).trans (QqG x.1 hok))
noncomputable def Qh3 : TC := (.sq (.reg (rT Tryz.f118 0)) (.sq (.reg (rT Tryz.f118 1)) .rt))
def Qo4 : List (RV × Option Ty) := [((.t 2), none)]
def QhD : G := ⟨TYs, [], 4, EL [], keeps, (fun _ _ => none), IL [], RL []⟩
def Qq7  : Option (V × List VO) := some (.fn 119 [(.ptr 50000 0)], [.box (.c (.func (.func 122) #[] #[]))])
theorem QCP  : runF QhD Qh3 Qo4 true [.c (.func (.func 122) ⟨[]⟩ ⟨[]⟩)] [] = Qq7  := by kernel_rfl
theorem Qy1 : Qai Tryz.prog 118 := .inr ⟨by decide, _, Tryz.func118, by kernel_rfl, by kernel_rfl⟩
theorem QyJ : GOk Tryz.prog QhD := Qal _ (fun p hp => by cases hp)
theorem Qyt : Qh3.lok QhD := by repeat (first | exact trivial | refine ⟨?_, ?_⟩)
theorem QCb : Qq7 = some (.fn 119 [.ptr 50000 0], [.box (.c (.func (.func 122) #[] #[]))]) := rfl
def Qn9 : Ent := specB [.cf 122] [] (fun x y => true) (fun x y => (.fn 119 [(.ptr 50000 0)])) (fun x y => [.box (.c (.func (.func 122) #[] #[]))])
theorem Qyb : Meets Tryz.prog 118 (strip Qn9) := QcC (QaU (R := runF QhD Qh3 Qo4 true) (mG Tryz.func118 (by kernel_rfl) Tryz.ntmps118 (by kernel_rfl) QyJ Qyt) fun x y _ => (QCP ).trans (QCb ))
end
end Go.Proofs.YtckcgijklnloiaaGreat.K
namespace Go.Proofs.YtckcgijklnloiaaGreat.K
open Go.RowKit
noncomputable section
theorem QnB {c : Int} (h : ieq (QaP c).2 0 = true) : 1 ≤ c ∧ c ≤ 16 := by
 unfold QaP at h
 split at h
 ·simp [ieq] at h
 ·omega
theorem QkH {l : List Int} (h : suitF l = true) : ∀ (k : Nat) (hk : k < l.length), (1 ≤ l[k] ∧ l[k] ≤ 16) ∧ ¬ l[k] ∈ l.take k := by
 intro k hk
 simp only [suitF, QfN, List.all_eq_true, List.mem_range'_1, Bool.and_eq_true, Bool.not_eq_true'] at h
 obtain ⟨h1, h2⟩ := h k ⟨by omega, by omega⟩
 simp only [List.getD_eq_getElem?_getD, List.getElem?_eq_getElem hk, Option.getD_some] at h1 h2
 refine ⟨QnB h1, fun hm => ?_⟩
 simp only [hasF] at h2
 rw [List.contains_iff_mem.2 hm] at h2
 cases h2
theorem QqS {l : List Int} (h : suitF l = true) : l.Nodup := by
 have h2 := QkH h
 rw [List.nodup_iff_pairwise_ne, List.pairwise_iff_getElem]
 intro i j hi hj hij he
 refine (h2 j hj).2 ?_
 rw [← he]
 exact List.mem_iff_getElem.2 ⟨i, by rw [List.length_take]; omega, by rw [List.getElem_take]⟩
theorem QL2 {l : List Int} (h : suitF l = true) : l.length ≤ 16 := by
 have h1 := QqS h
 have h2 := QkH h
 have h3 : l ⊆ [1, 2, 3, 4, 5, 6, 7, 8, 9, 10, 11, 12, 13, 14, 15, 16] := by
  intro x hx
  obtain ⟨k, hk, rfl⟩ := List.mem_iff_getElem.1 hx
  have := (h2 k hk).1
  simp only [List.mem_cons, List.not_mem_nil, or_false]
  omega
 exact h1.length_le_of_subset h3
abbrev Qax (e : Qab) : List Int := e.2.2.2.1
abbrev eIds (e : Qab) : List QaC := e.2.2.2.2.2.1
abbrev eAnch (e : Qab) : List Int := e.2.2.2.2.2.2.1
abbrev eHash (e : Qab) : List Int := e.2.2.2.2.2.2.2.1
def idOk (x : QaC) : Bool := Qi1 x.1 x.2.1 x.2.2.1
def idLen (x : QaC) : Bool := QaV x.2.2.1
def Qa7 (e : Qab) : Bool := nameG e.1 && decide ((Qax e).length ≤ 100000 ∧ (eIds e).length ≤ 100000 ∧ (eAnch e).length ≤ 100000 ∧ (eHash e).length ≤ 100000) && (eIds e).all idLen
def QaW (e : Qab) : Bool :=
 wordF e.1 && (!ilt e.2.1 1 && (!igt e.2.1 e.2.2.1 && (!igt e.2.2.1 4 && (suitF (Qax e) && (!igt (llen (eIds e)) 4 && (!igt (llen (eAnch e)) 16 && (ascF (eAnch e) && (ascF (eHash e) && ((eIds e).all idOk && ((eAnch e).all keyI && (eHash e).all hashF))))))))))
def QeB (e : Qab) : Int := bif QaW e then 0 else 19
theorem QKL (e : Qab) : ieq (QeB e) 0 = QaW e := by
 unfold QeB
 cases QaW e <;> rfl
theorem QvU (e : Qab) : ine (QeB e) 0 = !QaW e := by
 unfold QeB
 cases QaW e <;> rfl
noncomputable def QOo : List DO := dT Tryz.f76 12
def Qke : Fg := ⟨[(1, none), (56, some (.sl Qau)), (57, some tI), (58, some tI)], [(1, some Qae)]⟩
noncomputable def Ql9 : TC := (.sq (.reg (rT Tryz.f76 6)) (.sq (.cd (.t 59) .sk (.fg ⟨[(1, none)], [(1, some Qae)]⟩ (.ex 0))) (.sq (.bk 1 (.sq (.reg (rT Tryz.f76 7)) (.sq (.reg (rT Tryz.f76 8)) (.cd (.t 69) (.sq (.reg (rT Tryz.f76 9)) (.fg ⟨[(2, some tI)], []⟩ .rt)) .sk)))) (.reg (rT Tryz.f76 10)))))
noncomputable def QDx : TC := (.sq (.reg (rT Tryz.f76 0)) (.sq (.sq (.reg (rT Tryz.f76 1)) (.cd (.t 32) (.sq (.reg (rT Tryz.f76 2)) .rt) .sk)) (.sq (.sq (.reg (rT Tryz.f76 3)) (.cd (.t 54) (.sq (.reg (rT Tryz.f76 4)) .rt) .sk)) (.sq (.sq (.reg (rT Tryz.f76 5)) (.bk 0 (.lp 0 Qke Ql9))) (.sq (.reg (rT Tryz.f76 11)) (.sq (.sq (.dr QOo [(0, [1]), (1, [1]), (2, []), (3, [74, 5074, 10074, 15074]), (4, [74, 75, 5074, 5075, 10074, 10075, 15074, 15075]), (5, []), (6, [1]), (7, [1]), (8, []), (9, [80, 5080, 10080, 15080]), (10, [80, 81, 5080, 5081, 10080, 10081, 15080, 15081]), (11, [])] (.of [0, 1, 2, 3, 4, 5, 6, 7, 8, 9, 10, 11])) (.cd (.t 82) (.sq (.reg (rT Tryz.f76 13)) .rt) .sk)) (.sq (.reg (rT Tryz.f76 14)) .rt)))))))
def QQf : List (RV × Option Ty) := [((.t 2), some tI)]
abbrev QrV : Sh := ⟨[(1, .ptr 1 0), (56, .ty (.sl Qau)), (57, .ty tI), (58, .ty tI)], [(1, .box Qae)]⟩
def QrD (x56 : List QaC) (x57 x58 : Int) (y1 : Qab) : VS := QrV.st ((), x56, x57, x58, ()) (y1, ())
abbrev Qt4 : Sh := ⟨[(2, .ty tI)], []⟩
def QdM (x2 : Int) : VS := Qt4.st (x2, ()) ()
abbrev Qxz : Sh := ⟨[(1, .ptr 1 0)], [(1, .box Qae)]⟩
def Qe4 (y1 : Qab) : VS := Qxz.st ((), ()) (y1, ())
def QWV : VS → Option (Bool × List (Bool × Exit × VS)) := mkL QrV (fun x y => (rngOk x.2.1 x.2.2.1 x.2.2.2.1 && x.2.1.all idLen)) (fun x y => [((!(x.2.1.drop x.2.2.2.1.toNat).all idOk), .ret, QdM (19)), (true, .exit 0, Qe4 (y.1))])
def g_f76 : G := ⟨TYs, [], 83, EL [(114, QFd), (115, QFc), (116, QFb), (117, QFa), (118, Qoa), (118, Qn9), (120, Qga), (120, Qf9)], keeps, (Ls [QWV]), IL [], RL []⟩
def QLu (x56 : List QaC) (x57 x58 : Int) (y1 : Qab) : Option (Exit × VS) :=
 let a1 := lgt Qau x56 (Int.toNat x58)
 br (ilt x58 x57) (br (cIx x56 x58) (br (Qof (a1.1) ((a1.2).1) (((a1.2).2).1)) (br (!(Qi1 (a1.1) ((a1.2).1) (((a1.2).2).1))) (some (.ret, QdM 19)) (some (.normal, QrD x56 x57 (iadd .i64 x58 1) y1))) none) none) (some (.exit 0, Qe4 y1))
noncomputable def QmY (x56 : List QaC) (x57 x58 : Int) (y1 : Qab) : Option (Exit × VS) := loopF (Qak g_f76 Qke Ql9) (QrD x56 x57 x58 y1)
noncomputable def QsQ (x56 : List QaC) (x57 x58 : Int) (y1 : Qab) : Option (Exit × VS) :=
 let a1 := lgt Qau x56 (Int.toNat x58)
 br (ilt x58 x57) (br (cIx x56 x58) (br (Qof (a1.1) ((a1.2).1) (((a1.2).2).1)) (br (!(Qi1 (a1.1) ((a1.2).1) (((a1.2).2).1))) (some (.ret, QdM 19)) (QmY x56 x57 (iadd .i64 x58 1) y1)) none) none) (some (.exit 0, Qe4 y1))
def Qm4 (x56 : List QaC) (x57 x58 : Int) (y1 : Qab) : Option (Exit × VS) := br (!(x56.drop x58.toNat).all idOk) (some (.ret, QdM (19))) <| some (.exit 0, Qe4 (y1))
theorem QOJ (x56 : List QaC) (x57 x58 : Int) (y1 : Qab) : Qak g_f76 Qke Ql9 (QrD x56 x57 x58 y1) = QLu x56 x57 x58 y1 := by kernel_rfl
theorem QzU (x56 : List QaC) (x57 x58 : Int) (y1 : Qab) : QmY x56 x57 x58 y1 = QsQ x56 x57 x58 y1 := (Qao _ _).trans (by
 rw [QOJ]
 simp only [QLu, QsQ, Qay, nxt_n, nxt_r, nxt_e, nxt_0]
 rfl)
def r_f76 (p0 : Qab) : Option (V × List VO) :=
 let a1 := (((((((p0).2).2).2).2).2).2)
 br (nameG p0.1) (br (!(wordF p0.1)) (some (.t tI 19, [])) (br (ilt p0.2.1 1) (some (.t tI 19, [])) (br (igt p0.2.1 p0.2.2.1) (some (.t tI 19, [])) (br (igt p0.2.2.1 4) (some (.t tI 19, [])) (br (Qbp p0.2.2.2.1) (br (!(suitF p0.2.2.2.1)) (some (.t tI 19, [])) (br (igt (llen p0.2.2.2.2.2.1) 4) (some (.t tI 19, [])) (br (igt (llen p0.2.2.2.2.2.2.1) 16) (some (.t tI 19, [])) (br (Qbp p0.2.2.2.2.2.2.1) (br (!(ascF p0.2.2.2.2.2.2.1)) (some (.t tI 19, [])) (br (Qbp p0.2.2.2.2.2.2.2.1) (br (!(ascF p0.2.2.2.2.2.2.2.1)) (some (.t tI 19, [])) (br (rngOk p0.2.2.2.2.2.1 (llen p0.2.2.2.2.2.1) (0 : Int) && p0.2.2.2.2.2.1.all idLen) (br (!(p0.2.2.2.2.2.1.drop (0 : Int).toNat).all idOk) (some (.t tI (19), [])) (br (Qbp (a1.1)) (br (Qqy (a1.1)) (some (.t tI 19, [])) (br (Qbp ((a1.2).1)) (br (Qim ((a1.2).1)) (some (.t tI 19, [])) (some (.t tI 0, []))) none)) none)) none)) none)) none)))) none))))) none
theorem e_f76 (p0 : Qab) : runF g_f76 QDx QQf false [.t Qae p0] [] = r_f76 p0 := by kernel_rfl
theorem QJY : Qai Tryz.prog 76 := .inr ⟨by decide, _, Tryz.func76, by kernel_rfl, by kernel_rfl⟩
theorem gk_f76 : GOk Tryz.prog g_f76 := Qal _ (gA (gC QWA QSS (gC QWz QSR (gC QWy QSQ (gC QWx QSP (gC Qy2 Qyc (gC Qy1 Qyb (gC Qql Qpt (gC Qqk Qps gN)))))))))
theorem QUj (x56 : List QaC) (x57 x58 : Int) (y1 : Qab) (h : (rngOk x56 x57 x58 && x56.all idLen) = true) : QmY x56 x57 x58 y1 = Qm4 x56 x57 x58 y1 := by
 simp only [Bool.and_eq_true, List.all_eq_true] at h
 obtain ⟨h0, hc⟩ := h
 obtain ⟨rfl, h3, k, rfl, hk⟩ := rng_k h0
 clear h0
 refine Qat x56 (fun k => QmY x56 (x56.length : Int) (k : Int) y1 = Qm4 x56 (x56.length : Int) (k : Int) y1) ?_ ?_ k hk
 ·rw [QzU]
  simp only [QsQ, Qm4, Qar, Nat.lt_irrefl, decide_false, Qaf, Int.toNat_natCast, List.drop_length, List.all_nil, Bool.not_true]
 ·intro k hk ih
  rw [QzU]
  have hx : Qof x56[k].1 x56[k].2.1 x56[k].2.2.1 = true := hc x56[k] (List.getElem_mem hk)
  simp only [QsQ, Qar, Qav, hk, decide_true, Qac, Int.toNat_natCast, add1 (show k < 4611686018427387904 by omega), QaA (y := Qau) hk, hx, ih]
  simp only [Qm4, Int.toNat_natCast, List.drop_eq_getElem_cons hk, List.all_cons, idOk]
  cases Qi1 x56[k].1 x56[k].2.1 x56[k].2.2.1 <;> rfl
theorem QMP : ∀ S l p, g_f76.L 0 (fgt Qke S) = some (true, l) → pickA l = some p → loopF (Qak g_f76 Qke Ql9) S = some p :=
 QaD (s := QrV) ⟨by decide, by decide⟩ (by kernel_rfl) fun x y hok p hp => by
 simp only [Qaq, Qan] at hp
 exact (QUj x.2.1 x.2.2.1 x.2.2.2.1 y.1 (by simpa using hok)).trans hp
theorem lk_f76 : QDx.lok g_f76 := by
 repeat (first | exact trivial | exact QMP | refine ⟨?_, ?_⟩)
theorem s_f76 (e : Qab) (h : Qa7 e = true) : r_f76 e = some (.t tI (QeB e), []) := by
 simp only [Qa7, Bool.and_eq_true, decide_eq_true_eq] at h
 obtain ⟨⟨h1, h2, h3, h4, h5⟩, h6⟩ := h
 have q2 : Qbp (Qax e) = true := decide_eq_true h2
 have q4 : Qbp (eAnch e) = true := decide_eq_true h4
 have q5 : Qbp (eHash e) = true := decide_eq_true h5
 unfold QeB
 simp only [r_f76, h1, q2, q4, q5, rng_0 h3, h6, Bool.and_self, Qac, Int.toNat_zero, List.drop_zero, Qqy, Qim]
 refine br9 (fun g => by simp only [Bool.not_eq_true'] at g; simp [QaW, g]) fun g1 => br9 (fun g => by simp [QaW, g]) fun g2 => br9 (fun g => by simp [QaW, g]) fun g3 => br9 (fun g => by simp [QaW, g]) fun g4 => br9 (fun g => by simp only [Bool.not_eq_true'] at g; simp [QaW, g]) fun g5 => br9 (fun g => by simp [QaW, g]) fun g6 => br9 (fun g => by simp [QaW, g]) fun g7 => br9 (fun g => by simp only [Bool.not_eq_true'] at g; simp [QaW, g]) fun g8 => br9 (fun g => by simp only [Bool.not_eq_true'] at g; simp [QaW, g]) fun g9 => br9 (fun g => by simp only [Bool.not_eq_true'] at g; simp [QaW, g]) fun g10 => br9 (fun g => by simp only [Bool.not_eq_true'] at g; simp [QaW, g]) fun g11 => br9 (fun g => by simp only [Bool.not_eq_true'] at g; simp [QaW, g]) fun g12 => ?_
 simp only [Bool.not_eq_false'] at g1 g5 g8 g9 g10 g11 g12
 have : QaW e = true := by
  simp only [QaW, g1, g2, g3, g4, g5, g6, g7, g8, g9, g10, g11, g12, Bool.not_false, Bool.and_self]
 rw [this]
 rfl
def Qzn : Ent := spec (.pr Qae .nil) (fun x => (Qa7 x.1)) (fun x => (.t tI (QeB x.1)))
theorem QIf : Meets Tryz.prog 76 (strip Qzn) := Qag (R := runF g_f76 QDx QQf false) (mG Tryz.func76 (by kernel_rfl) Tryz.ntmps76 (by kernel_rfl) gk_f76 lk_f76) fun x hok => (e_f76 x.1).trans (s_f76 x.1 hok)
end
end Go.Proofs.YtckcgijklnloiaaGreat.K
namespace Go.Proofs.YtckcgijklnloiaaGreat.K
open Go.RowKit
def coeO (b : Ty) : VO → VO
 | .box (.ag [.t b' x]) => if b' = b ∧ b'.row = false then .box (.t b' x) else .box (.ag [.t b' x])
 | o => o
def coeOs : List Ty → List VO → List VO
 | b :: bs, o :: os => coeO b o :: coeOs bs os
 | _, os => os
def QfO (l : List SV) (bs : List Ty) (ok : SVt l → boxT bs → Bool) (F : SVt l → boxT bs → V) : Ent := fun args objs => specH l bs ok F args (coeOs bs objs)
section
variable {P : Program} {X : Nat → Nat → Prop} {w : World} {σ : Pl}
theorem QWG {b : Ty} {o : VO} {k : Nat} (h : OAt X w σ k o) : OAt X w σ k (coeO b o) := by
 unfold coeO
 split
 ·rename_i b' x
  split
  ·rename_i hq
   obtain ⟨g, ty, vs, h1, h2, h3, h4⟩ := h
   refine ⟨g, ty, vs, h1, h2, ?_, h4⟩
   have e1 : (V.ag [.t b' x]).d.cells = [b'.d x] := rfl
   have e2 : (V.t b' x).d.cells = [b'.d x] := by
    show (b'.d x).cells = _
    rw [Ty.d_cells, Ty.d_one b' x hq.2]
   rw [e2, ← e1]
   exact h3
  ·exact h
 ·exact h
theorem QWF {b : Ty} {o : VO} (h : o ≠ .no) : coeO b o ≠ .no := by
 unfold coeO
 split
 ·split <;> simp
 ·exact h
theorem Qkr : ∀ (bs : List Ty) (os : List VO), (coeOs bs os).length = os.length
 | [], os => rfl
 | b :: bs, [] => rfl
 | b :: bs, o :: os => by rw [coeOs, List.length_cons, List.length_cons, Qkr bs os]
theorem QBf : ∀ (bs : List Ty) (os : List VO) (j : Nat) (o : VO), (coeOs bs os)[j]? = some o → ∃ o', os[j]? = some o' ∧ (o = o' ∨ ∃ b, o = coeO b o')
 | [], os, j, o, h => ⟨o, h, .inl rfl⟩
 | b :: bs, [], j, o, h => ⟨o, h, .inl rfl⟩
 | b :: bs, o1 :: os, 0, o, h => by
  simp only [coeOs, List.getElem?_cons_zero, Option.some.injEq] at h
  exact ⟨o1, rfl, .inr ⟨b, h.symm⟩⟩
 | b :: bs, o1 :: os, j + 1, o, h => by
  simp only [coeOs, List.getElem?_cons_succ] at h
  obtain ⟨o', h1, h2⟩ := QBf bs os j o h
  exact ⟨o', by rw [List.getElem?_cons_succ]; exact h1, h2⟩
theorem Qcn {f : FuncId} {l : List SV} {bs : List Ty} {ok : SVt l → boxT bs → Bool} {F : SVt l → boxT bs → V} (hM : Meets P f (strip (specH l bs ok F))) : Meets P f (strip (QfO l bs ok F)) := by
 intro args objs r os hF X w σ vs hfin hl hc
 have := hM args (coeOs bs objs) r os hF X w σ vs hfin ⟨fun j o hj => by
  obtain ⟨o', h1, h2⟩ := QBf bs objs j o hj
  obtain ⟨g1, g2⟩ := hl.at_ j o' h1
  rcases h2 with rfl | ⟨b, rfl⟩
  ·exact ⟨g1, g2⟩
  ·exact ⟨QWG g1, QWF g2⟩, fun i j b hij hi hj => hl.apart i j b hij (by rwa [Qkr] at hi) (by rwa [Qkr] at hj)⟩ hc
 rw [Qkr] at this
 exact this
end
end Go.Proofs.YtckcgijklnloiaaGreat.K
namespace Go.Proofs.YtckcgijklnloiaaGreat.K
open Go.RowKit
noncomputable section
theorem Qqr {l : List Qaa} (h : QaV l = true) {k : Nat} (hk : k < l.length) : QaG l[k] = true := by
 simp only [QaV, Bool.and_eq_true, List.all_eq_true] at h
 exact h.2 _ (List.getElem_mem hk)
theorem Qkt {l : List Qaa} (h : QaV l = true) : l.length ≤ 100000 := by
 simp only [QaV, Bool.and_eq_true, decide_eq_true_eq] at h
 exact h.1
abbrev cAt (l : List Qaa) (k : Nat) : Qaa := l.getD k zCert
theorem QWH {l : List Qaa} {k : Nat} (hk : k < l.length) : cAt l k = l[k] := by
 simp only [cAt, List.getD_eq_getElem?_getD, List.getElem?_eq_getElem hk, Option.getD_some]
theorem QKQ {l : List Qaa} (h : QaV l = true) {k : Nat} (hk : k < l.length) : QaG (cAt l k) = true := by
 rw [QWH hk]
 exact Qqr h hk
def pathF (l : List Qaa) (i : Int) : Bool := !ilt i 0 && (!ige i (llen l) && (ieq i 0 || ((cAt l i.toNat).2.2.2.2.2.2.2.2.1 && ige (cAt l i.toNat).2.2.2.2.2.2.2.2.2.1 (i - 1))))
def Qpg (l : List Qaa) (_i : Int) : Bool := decide (l.length ≤ 100000)
theorem QHV (l : List Qaa) (i : Int) (h : Qpg l i = true) : br (ilt i 0) (some (V.t .bool false, ([] : List VO))) (br (ige i (llen l)) (some (V.t .bool false, [])) (br (ieq i 0) (some (V.t .bool true, [])) (br (cIx l i) (br (lgt Qad l (Int.toNat i)).2.2.2.2.2.2.2.2.1 (br (cIx l i) (some (V.t .bool (ige (lgt Qad l (Int.toNat i)).2.2.2.2.2.2.2.2.2.1 (isub .i64 i 1)), [])) none) (some (V.t .bool false, []))) none))) = some (V.t .bool (pathF l i), []) := by
 simp only [Qpg, decide_eq_true_eq] at h
 unfold pathF
 cases hi : ilt i 0 with
 | true => rfl
 | false =>
  have hn := of_decide_eq_false hi
  rw [Qaf, Bool.not_false, Bool.true_and]
  cases h1 : ige i (llen l) with
  | true => rfl
  | false =>
   have h2 := of_decide_eq_false h1
   rw [Qaf, Bool.not_false, Bool.true_and]
   cases h0 : ieq i 0 with
   | true => rfl
   | false =>
    have hl : llen l ≤ 100000 := by simp only [llen]; omega
    have hc : cIx l i = true := decide_eq_true ⟨by omega, by simp only [llen] at h2; omega⟩
    rw [Qaf, Bool.false_or, hc, Qac, QbU (by omega)]
    exact brA rfl
noncomputable def QwV : TC := (.sq (.reg (rT Tryz.f140 0)) (.sq (.sq (.reg (rT Tryz.f140 1)) (.cd (.t 12) (.sq (.reg (rT Tryz.f140 2)) .rt) .sk)) (.sq (.reg (rT Tryz.f140 3)) .rt)))
def QGl : List (RV × Option Ty) := [((.t 4), some .bool)]
def QAI : G := ⟨TYs, [], 32, EL [], keeps, (fun _ _ => none), IL [], RL []⟩
def QHC (p0 : List Qaa) (p1 : Int) : Option (V × List VO) :=
 let a1 := (((((((((lgt Qad p0 (Int.toNat p1)).2).2).2).2).2).2).2).2)
 br (ilt p1 0) (some (.t .bool false, [])) (br (ige p1 (llen p0)) (some (.t .bool false, [])) (br (ieq p1 0) (some (.t .bool true, [])) (br (cIx p0 p1) (br (a1.1) (br (cIx p0 p1) (some (.t .bool (ige ((a1.2).1) (isub .i64 p1 1)), [])) none) (some (.t .bool false, []))) none)))
theorem e_f140 (p0 : List Qaa) (p1 : Int) : runF QAI QwV QGl false [.t (.sl Qad) p0, .t tI p1] [] = QHC p0 p1 := by kernel_rfl
theorem QWn : Qai Tryz.prog 140 := .inr ⟨by decide, _, Tryz.func140, by kernel_rfl, by kernel_rfl⟩
theorem QVq : GOk Tryz.prog QAI := Qal _ (fun p hp => by cases hp)
theorem QTT : QwV.lok QAI := by repeat (first | exact trivial | refine ⟨?_, ?_⟩)
theorem s_f140 (l : List Qaa) (i : Int) (h : Qpg l i = true) : QHC l i = some (.t .bool (pathF l i), []) := by
 simp only [QHC]
 exact QHV l i h
def QEZ : Ent := spec (.pr (.sl Qad) (.pr tI .nil)) (fun x => (Qpg x.1 x.2.1)) (fun x => (.t .bool (pathF x.1 x.2.1)))
theorem QSF : Meets Tryz.prog 140 (strip QEZ) := Qag (R := runF QAI QwV QGl false) (mG Tryz.func140 (by kernel_rfl) Tryz.ntmps140 (by kernel_rfl) QVq QTT) fun x hok => (e_f140 x.1 x.2.1).trans (s_f140 x.1 x.2.1 hok)
def Qso (l : List Qaa) (k : Nat) : Int := if k + 1 < l.length then (cAt l (k + 1)).2.2.2.2.1 else (cSeal (cAt l k)).1
def Qgi (l : List Qaa) (i : Int) : Int := Qso l i.toNat
def Qhk (l : List Qaa) (i : Int) : Bool := decide (0 ≤ i ∧ i < l.length ∧ l.length ≤ 100000)
theorem add1N {k : Nat} (h : k < 4611686018427387904) : Int.toNat (iadd .i64 (k : Int) 1) = k + 1 := by rw [add1 h]; rfl
noncomputable def QwT : TC := (.sq (.reg (rT Tryz.f142 0)) (.sq (.sq (.reg (rT Tryz.f142 1)) (.cd (.t 9) (.sq (.reg (rT Tryz.f142 2)) .rt) .sk)) (.sq (.reg (rT Tryz.f142 3)) .rt)))
def QGj : List (RV × Option Ty) := [((.t 4), some tI)]
def QAG : G := ⟨TYs, [], 22, EL [], keeps, (fun _ _ => none), IL [], RL []⟩
def QHA (p0 : List Qaa) (p1 : Int) : Option (V × List VO) :=
 let a1 := iadd .i64 p1 1
 br (ilt a1 (llen p0)) (br (cIx p0 a1) (some (.t tI ((((((lgt Qad p0 (Int.toNat a1)).2).2).2).2).1), [])) none) (br (cIx p0 p1) (some (.t tI ((((((((((((((lgt Qad p0 (Int.toNat p1)).2).2).2).2).2).2).2).2).2).2).2).1).1), [])) none)
theorem e_f142 (p0 : List Qaa) (p1 : Int) : runF QAG QwT QGj false [.t (.sl Qad) p0, .t tI p1] [] = QHA p0 p1 := by kernel_rfl
theorem QWl : Qai Tryz.prog 142 := .inr ⟨by decide, _, Tryz.func142, by kernel_rfl, by kernel_rfl⟩
theorem QVo : GOk Tryz.prog QAG := Qal _ (fun p hp => by cases hp)
theorem QTR : QwT.lok QAG := by repeat (first | exact trivial | refine ⟨?_, ?_⟩)
theorem s_f142 (l : List Qaa) (i : Int) (h : Qhk l i = true) : QHA l i = some (.t tI (Qgi l i), []) := by
 simp only [Qhk, decide_eq_true_eq] at h
 obtain ⟨h1, h2, h3⟩ := h
 obtain ⟨k, rfl⟩ := Int.eq_ofNat_of_zero_le h1
 simp only [QHA, add1N (show k < 4611686018427387904 by omega), add1 (show k < 4611686018427387904 by omega), Qav, Int.toNat_natCast]
 unfold Qgi Qso
 rw [Int.toNat_natCast]
 by_cases hk : k + 1 < l.length
 ·rw [show ilt ((k + 1 : Nat) : Int) (llen l) = true from decide_eq_true (by simp only [llen]; omega), Qac, decide_eq_true hk, Qac, if_pos hk]
 ·rw [show ilt ((k + 1 : Nat) : Int) (llen l) = false from decide_eq_false (by simp only [llen]; omega), Qaf, decide_eq_true (show k < l.length by omega), Qac, if_neg hk]
def QEX : Ent := spec (.pr (.sl Qad) (.pr tI .nil)) (fun x => (Qhk x.1 x.2.1)) (fun x => (.t tI (Qgi x.1 x.2.1)))
theorem QSD : Meets Tryz.prog 142 (strip QEX) := Qag (R := runF QAG QwT QGj false) (mG Tryz.func142 (by kernel_rfl) Tryz.ntmps142 (by kernel_rfl) QVo QTR) fun x hok => (e_f142 x.1 x.2.1).trans (s_f142 x.1 x.2.1 hok)
def QyM (l : List Qaa) (e : Int) (k : Nat) : Bool :=
 bif ieq e 11 then decide (k + 1 < l.length) && sne (cAt l k).2.1 (cAt l (k + 1)).2.2.1
 else bif ieq e 15 then !pathF l k else !QkK (cAt l k) (Qso l k)
def QhT (l : List Qaa) (e : Int) (k : Nat) : Bool := (List.range' k (l.length - k)).any (QyM l e)
def Qcs (l : List Qaa) (e : Int) : Bool := QhT l e 0
theorem QCB (l : List Qaa) (e : Int) : QhT l e l.length = false := by
 unfold QhT
 rw [Nat.sub_self]
 rfl
theorem QyN {l : List Qaa} {e : Int} {k : Nat} (hk : k < l.length) : QhT l e k = (QyM l e k || QhT l e (k + 1)) := by
 have : l.length - k = (l.length - (k + 1)) + 1 := by omega
 unfold QhT
 rw [this, List.range'_succ, List.any_cons]
def Qp9 (l : List Qaa) (_e : Int) : Bool := QaV l
noncomputable def QKD : List DO := dT Tryz.f100 7
noncomputable def QKC : List DO := dT Tryz.f100 10
def Qg5 : Fg := ⟨[(0, some (.sl Qad)), (1, some tI), (8, some tI), (9, some tI)], []⟩
noncomputable def QiU : TC := (.sq (.reg (rT Tryz.f100 2)) (.sq (.cd (.t 10) .sk (.fg ⟨[], []⟩ (.ex 0))) (.sq (.bk 1 (.sq (.reg (rT Tryz.f100 3)) (.sq (.reg (rT Tryz.f100 4)) (.sq (.sq (.reg (rT Tryz.f100 5)) (.bk 2 (.sq (.reg (rT Tryz.f100 6)) (.cd (.t 22) (.dr QKD [(0, []), (1, []), (2, []), (3, []), (4, []), (5, []), (6, []), (7, []), (8, []), (9, []), (10, []), (11, []), (12, []), (13, []), (14, []), (15, []), (16, []), (17, []), (18, []), (19, [])] (.of [0, 1, 2, 3, 4, 5, 6, 7, 8, 9, 10, 11, 12, 13, 14, 15, 16, 17, 18, 19])) (.sq (.reg (rT Tryz.f100 8)) (.cd (.t 43) (.reg (rT Tryz.f100 9)) (.dr QKC [(0, []), (1, []), (2, []), (3, []), (4, []), (5, []), (6, []), (7, []), (8, []), (9, [])] (.of [0, 1, 2, 3, 4, 5, 6, 7, 8, 9])))))))) (.sq (.reg (rT Tryz.f100 11)) (.cd (.t 49) (.sq (.reg (rT Tryz.f100 12)) (.fg ⟨[(4, some .bool)], []⟩ .rt)) .sk)))))) (.reg (rT Tryz.f100 13)))))
noncomputable def Qxf : TC := (.sq (.reg (rT Tryz.f100 0)) (.sq (.sq (.reg (rT Tryz.f100 1)) (.bk 0 (.lp 0 Qg5 QiU))) (.sq (.reg (rT Tryz.f100 14)) .rt)))
def QGF : List (RV × Option Ty) := [((.t 4), some .bool)]
abbrev QoT : Sh := ⟨[(0, .ty (.sl Qad)), (1, .ty tI), (8, .ty tI), (9, .ty tI)], []⟩
def QeP (x0 : List Qaa) (x1 x8 x9 : Int) : VS := QoT.st (x0, x1, x8, x9, ()) ()
abbrev Qsm : Sh := ⟨[(4, .ty .bool)], []⟩
def Qbe (x4 : Bool) : VS := Qsm.st (x4, ()) ()
abbrev QuB : Sh := ⟨[], []⟩
def Qeg  : VS := QuB.st () ()
def QPu : VS → Option (Bool × List (Bool × Exit × VS)) := mkL QoT (fun x y => (decide (x.2.2.1 = x.1.length ∧ 0 ≤ x.2.2.2.1 ∧ x.2.2.2.1 ≤ x.2.2.1) && QaV x.1)) (fun x y => [((QhT x.1 x.2.1 x.2.2.2.1.toNat), .ret, Qbe (true)), (true, .exit 0, Qeg)])
def QlO : G := ⟨TYs, [], 51, EL [(140, QEZ), (141, QEY), (142, QEX)], keeps, (Ls [QPu]), IL [], RL []⟩
def QBN (x0 : List Qaa) (x1 x8 x9 : Int) : Option (Exit × VS) :=
 let a1 := iadd .i64 x9 1
 let a2 := lgt Qad x0 (Int.toNat x9)
 br (ilt x9 x8) (br (ieq x1 11) (br (ilt a1 (llen x0)) (br (cIx x0 x9) (br (cIx x0 a1) (br (sne ((a2.2).1) ((((lgt Qad x0 (Int.toNat a1)).2).2).1)) (some (.ret, Qbe true)) (some (.normal, QeP x0 x1 x8 a1))) none) none) (some (.normal, QeP x0 x1 x8 a1))) (br (ieq x1 15) (br (Qpg x0 x9) (br (!(pathF x0 x9)) (some (.ret, Qbe true)) (some (.normal, QeP x0 x1 x8 a1))) none) (br (cIx x0 x9) (br (Qhk x0 x9) (br (QeC a2 (Qgi x0 x9)) (br (!(QkK a2 (Qgi x0 x9))) (some (.ret, Qbe true)) (some (.normal, QeP x0 x1 x8 a1))) none) none) none))) (some (.exit 0, Qeg))
noncomputable def Qdy (x0 : List Qaa) (x1 x8 x9 : Int) : Option (Exit × VS) := loopF (Qak QlO Qg5 QiU) (QeP x0 x1 x8 x9)
noncomputable def QmX (x0 : List Qaa) (x1 x8 x9 : Int) : Option (Exit × VS) :=
 let a1 := iadd .i64 x9 1
 let a2 := lgt Qad x0 (Int.toNat x9)
 br (ilt x9 x8) (br (ieq x1 11) (br (ilt a1 (llen x0)) (br (cIx x0 x9) (br (cIx x0 a1) (br (sne ((a2.2).1) ((((lgt Qad x0 (Int.toNat a1)).2).2).1)) (some (.ret, Qbe true)) (Qdy x0 x1 x8 a1)) none) none) (Qdy x0 x1 x8 a1)) (br (ieq x1 15) (br (Qpg x0 x9) (br (!(pathF x0 x9)) (some (.ret, Qbe true)) (Qdy x0 x1 x8 a1)) none) (br (cIx x0 x9) (br (Qhk x0 x9) (br (QeC a2 (Qgi x0 x9)) (br (!(QkK a2 (Qgi x0 x9))) (some (.ret, Qbe true)) (Qdy x0 x1 x8 a1)) none) none) none))) (some (.exit 0, Qeg))
def Qj3 (x0 : List Qaa) (x1 x8 x9 : Int) : Option (Exit × VS) := br (QhT x0 x1 x9.toNat) (some (.ret, Qbe (true))) <| some (.exit 0, Qeg)
theorem QLr (x0 : List Qaa) (x1 x8 x9 : Int) : Qak QlO Qg5 QiU (QeP x0 x1 x8 x9) = QBN x0 x1 x8 x9 := by kernel_rfl
theorem Qvx (x0 : List Qaa) (x1 x8 x9 : Int) : Qdy x0 x1 x8 x9 = QmX x0 x1 x8 x9 := (Qao _ _).trans (by
 rw [QLr]
 simp only [QBN, QmX, Qay, nxt_n, nxt_r, nxt_e, nxt_0]
 rfl)
def QHP (p0 : List Qaa) (p1 : Int) : Option (V × List VO) := br (decide ((llen p0) = p0.length ∧ 0 ≤ (0 : Int) ∧ (0 : Int) ≤ (llen p0)) && QaV p0) (br (QhT p0 p1 (0 : Int).toNat) (some (.t .bool (true), [])) (some (.t .bool false, []))) none
theorem e_f100 (p0 : List Qaa) (p1 : Int) : runF QlO Qxf QGF false [.t (.sl Qad) p0, .t tI p1] [] = QHP p0 p1 := by kernel_rfl
theorem QWC : Qai Tryz.prog 100 := .inr ⟨by decide, _, Tryz.func100, by kernel_rfl, by kernel_rfl⟩
theorem QVK : GOk Tryz.prog QlO := Qal _ (gA (gC QWn QSF (gC QWm QSE (gC QWl QSD gN))))
theorem QND (x0 : List Qaa) (x1 x8 x9 : Int) (h : (decide (x8 = x0.length ∧ 0 ≤ x9 ∧ x9 ≤ x8) && QaV x0) = true) : Qdy x0 x1 x8 x9 = Qj3 x0 x1 x8 x9 := by
 simp only [Bool.and_eq_true, decide_eq_true_eq] at h
 obtain ⟨⟨rfl, h0, h1⟩, hc⟩ := h
 obtain ⟨k, rfl⟩ := Int.eq_ofNat_of_zero_le h0
 have hl := Qkt hc
 refine Qat x0 (fun k => Qdy x0 x1 (x0.length : Int) (k : Int) = Qj3 x0 x1 (x0.length : Int) (k : Int)) ?_ ?_ k (by omega)
 ·rw [Qvx]
  simp only [QmX, Qj3, Qar, Nat.lt_irrefl, decide_false, Qaf, Int.toNat_natCast, QCB]
 ·intro k hk ih
  rw [Qvx]
  have hx := Qqr hc hk
  have hs : Qhk x0 (k : Int) = true := decide_eq_true (by omega)
  have hp : Qpg x0 (k : Int) = true := decide_eq_true hl
  simp only [QmX, Qar, Qav, hk, decide_true, Qac, Int.toNat_natCast, add1N (show k < 4611686018427387904 by omega), add1 (show k < 4611686018427387904 by omega), hs, hp, ih, show lgt Qad x0 k = cAt x0 k from rfl, show ∀ q, QeC (cAt x0 k) q = true from fun q => QKQ hc hk, Qgi]
  simp only [Qj3, Int.toNat_natCast, QyN hk, QyM]
  cases h1 : ieq x1 11 with
  | true =>
   rw [Qac, cond_true]
   by_cases hk2 : k + 1 < x0.length
   ·rw [decide_eq_true hk2, Qac, Qac, Bool.true_and]
    show br (sne (cAt x0 k).2.1 (cAt x0 (k + 1)).2.2.1) _ _ = _
    cases sne (cAt x0 k).2.1 (cAt x0 (k + 1)).2.2.1 <;> rfl
   ·rw [decide_eq_false hk2, Qaf, Bool.false_and, Bool.false_or]
  | false =>
   rw [Qaf, cond_false]
   cases h2 : ieq x1 15 with
   | true =>
    rw [Qac, cond_true]
    cases pathF x0 (k : Int) <;> rfl
   | false =>
    rw [Qaf, cond_false]
    cases QkK (cAt x0 k) (Qso x0 k) <;> rfl
theorem QI6 : ∀ S l p, QlO.L 0 (fgt Qg5 S) = some (true, l) → pickA l = some p → loopF (Qak QlO Qg5 QiU) S = some p :=
 QaD (s := QoT) ⟨by decide, by decide⟩ (by kernel_rfl) fun x y hok p hp => by
 simp only [Qaq, Qan] at hp
 exact (QND x.1 x.2.1 x.2.2.1 x.2.2.2.1 (by simpa using hok)).trans hp
theorem QUd : Qxf.lok QlO := by
 repeat (first | exact trivial | exact QI6 | refine ⟨?_, ?_⟩)
theorem s_f100 (l : List Qaa) (e : Int) (h : Qp9 l e = true) : QHP l e = some (.t .bool (Qcs l e), []) := by
 have h : QaV l = true := h
 simp only [QHP, h, Bool.and_true, Int.toNat_zero]
 rw [decide_eq_true ⟨trivial, Int.le_refl 0, by simp only [llen]; omega⟩, Qac]
 unfold Qcs
 cases QhT l e 0 <;> rfl
def QFf : Ent := spec (.pr (.sl Qad) (.pr tI .nil)) (fun x => (Qp9 x.1 x.2.1)) (fun x => (.t .bool (Qcs x.1 x.2.1)))
theorem QSU : Meets Tryz.prog 100 (strip QFf) := Qag (R := runF QlO Qxf QGF false) (mG Tryz.func100 (by kernel_rfl) Tryz.ntmps100 (by kernel_rfl) QVK QUd) fun x hok => (e_f100 x.1 x.2.1).trans (s_f100 x.1 x.2.1 hok)
def heldF (c : Qaa) (h : List Int) (d e : Int) : Bool := bif ieq e 13 then ilt d c.2.2.2.2.2.2.1 || ige d c.2.2.2.2.2.2.2.1 else !hasF h c.2.2.2.2.2.1.1
def Qln (_c : Qaa) (h : List Int) (_d _e : Int) : Bool := decide (h.length ≤ 100000)
noncomputable def QDi : TC := (.sq (.reg (rT Tryz.f99 0)) (.sq (.sq (.reg (rT Tryz.f99 1)) (.cd (.t 10) (.sq (.reg (rT Tryz.f99 2)) .rt) .sk)) (.sq (.reg (rT Tryz.f99 3)) .rt)))
def QP0 : List (RV × Option Ty) := [((.t 8), some .bool)]
def g_f99 : G := ⟨TYs, [], 27, EL [(101, QkI)], keeps, (fun _ _ => none), IL [], RL []⟩
def r_f99 (p0 : Qaa) (p1 : List Int) (p2 p3 : Int) : Option (V × List VO) := br (ieq p3 13) (br (ilt p2 p0.2.2.2.2.2.2.1) (some (.t .bool true, [])) (some (.t .bool (ige p2 p0.2.2.2.2.2.2.2.1), []))) (br (QbR p1 p0.2.2.2.2.2.1.1) (some (.t .bool (!(hasF p1 p0.2.2.2.2.2.1.1)), [])) none)
theorem e_f99 (p0 : Qaa) (p1 : List Int) (p2 p3 : Int) : runF g_f99 QDi QP0 false [.t Qad p0, .t (.sl tI) p1, .t tI p2, .t tI p3] [] = r_f99 p0 p1 p2 p3 := by kernel_rfl
theorem en_f99 : Qai Tryz.prog 99 := .inr ⟨by decide, _, Tryz.func99, by kernel_rfl, by kernel_rfl⟩
theorem gk_f99 : GOk Tryz.prog g_f99 := Qal _ (gA (gC Qqm Qpu gN))
theorem lk_f99 : QDi.lok g_f99 := by repeat (first | exact trivial | refine ⟨?_, ?_⟩)
theorem s_f99 (c : Qaa) (h : List Int) (d e : Int) (hok : Qln c h d e = true) : r_f99 c h d e = some (.t .bool (heldF c h d e), []) := by
 simp only [r_f99, show ∀ v, QbR h v = true from fun _ => hok, Qac]
 unfold heldF
 cases ieq e 13 with
 | false => rfl
 | true =>
  rw [Qac, cond_true]
  cases ilt d c.2.2.2.2.2.2.1 <;> rfl
def QPy : Ent := spec (.pr Qad (.pr (.sl tI) (.pr tI (.pr tI .nil)))) (fun x => (Qln x.1 x.2.1 x.2.2.1 x.2.2.2.1)) (fun x => (.t .bool (heldF x.1 x.2.1 x.2.2.1 x.2.2.2.1)))
theorem ms_f99 : Meets Tryz.prog 99 (strip QPy) := Qag (R := runF g_f99 QDi QP0 false) (mG Tryz.func99 (by kernel_rfl) Tryz.ntmps99 (by kernel_rfl) gk_f99 lk_f99) fun x hok => (e_f99 x.1 x.2.1 x.2.2.1 x.2.2.2.1).trans (s_f99 x.1 x.2.1 x.2.2.1 x.2.2.2.1 hok)
def badC (c : Qaa) : Bool := !QaE c
noncomputable def QDm : TC := (.sq (.reg (rT Tryz.f95 0)) (.sq (.reg (rT Tryz.f95 1)) .rt))
def QP4 : List (RV × Option Ty) := [((.t 2), some .bool)]
def g_f95 : G := ⟨TYs, [], 6, EL [(96, QD8)], keeps, (fun _ _ => none), IL [], RL []⟩
def r_f95 (p0 : Qaa) : Option (V × List VO) := br (QaG p0) (some (.t .bool (ine (QeX p0) 0), [])) none
theorem e_f95 (p0 : Qaa) : runF g_f95 QDm QP4 false [.t Qad p0] [] = r_f95 p0 := by kernel_rfl
theorem en_f95 : Qai Tryz.prog 95 := .inr ⟨by decide, _, Tryz.func95, by kernel_rfl, by kernel_rfl⟩
theorem gk_f95 : GOk Tryz.prog g_f95 := Qal _ (gA (gC QRg QQ0 gN))
theorem lk_f95 : QDm.lok g_f95 := by repeat (first | exact trivial | refine ⟨?_, ?_⟩)
theorem s_f95 (c : Qaa) (h : QaG c = true) : r_f95 c = some (.t .bool (badC c), []) := by
 simp only [r_f95, h, Qac, Qg6]
 rfl
def QPB : Ent := spec (.pr Qad .nil) (fun x => (QaG x.1)) (fun x => (.t .bool (badC x.1)))
theorem ms_f95 : Meets Tryz.prog 95 (strip QPB) := Qag (R := runF g_f95 QDm QP4 false) (mG Tryz.func95 (by kernel_rfl) Tryz.ntmps95 (by kernel_rfl) gk_f95 lk_f95) fun x hok => (e_f95 x.1).trans (s_f95 x.1 hok)
def okBad (l : List Qaa) : Bool := QaV l
theorem QH0 {l : List Qaa} (h : okBad l = true) : l.length ≤ 100000 := Qkt h
def ixBad (l : List Qaa) : Int := match fstG badC l with | some k => (k : Int) | none => -1
def QcW : Fg := ⟨[(0, some (.sl Qad)), (1, none), (7, some tI), (8, some tI)], []⟩
noncomputable def QdJ : TC := (.sq (.reg (rT Tryz.f137 2)) (.sq (.cd (.t 9) .sk (.fg ⟨[], []⟩ (.ex 0))) (.sq (.bk 1 (.sq (.reg (rT Tryz.f137 3)) (.sq (.reg (rT Tryz.f137 4)) (.cd (.t 16) (.sq (.reg (rT Tryz.f137 5)) (.fg ⟨[(4, some tI)], []⟩ .rt)) .sk)))) (.reg (rT Tryz.f137 6)))))
noncomputable def QkE : TC := (.sq (.reg (rT Tryz.f137 0)) (.sq (.sq (.reg (rT Tryz.f137 1)) (.bk 0 (.lp 0 QcW QdJ))) (.sq (.reg (rT Tryz.f137 7)) .rt)))
def Qq3 : List (RV × Option Ty) := [((.t 4), some tI)]
abbrev Qgc : Sh := ⟨[(0, .ty (.sl Qad)), (1, .cf 95), (7, .ty tI), (8, .ty tI)], []⟩
def Qf0 (x0 : List Qaa) (x7 x8 : Int) : VS := Qgc.st (x0, (), x7, x8, ()) ()
abbrev QlZ : Sh := ⟨[(4, .ty tI)], []⟩
def QbZ (x4 : Int) : VS := QlZ.st (x4, ()) ()
abbrev QoI : Sh := ⟨[], []⟩
def Qcj  : VS := QoI.st () ()
def Qzf : VS → Option (Bool × List (Bool × Exit × VS)) := mkL Qgc (fun x y => (rngOk x.1 x.2.2.1 x.2.2.2.1 && okBad x.1)) (fun x y => [(((fstG badC (x.1.drop x.2.2.2.1.toNat)).isSome), .ret, QbZ (x.2.2.2.1 + ((fstG badC (x.1.drop x.2.2.2.1.toNat)).getD 0 : Nat))), (true, .exit 0, Qcj)])
def QcR : G := ⟨TYs, [], 19, EL [(95, QPB)], keeps, (Ls [Qzf]), IL [], RL []⟩
def Qqv (x0 : List Qaa) (x7 x8 : Int) : Option (Exit × VS) :=
 let a1 := lgt Qad x0 (Int.toNat x8)
 br (ilt x8 x7) (br (cIx x0 x8) (br (QaG a1) (br (badC a1) (some (.ret, QbZ x8)) (some (.normal, Qf0 x0 x7 (iadd .i64 x8 1)))) none) none) (some (.exit 0, Qcj))
noncomputable def Qen (x0 : List Qaa) (x7 x8 : Int) : Option (Exit × VS) := loopF (Qak QcR QcW QdJ) (Qf0 x0 x7 x8)
noncomputable def Qfr (x0 : List Qaa) (x7 x8 : Int) : Option (Exit × VS) :=
 let a1 := lgt Qad x0 (Int.toNat x8)
 br (ilt x8 x7) (br (cIx x0 x8) (br (QaG a1) (br (badC a1) (some (.ret, QbZ x8)) (Qen x0 x7 (iadd .i64 x8 1))) none) none) (some (.exit 0, Qcj))
def Qer (x0 : List Qaa) (x7 x8 : Int) : Option (Exit × VS) :=
 let a1 := fstG badC (x0.drop x8.toNat)
 br (a1.isSome) (some (.ret, QbZ (x8 + (a1.getD 0 : Nat)))) <| some (.exit 0, Qcj)
theorem QvX (x0 : List Qaa) (x7 x8 : Int) : Qak QcR QcW QdJ (Qf0 x0 x7 x8) = Qqv x0 x7 x8 := by kernel_rfl
theorem Qlj (x0 : List Qaa) (x7 x8 : Int) : Qen x0 x7 x8 = Qfr x0 x7 x8 := (Qao _ _).trans (by
 rw [QvX]
 simp only [Qqv, Qfr, Qay, nxt_n, nxt_r, nxt_e, nxt_0]
 rfl)
def Qpc (p0 : List Qaa) : Option (V × List VO) :=
 let a1 := (fstG badC (p0.drop (0 : Int).toNat))
 br (rngOk p0 (llen p0) (0 : Int) && okBad p0) (br (a1.isSome) (some (.t tI ((0 : Int) + (a1.getD 0 : Nat)), [])) (some (.t tI (-1), []))) none
theorem QKo (p0 : List Qaa) : runF QcR QkE Qq3 false [.t (.sl Qad) p0, .c (.func (.func 95) ⟨[]⟩ ⟨[]⟩)] [] = Qpc p0 := by kernel_rfl
theorem QCG : Qai Tryz.prog 137 := .inr ⟨by decide, _, Tryz.func137, by kernel_rfl, by kernel_rfl⟩
theorem QCx : GOk Tryz.prog QcR := Qal _ (gA (gC en_f95 ms_f95 gN))
theorem Qyx (x0 : List Qaa) (x7 x8 : Int) (h : (rngOk x0 x7 x8 && okBad x0) = true) : Qen x0 x7 x8 = Qer x0 x7 x8 := by
 simp only [Bool.and_eq_true] at h
 obtain ⟨h0, hc⟩ := h
 obtain ⟨rfl, h3, k, rfl, hk⟩ := rng_k h0
 clear h0
 refine Qat x0 (fun k => Qen x0 (x0.length : Int) (k : Int) = Qer x0 (x0.length : Int) (k : Int)) ?_ ?_ k hk
 ·rw [Qlj]
  simp [Qfr, Qer, Qar, Qaf, fstG]
 ·intro k hk ih
  rw [Qlj]
  have hx := Qqr hc hk
  simp only [Qfr, Qar, Qav, hk, decide_true, Qac, Int.toNat_natCast, add1 (show k < 4611686018427387904 by omega), ih, QaA (y := Qad) hk, hx]
  simp only [Qer, Int.toNat_natCast, List.drop_eq_getElem_cons hk, fstG]
  cases h : (badC x0[k]) with
  | true => simp [Qac]
  | false =>
   simp only [Qaf, Bool.false_eq_true, if_false]
   cases hq : fstG badC (x0.drop (k + 1)) with
   | none => rfl
   | some j =>
    simp only [Option.map_some, Option.isSome_some, Option.getD_some, Qac]
    congr 3
    omega
theorem Qu2 : ∀ S l p, QcR.L 0 (fgt QcW S) = some (true, l) → pickA l = some p → loopF (Qak QcR QcW QdJ) S = some p :=
 QaD (s := Qgc) ⟨by decide, by decide⟩ (by kernel_rfl) fun x y hok p hp => by
 simp only [Qaq, Qan] at hp
 exact (Qyx x.1 x.2.2.1 x.2.2.2.1 (by simpa using hok)).trans hp
theorem QCn : QkE.lok QcR := by
 repeat (first | exact trivial | exact Qu2 | refine ⟨?_, ?_⟩)
theorem QFu (l : List Qaa) (h : okBad l = true) : Qpc l = some (.t tI (ixBad l), []) := by
 have hl := QH0 h
 simp only [Qpc, rng_0 hl, h, Bool.and_self, Qac, Int.toNat_zero, List.drop_zero, ixBad]
 cases fstG badC l <;> simp [Qac, Qaf]
def QqY : Ent := specH [.ty (.sl Qad), .cf 95] [] (fun x d => (okBad x.1)) (fun x d => (.t tI (ixBad x.1)))
theorem QCh : Meets Tryz.prog 137 (strip QqY) := (QaQ (R := runF QcR QkE Qq3 false) (mG Tryz.func137 (by kernel_rfl) Tryz.ntmps137 (by kernel_rfl) QCx QCn) fun x d hok => (QKo x.1).trans (QFu x.1 hok))
def QlW (l : List Qaa) : Bool := l.any badC
noncomputable def Qnt : TC := (.sq (.reg (rT Tryz.f94 0)) (.sq (.reg (rT Tryz.f94 1)) .rt))
def QuD : List (RV × Option Ty) := [((.t 4), some .bool)]
def Qne : G := ⟨TYs, [], 9, EL [(137, QqY)], keeps, (fun _ _ => none), IL [], RL []⟩
def Qsu (p0 : List Qaa) : Option (V × List VO) := br (okBad p0) (some (.t .bool (ige (ixBad p0) 0), [])) none
theorem QOb (p0 : List Qaa) : runF Qne Qnt QuD false [.t (.sl Qad) p0, .c (.func (.func 95) ⟨[]⟩ ⟨[]⟩)] [] = Qsu p0 := by kernel_rfl
theorem QJS : Qai Tryz.prog 94 := .inr ⟨by decide, _, Tryz.func94, by kernel_rfl, by kernel_rfl⟩
theorem QJD : GOk Tryz.prog Qne := Qal _ (gA (gC QCG QCh gN))
theorem QJd : Qnt.lok Qne := by repeat (first | exact trivial | refine ⟨?_, ?_⟩)
theorem QMf (l : List Qaa) (h : okBad l = true) : Qsu l = some (.t .bool (QlW l), []) := by
 simp only [Qsu, h, Qac]
 have e : ige (ixBad l) 0 = QlW l := by
  unfold ixBad QlW
  cases hq : fstG badC l with
  | none => rw [QbW.1 hq]; rfl
  | some k =>
   rw [← QbA, hq]
   simp only [ige, Option.isSome_some, decide_eq_true_eq]
   omega
 rw [e]
def QtP : Ent := specH [.ty (.sl Qad), .cf 95] [] (fun x d => (okBad x.1)) (fun x d => (.t .bool (QlW x.1)))
theorem QH9 : Meets Tryz.prog 94 (strip QtP) := (QaQ (R := runF Qne Qnt QuD false) (mG Tryz.func94 (by kernel_rfl) Tryz.ntmps94 (by kernel_rfl) QJD QJd) fun x d hok => (QOb x.1).trans (QMf x.1 hok))
noncomputable def QDj : TC := (.sq (.reg (rT Tryz.f98 0)) (.sq (.reg (rT Tryz.f98 1)) .rt))
def QP1 : List (RV × Option Ty) := [((.t 5), some .bool)]
def g_f98 : G := ⟨TYs, [], 11, EL [(99, QPy)], keeps, (fun _ _ => none), IL [], RL []⟩
def r_f98 (p0 : Qaa) (d0 : List Int) (d1 d2 : Int) : Option (V × List VO) := br (Qln p0 d0 d1 d2) (some (.t .bool (heldF p0 d0 d1 d2), [.box (.t (.sl tI) d0), .box (.t tI d1), .box (.t tI d2)])) none
theorem e_f98 (p0 : Qaa) (d0 : List Int) (d1 d2 : Int) : runF g_f98 QDj QP1 false [.t Qad p0, .ptr 50000 0, .ptr 50001 0, .ptr 50002 0] [.box (.t (.sl tI) d0), .box (.t tI d1), .box (.t tI d2)] = r_f98 p0 d0 d1 d2 := by kernel_rfl
theorem en_f98 : Qai Tryz.prog 98 := .inr ⟨by decide, _, Tryz.func98, by kernel_rfl, by kernel_rfl⟩
theorem gk_f98 : GOk Tryz.prog g_f98 := Qal _ (gA (gC en_f99 ms_f99 gN))
theorem lk_f98 : QDj.lok g_f98 := by repeat (first | exact trivial | refine ⟨?_, ?_⟩)
theorem s_f98 (c : Qaa) (h : List Int) (d e : Int) (hok : Qln c h d e = true) : r_f98 c h d e = some (.t .bool (heldF c h d e), [.box (.t (.sl tI) h), .box (.t tI d), .box (.t tI e)]) := by
 simp only [r_f98, hok, Qac]
def QPz : Ent := QfO [.ty Qad, .ptr 50000 0, .ptr 50001 0, .ptr 50002 0] [(.sl tI), tI, tI] (fun x d => (Qln x.1 d.1 d.2.1 d.2.2.1)) (fun x d => (.t .bool (heldF x.1 d.1 d.2.1 d.2.2.1)))
theorem ms_f98 : Meets Tryz.prog 98 (strip QPz) := Qcn (QaQ (R := runF g_f98 QDj QP1 false) (mG Tryz.func98 (by kernel_rfl) Tryz.ntmps98 (by kernel_rfl) gk_f98 lk_f98) fun x d hok => (e_f98 x.1 d.1 d.2.1 d.2.2.1).trans (s_f98 x.1 d.1 d.2.1 d.2.2.1 hok))
def Qc5 (l : List Qaa) (h : List Int) (_d _e : Int) : Bool := decide (l.length ≤ 100000 ∧ h.length ≤ 100000)
theorem QCd {l : List Qaa} {h : List Int} {d e : Int} (hq : Qc5 l h d e = true) : l.length ≤ 100000 := (of_decide_eq_true hq).1
def Qrf (l : List Qaa) (d0 : List Int) (d1 : Int) (d2 : Int) : Int := match fstG (fun c => heldF c d0 d1 d2) l with | some k => (k : Int) | none => -1
def QcV : Fg := ⟨[(0, some (.sl Qad)), (1, none), (7, some tI), (8, some tI)], [(50000, some (.sl tI)), (50001, some tI), (50002, some tI)]⟩
noncomputable def QdI : TC := (.sq (.reg (rT Tryz.f137 2)) (.sq (.cd (.t 9) .sk (.fg ⟨[], [(50000, some (.sl tI)), (50001, some tI), (50002, some tI)]⟩ (.ex 0))) (.sq (.bk 1 (.sq (.reg (rT Tryz.f137 3)) (.sq (.reg (rT Tryz.f137 4)) (.cd (.t 16) (.sq (.reg (rT Tryz.f137 5)) (.fg ⟨[(4, some tI)], [(50000, some (.sl tI)), (50001, some tI), (50002, some tI)]⟩ .rt)) .sk)))) (.reg (rT Tryz.f137 6)))))
noncomputable def QkD : TC := (.sq (.reg (rT Tryz.f137 0)) (.sq (.sq (.reg (rT Tryz.f137 1)) (.bk 0 (.lp 0 QcV QdI))) (.sq (.reg (rT Tryz.f137 7)) .rt)))
def Qq2 : List (RV × Option Ty) := [((.t 4), some tI)]
abbrev Qgb : Sh := ⟨[(0, .ty (.sl Qad)), (1, .fn 98 [(50000, 0), (50001, 0), (50002, 0)]), (7, .ty tI), (8, .ty tI)], [(50000, .box (.sl tI)), (50001, .box tI), (50002, .box tI)]⟩
def QfZ (x0 : List Qaa) (x7 x8 : Int) (y50000 : List Int) (y50001 y50002 : Int) : VS := Qgb.st (x0, (), x7, x8, ()) (y50000, y50001, y50002, ())
abbrev QlY : Sh := ⟨[(4, .ty tI)], [(50000, .box (.sl tI)), (50001, .box tI), (50002, .box tI)]⟩
def QbY (x4 : Int) (y50000 : List Int) (y50001 y50002 : Int) : VS := QlY.st (x4, ()) (y50000, y50001, y50002, ())
abbrev QoH : Sh := ⟨[], [(50000, .box (.sl tI)), (50001, .box tI), (50002, .box tI)]⟩
def Qci (y50000 : List Int) (y50001 y50002 : Int) : VS := QoH.st () (y50000, y50001, y50002, ())
def Qze : VS → Option (Bool × List (Bool × Exit × VS)) := mkL Qgb (fun x y => (rngOk x.1 x.2.2.1 x.2.2.2.1 && Qc5 x.1 y.1 y.2.1 y.2.2.1)) (fun x y => [(((fstG (fun c => heldF c y.1 y.2.1 y.2.2.1) (x.1.drop x.2.2.2.1.toNat)).isSome), .ret, QbY (x.2.2.2.1 + ((fstG (fun c => heldF c y.1 y.2.1 y.2.2.1) (x.1.drop x.2.2.2.1.toNat)).getD 0 : Nat)) (y.1) (y.2.1) (y.2.2.1)), (true, .exit 0, Qci (y.1) (y.2.1) (y.2.2.1))])
def QcQ : G := ⟨TYs, [], 19, EL [(98, QPz)], keeps, (Ls [Qze]), IL [], RL []⟩
def Qqu (x0 : List Qaa) (x7 x8 : Int) (y50000 : List Int) (y50001 y50002 : Int) : Option (Exit × VS) :=
 let a1 := lgt Qad x0 (Int.toNat x8)
 br (ilt x8 x7) (br (cIx x0 x8) (br (Qln a1 y50000 y50001 y50002) (br (heldF a1 y50000 y50001 y50002) (some (.ret, QbY x8 y50000 y50001 y50002)) (some (.normal, QfZ x0 x7 (iadd .i64 x8 1) y50000 y50001 y50002))) none) none) (some (.exit 0, Qci y50000 y50001 y50002))
noncomputable def Qem (x0 : List Qaa) (x7 x8 : Int) (y50000 : List Int) (y50001 y50002 : Int) : Option (Exit × VS) := loopF (Qak QcQ QcV QdI) (QfZ x0 x7 x8 y50000 y50001 y50002)
noncomputable def Qfq (x0 : List Qaa) (x7 x8 : Int) (y50000 : List Int) (y50001 y50002 : Int) : Option (Exit × VS) :=
 let a1 := lgt Qad x0 (Int.toNat x8)
 br (ilt x8 x7) (br (cIx x0 x8) (br (Qln a1 y50000 y50001 y50002) (br (heldF a1 y50000 y50001 y50002) (some (.ret, QbY x8 y50000 y50001 y50002)) (Qem x0 x7 (iadd .i64 x8 1) y50000 y50001 y50002)) none) none) (some (.exit 0, Qci y50000 y50001 y50002))
def Qeq (x0 : List Qaa) (x7 x8 : Int) (y50000 : List Int) (y50001 y50002 : Int) : Option (Exit × VS) := br ((fstG (fun c => heldF c y50000 y50001 y50002) (x0.drop x8.toNat)).isSome) (some (.ret, QbY (x8 + ((fstG (fun c => heldF c y50000 y50001 y50002) (x0.drop x8.toNat)).getD 0 : Nat)) (y50000) (y50001) (y50002))) <| some (.exit 0, Qci (y50000) (y50001) (y50002))
theorem QvW (x0 : List Qaa) (x7 x8 : Int) (y50000 : List Int) (y50001 y50002 : Int) : Qak QcQ QcV QdI (QfZ x0 x7 x8 y50000 y50001 y50002) = Qqu x0 x7 x8 y50000 y50001 y50002 := by kernel_rfl
theorem Qli (x0 : List Qaa) (x7 x8 : Int) (y50000 : List Int) (y50001 y50002 : Int) : Qem x0 x7 x8 y50000 y50001 y50002 = Qfq x0 x7 x8 y50000 y50001 y50002 := (Qao _ _).trans (by
 rw [QvW]
 simp only [Qqu, Qfq, Qay, nxt_n, nxt_r, nxt_e, nxt_0]
 rfl)
def Qpb (p0 : List Qaa) (d0 : List Int) (d1 d2 : Int) : Option (V × List VO) :=
 let a1 := (p0.drop (0 : Int).toNat)
 br (rngOk p0 (llen p0) (0 : Int) && Qc5 p0 d0 d1 d2) (br ((fstG (fun c => heldF c d0 d1 d2) a1).isSome) (some (.t tI ((0 : Int) + ((fstG (fun c => heldF c d0 d1 d2) a1).getD 0 : Nat)), [.box (.t (.sl tI) (d0)), .box (.t tI (d1)), .box (.t tI (d2))])) (some (.t tI (-1), [.box (.t (.sl tI) (d0)), .box (.t tI (d1)), .box (.t tI (d2))]))) none
theorem QKn (p0 : List Qaa) (d0 : List Int) (d1 d2 : Int) : runF QcQ QkD Qq2 false [.t (.sl Qad) p0, .fn 98 [(.ptr 50000 0), (.ptr 50001 0), (.ptr 50002 0)]] [.box (.t (.sl tI) d0), .box (.t tI d1), .box (.t tI d2)] = Qpb p0 d0 d1 d2 := by kernel_rfl
theorem QCF : Qai Tryz.prog 137 := .inr ⟨by decide, _, Tryz.func137, by kernel_rfl, by kernel_rfl⟩
theorem QCw : GOk Tryz.prog QcQ := Qal _ (gA (gC en_f98 ms_f98 gN))
theorem Qyw (x0 : List Qaa) (x7 x8 : Int) (y50000 : List Int) (y50001 y50002 : Int) (h : (rngOk x0 x7 x8 && Qc5 x0 y50000 y50001 y50002) = true) : Qem x0 x7 x8 y50000 y50001 y50002 = Qeq x0 x7 x8 y50000 y50001 y50002 := by
 simp only [Bool.and_eq_true] at h
 obtain ⟨h0, hc⟩ := h
 obtain ⟨rfl, h3, k, rfl, hk⟩ := rng_k h0
 clear h0
 refine Qat x0 (fun k => Qem x0 (x0.length : Int) (k : Int) y50000 y50001 y50002 = Qeq x0 (x0.length : Int) (k : Int) y50000 y50001 y50002) ?_ ?_ k hk
 ·rw [Qli]
  simp [Qfq, Qeq, Qar, Qaf, fstG]
 ·intro k hk ih
  rw [Qli]
  have hx := show Qln x0[k] y50000 y50001 y50002 = true from decide_eq_true (of_decide_eq_true hc).2
  simp only [Qfq, Qar, Qav, hk, decide_true, Qac, Int.toNat_natCast, add1 (show k < 4611686018427387904 by omega), ih, QaA (y := Qad) hk, hx]
  simp only [Qeq, Int.toNat_natCast, List.drop_eq_getElem_cons hk, fstG]
  cases h : (heldF x0[k] y50000 y50001 y50002) with
  | true => simp [Qac]
  | false =>
   simp only [Qaf, Bool.false_eq_true, if_false]
   cases hq : fstG (fun c => heldF c y50000 y50001 y50002) (x0.drop (k + 1)) with
   | none => rfl
   | some j =>
    simp only [Option.map_some, Option.isSome_some, Option.getD_some, Qac]
    congr 3
    omega
theorem Qu1 : ∀ S l p, QcQ.L 0 (fgt QcV S) = some (true, l) → pickA l = some p → loopF (Qak QcQ QcV QdI) S = some p :=
 QaD (s := Qgb) ⟨by decide, by decide⟩ (by kernel_rfl) fun x y hok p hp => by
 simp only [Qaq, Qan] at hp
 exact (Qyw x.1 x.2.2.1 x.2.2.2.1 y.1 y.2.1 y.2.2.1 (by simpa using hok)).trans hp
theorem QCm : QkD.lok QcQ := by
 repeat (first | exact trivial | exact Qu1 | refine ⟨?_, ?_⟩)
theorem QFt (l : List Qaa) (d0 : List Int) (d1 d2 : Int) (h : Qc5 l d0 d1 d2 = true) : Qpb l d0 d1 d2 = some (.t tI (Qrf l d0 d1 d2), [.box (.t (.sl tI) d0), .box (.t tI d1), .box (.t tI d2)]) := by
 have hl := QCd h
 simp only [Qpb, rng_0 hl, h, Bool.and_self, Qac, Int.toNat_zero, List.drop_zero, Qrf]
 cases fstG (fun c => heldF c d0 d1 d2) l <;> simp [Qac, Qaf]
def QqX : Ent := QfO [.ty (.sl Qad), .fn 98 [(50000, 0), (50001, 0), (50002, 0)]] [(.sl tI), tI, tI] (fun x d => (Qc5 x.1 d.1 d.2.1 d.2.2.1)) (fun x d => (.t tI (Qrf x.1 d.1 d.2.1 d.2.2.1)))
theorem QCg : Meets Tryz.prog 137 (strip QqX) := Qcn (QaQ (R := runF QcQ QkD Qq2 false) (mG Tryz.func137 (by kernel_rfl) Tryz.ntmps137 (by kernel_rfl) QCw QCm) fun x d hok => (QKn x.1 d.1 d.2.1 d.2.2.1).trans (QFt x.1 d.1 d.2.1 d.2.2.1 hok))
def Qb6 (l : List Qaa) (d0 : List Int) (d1 : Int) (d2 : Int) : Bool := l.any (fun c => heldF c d0 d1 d2)
noncomputable def Qns : TC := (.sq (.reg (rT Tryz.f94 0)) (.sq (.reg (rT Tryz.f94 1)) .rt))
def QuC : List (RV × Option Ty) := [((.t 4), some .bool)]
def Qnd : G := ⟨TYs, [], 9, EL [(137, QqX)], keeps, (fun _ _ => none), IL [], RL []⟩
def Qst (p0 : List Qaa) (d0 : List Int) (d1 d2 : Int) : Option (V × List VO) := br (Qc5 p0 d0 d1 d2) (some (.t .bool (ige (Qrf p0 d0 d1 d2) 0), [.box (.t (.sl tI) d0), .box (.t tI d1), .box (.t tI d2)])) none
theorem QOa (p0 : List Qaa) (d0 : List Int) (d1 d2 : Int) : runF Qnd Qns QuC false [.t (.sl Qad) p0, .fn 98 [(.ptr 50000 0), (.ptr 50001 0), (.ptr 50002 0)]] [.box (.t (.sl tI) d0), .box (.t tI d1), .box (.t tI d2)] = Qst p0 d0 d1 d2 := by kernel_rfl
theorem QJR : Qai Tryz.prog 94 := .inr ⟨by decide, _, Tryz.func94, by kernel_rfl, by kernel_rfl⟩
theorem QJC : GOk Tryz.prog Qnd := Qal _ (gA (gC QCF QCg gN))
theorem QJc : Qns.lok Qnd := by repeat (first | exact trivial | refine ⟨?_, ?_⟩)
theorem QMe (l : List Qaa) (d0 : List Int) (d1 d2 : Int) (h : Qc5 l d0 d1 d2 = true) : Qst l d0 d1 d2 = some (.t .bool (Qb6 l d0 d1 d2), [.box (.t (.sl tI) d0), .box (.t tI d1), .box (.t tI d2)]) := by
 simp only [Qst, h, Qac]
 have e : ige (Qrf l d0 d1 d2) 0 = Qb6 l d0 d1 d2 := by
  unfold Qrf Qb6
  cases hq : fstG (fun c => heldF c d0 d1 d2) l with
  | none => rw [QbW.1 hq]; rfl
  | some k =>
   rw [← QbA, hq]
   simp only [ige, Option.isSome_some, decide_eq_true_eq]
   omega
 rw [e]
def QtO : Ent := QfO [.ty (.sl Qad), .fn 98 [(50000, 0), (50001, 0), (50002, 0)]] [(.sl tI), tI, tI] (fun x d => (Qc5 x.1 d.1 d.2.1 d.2.2.1)) (fun x d => (.t .bool (Qb6 x.1 d.1 d.2.1 d.2.2.1)))
theorem QH8 : Meets Tryz.prog 94 (strip QtO) := Qcn (QaQ (R := runF Qnd Qns QuC false) (mG Tryz.func94 (by kernel_rfl) Tryz.ntmps94 (by kernel_rfl) QJC QJc) fun x d hok => (QOa x.1 d.1 d.2.1 d.2.2.1).trans (QMe x.1 d.1 d.2.1 d.2.2.1 hok))
end
end Go.Proofs.YtckcgijklnloiaaGreat.K
namespace Go.Proofs.YtckcgijklnloiaaGreat.K
open Go.RowKit
noncomputable section
abbrev lastC (l : List Qaa) : Qaa := cAt l (l.length - 1)
def chkCh (l : List Qaa) (a h : List Int) (d : Int) (n : ByteArray) : Int :=
 if l.length = 0 then 4 else if 8 < l.length then 3 else
 bif QlW l then 9 else bif !hasS (Qaz (cAt l 0)) n then 14 else bif Qb6 l h d 13 then 13 else bif Qb6 l h d 7 then 7 else
 bif Qcs l 11 then 11 else bif Qcs l 15 then 15 else bif Qcs l 10 then 10 else bif !hasF a (cSeal (lastC l)).1 then 12 else 0
def QdF (l : List Qaa) (a h : List Int) (_d : Int) (_n : ByteArray) : Bool := QaV l && decide (a.length ≤ 100000 ∧ h.length ≤ 100000)
def heldZ (l : List Qaa) (h : List Int) (d : Int) (k : Nat) : Option Int := (([13, 7] : List Int).drop k).find? fun e => Qb6 l h d e
def failZ (l : List Qaa) (k : Nat) : Option Int := (([11, 15, 10] : List Int).drop k).find? fun e => Qcs l e
theorem QH6 {l : List Qaa} (h : QaV l = true) {k : Nat} (hk : k < l.length) : (Qaz (cAt l k)).length ≤ 100000 := QvV (QKQ h hk)
abbrev Trip : Type := Int × Int × Int × Unit
def Qkg : Fg := ⟨[(0, some (.sl Qad)), (1, some (.sl tI)), (7, none), (8, none), (34, some Qah), (35, some tI)], [(7, some (.sl tI)), (8, some tI)]⟩
noncomputable def Qmb : TC := (.sq (.reg (rT Tryz.f57 10)) (.sq (.cd (.t 36) .sk (.fg ⟨[(0, some (.sl Qad)), (1, some (.sl tI))], []⟩ (.ex 1))) (.sq (.bk 2 (.sq (.reg (rT Tryz.f57 11)) (.sq (.reg (rT Tryz.f57 12)) (.cd (.t 40) (.sq (.reg (rT Tryz.f57 13)) (.fg ⟨[(10, some tI)], []⟩ .rt)) .sk)))) (.reg (rT Tryz.f57 14)))))
def QvF : Fg := ⟨[(0, some (.sl Qad)), (1, some (.sl tI)), (43, some (.pr tI (.pr tI (.pr tI .nil)))), (44, some tI)], []⟩
noncomputable def Qzk : TC := (.sq (.reg (rT Tryz.f57 16)) (.sq (.cd (.t 45) .sk (.fg ⟨[(0, some (.sl Qad)), (1, some (.sl tI))], []⟩ (.ex 3))) (.sq (.bk 4 (.sq (.reg (rT Tryz.f57 17)) (.sq (.reg (rT Tryz.f57 18)) (.cd (.t 49) (.sq (.reg (rT Tryz.f57 19)) (.fg ⟨[(10, some tI)], []⟩ .rt)) .sk)))) (.reg (rT Tryz.f57 20)))))
noncomputable def QDA : TC := (.sq (.reg (rT Tryz.f57 0)) (.sq (.bk 0 (.sq (.reg (rT Tryz.f57 1)) (.cd (.t 15) (.sq (.reg (rT Tryz.f57 2)) .rt) (.sq (.reg (rT Tryz.f57 3)) (.cd (.t 19) (.sq (.reg (rT Tryz.f57 4)) .rt) (.sq (.reg (rT Tryz.f57 5)) (.cd (.t 23) (.sq (.reg (rT Tryz.f57 6)) .rt) (.sq (.reg (rT Tryz.f57 7)) (.cd (.t 26) (.sq (.reg (rT Tryz.f57 8)) .rt) .sk))))))))) (.sq (.sq (.reg (rT Tryz.f57 9)) (.bk 1 (.lp 0 Qkg Qmb))) (.sq (.sq (.reg (rT Tryz.f57 15)) (.bk 3 (.lp 1 QvF Qzk))) (.sq (.sq (.reg (rT Tryz.f57 21)) (.cd (.t 62) (.sq (.reg (rT Tryz.f57 22)) .rt) .sk)) (.sq (.reg (rT Tryz.f57 23)) .rt))))))
def QQi : List (RV × Option Ty) := [((.t 10), some tI)]
abbrev QrX : Sh := ⟨[(0, .ty (.sl Qad)), (1, .ty (.sl tI)), (7, .ptr 7 0), (8, .ptr 8 0), (34, .ty Qah), (35, .ty tI)], [(7, .box (.sl tI)), (8, .box tI)]⟩
def QrF (x0 : List Qaa) (x1 : List Int) (x34 : Keep) (x35 : Int) (y7 : List Int) (y8 : Int) : VS := QrX.st (x0, x1, (), (), x34, x35, ()) (y7, y8, ())
abbrev Qt5 : Sh := ⟨[(10, .ty tI)], []⟩
def QdN (x10 : Int) : VS := Qt5.st (x10, ()) ()
abbrev QxB : Sh := ⟨[(0, .ty (.sl Qad)), (1, .ty (.sl tI))], []⟩
def Qe6 (x0 : List Qaa) (x1 : List Int) : VS := QxB.st (x0, x1, ()) ()
abbrev QFr : Sh := ⟨[(0, .ty (.sl Qad)), (1, .ty (.sl tI)), (43, .ty (.pr tI (.pr tI (.pr tI .nil)))), (44, .ty tI)], []⟩
def QD6 (x0 : List Qaa) (x1 : List Int) (x43 : (Int × (Int × (Int × Unit)))) (x44 : Int) : VS := QFr.st (x0, x1, x43, x44, ()) ()
abbrev QB2 : Sh := ⟨[(10, .ty tI)], []⟩
def Qg8 (x10 : Int) : VS := QB2.st (x10, ()) ()
abbrev QFq : Sh := ⟨[(0, .ty (.sl Qad)), (1, .ty (.sl tI))], []⟩
def QiV (x0 : List Qaa) (x1 : List Int) : VS := QFq.st (x0, x1, ()) ()
def QWX : VS → Option (Bool × List (Bool × Exit × VS)) := mkL QrX (fun x y => (x.2.2.2.2.1 == ((13, (7, ())) : Keep) && decide (0 ≤ x.2.2.2.2.2.1 ∧ x.2.2.2.2.2.1 ≤ 2) && Qc5 x.1 y.1 y.2.1 0)) (fun x y => [(((heldZ x.1 y.1 y.2.1 x.2.2.2.2.2.1.toNat).isSome), .ret, QdN ((heldZ x.1 y.1 y.2.1 x.2.2.2.2.2.1.toNat).getD 0)), (true, .exit 1, Qe6 (x.1) (x.2.1))])
def L_f95 : VS → Option (Bool × List (Bool × Exit × VS)) := mkL QFr (fun x y => (x.2.2.1 == ((11, (15, (10, ()))) : Trip) && decide (0 ≤ x.2.2.2.1 ∧ x.2.2.2.1 ≤ 3) && QaV x.1)) (fun x y => [(((failZ x.1 x.2.2.2.1.toNat).isSome), .ret, Qg8 ((failZ x.1 x.2.2.2.1.toNat).getD 0)), (true, .exit 3, QiV (x.1) (x.2.1))])
def g_f57 : G := ⟨TYs, [], 63, EL [(94, QtO), (94, QtP), (97, QPA), (100, QFf), (101, QkI), (1002562, Qf6), (1002594, Qf5)], keeps, (Ls [QWX, L_f95]), IL [], RL []⟩
def QLw (x0 : List Qaa) (x1 : List Int) (x34 : Keep) (x35 : Int) (y7 : List Int) (y8 : Int) : Option (Exit × VS) :=
 let a1 := Qbx tI 2 x34 x35
 br (ilt x35 2) (br (arrOk tI 2 x34 x35) (br (Qc5 x0 y7 y8 a1) (br (Qb6 x0 y7 y8 a1) (some (.ret, QdN a1)) (some (.normal, QrF x0 x1 x34 (iadd .i64 x35 1) y7 y8))) none) none) (some (.exit 1, Qe6 x0 x1))
noncomputable def Qhr (x0 : List Qaa) (x1 : List Int) (x34 : Keep) (x35 : Int) (y7 : List Int) (y8 : Int) : Option (Exit × VS) := loopF (Qak g_f57 Qkg Qmb) (QrF x0 x1 x34 x35 y7 y8)
noncomputable def QsS (x0 : List Qaa) (x1 : List Int) (x34 : Keep) (x35 : Int) (y7 : List Int) (y8 : Int) : Option (Exit × VS) :=
 let a1 := Qbx tI 2 x34 x35
 br (ilt x35 2) (br (arrOk tI 2 x34 x35) (br (Qc5 x0 y7 y8 a1) (br (Qb6 x0 y7 y8 a1) (some (.ret, QdN a1)) (Qhr x0 x1 x34 (iadd .i64 x35 1) y7 y8)) none) none) (some (.exit 1, Qe6 x0 x1))
def Qhx (x0 : List Qaa) (x1 : List Int) (x34 : Keep) (x35 : Int) (y7 : List Int) (y8 : Int) : Option (Exit × VS) :=
 let a1 := heldZ x0 y7 y8 x35.toNat
 br (a1.isSome) (some (.ret, QdN (a1.getD 0))) <| some (.exit 1, Qe6 (x0) (x1))
theorem QOL (x0 : List Qaa) (x1 : List Int) (x34 : Keep) (x35 : Int) (y7 : List Int) (y8 : Int) : Qak g_f57 Qkg Qmb (QrF x0 x1 x34 x35 y7 y8) = QLw x0 x1 x34 x35 y7 y8 := by kernel_rfl
theorem Qs9 (x0 : List Qaa) (x1 : List Int) (x34 : Keep) (x35 : Int) (y7 : List Int) (y8 : Int) : Qhr x0 x1 x34 x35 y7 y8 = QsS x0 x1 x34 x35 y7 y8 := (Qao _ _).trans (by
 rw [QOL]
 simp only [QLw, QsS, Qay, nxt_n, nxt_r, nxt_e, nxt_0]
 rfl)
def b_f95 (x0 : List Qaa) (x1 : List Int) (x43 : (Int × (Int × (Int × Unit)))) (x44 : Int) : Option (Exit × VS) :=
 let a1 := Qbx tI 3 x43 x44
 br (ilt x44 3) (br (arrOk tI 3 x43 x44) (br (Qp9 x0 a1) (br (Qcs x0 a1) (some (.ret, Qg8 a1)) (some (.normal, QD6 x0 x1 x43 (iadd .i64 x44 1)))) none) none) (some (.exit 3, QiV x0 x1))
noncomputable def Qpx (x0 : List Qaa) (x1 : List Int) (x43 : (Int × (Int × (Int × Unit)))) (x44 : Int) : Option (Exit × VS) := loopF (Qak g_f57 QvF Qzk) (QD6 x0 x1 x43 x44)
noncomputable def n_f95 (x0 : List Qaa) (x1 : List Int) (x43 : (Int × (Int × (Int × Unit)))) (x44 : Int) : Option (Exit × VS) :=
 let a1 := Qbx tI 3 x43 x44
 br (ilt x44 3) (br (arrOk tI 3 x43 x44) (br (Qp9 x0 a1) (br (Qcs x0 a1) (some (.ret, Qg8 a1)) (Qpx x0 x1 x43 (iadd .i64 x44 1))) none) none) (some (.exit 3, QiV x0 x1))
def Qlm (x0 : List Qaa) (x1 : List Int) (x43 : (Int × (Int × (Int × Unit)))) (x44 : Int) : Option (Exit × VS) := br ((failZ x0 x44.toNat).isSome) (some (.ret, Qg8 ((failZ x0 x44.toNat).getD 0))) <| some (.exit 3, QiV (x0) (x1))
theorem be_f95 (x0 : List Qaa) (x1 : List Int) (x43 : (Int × (Int × (Int × Unit)))) (x44 : Int) : Qak g_f57 QvF Qzk (QD6 x0 x1 x43 x44) = b_f95 x0 x1 x43 x44 := by kernel_rfl
theorem QzR (x0 : List Qaa) (x1 : List Int) (x43 : (Int × (Int × (Int × Unit)))) (x44 : Int) : Qpx x0 x1 x43 x44 = n_f95 x0 x1 x43 x44 := (Qao _ _).trans (by
 rw [be_f95]
 simp only [b_f95, n_f95, Qay, nxt_n, nxt_r, nxt_e, nxt_0]
 rfl)
def r_f57 (p0 : List Qaa) (p1 p2 : List Int) (p3 : Int) (p4 : ByteArray) : Option (V × List VO) :=
 let a1 := ((((((((((((((lgt Qad (p0) (Int.toNat (isub .i64 (llen (p0)) 1))).2).2).2).2).2).2).2).2).2).2).2).1).1)
 let a2 := ((((((((((((lgt Qad p0 (Int.toNat 0)).2).2).2).2).2).2).2).2).2).2).1)
 let a3 := (heldZ p0 p2 p3 (0 : Int).toNat)
 let a4 := (failZ (p0) (0 : Int).toNat)
 br (ieq (llen p0) 0) (some (.t tI 4, [])) (br (igt (llen p0) 8) (some (.t tI 3, [])) (br (okBad p0) (br (QlW p0) (some (.t tI 9, [])) (br (cIx p0 0) (br (Qj4 a2 p4) (br (!(hasS a2 p4)) (some (.t tI 14, [])) (br ((13, (7, ())) == ((13, (7, ())) : Keep) && decide (0 ≤ (0 : Int) ∧ (0 : Int) ≤ 2) && Qc5 p0 p2 p3 0) (br (a3.isSome) (some (.t tI (a3.getD 0), [])) (br ((11, (15, (10, ()))) == ((11, (15, (10, ()))) : Trip) && decide (0 ≤ (0 : Int) ∧ (0 : Int) ≤ 3) && QaV (p0)) (br (a4.isSome) (some (.t tI (a4.getD 0), [])) (br (cIx (p0) (isub .i64 (llen (p0)) 1)) (br (QbR (p1) a1) (br (!(hasF (p1) a1)) (some (.t tI 12, [])) (some (.t tI 0, []))) none) none)) none)) none)) none) none)) none))
theorem e_f57 (p0 : List Qaa) (p1 p2 : List Int) (p3 : Int) (p4 : ByteArray) : runF g_f57 QDA QQi false [.t (.sl Qad) p0, .t (.sl tI) p1, .t (.sl tI) p2, .t tI p3, .t .str p4] [] = r_f57 p0 p1 p2 p3 p4 := by kernel_rfl
theorem QRj : Qai Tryz.prog 57 := .inr ⟨by decide, _, Tryz.func57, by kernel_rfl, by kernel_rfl⟩
theorem gk_f57 : GOk Tryz.prog g_f57 := Qal _ (gA (gC QJR QH8 (gC QJS QH9 (gC en_f97 ms_f97 (gC QWC QSU (gC Qqm Qpu (gC Qqh Qpp (gC Qqg Qpo gN))))))))
theorem QUl (x0 : List Qaa) (x1 : List Int) (x34 : Keep) (x35 : Int) (y7 : List Int) (y8 : Int) (h : (x34 == ((13, (7, ())) : Keep) && decide (0 ≤ x35 ∧ x35 ≤ 2) && Qc5 x0 y7 y8 0) = true) : Qhr x0 x1 x34 x35 y7 y8 = Qhx x0 x1 x34 x35 y7 y8 := by
 simp only [Bool.and_eq_true, decide_eq_true_eq, beq_iff_eq] at h
 obtain ⟨⟨rfl, h1, h2⟩, hc⟩ := h
 have hc : ∀ e, Qc5 x0 y7 y8 e = true := fun e => hc
 obtain ⟨k, rfl⟩ := Int.eq_ofNat_of_zero_le h1
 have k2 : Qhr x0 x1 (13, (7, ())) ((2 : Nat) : Int) y7 y8 = Qhx x0 x1 (13, (7, ())) ((2 : Nat) : Int) y7 y8 := by
  rw [Qs9]
  rfl
 have k1 : Qhr x0 x1 (13, (7, ())) ((1 : Nat) : Int) y7 y8 = Qhx x0 x1 (13, (7, ())) ((1 : Nat) : Int) y7 y8 := by
  rw [Qs9]
  simp only [QsS, hc, show ilt ((1 : Nat) : Int) 2 = true from rfl, show arrOk tI 2 ((13, (7, ())) : Keep) ((1 : Nat) : Int) = true from rfl, show Qbx tI 2 ((13, (7, ())) : Keep) ((1 : Nat) : Int) = 7 from rfl, Qac, show iadd .i64 ((1 : Nat) : Int) 1 = ((2 : Nat) : Int) from rfl, k2]
  simp only [Qhx, heldZ, Int.toNat_natCast, List.drop_succ_cons, List.drop_zero, List.drop_nil, List.find?_cons, List.find?_nil]
  cases Qb6 x0 y7 y8 7 <;> rfl
 have k0 : Qhr x0 x1 (13, (7, ())) ((0 : Nat) : Int) y7 y8 = Qhx x0 x1 (13, (7, ())) ((0 : Nat) : Int) y7 y8 := by
  rw [Qs9]
  simp only [QsS, hc, show ilt ((0 : Nat) : Int) 2 = true from rfl, show arrOk tI 2 ((13, (7, ())) : Keep) ((0 : Nat) : Int) = true from rfl, show Qbx tI 2 ((13, (7, ())) : Keep) ((0 : Nat) : Int) = 13 from rfl, Qac, show iadd .i64 ((0 : Nat) : Int) 1 = ((1 : Nat) : Int) from rfl, k1]
  simp only [Qhx, heldZ, Int.toNat_natCast, List.drop_succ_cons, List.drop_zero, List.drop_nil, List.find?_cons, List.find?_nil]
  cases Qb6 x0 y7 y8 13 <;> rfl
 have : k = 0 ∨ k = 1 ∨ k = 2 := by omega
 rcases this with rfl | rfl | rfl
 ·exact k0
 ·exact k1
 ·exact k2
theorem l_f95 (x0 : List Qaa) (x1 : List Int) (x43 : (Int × (Int × (Int × Unit)))) (x44 : Int) (h : (x43 == ((11, (15, (10, ()))) : Trip) && decide (0 ≤ x44 ∧ x44 ≤ 3) && QaV x0) = true) : Qpx x0 x1 x43 x44 = Qlm x0 x1 x43 x44 := by
 simp only [Bool.and_eq_true, decide_eq_true_eq, beq_iff_eq] at h
 obtain ⟨⟨rfl, h1, h2⟩, hc⟩ := h
 have hc : ∀ e, Qp9 x0 e = true := fun e => hc
 obtain ⟨k, rfl⟩ := Int.eq_ofNat_of_zero_le h1
 have k3 : Qpx x0 x1 (11, (15, (10, ()))) ((3 : Nat) : Int) = Qlm x0 x1 (11, (15, (10, ()))) ((3 : Nat) : Int) := by
  rw [QzR]
  rfl
 have k2 : Qpx x0 x1 (11, (15, (10, ()))) ((2 : Nat) : Int) = Qlm x0 x1 (11, (15, (10, ()))) ((2 : Nat) : Int) := by
  rw [QzR]
  simp only [n_f95, hc, show ilt ((2 : Nat) : Int) 3 = true from rfl, show arrOk tI 3 ((11, (15, (10, ()))) : Trip) ((2 : Nat) : Int) = true from rfl, show Qbx tI 3 ((11, (15, (10, ()))) : Trip) ((2 : Nat) : Int) = 10 from rfl, Qac, show iadd .i64 ((2 : Nat) : Int) 1 = ((3 : Nat) : Int) from rfl, k3]
  simp only [Qlm, failZ, Int.toNat_natCast, List.drop_succ_cons, List.drop_zero, List.drop_nil, List.find?_cons, List.find?_nil]
  cases Qcs x0 10 <;> rfl
 have k1 : Qpx x0 x1 (11, (15, (10, ()))) ((1 : Nat) : Int) = Qlm x0 x1 (11, (15, (10, ()))) ((1 : Nat) : Int) := by
  rw [QzR]
  simp only [n_f95, hc, show ilt ((1 : Nat) : Int) 3 = true from rfl, show arrOk tI 3 ((11, (15, (10, ()))) : Trip) ((1 : Nat) : Int) = true from rfl, show Qbx tI 3 ((11, (15, (10, ()))) : Trip) ((1 : Nat) : Int) = 15 from rfl, Qac, show iadd .i64 ((1 : Nat) : Int) 1 = ((2 : Nat) : Int) from rfl, k2]
  simp only [Qlm, failZ, Int.toNat_natCast, List.drop_succ_cons, List.drop_zero, List.drop_nil, List.find?_cons, List.find?_nil]
  cases Qcs x0 15 <;> rfl
 have k0 : Qpx x0 x1 (11, (15, (10, ()))) ((0 : Nat) : Int) = Qlm x0 x1 (11, (15, (10, ()))) ((0 : Nat) : Int) := by
  rw [QzR]
  simp only [n_f95, hc, show ilt ((0 : Nat) : Int) 3 = true from rfl, show arrOk tI 3 ((11, (15, (10, ()))) : Trip) ((0 : Nat) : Int) = true from rfl, show Qbx tI 3 ((11, (15, (10, ()))) : Trip) ((0 : Nat) : Int) = 11 from rfl, Qac, show iadd .i64 ((0 : Nat) : Int) 1 = ((1 : Nat) : Int) from rfl, k1]
  simp only [Qlm, failZ, Int.toNat_natCast, List.drop_succ_cons, List.drop_zero, List.drop_nil, List.find?_cons, List.find?_nil]
  cases Qcs x0 11 <;> rfl
 have : k = 0 ∨ k = 1 ∨ k = 2 ∨ k = 3 := by omega
 rcases this with rfl | rfl | rfl | rfl
 ·exact k0
 ·exact k1
 ·exact k2
 ·exact k3
theorem QMR : ∀ S l p, g_f57.L 0 (fgt Qkg S) = some (true, l) → pickA l = some p → loopF (Qak g_f57 Qkg Qmb) S = some p :=
 QaD (s := QrX) ⟨by decide, by decide⟩ (by kernel_rfl) fun x y hok p hp => by
 simp only [Qaq, Qan] at hp
 exact (QUl x.1 x.2.1 x.2.2.2.2.1 x.2.2.2.2.2.1 y.1 y.2.1 (by simpa using hok)).trans hp
theorem lo_f95 : ∀ S l p, g_f57.L 1 (fgt QvF S) = some (true, l) → pickA l = some p → loopF (Qak g_f57 QvF Qzk) S = some p :=
 QaD (s := QFr) ⟨by decide, by decide⟩ (by kernel_rfl) fun x y hok p hp => by
 simp only [Qaq, Qan] at hp
 exact (l_f95 x.1 x.2.1 x.2.2.1 x.2.2.2.1 (by simpa using hok)).trans hp
theorem lk_f57 : QDA.lok g_f57 := by
 repeat (first | exact trivial | exact QMR | exact lo_f95 | refine ⟨?_, ?_⟩)
theorem s_f57 (l : List Qaa) (a h : List Int) (d : Int) (n : ByteArray) (hok : QdF l a h d n = true) : r_f57 l a h d n = some (.t tI (chkCh l a h d n), []) := by
 simp only [QdF, Bool.and_eq_true, decide_eq_true_eq] at hok
 obtain ⟨hc, ha, hh⟩ := hok
 have hl := Qkt hc
 unfold chkCh
 by_cases h0 : l.length = 0
 ·simp only [r_f57, show ieq (llen l) 0 = true from beq_iff_eq.2 (by simp only [llen]; omega), Qac, if_pos h0]
 by_cases h8 : 8 < l.length
 ·simp only [r_f57, show ieq (llen l) 0 = false from beq_eq_false_iff_ne.2 (by simp only [llen]; omega), Qaf, show igt (llen l) 8 = true from decide_eq_true (by simp only [llen]; omega), Qac, if_neg h0, if_pos h8]
 have c1 : ∀ e, Qc5 l h d e = true := fun e => decide_eq_true ⟨hl, hh⟩
 have c2 : cIx l 0 = true := by simp only [cIx, decide_eq_true_eq]; omega
 have c3 : Qj4 (Qaz (cAt l 0)) n = true := by
  have := QH6 hc (show 0 < l.length by omega)
  exact decide_eq_true (by omega)
 have c4 : isub .i64 (llen l) 1 = ((l.length - 1 : Nat) : Int) := by rw [QbU (by simp only [llen]; omega)]; simp only [llen]; omega
 have c5 : cIx l ((l.length - 1 : Nat) : Int) = true := by simp only [cIx, decide_eq_true_eq]; omega
 have c6 : ∀ v, QbR a v = true := fun v => decide_eq_true ha
 have d1 : decide ((0 : Int) ≤ 0 ∧ (0 : Int) ≤ 2) = true := rfl
 have d2 : decide ((0 : Int) ≤ 0 ∧ (0 : Int) ≤ 3) = true := rfl
 simp only [r_f57, show ieq (llen l) 0 = false from beq_eq_false_iff_ne.2 (by simp only [llen]; omega), Qaf, show igt (llen l) 8 = false from decide_eq_false (by simp only [llen]; omega), if_neg h0, if_neg h8, show okBad l = true from hc, hc, c1, c2, c4, c5, c6, d1, d2, Qac, Int.toNat_natCast, Int.toNat_zero, show lgt Qad l 0 = cAt l 0 from rfl, show lgt Qad l (l.length - 1) = lastC l from rfl, beq_self_eq_true, Bool.and_self]
 rw [show (Qj4 (cAt l 0).2.2.2.2.2.2.2.2.2.2.1 n) = true from c3, Qac]
 cases QlW l with
 | true => rfl
 | false =>
  rw [Qaf, cond_false]
  cases hasS (Qaz (cAt l 0)) n with
  | false => rfl
  | true =>
   rw [Bool.not_true, Qaf, cond_false]
   simp only [heldZ, failZ, List.drop_zero, List.find?_cons, List.find?_nil]
   cases Qb6 l h d 13 with
   | true => rfl
   | false =>
    rw [cond_false]
    cases Qb6 l h d 7 with
    | true => rfl
    | false =>
     rw [cond_false]
     simp only [Option.isSome_none, Qaf]
     cases Qcs l 11 with
     | true => rfl
     | false =>
      rw [cond_false]
      cases Qcs l 15 with
      | true => rfl
      | false =>
       rw [cond_false]
       cases Qcs l 10 with
       | true => rfl
       | false =>
        simp only [Option.isSome_none, Qaf, cond_false]
        cases hasF a (cSeal (lastC l)).1 <;> rfl
def QEb : Ent := spec (.pr (.sl Qad) (.pr (.sl tI) (.pr (.sl tI) (.pr tI (.pr .str .nil))))) (fun x => (QdF x.1 x.2.1 x.2.2.1 x.2.2.2.1 x.2.2.2.2.1)) (fun x => (.t tI (chkCh x.1 x.2.1 x.2.2.1 x.2.2.2.1 x.2.2.2.2.1)))
theorem QQ3 : Meets Tryz.prog 57 (strip QEb) := Qag (R := runF g_f57 QDA QQi false) (mG Tryz.func57 (by kernel_rfl) Tryz.ntmps57 (by kernel_rfl) gk_f57 lk_f57) fun x hok => (e_f57 x.1 x.2.1 x.2.2.1 x.2.2.2.1 x.2.2.2.2.1).trans (s_f57 x.1 x.2.1 x.2.2.1 x.2.2.2.1 x.2.2.2.2.1 hok)
end
end Go.Proofs.YtckcgijklnloiaaGreat.K
