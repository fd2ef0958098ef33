import Derived.Test.YtkngeegkjhipeaaGreatN9
import Derived.Shelf.Small.Strs
import Derived.Ground.NamesProg
set_option linter.unusedSimpArgs false
set_option linter.unusedVariables false
namespace Go.Proofs
open Go.Shelf
def Tryz.lays137_ren : Go.Shelf.Ren := ⟨fun | 137 => 133 | 217 => 146 | 266 => 167 | n => n, fun | 9 => 9 | 5 => 5 | 3 => 3 | n => n, fun | n => n⟩
theorem Tryz.lays137 : Go.Proofs.Lays.n137 Tryz.prog Tryz.lays137_ren := {
 mixed := by kernel_rfl
 f137 := Tryz.func133.trans (congrArg some (by kernel_rfl))
 f217 := Tryz.func146.trans (congrArg some (by kernel_rfl))
 f266 := Tryz.func167.trans (congrArg some (by kernel_rfl))
 t3 := Tryz.underlying3
 a3 := Tryz.isAgg3
 z3 := Tryz.sizeOf3
 v3 := Tryz.zeroValue3
 t5 := Tryz.underlying5
 a5 := Tryz.isAgg5
 z5 := Tryz.sizeOf5
 v5 := Tryz.zeroValue5
 t9 := Tryz.underlying9
 a9 := Tryz.isAgg9
 z9 := Tryz.sizeOf9
 v9 := Tryz.zeroValue9 }
end Go.Proofs
namespace Go.Proofs.YtkngeegkjhipeaaGreat.K
open Go.RowKit Go.Shelf
noncomputable section
def ixB (s : ByteArray) (c : Int) : Int := Lib.indexByte s.data.toList c.toNat.toUInt8
def QBK : Ent := spec (.pr .str (.pr (.int .u8) .nil)) (fun x => true) (fun x => (.t tI (ixB x.1 x.2.1)))
theorem QRw : Qag Tryz.prog 133 := .inr ⟨by decide, _, Tryz.func133, by kernel_rfl, by kernel_rfl⟩
theorem QOK : Meets Tryz.prog 133 (strip QBK) := QvQ fun x hok X w σ vs hfin hc => by
 obtain ⟨s, c, u⟩ := x
 simp only [Ty.canon, V.ds, V.d, Ty.d, Cs, C] at hc
 obtain ⟨v1, r1, rfl, ⟨rfl, _⟩, v2, r2, rfl, ⟨rfl, _⟩, rfl⟩ := hc
 refine (Any.strings_IndexByte Tryz.lays137 s c w).mono ?_
 rintro e w' ⟨rfl, rfl⟩
 refine ⟨_, rfl, ?_, Below.refl _ _⟩
 simp only [V.d, Ty.d, C]
 exact ⟨rfl, rfl⟩
def QgZ (c : Int) (o : ByteArray) : Bool := (ige c 97 && ile c 122) || ((ige c 65 && ile c 90) || ((ige c 48 && ile c 57) || ige (ixB o c) 0))
noncomputable def Quz : TC := (.sq (.reg (rT Tryz.f106 0)) (.sq (.reg (rT Tryz.f106 1)) .rt))
def QCT : List (RV × Option Ty) := [((.t 4), some .bool)]
def Qx7 : G := ⟨TYs, [], 33, EL [(133, QBK)], keeps, (fun _ _ => none), IL [], RL []⟩
def Qp6 (p0 : Int) (p1 : ByteArray) : Option (V × List VO) := br (ige p0 48) (br (ile p0 57) (some (.t .bool true, [])) (some (.t .bool (ige (ixB p1 p0) 0), []))) (some (.t .bool (ige (ixB p1 p0) 0), []))
def Qp7 (p0 : Int) (p1 : ByteArray) : Option (V × List VO) := br (ige p0 65) (br (ile p0 90) (some (.t .bool true, [])) (Qp6 p0 p1)) (Qp6 p0 p1)
def QDL (p0 : Int) (p1 : ByteArray) : Option (V × List VO) := br (ige p0 97) (br (ile p0 122) (some (.t .bool true, [])) (Qp7 p0 p1)) (Qp7 p0 p1)
theorem e_f106 (p0 : Int) (p1 : ByteArray) : runF Qx7 Quz QCT false [.t (.int .u8) p0, .t .str p1] [] = QDL p0 p1 := by kernel_rfl
theorem QRI : Qag Tryz.prog 106 := .inr ⟨by decide, _, Tryz.func106, by kernel_rfl, by kernel_rfl⟩
theorem QQ9 : GOk Tryz.prog Qx7 := Qao _ (gA (gC QRw QOK gN))
theorem QPU : Quz.lok Qx7 := by repeat (first | exact trivial | refine ⟨?_, ?_⟩)
theorem brO {a b r : Bool} {X : Option (V × List VO)} (h : X = some (.t .bool r, [])) : br a (br b (some (.t .bool true, [])) X) X = some (.t .bool ((a && b) || r), []) := by
 subst h
 cases a <;> cases b <;> rfl
theorem s_f106 (c : Int) (o : ByteArray) : QDL c o = some (.t .bool (QgZ c o), []) := by
 simp only [QDL, Qp7, Qp6]
 exact brO (brO (brO rfl))
def QBW : Ent := spec (.pr (.int .u8) (.pr .str .nil)) (fun x => true) (fun x => (.t .bool (QgZ x.1 x.2.1)))
theorem QOW : Meets Tryz.prog 106 (strip QBW) := Qaf (R := runF Qx7 Quz QCT false) (mG Tryz.func106 (by kernel_rfl) Tryz.ntmps106 (by kernel_rfl) QQ9 QPU) fun x _ => (e_f106 x.1 x.2.1).trans (s_f106 x.1 x.2.1)
def wordC (c : Int) : Bool := !(ilt c 97 || igt c 122) || (!(ilt c 65 || igt c 90) || (!(ilt c 48 || igt c 57) || (ieq c 45 || (ieq c 95 || ieq c 46))))
def wordF (s : ByteArray) : Bool := (QaH s).all wordC && decide (1 ≤ s.size ∧ s.size ≤ 32)
set_option maxRecDepth 100000 in
theorem QPW : ((List.range 256).all fun n => QgZ (n : Int) (ByteArray.mk #[45, 95, 46]) == wordC (n : Int)) = true := by kernel_rfl
theorem QIY {s : ByteArray} {c : Int} (h : c ∈ QaH s) : QgZ c (ByteArray.mk #[45, 95, 46]) = wordC c := by
 obtain ⟨b, _, rfl⟩ := List.mem_map.1 h
 have := List.all_eq_true.1 QPW b.toNat (by rw [List.mem_range]; exact b.toNat_lt)
 exact eq_of_beq this
def Qiy : Fg := ⟨[(0, some .str), (6, some (.sl (.int .u8))), (7, some tI), (8, some tI)], []⟩
noncomputable def Qkh : TC := (.sq (.reg (rT Tryz.f75 2)) (.sq (.cd (.t 9) .sk (.fg ⟨[(0, some .str)], []⟩ (.ex 0))) (.sq (.bk 1 (.sq (.reg (rT Tryz.f75 3)) (.sq (.reg (rT Tryz.f75 4)) (.cd (.t 14) (.sq (.reg (rT Tryz.f75 5)) (.fg ⟨[(2, some .bool)], []⟩ .rt)) .sk)))) (.reg (rT Tryz.f75 6)))))
noncomputable def QAi : TC := (.sq (.reg (rT Tryz.f75 0)) (.sq (.sq (.reg (rT Tryz.f75 1)) (.bk 0 (.lp 0 Qiy Qkh))) (.sq (.reg (rT Tryz.f75 7)) .rt)))
def QMk : List (RV × Option Ty) := [((.t 2), some .bool)]
abbrev Qpn : Sh := ⟨[(0, .ty .str), (6, .ty (.sl (.int .u8))), (7, .ty tI), (8, .ty tI)], []⟩
def QoZ (x0 : ByteArray) (x6 : List Int) (x7 x8 : Int) : VS := Qpn.st (x0, x6, x7, x8, ()) ()
abbrev QrA : Sh := ⟨[(2, .ty .bool)], []⟩
def Qc9 (x2 : Bool) : VS := QrA.st (x2, ()) ()
abbrev QuZ : Sh := ⟨[(0, .ty .str)], []⟩
def Qei (x0 : ByteArray) : VS := QuZ.st (x0, ()) ()
def QSb : VS → Option (Bool × List (Bool × Exit × VS)) := mkL Qpn (fun x y => (rngG x.2.1 x.2.2.1 x.2.2.2.1 && samB x.2.1 (QaH x.1))) (fun x y => [((!((x.2.1.drop x.2.2.2.1.toNat).all wordC)), .ret, Qc9 (false)), (true, .exit 0, Qei (x.1))])
def g_f75 : G := ⟨TYs, [], 24, EL [(106, QBW), (22760144, QaV)], keeps, (Ls [QSb]), IL [], RL []⟩
def QHf (x0 : ByteArray) (x6 : List Int) (x7 x8 : Int) : Option (Exit × VS) := br (ilt x8 x7) (br (cIx x6 x8) (br (!(QgZ (lgt (.int .u8) x6 (Int.toNat x8)) (ByteArray.mk #[45, 95, 46]))) (some (.ret, Qc9 false)) (some (.normal, QoZ x0 x6 x7 (iadd .i64 x8 1)))) none) (some (.exit 0, Qei x0))
noncomputable def Qk1 (x0 : ByteArray) (x6 : List Int) (x7 x8 : Int) : Option (Exit × VS) := loopF (Qaj g_f75 Qiy Qkh) (QoZ x0 x6 x7 x8)
noncomputable def Qqi (x0 : ByteArray) (x6 : List Int) (x7 x8 : Int) : Option (Exit × VS) := br (ilt x8 x7) (br (cIx x6 x8) (br (!(QgZ (lgt (.int .u8) x6 (Int.toNat x8)) (ByteArray.mk #[45, 95, 46]))) (some (.ret, Qc9 false)) (Qk1 x0 x6 x7 (iadd .i64 x8 1))) none) (some (.exit 0, Qei x0))
def Qlh (x0 : ByteArray) (x6 : List Int) (x7 x8 : Int) : Option (Exit × VS) := br (!((x6.drop x8.toNat).all wordC)) (some (.ret, Qc9 (false))) <| some (.exit 0, Qei (x0))
theorem QKy (x0 : ByteArray) (x6 : List Int) (x7 x8 : Int) : Qaj g_f75 Qiy Qkh (QoZ x0 x6 x7 x8) = QHf x0 x6 x7 x8 := by kernel_rfl
theorem Qxf (x0 : ByteArray) (x6 : List Int) (x7 x8 : Int) : Qk1 x0 x6 x7 x8 = Qqi x0 x6 x7 x8 := (Qaq _ _).trans (by
 rw [QKy]
 simp only [QHf, Qqi, QaE, nxt_n, nxt_r, nxt_e, nxt_0]
 rfl)
def r_f75 (p0 : ByteArray) : Option (V × List VO) := br (Qa1 p0) (br (rngG (QaH p0) (llen (QaH p0)) (0 : Int) && samB (QaH p0) (QaH p0)) (br (!(((QaH p0).drop (0 : Int).toNat).all wordC)) (some (.t .bool (false), [])) (br (ige (slen (p0)) 1) (some (.t .bool (ile (slen (p0)) 32), [])) (some (.t .bool false, [])))) none) none
theorem e_f75 (p0 : ByteArray) : runF g_f75 QAi QMk false [.t .str p0] [] = r_f75 p0 := by kernel_rfl
theorem en_f75 : Qag Tryz.prog 75 := .inr ⟨by decide, _, Tryz.func75, by kernel_rfl, by kernel_rfl⟩
theorem gk_f75 : GOk Tryz.prog g_f75 := Qao _ (gA (gC QRI QOW (gC Qbc Qba gN)))
theorem QP3 (x0 : ByteArray) (x6 : List Int) (x7 x8 : Int) (h : (rngG x6 x7 x8 && samB x6 (QaH x0)) = true) : Qk1 x0 x6 x7 x8 = Qlh x0 x6 x7 x8 := by
 simp only [Bool.and_eq_true] at h
 obtain ⟨h, hs⟩ := h
 have hs := Qvi hs
 obtain ⟨rfl, h3, k, rfl, hk⟩ := QCZ h
 clear h
 refine Qav x6 (fun k => Qk1 x0 x6 (x6.length : Int) (k : Int) = Qlh x0 x6 (x6.length : Int) (k : Int)) ?_ ?_ k hk
 ·rw [Qxf]
  simp [Qqi, Qlh, Qaz, Qae]
 ·intro k hk ih
  rw [Qxf]
  have hw : QgZ x6[k] (ByteArray.mk #[45, 95, 46]) = wordC x6[k] := QIY (s := x0) (by rw [← hs]; exact List.getElem_mem hk)
  simp only [Qqi, Qaz, Qay, hk, decide_true, Qac, Int.toNat_natCast, add1G (show k < 9223372036854775807 by omega), QaG (y := .int .u8) hk, ih, hw]
  simp only [Qlh, Int.toNat_natCast, List.drop_eq_getElem_cons hk, List.all_cons]
  cases wordC x6[k] <;> rfl
theorem QIF : ∀ S l p, g_f75.L 0 (fgt Qiy S) = some (true, l) → pickA l = some p → loopF (Qaj g_f75 Qiy Qkh) S = some p :=
 QaF (s := Qpn) ⟨by decide, by decide⟩ (by kernel_rfl) fun x y hok p hp => by
 simp only [Qar, Qap] at hp
 exact (QP3 x.1 x.2.1 x.2.2.1 x.2.2.2.1 (by simpa using hok)).trans hp
theorem lk_f75 : QAi.lok g_f75 := by
 repeat (first | exact trivial | exact QIF | refine ⟨?_, ?_⟩)
theorem s_f75 (s : ByteArray) (h : nameG s = true) : r_f75 s = some (.t .bool (wordF s), []) := by
 simp only [nameG, decide_eq_true_eq] at h
 have hl := QcO s
 simp only [r_f75, show Qa1 s = true from decide_eq_true (by omega), QC0 (show (QaH s).length ≤ 9223372036854775807 by omega), QmQ, Bool.and_self, Qac, Int.toNat_zero, List.drop_zero, wordF]
 cases (QaH s).all wordC with
 | false => rfl
 | true =>
  simp only [Bool.not_true, Qae, Bool.true_and]
  refine QaP (fun g => ?_) (fun g => ?_)
  ·simp only [ige, slen, decide_eq_true_eq] at g
   apply Qrt
   rw [Bool.eq_iff_iff]
   simp only [ile, slen, decide_eq_true_eq]
   omega
  ·simp only [ige, slen, decide_eq_false_iff_not] at g
   apply Qrt
   rw [eq_comm, decide_eq_false_iff_not]
   omega
def QLv : Ent := spec (.pr .str .nil) (fun x => (nameG x.1)) (fun x => (.t .bool (wordF x.1)))
theorem ms_f75 : Meets Tryz.prog 75 (strip QLv) := Qaf (R := runF g_f75 QAi QMk false) (mG Tryz.func75 (by kernel_rfl) Tryz.ntmps75 (by kernel_rfl) gk_f75 lk_f75) fun x hok => (e_f75 x.1).trans (s_f75 x.1 hok)
def Qa8 {α : Type} (l : List α) : Bool := decide (l.length ≤ 100000)
def ascUp (l : List Int) (k : Nat) : Bool := (List.range' k (l.length - k)).all fun j => decide (j = 0) || ilt (l.getD (j - 1) 0) (l.getD j 0)
def ascF (l : List Int) : Bool := ascUp l 0
theorem QHx (l : List Int) : ascUp l l.length = true := by
 unfold ascUp
 rw [Nat.sub_self]
 rfl
theorem QzL {l : List Int} {k : Nat} (hk : k < l.length) : ascUp l k = ((decide (k = 0) || ilt (l.getD (k - 1) 0) l[k]) && ascUp l (k + 1)) := by
 have : l.length - k = (l.length - (k + 1)) + 1 := by omega
 unfold ascUp
 rw [this, List.range'_succ, List.all_cons]
 simp only [List.getD_eq_getElem?_getD, List.getElem?_eq_getElem hk, Option.getD_some]
theorem asc_br {β : Type} {l : List Int} {k : Nat} (hk : k < l.length) (hb : k < 4611686018427387904) (bad ok : Option β) :
  br (igt (k : Int) 0) (br (cIx l (isub .i64 (k : Int) 1)) (br (ige (lgt tI l (Int.toNat (isub .i64 (k : Int) 1))) l[k]) bad ok) none) ok = br (decide (k = 0) || ilt (l.getD (k - 1) 0) l[k]) ok bad := by
 by_cases h0 : k = 0
 ·subst h0
  rw [show igt ((0 : Nat) : Int) 0 = false from rfl, Qae, decide_eq_true rfl, Bool.true_or, Qac]
 ·have e : isub .i64 (k : Int) 1 = ((k - 1 : Nat) : Int) := by rw [QbF (by omega)]; omega
  rw [show igt (k : Int) 0 = true from decide_eq_true (by omega), Qac, e, Int.toNat_natCast, Qay, decide_eq_true (show k - 1 < l.length by omega), Qac, decide_eq_false h0, Bool.false_or, QqF]
  show br (!ilt (l.getD (k - 1) 0) l[k]) bad ok = _
  cases ilt (l.getD (k - 1) 0) l[k] <;> rfl
noncomputable def QJ1 : List DO := dT Tryz.f77 4
def Qiw : Fg := ⟨[(0, some (.sl tI)), (5, some tI), (6, some tI)], []⟩
noncomputable def Qkf : TC := (.sq (.reg (rT Tryz.f77 2)) (.sq (.cd (.t 7) .sk (.fg ⟨[], []⟩ (.ex 0))) (.sq (.bk 1 (.sq (.reg (rT Tryz.f77 3)) (.sq (.dr QJ1 [(0, []), (1, []), (2, []), (3, []), (4, []), (5, []), (6, []), (7, []), (8, []), (9, []), (10, []), (11, []), (12, []), (13, [])] (.of [0, 1, 2, 3, 4, 5, 6, 7, 8, 9, 10, 11, 12, 13])) (.cd (.t 22) (.sq (.reg (rT Tryz.f77 5)) (.fg ⟨[(2, some .bool)], []⟩ .rt)) .sk)))) (.reg (rT Tryz.f77 6)))))
noncomputable def QAg : TC := (.sq (.reg (rT Tryz.f77 0)) (.sq (.sq (.reg (rT Tryz.f77 1)) (.bk 0 (.lp 0 Qiw Qkf))) (.sq (.reg (rT Tryz.f77 7)) .rt)))
def QMi : List (RV × Option Ty) := [((.t 2), some .bool)]
abbrev Qpl : Sh := ⟨[(0, .ty (.sl tI)), (5, .ty tI), (6, .ty tI)], []⟩
def Qkz (x0 : List Int) (x5 x6 : Int) : VS := Qpl.st (x0, x5, x6, ()) ()
abbrev Qry : Sh := ⟨[(2, .ty .bool)], []⟩
def Qc8 (x2 : Bool) : VS := Qry.st (x2, ()) ()
abbrev QuX : Sh := ⟨[], []⟩
def Qeg  : VS := QuX.st () ()
def QR9 : VS → Option (Bool × List (Bool × Exit × VS)) := mkL Qpl (fun x y => (rngOk x.1 x.2.1 x.2.2.1)) (fun x y => [((!ascUp x.1 x.2.2.1.toNat), .ret, Qc8 (false)), (true, .exit 0, Qeg)])
def g_f77 : G := ⟨TYs, [], 24, EL [], keeps, (Ls [QR9]), IL [], RL []⟩
def QHd (x0 : List Int) (x5 x6 : Int) : Option (Exit × VS) := br (ilt x6 x5) (br (igt x6 0) (br (cIx x0 (isub .i64 x6 1)) (br (cIx x0 x6) (br (ige (lgt tI x0 (Int.toNat (isub .i64 x6 1))) (lgt tI x0 (Int.toNat x6))) (some (.ret, Qc8 false)) (some (.normal, Qkz x0 x5 (iadd .i64 x6 1)))) none) none) (some (.normal, Qkz x0 x5 (iadd .i64 x6 1)))) (some (.exit 0, Qeg))
noncomputable def QhJ (x0 : List Int) (x5 x6 : Int) : Option (Exit × VS) := loopF (Qaj g_f77 Qiw Qkf) (Qkz x0 x5 x6)
noncomputable def Qqg (x0 : List Int) (x5 x6 : Int) : Option (Exit × VS) := br (ilt x6 x5) (br (igt x6 0) (br (cIx x0 (isub .i64 x6 1)) (br (cIx x0 x6) (br (ige (lgt tI x0 (Int.toNat (isub .i64 x6 1))) (lgt tI x0 (Int.toNat x6))) (some (.ret, Qc8 false)) (QhJ x0 x5 (iadd .i64 x6 1))) none) none) (QhJ x0 x5 (iadd .i64 x6 1))) (some (.exit 0, Qeg))
def Qlf (x0 : List Int) (x5 x6 : Int) : Option (Exit × VS) := br (!ascUp x0 x6.toNat) (some (.ret, Qc8 (false))) <| some (.exit 0, Qeg)
theorem QKw (x0 : List Int) (x5 x6 : Int) : Qaj g_f77 Qiw Qkf (Qkz x0 x5 x6) = QHd x0 x5 x6 := by kernel_rfl
theorem Qxd (x0 : List Int) (x5 x6 : Int) : QhJ x0 x5 x6 = Qqg x0 x5 x6 := (Qaq _ _).trans (by
 rw [QKw]
 simp only [QHd, Qqg, QaE, nxt_n, nxt_r, nxt_e, nxt_0]
 rfl)
def r_f77 (p0 : List Int) : Option (V × List VO) := br (rngOk p0 (llen p0) (0 : Int)) (br (!ascUp p0 (0 : Int).toNat) (some (.t .bool (false), [])) (some (.t .bool true, []))) none
theorem e_f77 (p0 : List Int) : runF g_f77 QAg QMi false [.t (.sl tI) p0] [] = r_f77 p0 := by kernel_rfl
theorem en_f77 : Qag Tryz.prog 77 := .inr ⟨by decide, _, Tryz.func77, by kernel_rfl, by kernel_rfl⟩
theorem gk_f77 : GOk Tryz.prog g_f77 := Qao _ (fun p hp => by cases hp)
theorem QP1 (x0 : List Int) (x5 x6 : Int) (h : (rngOk x0 x5 x6) = true) : QhJ x0 x5 x6 = Qlf x0 x5 x6 := by
 obtain ⟨rfl, h3, k, rfl, hk⟩ := rng_k h
 clear h
 refine Qav x0 (fun k => QhJ x0 (x0.length : Int) (k : Int) = Qlf x0 (x0.length : Int) (k : Int)) ?_ ?_ k hk
 ·rw [Qxd]
  simp only [Qqg, Qlf, Qaz, Nat.lt_irrefl, decide_false, Qae, Int.toNat_natCast, QHx, Bool.not_true]
 ·intro k hk ih
  rw [Qxd]
  simp only [Qqg, Qaz, Qay, hk, decide_true, Qac, Int.toNat_natCast, add1 (show k < 4611686018427387904 by omega), QaG (y := tI) hk, ih, asc_br hk (show k < 4611686018427387904 by omega)]
  simp only [Qlf, Int.toNat_natCast, QzL hk]
  cases decide (k = 0) || ilt (x0.getD (k - 1) 0) x0[k] <;> rfl
theorem QID : ∀ S l p, g_f77.L 0 (fgt Qiw S) = some (true, l) → pickA l = some p → loopF (Qaj g_f77 Qiw Qkf) S = some p :=
 QaF (s := Qpl) ⟨by decide, by decide⟩ (by kernel_rfl) fun x y hok p hp => by
 simp only [Qar, Qap] at hp
 exact (QP1 x.1 x.2.1 x.2.2.1 (by simpa using hok)).trans hp
theorem lk_f77 : QAg.lok g_f77 := by
 repeat (first | exact trivial | exact QID | refine ⟨?_, ?_⟩)
theorem s_f77 (l : List Int) (h : Qa8 l = true) : r_f77 l = some (.t .bool (ascF l), []) := by
 simp only [Qa8, decide_eq_true_eq] at h
 simp only [r_f77, rng_0 h, Qac, Int.toNat_zero]
 unfold ascF
 cases ascUp l 0 <;> rfl
def QLt : Ent := spec (.pr (.sl tI) .nil) (fun x => (Qa8 x.1)) (fun x => (.t .bool (ascF x.1)))
theorem ms_f77 : Meets Tryz.prog 77 (strip QLt) := Qaf (R := runF g_f77 QAg QMi false) (mG Tryz.func77 (by kernel_rfl) Tryz.ntmps77 (by kernel_rfl) gk_f77 lk_f77) fun x hok => (e_f77 x.1).trans (s_f77 x.1 hok)
def hashF (a : Int) : Bool := ieq (kindF a) 1
noncomputable def QAd : TC := (.sq (.reg (rT Tryz.f83 0)) (.sq (.reg (rT Tryz.f83 1)) .rt))
def QMf : List (RV × Option Ty) := [((.t 2), some .bool)]
def g_f83 : G := ⟨TYs, [], 6, EL [(108, Qpd)], keeps, (fun _ _ => none), IL [], RL []⟩
def r_f83 (p0 : Int) : Option (V × List VO) := some (.t .bool (ieq (kindF p0) 1), [])
theorem e_f83 (p0 : Int) : runF g_f83 QAd QMf false [.t tI p0] [] = r_f83 p0 := by kernel_rfl
theorem en_f83 : Qag Tryz.prog 83 := .inr ⟨by decide, _, Tryz.func83, by kernel_rfl, by kernel_rfl⟩
theorem gk_f83 : GOk Tryz.prog g_f83 := Qao _ (gA (gC Qwg QvM gN))
theorem lk_f83 : QAd.lok g_f83 := by repeat (first | exact trivial | refine ⟨?_, ?_⟩)
theorem s_f83 (a : Int) : r_f83 a = some (.t .bool (hashF a), []) := rfl
def QLr : Ent := spec (.pr tI .nil) (fun x => true) (fun x => (.t .bool (hashF x.1)))
theorem ms_f83 : Meets Tryz.prog 83 (strip QLr) := Qaf (R := runF g_f83 QAd QMf false) (mG Tryz.func83 (by kernel_rfl) Tryz.ntmps83 (by kernel_rfl) gk_f83 lk_f83) fun x _ => (e_f83 x.1).trans (s_f83 x.1)
def QeZ (l : List Int) (k : Nat) : Bool := (List.range' k (l.length - k)).all fun j => ieq (QaC (l.getD j 0)).2 0 && !hasF (l.take j) (l.getD j 0)
def suitF (l : List Int) : Bool := QeZ l 0
theorem Qy1 (l : List Int) : QeZ l l.length = true := by
 unfold QeZ
 rw [Nat.sub_self]
 rfl
theorem QuC {l : List Int} {k : Nat} (hk : k < l.length) : QeZ l k = ((ieq (QaC l[k]).2 0 && !hasF (l.take k) l[k]) && QeZ l (k + 1)) := by
 have : l.length - k = (l.length - (k + 1)) + 1 := by omega
 unfold QeZ
 rw [this, List.range'_succ, List.all_cons]
 simp only [List.getD_eq_getElem?_getD, List.getElem?_eq_getElem hk, Option.getD_some]
theorem QIx (l : List Int) (k : Nat) : lsl l 0 (k : Int) = l.take k := by
 simp [lsl]
theorem QKo {l : List Int} {k : Nat} (hk : k ≤ l.length) : cSl l 0 (k : Int) ((List.length l : Nat) : Int) = true := by
 simp only [cSl, decide_eq_true_eq]
 omega
def Qix : Fg := ⟨[(0, some (.sl tI)), (7, some (.sl tI)), (8, some tI), (9, some tI)], []⟩
noncomputable def Qkg : TC := (.sq (.reg (rT Tryz.f76 2)) (.sq (.cd (.t 10) .sk (.fg ⟨[], []⟩ (.ex 0))) (.sq (.bk 1 (.sq (.reg (rT Tryz.f76 3)) (.sq (.reg (rT Tryz.f76 4)) (.sq (.reg (rT Tryz.f76 5)) (.cd (.t 27) (.sq (.reg (rT Tryz.f76 6)) (.fg ⟨[(2, some .bool)], []⟩ .rt)) .sk))))) (.reg (rT Tryz.f76 7)))))
noncomputable def QAh : TC := (.sq (.reg (rT Tryz.f76 0)) (.sq (.sq (.reg (rT Tryz.f76 1)) (.bk 0 (.lp 0 Qix Qkg))) (.sq (.reg (rT Tryz.f76 8)) .rt)))
def QMj : List (RV × Option Ty) := [((.t 2), some .bool)]
abbrev Qpm : Sh := ⟨[(0, .ty (.sl tI)), (7, .ty (.sl tI)), (8, .ty tI), (9, .ty tI)], []⟩
def QoY (x0 x7 : List Int) (x8 x9 : Int) : VS := Qpm.st (x0, x7, x8, x9, ()) ()
abbrev Qrz : Sh := ⟨[(2, .ty .bool)], []⟩
def QbI (x2 : Bool) : VS := Qrz.st (x2, ()) ()
abbrev QuY : Sh := ⟨[], []⟩
def Qeh  : VS := QuY.st () ()
def QSa : VS → Option (Bool × List (Bool × Exit × VS)) := mkL Qpm (fun x y => (rngOk x.2.1 x.2.2.1 x.2.2.2.1 && samB x.1 x.2.1)) (fun x y => [((!QeZ x.2.1 x.2.2.2.1.toNat), .ret, QbI (false)), (true, .exit 0, Qeh)])
def g_f76 : G := ⟨TYs, [], 29, EL [(48, Qrn), (59, Qop)], keeps, (Ls [QSa]), IL [], RL []⟩
def QHe (x0 x7 : List Int) (x8 x9 : Int) : Option (Exit × VS) :=
 let a1 := lgt tI x7 (Int.toNat x9)
 br (ilt x9 x8) (br (cIx x7 x9) (br (ine ((QaC a1).2) 0) (some (.ret, QbI false)) (br (cSl x0 0 x9 ((List.length x0 : Nat) : Int)) (br (QaW (lsl x0 0 x9) a1) (br (hasF (lsl x0 0 x9) a1) (some (.ret, QbI false)) (some (.normal, QoY x0 x7 x8 (iadd .i64 x9 1)))) none) none)) none) (some (.exit 0, Qeh))
noncomputable def Qk0 (x0 x7 : List Int) (x8 x9 : Int) : Option (Exit × VS) := loopF (Qaj g_f76 Qix Qkg) (QoY x0 x7 x8 x9)
noncomputable def Qqh (x0 x7 : List Int) (x8 x9 : Int) : Option (Exit × VS) :=
 let a1 := lgt tI x7 (Int.toNat x9)
 br (ilt x9 x8) (br (cIx x7 x9) (br (ine ((QaC a1).2) 0) (some (.ret, QbI false)) (br (cSl x0 0 x9 ((List.length x0 : Nat) : Int)) (br (QaW (lsl x0 0 x9) a1) (br (hasF (lsl x0 0 x9) a1) (some (.ret, QbI false)) (Qk0 x0 x7 x8 (iadd .i64 x9 1))) none) none)) none) (some (.exit 0, Qeh))
def Qlg (x0 x7 : List Int) (x8 x9 : Int) : Option (Exit × VS) := br (!QeZ x7 x9.toNat) (some (.ret, QbI (false))) <| some (.exit 0, Qeh)
theorem QKx (x0 x7 : List Int) (x8 x9 : Int) : Qaj g_f76 Qix Qkg (QoY x0 x7 x8 x9) = QHe x0 x7 x8 x9 := by kernel_rfl
theorem Qxe (x0 x7 : List Int) (x8 x9 : Int) : Qk0 x0 x7 x8 x9 = Qqh x0 x7 x8 x9 := (Qaq _ _).trans (by
 rw [QKx]
 simp only [QHe, Qqh, QaE, nxt_n, nxt_r, nxt_e, nxt_0]
 rfl)
def r_f76 (p0 : List Int) : Option (V × List VO) := br (rngOk p0 (llen p0) (0 : Int) && samB p0 p0) (br (!QeZ p0 (0 : Int).toNat) (some (.t .bool (false), [])) (some (.t .bool true, []))) none
theorem e_f76 (p0 : List Int) : runF g_f76 QAh QMj false [.t (.sl tI) p0] [] = r_f76 p0 := by kernel_rfl
theorem en_f76 : Qag Tryz.prog 76 := .inr ⟨by decide, _, Tryz.func76, by kernel_rfl, by kernel_rfl⟩
theorem gk_f76 : GOk Tryz.prog g_f76 := Qao _ (gA (gC Qyj Qw6 (gC Qtq QsF gN)))
theorem QP2 (x0 x7 : List Int) (x8 x9 : Int) (h : (rngOk x7 x8 x9 && samB x0 x7) = true) : Qk0 x0 x7 x8 x9 = Qlg x0 x7 x8 x9 := by
 simp only [Bool.and_eq_true] at h
 obtain ⟨h0, hs⟩ := h
 have hs := Qvi hs
 subst hs
 obtain ⟨rfl, h3, k, rfl, hk⟩ := rng_k h0
 clear h0
 refine Qav x0 (fun k => Qk0 x0 x0 (x0.length : Int) (k : Int) = Qlg x0 x0 (x0.length : Int) (k : Int)) ?_ ?_ k hk
 ·rw [Qxe]
  simp only [Qqh, Qlg, Qaz, Nat.lt_irrefl, decide_false, Qae, Int.toNat_natCast, Qy1, Bool.not_true]
 ·intro k hk ih
  rw [Qxe]
  have hi : QaW (x0.take k) x0[k] = true := decide_eq_true (by rw [List.length_take]; omega)
  simp only [Qqh, Qaz, Qay, hk, decide_true, Qac, Int.toNat_natCast, add1 (show k < 4611686018427387904 by omega), QaG (y := tI) hk, ih, QIx, QKo (show k ≤ x0.length by omega), hi, Qv2]
  simp only [Qlg, Int.toNat_natCast, QuC hk]
  cases ieq (QaC x0[k]).2 0 <;> cases hasF (x0.take k) x0[k] <;> rfl
theorem QIE : ∀ S l p, g_f76.L 0 (fgt Qix S) = some (true, l) → pickA l = some p → loopF (Qaj g_f76 Qix Qkg) S = some p :=
 QaF (s := Qpm) ⟨by decide, by decide⟩ (by kernel_rfl) fun x y hok p hp => by
 simp only [Qar, Qap] at hp
 exact (QP2 x.1 x.2.1 x.2.2.1 x.2.2.2.1 (by simpa using hok)).trans hp
theorem lk_f76 : QAh.lok g_f76 := by
 repeat (first | exact trivial | exact QIE | refine ⟨?_, ?_⟩)
theorem s_f76 (l : List Int) (h : Qa8 l = true) : r_f76 l = some (.t .bool (suitF l), []) := by
 simp only [Qa8, decide_eq_true_eq] at h
 simp only [r_f76, rng_0 h, QmQ, Bool.and_self, Qac, Int.toNat_zero]
 unfold suitF
 cases QeZ l 0 <;> rfl
def QLu : Ent := spec (.pr (.sl tI) .nil) (fun x => (Qa8 x.1)) (fun x => (.t .bool (suitF x.1)))
theorem ms_f76 : Meets Tryz.prog 76 (strip QLu) := Qaf (R := runF g_f76 QAh QMj false) (mG Tryz.func76 (by kernel_rfl) Tryz.ntmps76 (by kernel_rfl) gk_f76 lk_f76) fun x hok => (e_f76 x.1).trans (s_f76 x.1 hok)
def nKey (n : Int) : Bool := !keyI n
noncomputable def QlM : TC := (.sq (.reg (rT Tryz.f80 0)) (.sq (.reg (rT Tryz.f80 1)) .rt))
def Qr6 : List (RV × Option Ty) := [((.t 3), some .bool)]
def Qlv : G := ⟨TYs, [], 8, EL [(82, QwB)], keeps, (fun _ _ => none), IL [], RL []⟩
def QpT (p0 : Int) : Option (V × List VO) := some (.t .bool (!(keyI p0)), [.box (.c (.func (.func 82) #[] #[]))])
theorem QJP (p0 : Int) : runF Qlv QlM Qr6 false [.t tI p0, .ptr 50000 0] [.box (.c (.func (.func 82) ⟨[]⟩ ⟨[]⟩))] = QpT p0 := by kernel_rfl
theorem QFS : Qag Tryz.prog 80 := .inr ⟨by decide, _, Tryz.func80, by kernel_rfl, by kernel_rfl⟩
theorem QFx : GOk Tryz.prog Qlv := Qao _ (gA (gC QFQ QD7 gN))
theorem QE1 : QlM.lok Qlv := by repeat (first | exact trivial | refine ⟨?_, ?_⟩)
theorem QH1 (n : Int) : QpT n = some (.t .bool (nKey n), [.box (.c (.func (.func 82) #[] #[]))]) := by
 simp only [QpT]
 rfl
def Qrg : Ent := specB [.ty tI, .ptr 50000 0] [.bc 82] (fun x y => true) (fun x y => (.t .bool (nKey x.1))) (fun x y => [.box (.c (.func (.func 82) #[] #[]))])
theorem QD9 : Meets Tryz.prog 80 (strip Qrg) := Qca (QaI (R := runF Qlv QlM Qr6 false) (mG Tryz.func80 (by kernel_rfl) Tryz.ntmps80 (by kernel_rfl) QFx QE1) fun x y _ => (QJP x.1).trans (QH1 x.1))
def ixKey (l : List Int) : Int := match fstG nKey l with | some k => (k : Int) | none => -1
def QbA : Fg := ⟨[(0, some (.sl tI)), (1, none), (7, some tI), (8, some tI)], [(50000, none)]⟩
noncomputable def Qcd : TC := (.sq (.reg (rT Tryz.f40 2)) (.sq (.cd (.t 9) .sk (.fg ⟨[], [(50000, none)]⟩ (.ex 0))) (.sq (.bk 1 (.sq (.reg (rT Tryz.f40 3)) (.sq (.reg (rT Tryz.f40 4)) (.cd (.t 16) (.sq (.reg (rT Tryz.f40 5)) (.fg ⟨[(4, some tI)], [(50000, none)]⟩ .rt)) .sk)))) (.reg (rT Tryz.f40 6)))))
noncomputable def Qfc : TC := (.sq (.reg (rT Tryz.f40 0)) (.sq (.sq (.reg (rT Tryz.f40 1)) (.bk 0 (.lp 0 QbA Qcd))) (.sq (.reg (rT Tryz.f40 7)) .rt)))
def QjI : List (RV × Option Ty) := [((.t 4), some tI)]
abbrev QdO : Sh := ⟨[(0, .ty (.sl tI)), (1, .fn 80 [(50000, 0)]), (7, .ty tI), (8, .ty tI)], [(50000, .bc 82)]⟩
def QdL (x0 : List Int) (x7 x8 : Int) : VS := QdO.st (x0, (), x7, x8, ()) ((), ())
abbrev Qhx : Sh := ⟨[(4, .ty tI)], [(50000, .bc 82)]⟩
def Qbf (x4 : Int) : VS := Qhx.st (x4, ()) ((), ())
abbrev Qjb : Sh := ⟨[], [(50000, .bc 82)]⟩
def Qbq  : VS := Qjb.st () ((), ())
def Qq1 : VS → Option (Bool × List (Bool × Exit × VS)) := mkL QdO (fun x y => (rngOk x.1 x.2.2.1 x.2.2.2.1)) (fun x y => [(((fstG nKey (x.1.drop x.2.2.2.1.toNat)).isSome), .ret, Qbf (x.2.2.2.1 + ((fstG nKey (x.1.drop x.2.2.2.1.toNat)).getD 0 : Nat))), (true, .exit 0, Qbq)])
def Qbj : G := ⟨TYs, [], 19, EL [(80, Qrg)], keeps, (Ls [Qq1]), IL [], RL []⟩
def QiT (x0 : List Int) (x7 x8 : Int) : Option (Exit × VS) := br (ilt x8 x7) (br (cIx x0 x8) (br (nKey (lgt tI x0 (Int.toNat x8))) (some (.ret, Qbf x8)) (some (.normal, QdL x0 x7 (iadd .i64 x8 1)))) none) (some (.exit 0, Qbq))
noncomputable def Qck (x0 : List Int) (x7 x8 : Int) : Option (Exit × VS) := loopF (Qaj Qbj QbA Qcd) (QdL x0 x7 x8)
noncomputable def QcD (x0 : List Int) (x7 x8 : Int) : Option (Exit × VS) := br (ilt x8 x7) (br (cIx x0 x8) (br (nKey (lgt tI x0 (Int.toNat x8))) (some (.ret, Qbf x8)) (Qck x0 x7 (iadd .i64 x8 1))) none) (some (.exit 0, Qbq))
def Qcm (x0 : List Int) (x7 x8 : Int) : Option (Exit × VS) :=
 let a1 := fstG nKey (x0.drop x8.toNat)
 br (a1.isSome) (some (.ret, Qbf (x8 + (a1.getD 0 : Nat)))) <| some (.exit 0, Qbq)
theorem Qoj (x0 : List Int) (x7 x8 : Int) : Qaj Qbj QbA Qcd (QdL x0 x7 x8) = QiT x0 x7 x8 := by kernel_rfl
theorem Qgz (x0 : List Int) (x7 x8 : Int) : Qck x0 x7 x8 = QcD x0 x7 x8 := (Qaq _ _).trans (by
 rw [Qoj]
 simp only [QiT, QcD, QaE, nxt_n, nxt_r, nxt_e, nxt_0]
 rfl)
def QgU (p0 : List Int) : Option (V × List VO) :=
 let a1 := (fstG nKey (p0.drop (0 : Int).toNat))
 br (rngOk p0 (llen p0) (0 : Int)) (br (a1.isSome) (some (.t tI ((0 : Int) + (a1.getD 0 : Nat)), [.box (.c (.func (.func 82) #[] #[]))])) (some (.t tI (-1), [.box (.c (.func (.func 82) #[] #[]))]))) none
theorem Qwk (p0 : List Int) : runF Qbj Qfc QjI false [.t (.sl tI) p0, .fn 80 [(.ptr 50000 0)]] [.box (.c (.func (.func 82) ⟨[]⟩ ⟨[]⟩))] = QgU p0 := by kernel_rfl
theorem Qts : Qag Tryz.prog 40 := .inr ⟨by decide, _, Tryz.func40, by kernel_rfl, by kernel_rfl⟩
theorem Qti : GOk Tryz.prog Qbj := Qao _ (gA (gC QFS QD9 gN))
theorem QqE (x0 : List Int) (x7 x8 : Int) (h : (rngOk x0 x7 x8) = true) : Qck x0 x7 x8 = Qcm x0 x7 x8 := by
 obtain ⟨rfl, h3, k, rfl, hk⟩ := rng_k h
 clear h
 refine Qav x0 (fun k => Qck x0 (x0.length : Int) (k : Int) = Qcm x0 (x0.length : Int) (k : Int)) ?_ ?_ k hk
 ·rw [Qgz]
  simp [QcD, Qcm, Qaz, Qae, fstG]
 ·intro k hk ih
  rw [Qgz]
  simp only [QcD, Qaz, Qay, hk, decide_true, Qac, Int.toNat_natCast, add1 (show k < 4611686018427387904 by omega), ih, QaG (y := tI) hk]
  simp only [Qcm, Int.toNat_natCast, List.drop_eq_getElem_cons hk, fstG]
  cases h : nKey x0[k] with
  | true => simp [Qac]
  | false =>
   simp only [Qae, Bool.false_eq_true, if_false]
   cases hq : fstG nKey (x0.drop (k + 1)) with
   | none => rfl
   | some j =>
    simp only [Option.map_some, Option.isSome_some, Option.getD_some, Qac]
    congr 3
    omega
theorem Qoe : ∀ S l p, Qbj.L 0 (fgt QbA S) = some (true, l) → pickA l = some p → loopF (Qaj Qbj QbA Qcd) S = some p :=
 QaF (s := QdO) ⟨by decide, by decide⟩ (by kernel_rfl) fun x y hok p hp => by
 simp only [Qar, Qap] at hp
 exact (QqE x.1 x.2.2.1 x.2.2.2.1 (by simpa using hok)).trans hp
theorem Qs9 : Qfc.lok Qbj := by
 repeat (first | exact trivial | exact Qoe | refine ⟨?_, ?_⟩)
theorem Qvm (l : List Int) (h : Qa8 l = true) : QgU l = some (.t tI (ixKey l), [.box (.c (.func (.func 82) #[] #[]))]) := by
 simp only [Qa8, decide_eq_true_eq] at h
 simp only [QgU, rng_0 h, Qac, Int.toNat_zero, List.drop_zero, ixKey]
 cases fstG nKey l <;> simp [Qac, Qae]
def QjD : Ent := specB [.ty (.sl tI), .fn 80 [(50000, 0)]] [.bc 82] (fun x y => (Qa8 x.1)) (fun x y => (.t tI (ixKey x.1))) (fun x y => [.box (.c (.func (.func 82) #[] #[]))])
theorem QsH : Meets Tryz.prog 40 (strip QjD) := Qca (QaI (R := runF Qbj Qfc QjI false) (mG Tryz.func40 (by kernel_rfl) Tryz.ntmps40 (by kernel_rfl) Qti Qs9) fun x y hok => (Qwk x.1).trans (Qvm x.1 hok))
def Qn3 (l : List Int) : Bool := !l.all keyI
noncomputable def Qfa : TC := (.sq (.reg (rT Tryz.f81 0)) (.sq (.reg (rT Tryz.f81 1)) .rt))
def QjG : List (RV × Option Ty) := [((.t 4), some .bool)]
def QeU : G := ⟨TYs, [], 9, EL [(40, QjD)], keeps, (fun _ _ => none), IL [], RL []⟩
def QgS (p0 : List Int) : Option (V × List VO) := br (Qa8 p0) (some (.t .bool (ige (ixKey p0) 0), [.box (.c (.func (.func 82) #[] #[]))])) none
theorem Qwi (p0 : List Int) : runF QeU Qfa QjG false [.t (.sl tI) p0, .fn 80 [(.ptr 50000 0)]] [.box (.c (.func (.func 82) ⟨[]⟩ ⟨[]⟩))] = QgS p0 := by kernel_rfl
theorem Qtp : Qag Tryz.prog 81 := .inr ⟨by decide, _, Tryz.func81, by kernel_rfl, by kernel_rfl⟩
theorem Qtg : GOk Tryz.prog QeU := Qao _ (gA (gC Qts QsH gN))
theorem Qs7 : Qfa.lok QeU := by repeat (first | exact trivial | refine ⟨?_, ?_⟩)
theorem Qvk (l : List Int) (h : Qa8 l = true) : QgS l = some (.t .bool (Qn3 l), [.box (.c (.func (.func 82) #[] #[]))]) := by
 simp only [QgS, h, Qac]
 have e : ige (ixKey l) 0 = Qn3 l := by
  have e2 : Qn3 l = l.any nKey := by
   unfold Qn3
   rw [List.not_all_eq_any_not]
   rfl
  rw [e2]
  unfold ixKey
  cases hq : fstG nKey l with
  | none => rw [QcU.1 hq]; rfl
  | some k =>
   rw [← QcV, hq]
   simp only [ige, Option.isSome_some, decide_eq_true_eq]
   omega
 rw [e]
def QjB : Ent := specB [.ty (.sl tI), .fn 80 [(50000, 0)]] [.bc 82] (fun x y => (Qa8 x.1)) (fun x y => (.t .bool (Qn3 x.1))) (fun x y => [.box (.c (.func (.func 82) #[] #[]))])
theorem QsE : Meets Tryz.prog 81 (strip QjB) := Qca (QaI (R := runF QeU Qfa QjG false) (mG Tryz.func81 (by kernel_rfl) Tryz.ntmps81 (by kernel_rfl) Qtg Qs7) fun x y hok => (Qwi x.1).trans (Qvk x.1 hok))
noncomputable def QlO : TC := (.sq (.reg (rT Tryz.f79 0)) (.sq (.reg (rT Tryz.f79 1)) .rt))
def Qr8 : List (RV × Option Ty) := [((.t 2), none)]
def Qlx : G := ⟨TYs, [], 4, EL [], keeps, (fun _ _ => none), IL [], RL []⟩
def QwS  : Option (V × List VO) := some (.fn 80 [(.ptr 50000 0)], [.box (.c (.func (.func 82) #[] #[]))])
theorem QJR  : runF Qlx QlO Qr8 true [.c (.func (.func 82) ⟨[]⟩ ⟨[]⟩)] [] = QwS  := by kernel_rfl
theorem QFU : Qag Tryz.prog 79 := .inr ⟨by decide, _, Tryz.func79, by kernel_rfl, by kernel_rfl⟩
theorem QFz : GOk Tryz.prog Qlx := Qao _ (fun p hp => by cases hp)
theorem QE3 : QlO.lok Qlx := by repeat (first | exact trivial | refine ⟨?_, ?_⟩)
theorem QH3 : QwS = some (.fn 80 [.ptr 50000 0], [.box (.c (.func (.func 82) #[] #[]))]) := rfl
def Qri : Ent := specB [.cf 82] [] (fun x y => true) (fun x y => (.fn 80 [(.ptr 50000 0)])) (fun x y => [.box (.c (.func (.func 82) #[] #[]))])
theorem QEb : Meets Tryz.prog 79 (strip Qri) := Qca (QaI (R := runF Qlx QlO Qr8 true) (mG Tryz.func79 (by kernel_rfl) Tryz.ntmps79 (by kernel_rfl) QFz QE3) fun x y _ => (QJR ).trans (QH3 ))
def nHash (n : Int) : Bool := !hashF n
noncomputable def QlL : TC := (.sq (.reg (rT Tryz.f80 0)) (.sq (.reg (rT Tryz.f80 1)) .rt))
def Qr5 : List (RV × Option Ty) := [((.t 3), some .bool)]
def Qlu : G := ⟨TYs, [], 8, EL [(83, QLr)], keeps, (fun _ _ => none), IL [], RL []⟩
def QpS (p0 : Int) : Option (V × List VO) := some (.t .bool (!(hashF p0)), [.box (.c (.func (.func 83) #[] #[]))])
theorem QJO (p0 : Int) : runF Qlu QlL Qr5 false [.t tI p0, .ptr 50000 0] [.box (.c (.func (.func 83) ⟨[]⟩ ⟨[]⟩))] = QpS p0 := by kernel_rfl
theorem QFR : Qag Tryz.prog 80 := .inr ⟨by decide, _, Tryz.func80, by kernel_rfl, by kernel_rfl⟩
theorem QFw : GOk Tryz.prog Qlu := Qao _ (gA (gC en_f83 ms_f83 gN))
theorem QE0 : QlL.lok Qlu := by repeat (first | exact trivial | refine ⟨?_, ?_⟩)
theorem QH0 (n : Int) : QpS n = some (.t .bool (nHash n), [.box (.c (.func (.func 83) #[] #[]))]) := by
 simp only [QpS]
 rfl
def Qrf : Ent := specB [.ty tI, .ptr 50000 0] [.bc 83] (fun x y => true) (fun x y => (.t .bool (nHash x.1))) (fun x y => [.box (.c (.func (.func 83) #[] #[]))])
theorem QD8 : Meets Tryz.prog 80 (strip Qrf) := Qca (QaI (R := runF Qlu QlL Qr5 false) (mG Tryz.func80 (by kernel_rfl) Tryz.ntmps80 (by kernel_rfl) QFw QE0) fun x y _ => (QJO x.1).trans (QH0 x.1))
def Qoz (l : List Int) : Int := match fstG nHash l with | some k => (k : Int) | none => -1
def Qbz : Fg := ⟨[(0, some (.sl tI)), (1, none), (7, some tI), (8, some tI)], [(50000, none)]⟩
noncomputable def Qcc : TC := (.sq (.reg (rT Tryz.f40 2)) (.sq (.cd (.t 9) .sk (.fg ⟨[], [(50000, none)]⟩ (.ex 0))) (.sq (.bk 1 (.sq (.reg (rT Tryz.f40 3)) (.sq (.reg (rT Tryz.f40 4)) (.cd (.t 16) (.sq (.reg (rT Tryz.f40 5)) (.fg ⟨[(4, some tI)], [(50000, none)]⟩ .rt)) .sk)))) (.reg (rT Tryz.f40 6)))))
noncomputable def Qfb : TC := (.sq (.reg (rT Tryz.f40 0)) (.sq (.sq (.reg (rT Tryz.f40 1)) (.bk 0 (.lp 0 Qbz Qcc))) (.sq (.reg (rT Tryz.f40 7)) .rt)))
def QjH : List (RV × Option Ty) := [((.t 4), some tI)]
abbrev QdN : Sh := ⟨[(0, .ty (.sl tI)), (1, .fn 80 [(50000, 0)]), (7, .ty tI), (8, .ty tI)], [(50000, .bc 83)]⟩
def QdK (x0 : List Int) (x7 x8 : Int) : VS := QdN.st (x0, (), x7, x8, ()) ((), ())
abbrev Qhw : Sh := ⟨[(4, .ty tI)], [(50000, .bc 83)]⟩
def Qbe (x4 : Int) : VS := Qhw.st (x4, ()) ((), ())
abbrev Qja : Sh := ⟨[], [(50000, .bc 83)]⟩
def Qbp  : VS := Qja.st () ((), ())
def Qq0 : VS → Option (Bool × List (Bool × Exit × VS)) := mkL QdN (fun x y => (rngOk x.1 x.2.2.1 x.2.2.2.1)) (fun x y => [(((fstG nHash (x.1.drop x.2.2.2.1.toNat)).isSome), .ret, Qbe (x.2.2.2.1 + ((fstG nHash (x.1.drop x.2.2.2.1.toNat)).getD 0 : Nat))), (true, .exit 0, Qbp)])
def Qbi : G := ⟨TYs, [], 19, EL [(80, Qrf)], keeps, (Ls [Qq0]), IL [], RL []⟩
def QiS (x0 : List Int) (x7 x8 : Int) : Option (Exit × VS) := br (ilt x8 x7) (br (cIx x0 x8) (br (nHash (lgt tI x0 (Int.toNat x8))) (some (.ret, Qbe x8)) (some (.normal, QdK x0 x7 (iadd .i64 x8 1)))) none) (some (.exit 0, Qbp))
noncomputable def Qcj (x0 : List Int) (x7 x8 : Int) : Option (Exit × VS) := loopF (Qaj Qbi Qbz Qcc) (QdK x0 x7 x8)
noncomputable def QcC (x0 : List Int) (x7 x8 : Int) : Option (Exit × VS) := br (ilt x8 x7) (br (cIx x0 x8) (br (nHash (lgt tI x0 (Int.toNat x8))) (some (.ret, Qbe x8)) (Qcj x0 x7 (iadd .i64 x8 1))) none) (some (.exit 0, Qbp))
def Qcl (x0 : List Int) (x7 x8 : Int) : Option (Exit × VS) :=
 let a1 := fstG nHash (x0.drop x8.toNat)
 br (a1.isSome) (some (.ret, Qbe (x8 + (a1.getD 0 : Nat)))) <| some (.exit 0, Qbp)
theorem Qoi (x0 : List Int) (x7 x8 : Int) : Qaj Qbi Qbz Qcc (QdK x0 x7 x8) = QiS x0 x7 x8 := by kernel_rfl
theorem Qgy (x0 : List Int) (x7 x8 : Int) : Qcj x0 x7 x8 = QcC x0 x7 x8 := (Qaq _ _).trans (by
 rw [Qoi]
 simp only [QiS, QcC, QaE, nxt_n, nxt_r, nxt_e, nxt_0]
 rfl)
def QgT (p0 : List Int) : Option (V × List VO) :=
 let a1 := (fstG nHash (p0.drop (0 : Int).toNat))
 br (rngOk p0 (llen p0) (0 : Int)) (br (a1.isSome) (some (.t tI ((0 : Int) + (a1.getD 0 : Nat)), [.box (.c (.func (.func 83) #[] #[]))])) (some (.t tI (-1), [.box (.c (.func (.func 83) #[] #[]))]))) none
theorem Qwj (p0 : List Int) : runF Qbi Qfb QjH false [.t (.sl tI) p0, .fn 80 [(.ptr 50000 0)]] [.box (.c (.func (.func 83) ⟨[]⟩ ⟨[]⟩))] = QgT p0 := by kernel_rfl
theorem Qtr : Qag Tryz.prog 40 := .inr ⟨by decide, _, Tryz.func40, by kernel_rfl, by kernel_rfl⟩
theorem Qth : GOk Tryz.prog Qbi := Qao _ (gA (gC QFR QD8 gN))
theorem QqD (x0 : List Int) (x7 x8 : Int) (h : (rngOk x0 x7 x8) = true) : Qcj x0 x7 x8 = Qcl x0 x7 x8 := by
 obtain ⟨rfl, h3, k, rfl, hk⟩ := rng_k h
 clear h
 refine Qav x0 (fun k => Qcj x0 (x0.length : Int) (k : Int) = Qcl x0 (x0.length : Int) (k : Int)) ?_ ?_ k hk
 ·rw [Qgy]
  simp [QcC, Qcl, Qaz, Qae, fstG]
 ·intro k hk ih
  rw [Qgy]
  simp only [QcC, Qaz, Qay, hk, decide_true, Qac, Int.toNat_natCast, add1 (show k < 4611686018427387904 by omega), ih, QaG (y := tI) hk]
  simp only [Qcl, Int.toNat_natCast, List.drop_eq_getElem_cons hk, fstG]
  cases h : nHash x0[k] with
  | true => simp [Qac]
  | false =>
   simp only [Qae, Bool.false_eq_true, if_false]
   cases hq : fstG nHash (x0.drop (k + 1)) with
   | none => rfl
   | some j =>
    simp only [Option.map_some, Option.isSome_some, Option.getD_some, Qac]
    congr 3
    omega
theorem Qod : ∀ S l p, Qbi.L 0 (fgt Qbz S) = some (true, l) → pickA l = some p → loopF (Qaj Qbi Qbz Qcc) S = some p :=
 QaF (s := QdN) ⟨by decide, by decide⟩ (by kernel_rfl) fun x y hok p hp => by
 simp only [Qar, Qap] at hp
 exact (QqD x.1 x.2.2.1 x.2.2.2.1 (by simpa using hok)).trans hp
theorem Qs8 : Qfb.lok Qbi := by
 repeat (first | exact trivial | exact Qod | refine ⟨?_, ?_⟩)
theorem Qvl (l : List Int) (h : Qa8 l = true) : QgT l = some (.t tI (Qoz l), [.box (.c (.func (.func 83) #[] #[]))]) := by
 simp only [Qa8, decide_eq_true_eq] at h
 simp only [QgT, rng_0 h, Qac, Int.toNat_zero, List.drop_zero, Qoz]
 cases fstG nHash l <;> simp [Qac, Qae]
def QjC : Ent := specB [.ty (.sl tI), .fn 80 [(50000, 0)]] [.bc 83] (fun x y => (Qa8 x.1)) (fun x y => (.t tI (Qoz x.1))) (fun x y => [.box (.c (.func (.func 83) #[] #[]))])
theorem QsG : Meets Tryz.prog 40 (strip QjC) := Qca (QaI (R := runF Qbi Qfb QjH false) (mG Tryz.func40 (by kernel_rfl) Tryz.ntmps40 (by kernel_rfl) Qth Qs8) fun x y hok => (Qwj x.1).trans (Qvl x.1 hok))
def Qg3 (l : List Int) : Bool := !l.all hashF
noncomputable def Qe9 : TC := (.sq (.reg (rT Tryz.f81 0)) (.sq (.reg (rT Tryz.f81 1)) .rt))
def QjF : List (RV × Option Ty) := [((.t 4), some .bool)]
def QeT : G := ⟨TYs, [], 9, EL [(40, QjC)], keeps, (fun _ _ => none), IL [], RL []⟩
def QgR (p0 : List Int) : Option (V × List VO) := br (Qa8 p0) (some (.t .bool (ige (Qoz p0) 0), [.box (.c (.func (.func 83) #[] #[]))])) none
theorem Qwh (p0 : List Int) : runF QeT Qe9 QjF false [.t (.sl tI) p0, .fn 80 [(.ptr 50000 0)]] [.box (.c (.func (.func 83) ⟨[]⟩ ⟨[]⟩))] = QgR p0 := by kernel_rfl
theorem Qto : Qag Tryz.prog 81 := .inr ⟨by decide, _, Tryz.func81, by kernel_rfl, by kernel_rfl⟩
theorem Qtf : GOk Tryz.prog QeT := Qao _ (gA (gC Qtr QsG gN))
theorem Qs6 : Qe9.lok QeT := by repeat (first | exact trivial | refine ⟨?_, ?_⟩)
theorem Qvj (l : List Int) (h : Qa8 l = true) : QgR l = some (.t .bool (Qg3 l), [.box (.c (.func (.func 83) #[] #[]))]) := by
 simp only [QgR, h, Qac]
 have e : ige (Qoz l) 0 = Qg3 l := by
  have e2 : Qg3 l = l.any nHash := by
   unfold Qg3
   rw [List.not_all_eq_any_not]
   rfl
  rw [e2]
  unfold Qoz
  cases hq : fstG nHash l with
  | none => rw [QcU.1 hq]; rfl
  | some k =>
   rw [← QcV, hq]
   simp only [ige, Option.isSome_some, decide_eq_true_eq]
   omega
 rw [e]
def QjA : Ent := specB [.ty (.sl tI), .fn 80 [(50000, 0)]] [.bc 83] (fun x y => (Qa8 x.1)) (fun x y => (.t .bool (Qg3 x.1))) (fun x y => [.box (.c (.func (.func 83) #[] #[]))])
theorem QsD : Meets Tryz.prog 81 (strip QjA) := Qca (QaI (R := runF QeT Qe9 QjF false) (mG Tryz.func81 (by kernel_rfl) Tryz.ntmps81 (by kernel_rfl) Qtf Qs6) fun x y hok => (Qwh x.1).trans (Qvj x.1 hok))
noncomputable def QlN : TC := (.sq (.reg (rT Tryz.f79 0)) (.sq (.reg (rT Tryz.f79 1)) .rt))
def Qr7 : List (RV × Option Ty) := [((.t 2), none)]
def Qlw : G := ⟨TYs, [], 4, EL [], keeps, (fun _ _ => none), IL [], RL []⟩
def QwR  : Option (V × List VO) := some (.fn 80 [(.ptr 50000 0)], [.box (.c (.func (.func 83) #[] #[]))])
theorem QJQ  : runF Qlw QlN Qr7 true [.c (.func (.func 83) ⟨[]⟩ ⟨[]⟩)] [] = QwR  := by kernel_rfl
theorem QFT : Qag Tryz.prog 79 := .inr ⟨by decide, _, Tryz.func79, by kernel_rfl, by kernel_rfl⟩
theorem QFy : GOk Tryz.prog Qlw := Qao _ (fun p hp => by cases hp)
theorem QE2 : QlN.lok Qlw := by repeat (first | exact trivial | refine ⟨?_, ?_⟩)
theorem QH2 : QwR = some (.fn 80 [.ptr 50000 0], [.box (.c (.func (.func 83) #[] #[]))]) := rfl
def Qrh : Ent := specB [.cf 83] [] (fun x y => true) (fun x y => (.fn 80 [(.ptr 50000 0)])) (fun x y => [.box (.c (.func (.func 83) #[] #[]))])
theorem QEa : Meets Tryz.prog 79 (strip Qrh) := Qca (QaI (R := runF Qlw QlN Qr7 true) (mG Tryz.func79 (by kernel_rfl) Tryz.ntmps79 (by kernel_rfl) QFy QE2) fun x y _ => (QJQ ).trans (QH2 ))
end
end Go.Proofs.YtkngeegkjhipeaaGreat.K
