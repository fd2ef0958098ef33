import Derived.Test.YtkngeegkjhipeaaGreatN9
import Derived.Shelf.Small.Strs
import Derived.Ground.NamesProg
set_option linter.unusedSimpArgs false
set_option linter.unusedVariables false
namespace Go.Proofs
open Go.Shelf
def Tryz.lays137_ren : Go.Shelf.Ren := ⟨fun | 137 => 133 | 217 => 146 | 266 => 167 | n => n, fun | 9 => 9 | 5 => 5 | 3 => 3 | n => n, fun | n => n⟩
theorem Tryz.lays137 : Go.Proofs.Lays.n137 Tryz.prog Tryz.lays137_ren := {
 mixed := by kernel_rfl
 f137 := Tryz.func133.trans (congrArg some (by kernel_rfl))
 f217 := Tryz.func146.trans (congrArg some (by kernel_rfl))
 f266 := Tryz.func167.trans (congrArg some (by kernel_rfl))
 t3 := Tryz.underlying3
 a3 := Tryz.isAgg3
 z3 := Tryz.sizeOf3
 v3 := Tryz.zeroValue3
 t5 := Tryz.underlying5
 a5 := Tryz.isAgg5
 z5 := Tryz.sizeOf5
 v5 := Tryz.zeroValue5
 t9 := Tryz.underlying9
 a9 := Tryz.isAgg9
 z9 := Tryz.sizeOf9
 v9 := Tryz.zeroValue9 }
end Go.Proofs
namespace Go.Proofs.YtkngeegkjhipeaaGreat.K
open Go.RowKit Go.Shelf
noncomputable section
def ixB (s : ByteArray) (c : Int) : Int := Lib.indexByte s.data.toList c.toNat.toUInt8
def QBa : Ent := spec (.pr .str (.pr (.int .u8) .nil)) (fun x => true) (fun x => (.t tI (ixB x.1 x.2.1)))
theorem QQF : Qag Tryz.prog 133 := .inr ⟨by decide, _, Tryz.func133, by kernel_rfl, by kernel_rfl⟩
theorem QNV : Meets Tryz.prog 133 (strip QBa) := Qvk fun x hok X w σ vs hfin hc => by
 obtain ⟨s, c, u⟩ := x
 simp only [Ty.canon, V.ds, V.d, Ty.d, Cs, C] at hc
 obtain ⟨v1, r1, rfl, ⟨rfl, _⟩, v2, r2, rfl, ⟨rfl, _⟩, rfl⟩ := hc
 refine (Any.strings_IndexByte Tryz.lays137 s c w).mono ?_
 rintro e w' ⟨rfl, rfl⟩
 refine ⟨_, rfl, ?_, Below.refl _ _⟩
 simp only [V.d, Ty.d, C]
 exact ⟨rfl, rfl⟩
def QgY (c : Int) (o : ByteArray) : Bool := (ige c 97 && ile c 122) || ((ige c 65 && ile c 90) || ((ige c 48 && ile c 57) || ige (ixB o c) 0))
noncomputable def Qt7 : TC := (.sq (.reg (rT Tryz.f106 0)) (.sq (.reg (rT Tryz.f106 1)) .rt))
def QCi : List (RV × Option Ty) := [((.t 4), some .bool)]
def Qxx : G := ⟨TYs, [], 33, EL [(133, QBa)], keeps, (fun _ _ => none), IL [], RL []⟩
def QpO (p0 : Int) (p1 : ByteArray) : Option (V × List VO) := br (ige p0 48) (br (ile p0 57) (some (.t .bool true, [])) (some (.t .bool (ige (ixB p1 p0) 0), []))) (some (.t .bool (ige (ixB p1 p0) 0), []))
def QpP (p0 : Int) (p1 : ByteArray) : Option (V × List VO) := br (ige p0 65) (br (ile p0 90) (some (.t .bool true, [])) (QpO p0 p1)) (QpO p0 p1)
def QDa (p0 : Int) (p1 : ByteArray) : Option (V × List VO) := br (ige p0 97) (br (ile p0 122) (some (.t .bool true, [])) (QpP p0 p1)) (QpP p0 p1)
theorem e_f106 (p0 : Int) (p1 : ByteArray) : runF Qxx Qt7 QCi false [.t (.int .u8) p0, .t .str p1] [] = QDa p0 p1 := by kernel_rfl
theorem QQR : Qag Tryz.prog 106 := .inr ⟨by decide, _, Tryz.func106, by kernel_rfl, by kernel_rfl⟩
theorem QQh : GOk Tryz.prog Qxx := Qal _ (gA (gC QQF QNV gN))
theorem QO4 : Qt7.lok Qxx := by repeat (first | exact trivial | refine ⟨?_, ?_⟩)
theorem brO {a b r : Bool} {X : Option (V × List VO)} (h : X = some (.t .bool r, [])) : br a (br b (some (.t .bool true, [])) X) X = some (.t .bool ((a && b) || r), []) := by
 subst h
 cases a <;> cases b <;> rfl
theorem s_f106 (c : Int) (o : ByteArray) : QDa c o = some (.t .bool (QgY c o), []) := by
 simp only [QDa, QpP, QpO]
 exact brO (brO (brO rfl))
def QBm : Ent := spec (.pr (.int .u8) (.pr .str .nil)) (fun x => true) (fun x => (.t .bool (QgY x.1 x.2.1)))
theorem QN7 : Meets Tryz.prog 106 (strip QBm) := Qaf (R := runF Qxx Qt7 QCi false) (mG Tryz.func106 (by kernel_rfl) Tryz.ntmps106 (by kernel_rfl) QQh QO4) fun x _ => (e_f106 x.1 x.2.1).trans (s_f106 x.1 x.2.1)
def wordC (c : Int) : Bool := !(ilt c 97 || igt c 122) || (!(ilt c 65 || igt c 90) || (!(ilt c 48 || igt c 57) || (ieq c 45 || (ieq c 95 || ieq c 46))))
def wordF (s : ByteArray) : Bool := (QaH s).all wordC && decide (1 ≤ s.size ∧ s.size ≤ 32)
set_option maxRecDepth 100000 in
theorem QO6 : ((List.range 256).all fun n => QgY (n : Int) (ByteArray.mk #[45, 95, 46]) == wordC (n : Int)) = true := by kernel_rfl
theorem QIk {s : ByteArray} {c : Int} (h : c ∈ QaH s) : QgY c (ByteArray.mk #[45, 95, 46]) = wordC c := by
 obtain ⟨b, _, rfl⟩ := List.mem_map.1 h
 have := List.all_eq_true.1 QO6 b.toNat (by rw [List.mem_range]; exact b.toNat_lt)
 exact eq_of_beq this
def Qis : Fg := ⟨[(0, some .str), (6, some (.sl (.int .u8))), (7, some tI), (8, some tI)], []⟩
noncomputable def Qkb : TC := (.sq (.reg (rT Tryz.f75 2)) (.sq (.cd (.t 9) .sk (.fg ⟨[(0, some .str)], []⟩ (.ex 0))) (.sq (.bk 1 (.sq (.reg (rT Tryz.f75 3)) (.sq (.reg (rT Tryz.f75 4)) (.cd (.t 14) (.sq (.reg (rT Tryz.f75 5)) (.fg ⟨[(2, some .bool)], []⟩ .rt)) .sk)))) (.reg (rT Tryz.f75 6)))))
noncomputable def QzJ : TC := (.sq (.reg (rT Tryz.f75 0)) (.sq (.sq (.reg (rT Tryz.f75 1)) (.bk 0 (.lp 0 Qis Qkb))) (.sq (.reg (rT Tryz.f75 7)) .rt)))
def QLB : List (RV × Option Ty) := [((.t 2), some .bool)]
abbrev Qo8 : Sh := ⟨[(0, .ty .str), (6, .ty (.sl (.int .u8))), (7, .ty tI), (8, .ty tI)], []⟩
def QoL (x0 : ByteArray) (x6 : List Int) (x7 x8 : Int) : VS := Qo8.st (x0, x6, x7, x8, ()) ()
abbrev Qri : Sh := ⟨[(2, .ty .bool)], []⟩
def Qdc (x2 : Bool) : VS := Qri.st (x2, ()) ()
abbrev Quu : Sh := ⟨[(0, .ty .str)], []⟩
def Qel (x0 : ByteArray) : VS := Quu.st (x0, ()) ()
def QRi : VS → Option (Bool × List (Bool × Exit × VS)) := mkL Qo8 (fun x y => (rngG x.2.1 x.2.2.1 x.2.2.2.1 && samB x.2.1 (QaH x.1))) (fun x y => [((!((x.2.1.drop x.2.2.2.1.toNat).all wordC)), .ret, Qdc (false)), (true, .exit 0, Qel (x.1))])
def g_f75 : G := ⟨TYs, [], 24, EL [(106, QBm), (22760144, QaY)], keeps, (Ls [QRi]), IL [], RL []⟩
def QGD (x0 : ByteArray) (x6 : List Int) (x7 x8 : Int) : Option (Exit × VS) := br (ilt x8 x7) (br (cIx x6 x8) (br (!(QgY (lgt (.int .u8) x6 (Int.toNat x8)) (ByteArray.mk #[45, 95, 46]))) (some (.ret, Qdc false)) (some (.normal, QoL x0 x6 x7 (iadd .i64 x8 1)))) none) (some (.exit 0, Qel x0))
noncomputable def QkT (x0 : ByteArray) (x6 : List Int) (x7 x8 : Int) : Option (Exit × VS) := loopF (Qai g_f75 Qis Qkb) (QoL x0 x6 x7 x8)
noncomputable def Qp0 (x0 : ByteArray) (x6 : List Int) (x7 x8 : Int) : Option (Exit × VS) := br (ilt x8 x7) (br (cIx x6 x8) (br (!(QgY (lgt (.int .u8) x6 (Int.toNat x8)) (ByteArray.mk #[45, 95, 46]))) (some (.ret, Qdc false)) (QkT x0 x6 x7 (iadd .i64 x8 1))) none) (some (.exit 0, Qel x0))
def Qk9 (x0 : ByteArray) (x6 : List Int) (x7 x8 : Int) : Option (Exit × VS) := br (!((x6.drop x8.toNat).all wordC)) (some (.ret, Qdc (false))) <| some (.exit 0, Qel (x0))
theorem QJU (x0 : ByteArray) (x6 : List Int) (x7 x8 : Int) : Qai g_f75 Qis Qkb (QoL x0 x6 x7 x8) = QGD x0 x6 x7 x8 := by kernel_rfl
theorem QwI (x0 : ByteArray) (x6 : List Int) (x7 x8 : Int) : QkT x0 x6 x7 x8 = Qp0 x0 x6 x7 x8 := (Qap _ _).trans (by
 rw [QJU]
 simp only [QGD, Qp0, QaE, nxt_n, nxt_r, nxt_e, nxt_0]
 rfl)
def r_f75 (p0 : ByteArray) : Option (V × List VO) := br (Qa3 p0) (br (rngG (QaH p0) (llen (QaH p0)) (0 : Int) && samB (QaH p0) (QaH p0)) (br (!(((QaH p0).drop (0 : Int).toNat).all wordC)) (some (.t .bool (false), [])) (br (ige (slen (p0)) 1) (some (.t .bool (ile (slen (p0)) 32), [])) (some (.t .bool false, [])))) none) none
theorem e_f75 (p0 : ByteArray) : runF g_f75 QzJ QLB false [.t .str p0] [] = r_f75 p0 := by kernel_rfl
theorem en_f75 : Qag Tryz.prog 75 := .inr ⟨by decide, _, Tryz.func75, by kernel_rfl, by kernel_rfl⟩
theorem gk_f75 : GOk Tryz.prog g_f75 := Qal _ (gA (gC QQR QN7 (gC Qbc Qba gN)))
theorem QPd (x0 : ByteArray) (x6 : List Int) (x7 x8 : Int) (h : (rngG x6 x7 x8 && samB x6 (QaH x0)) = true) : QkT x0 x6 x7 x8 = Qk9 x0 x6 x7 x8 := by
 simp only [Bool.and_eq_true] at h
 obtain ⟨h, hs⟩ := h
 have hs := QuM hs
 obtain ⟨rfl, h3, k, rfl, hk⟩ := QCo h
 clear h
 refine Qav x6 (fun k => QkT x0 x6 (x6.length : Int) (k : Int) = Qk9 x0 x6 (x6.length : Int) (k : Int)) ?_ ?_ k hk
 ·rw [QwI]
  simp [Qp0, Qk9, Qaz, Qae]
 ·intro k hk ih
  rw [QwI]
  have hw : QgY x6[k] (ByteArray.mk #[45, 95, 46]) = wordC x6[k] := QIk (s := x0) (by rw [← hs]; exact List.getElem_mem hk)
  simp only [Qp0, Qaz, QaA, hk, decide_true, Qac, Int.toNat_natCast, add1G (show k < 9223372036854775807 by omega), QaF (y := .int .u8) hk, ih, hw]
  simp only [Qk9, Int.toNat_natCast, List.drop_eq_getElem_cons hk, List.all_cons]
  cases wordC x6[k] <;> rfl
theorem QH3 : ∀ S l p, g_f75.L 0 (fgt Qis S) = some (true, l) → pickA l = some p → loopF (Qai g_f75 Qis Qkb) S = some p :=
 QaG (s := Qo8) ⟨by decide, by decide⟩ (by kernel_rfl) fun x y hok p hp => by
 simp only [Qas, Qao] at hp
 exact (QPd x.1 x.2.1 x.2.2.1 x.2.2.2.1 (by simpa using hok)).trans hp
theorem lk_f75 : QzJ.lok g_f75 := by
 repeat (first | exact trivial | exact QH3 | refine ⟨?_, ?_⟩)
theorem s_f75 (s : ByteArray) (h : nameG s = true) : r_f75 s = some (.t .bool (wordF s), []) := by
 simp only [nameG, decide_eq_true_eq] at h
 have hl := QcR s
 simp only [r_f75, show Qa3 s = true from decide_eq_true (by omega), QCp (show (QaH s).length ≤ 9223372036854775807 by omega), QmG, Bool.and_self, Qac, Int.toNat_zero, List.drop_zero, wordF]
 cases (QaH s).all wordC with
 | false => rfl
 | true =>
  simp only [Bool.not_true, Qae, Bool.true_and]
  refine QaP (fun g => ?_) (fun g => ?_)
  ·simp only [ige, slen, decide_eq_true_eq] at g
   apply Qrb
   rw [Bool.eq_iff_iff]
   simp only [ile, slen, decide_eq_true_eq]
   omega
  ·simp only [ige, slen, decide_eq_false_iff_not] at g
   apply Qrb
   rw [eq_comm, decide_eq_false_iff_not]
   omega
def QKQ : Ent := spec (.pr .str .nil) (fun x => (nameG x.1)) (fun x => (.t .bool (wordF x.1)))
theorem ms_f75 : Meets Tryz.prog 75 (strip QKQ) := Qaf (R := runF g_f75 QzJ QLB false) (mG Tryz.func75 (by kernel_rfl) Tryz.ntmps75 (by kernel_rfl) gk_f75 lk_f75) fun x hok => (e_f75 x.1).trans (s_f75 x.1 hok)
def Qa8 {α : Type} (l : List α) : Bool := decide (l.length ≤ 100000)
def ascUp (l : List Int) (k : Nat) : Bool := (List.range' k (l.length - k)).all fun j => decide (j = 0) || ilt (l.getD (j - 1) 0) (l.getD j 0)
def ascF (l : List Int) : Bool := ascUp l 0
theorem QGU (l : List Int) : ascUp l l.length = true := by
 unfold ascUp
 rw [Nat.sub_self]
 rfl
theorem Qzc {l : List Int} {k : Nat} (hk : k < l.length) : ascUp l k = ((decide (k = 0) || ilt (l.getD (k - 1) 0) l[k]) && ascUp l (k + 1)) := by
 have : l.length - k = (l.length - (k + 1)) + 1 := by omega
 unfold ascUp
 rw [this, List.range'_succ, List.all_cons]
 simp only [List.getD_eq_getElem?_getD, List.getElem?_eq_getElem hk, Option.getD_some]
theorem asc_br {β : Type} {l : List Int} {k : Nat} (hk : k < l.length) (hb : k < 4611686018427387904) (bad ok : Option β) :
  br (igt (k : Int) 0) (br (cIx l (isub .i64 (k : Int) 1)) (br (ige (lgt tI l (Int.toNat (isub .i64 (k : Int) 1))) l[k]) bad ok) none) ok = br (decide (k = 0) || ilt (l.getD (k - 1) 0) l[k]) ok bad := by
 by_cases h0 : k = 0
 ·subst h0
  rw [show igt ((0 : Nat) : Int) 0 = false from rfl, Qae, decide_eq_true rfl, Bool.true_or, Qac]
 ·have e : isub .i64 (k : Int) 1 = ((k - 1 : Nat) : Int) := by rw [QbD (by omega)]; omega
  rw [show igt (k : Int) 0 = true from decide_eq_true (by omega), Qac, e, Int.toNat_natCast, QaA, decide_eq_true (show k - 1 < l.length by omega), Qac, decide_eq_false h0, Bool.false_or, Qqm]
  show br (!ilt (l.getD (k - 1) 0) l[k]) bad ok = _
  cases ilt (l.getD (k - 1) 0) l[k] <;> rfl
noncomputable def QJo : List DO := dT Tryz.f77 4
def Qiq : Fg := ⟨[(0, some (.sl tI)), (5, some tI), (6, some tI)], []⟩
noncomputable def Qj9 : TC := (.sq (.reg (rT Tryz.f77 2)) (.sq (.cd (.t 7) .sk (.fg ⟨[], []⟩ (.ex 0))) (.sq (.bk 1 (.sq (.reg (rT Tryz.f77 3)) (.sq (.dr QJo [(0, []), (1, []), (2, []), (3, []), (4, []), (5, []), (6, []), (7, []), (8, []), (9, []), (10, []), (11, []), (12, []), (13, [])] (.of [0, 1, 2, 3, 4, 5, 6, 7, 8, 9, 10, 11, 12, 13])) (.cd (.t 22) (.sq (.reg (rT Tryz.f77 5)) (.fg ⟨[(2, some .bool)], []⟩ .rt)) .sk)))) (.reg (rT Tryz.f77 6)))))
noncomputable def QzH : TC := (.sq (.reg (rT Tryz.f77 0)) (.sq (.sq (.reg (rT Tryz.f77 1)) (.bk 0 (.lp 0 Qiq Qj9))) (.sq (.reg (rT Tryz.f77 7)) .rt)))
def QLz : List (RV × Option Ty) := [((.t 2), some .bool)]
abbrev Qo6 : Sh := ⟨[(0, .ty (.sl tI)), (5, .ty tI), (6, .ty tI)], []⟩
def Qkr (x0 : List Int) (x5 x6 : Int) : VS := Qo6.st (x0, x5, x6, ()) ()
abbrev Qrg : Sh := ⟨[(2, .ty .bool)], []⟩
def Qdb (x2 : Bool) : VS := Qrg.st (x2, ()) ()
abbrev Qus : Sh := ⟨[], []⟩
def Qej  : VS := Qus.st () ()
def QRg : VS → Option (Bool × List (Bool × Exit × VS)) := mkL Qo6 (fun x y => (rngOk x.1 x.2.1 x.2.2.1)) (fun x y => [((!ascUp x.1 x.2.2.1.toNat), .ret, Qdb (false)), (true, .exit 0, Qej)])
def g_f77 : G := ⟨TYs, [], 24, EL [], keeps, (Ls [QRg]), IL [], RL []⟩
def QGB (x0 : List Int) (x5 x6 : Int) : Option (Exit × VS) := br (ilt x6 x5) (br (igt x6 0) (br (cIx x0 (isub .i64 x6 1)) (br (cIx x0 x6) (br (ige (lgt tI x0 (Int.toNat (isub .i64 x6 1))) (lgt tI x0 (Int.toNat x6))) (some (.ret, Qdb false)) (some (.normal, Qkr x0 x5 (iadd .i64 x6 1)))) none) none) (some (.normal, Qkr x0 x5 (iadd .i64 x6 1)))) (some (.exit 0, Qej))
noncomputable def QhG (x0 : List Int) (x5 x6 : Int) : Option (Exit × VS) := loopF (Qai g_f77 Qiq Qj9) (Qkr x0 x5 x6)
noncomputable def QpY (x0 : List Int) (x5 x6 : Int) : Option (Exit × VS) := br (ilt x6 x5) (br (igt x6 0) (br (cIx x0 (isub .i64 x6 1)) (br (cIx x0 x6) (br (ige (lgt tI x0 (Int.toNat (isub .i64 x6 1))) (lgt tI x0 (Int.toNat x6))) (some (.ret, Qdb false)) (QhG x0 x5 (iadd .i64 x6 1))) none) none) (QhG x0 x5 (iadd .i64 x6 1))) (some (.exit 0, Qej))
def Qk7 (x0 : List Int) (x5 x6 : Int) : Option (Exit × VS) := br (!ascUp x0 x6.toNat) (some (.ret, Qdb (false))) <| some (.exit 0, Qej)
theorem QJS (x0 : List Int) (x5 x6 : Int) : Qai g_f77 Qiq Qj9 (Qkr x0 x5 x6) = QGB x0 x5 x6 := by kernel_rfl
theorem QwG (x0 : List Int) (x5 x6 : Int) : QhG x0 x5 x6 = QpY x0 x5 x6 := (Qap _ _).trans (by
 rw [QJS]
 simp only [QGB, QpY, QaE, nxt_n, nxt_r, nxt_e, nxt_0]
 rfl)
def r_f77 (p0 : List Int) : Option (V × List VO) := br (rngOk p0 (llen p0) (0 : Int)) (br (!ascUp p0 (0 : Int).toNat) (some (.t .bool (false), [])) (some (.t .bool true, []))) none
theorem e_f77 (p0 : List Int) : runF g_f77 QzH QLz false [.t (.sl tI) p0] [] = r_f77 p0 := by kernel_rfl
theorem en_f77 : Qag Tryz.prog 77 := .inr ⟨by decide, _, Tryz.func77, by kernel_rfl, by kernel_rfl⟩
theorem gk_f77 : GOk Tryz.prog g_f77 := Qal _ (fun p hp => by cases hp)
theorem QPb (x0 : List Int) (x5 x6 : Int) (h : (rngOk x0 x5 x6) = true) : QhG x0 x5 x6 = Qk7 x0 x5 x6 := by
 obtain ⟨rfl, h3, k, rfl, hk⟩ := rng_k h
 clear h
 refine Qav x0 (fun k => QhG x0 (x0.length : Int) (k : Int) = Qk7 x0 (x0.length : Int) (k : Int)) ?_ ?_ k hk
 ·rw [QwG]
  simp only [QpY, Qk7, Qaz, Nat.lt_irrefl, decide_false, Qae, Int.toNat_natCast, QGU, Bool.not_true]
 ·intro k hk ih
  rw [QwG]
  simp only [QpY, Qaz, QaA, hk, decide_true, Qac, Int.toNat_natCast, add1 (show k < 4611686018427387904 by omega), QaF (y := tI) hk, ih, asc_br hk (show k < 4611686018427387904 by omega)]
  simp only [Qk7, Int.toNat_natCast, Qzc hk]
  cases decide (k = 0) || ilt (x0.getD (k - 1) 0) x0[k] <;> rfl
theorem QH1 : ∀ S l p, g_f77.L 0 (fgt Qiq S) = some (true, l) → pickA l = some p → loopF (Qai g_f77 Qiq Qj9) S = some p :=
 QaG (s := Qo6) ⟨by decide, by decide⟩ (by kernel_rfl) fun x y hok p hp => by
 simp only [Qas, Qao] at hp
 exact (QPb x.1 x.2.1 x.2.2.1 (by simpa using hok)).trans hp
theorem lk_f77 : QzH.lok g_f77 := by
 repeat (first | exact trivial | exact QH1 | refine ⟨?_, ?_⟩)
theorem s_f77 (l : List Int) (h : Qa8 l = true) : r_f77 l = some (.t .bool (ascF l), []) := by
 simp only [Qa8, decide_eq_true_eq] at h
 simp only [r_f77, rng_0 h, Qac, Int.toNat_zero]
 unfold ascF
 cases ascUp l 0 <;> rfl
def QKO : Ent := spec (.pr (.sl tI) .nil) (fun x => (Qa8 x.1)) (fun x => (.t .bool (ascF x.1)))
theorem ms_f77 : Meets Tryz.prog 77 (strip QKO) := Qaf (R := runF g_f77 QzH QLz false) (mG Tryz.func77 (by kernel_rfl) Tryz.ntmps77 (by kernel_rfl) gk_f77 lk_f77) fun x hok => (e_f77 x.1).trans (s_f77 x.1 hok)
def hashF (a : Int) : Bool := ieq (kindF a) 1
noncomputable def QzE : TC := (.sq (.reg (rT Tryz.f83 0)) (.sq (.reg (rT Tryz.f83 1)) .rt))
def QLw : List (RV × Option Ty) := [((.t 2), some .bool)]
def g_f83 : G := ⟨TYs, [], 6, EL [(108, QoY)], keeps, (fun _ _ => none), IL [], RL []⟩
def r_f83 (p0 : Int) : Option (V × List VO) := some (.t .bool (ieq (kindF p0) 1), [])
theorem e_f83 (p0 : Int) : runF g_f83 QzE QLw false [.t tI p0] [] = r_f83 p0 := by kernel_rfl
theorem en_f83 : Qag Tryz.prog 83 := .inr ⟨by decide, _, Tryz.func83, by kernel_rfl, by kernel_rfl⟩
theorem gk_f83 : GOk Tryz.prog g_f83 := Qal _ (gA (gC QvK Qvg gN))
theorem lk_f83 : QzE.lok g_f83 := by repeat (first | exact trivial | refine ⟨?_, ?_⟩)
theorem s_f83 (a : Int) : r_f83 a = some (.t .bool (hashF a), []) := rfl
def QKM : Ent := spec (.pr tI .nil) (fun x => true) (fun x => (.t .bool (hashF x.1)))
theorem ms_f83 : Meets Tryz.prog 83 (strip QKM) := Qaf (R := runF g_f83 QzE QLw false) (mG Tryz.func83 (by kernel_rfl) Tryz.ntmps83 (by kernel_rfl) gk_f83 lk_f83) fun x _ => (e_f83 x.1).trans (s_f83 x.1)
def QeZ (l : List Int) (k : Nat) : Bool := (List.range' k (l.length - k)).all fun j => ieq (Qay (l.getD j 0)).2 0 && !hasF (l.take j) (l.getD j 0)
def suitF (l : List Int) : Bool := QeZ l 0
theorem Qyu (l : List Int) : QeZ l l.length = true := by
 unfold QeZ
 rw [Nat.sub_self]
 rfl
theorem Qt9 {l : List Int} {k : Nat} (hk : k < l.length) : QeZ l k = ((ieq (Qay l[k]).2 0 && !hasF (l.take k) l[k]) && QeZ l (k + 1)) := by
 have : l.length - k = (l.length - (k + 1)) + 1 := by omega
 unfold QeZ
 rw [this, List.range'_succ, List.all_cons]
 simp only [List.getD_eq_getElem?_getD, List.getElem?_eq_getElem hk, Option.getD_some]
theorem QHV (l : List Int) (k : Nat) : lsl l 0 (k : Int) = l.take k := by
 simp [lsl]
theorem QJK {l : List Int} {k : Nat} (hk : k ≤ l.length) : cSl l 0 (k : Int) ((List.length l : Nat) : Int) = true := by
 simp only [cSl, decide_eq_true_eq]
 omega
def Qir : Fg := ⟨[(0, some (.sl tI)), (7, some (.sl tI)), (8, some tI), (9, some tI)], []⟩
noncomputable def Qka : TC := (.sq (.reg (rT Tryz.f76 2)) (.sq (.cd (.t 10) .sk (.fg ⟨[], []⟩ (.ex 0))) (.sq (.bk 1 (.sq (.reg (rT Tryz.f76 3)) (.sq (.reg (rT Tryz.f76 4)) (.sq (.reg (rT Tryz.f76 5)) (.cd (.t 27) (.sq (.reg (rT Tryz.f76 6)) (.fg ⟨[(2, some .bool)], []⟩ .rt)) .sk))))) (.reg (rT Tryz.f76 7)))))
noncomputable def QzI : TC := (.sq (.reg (rT Tryz.f76 0)) (.sq (.sq (.reg (rT Tryz.f76 1)) (.bk 0 (.lp 0 Qir Qka))) (.sq (.reg (rT Tryz.f76 8)) .rt)))
def QLA : List (RV × Option Ty) := [((.t 2), some .bool)]
abbrev Qo7 : Sh := ⟨[(0, .ty (.sl tI)), (7, .ty (.sl tI)), (8, .ty tI), (9, .ty tI)], []⟩
def QoK (x0 x7 : List Int) (x8 x9 : Int) : VS := Qo7.st (x0, x7, x8, x9, ()) ()
abbrev Qrh : Sh := ⟨[(2, .ty .bool)], []⟩
def QbG (x2 : Bool) : VS := Qrh.st (x2, ()) ()
abbrev Qut : Sh := ⟨[], []⟩
def Qek  : VS := Qut.st () ()
def QRh : VS → Option (Bool × List (Bool × Exit × VS)) := mkL Qo7 (fun x y => (rngOk x.2.1 x.2.2.1 x.2.2.2.1 && samB x.1 x.2.1)) (fun x y => [((!QeZ x.2.1 x.2.2.2.1.toNat), .ret, QbG (false)), (true, .exit 0, Qek)])
def g_f76 : G := ⟨TYs, [], 29, EL [(48, Qq4), (59, Qoc)], keeps, (Ls [QRh]), IL [], RL []⟩
def QGC (x0 x7 : List Int) (x8 x9 : Int) : Option (Exit × VS) :=
 let a1 := lgt tI x7 (Int.toNat x9)
 br (ilt x9 x8) (br (cIx x7 x9) (br (ine ((Qay a1).2) 0) (some (.ret, QbG false)) (br (cSl x0 0 x9 ((List.length x0 : Nat) : Int)) (br (QaU (lsl x0 0 x9) a1) (br (hasF (lsl x0 0 x9) a1) (some (.ret, QbG false)) (some (.normal, QoK x0 x7 x8 (iadd .i64 x9 1)))) none) none)) none) (some (.exit 0, Qek))
noncomputable def QkS (x0 x7 : List Int) (x8 x9 : Int) : Option (Exit × VS) := loopF (Qai g_f76 Qir Qka) (QoK x0 x7 x8 x9)
noncomputable def QpZ (x0 x7 : List Int) (x8 x9 : Int) : Option (Exit × VS) :=
 let a1 := lgt tI x7 (Int.toNat x9)
 br (ilt x9 x8) (br (cIx x7 x9) (br (ine ((Qay a1).2) 0) (some (.ret, QbG false)) (br (cSl x0 0 x9 ((List.length x0 : Nat) : Int)) (br (QaU (lsl x0 0 x9) a1) (br (hasF (lsl x0 0 x9) a1) (some (.ret, QbG false)) (QkS x0 x7 x8 (iadd .i64 x9 1))) none) none)) none) (some (.exit 0, Qek))
def Qk8 (x0 x7 : List Int) (x8 x9 : Int) : Option (Exit × VS) := br (!QeZ x7 x9.toNat) (some (.ret, QbG (false))) <| some (.exit 0, Qek)
theorem QJT (x0 x7 : List Int) (x8 x9 : Int) : Qai g_f76 Qir Qka (QoK x0 x7 x8 x9) = QGC x0 x7 x8 x9 := by kernel_rfl
theorem QwH (x0 x7 : List Int) (x8 x9 : Int) : QkS x0 x7 x8 x9 = QpZ x0 x7 x8 x9 := (Qap _ _).trans (by
 rw [QJT]
 simp only [QGC, QpZ, QaE, nxt_n, nxt_r, nxt_e, nxt_0]
 rfl)
def r_f76 (p0 : List Int) : Option (V × List VO) := br (rngOk p0 (llen p0) (0 : Int) && samB p0 p0) (br (!QeZ p0 (0 : Int).toNat) (some (.t .bool (false), [])) (some (.t .bool true, []))) none
theorem e_f76 (p0 : List Int) : runF g_f76 QzI QLA false [.t (.sl tI) p0] [] = r_f76 p0 := by kernel_rfl
theorem en_f76 : Qag Tryz.prog 76 := .inr ⟨by decide, _, Tryz.func76, by kernel_rfl, by kernel_rfl⟩
theorem gk_f76 : GOk Tryz.prog g_f76 := Qal _ (gA (gC QxK Qwy (gC QsZ Qse gN)))
theorem QPc (x0 x7 : List Int) (x8 x9 : Int) (h : (rngOk x7 x8 x9 && samB x0 x7) = true) : QkS x0 x7 x8 x9 = Qk8 x0 x7 x8 x9 := by
 simp only [Bool.and_eq_true] at h
 obtain ⟨h0, hs⟩ := h
 have hs := QuM hs
 subst hs
 obtain ⟨rfl, h3, k, rfl, hk⟩ := rng_k h0
 clear h0
 refine Qav x0 (fun k => QkS x0 x0 (x0.length : Int) (k : Int) = Qk8 x0 x0 (x0.length : Int) (k : Int)) ?_ ?_ k hk
 ·rw [QwH]
  simp only [QpZ, Qk8, Qaz, Nat.lt_irrefl, decide_false, Qae, Int.toNat_natCast, Qyu, Bool.not_true]
 ·intro k hk ih
  rw [QwH]
  have hi : QaU (x0.take k) x0[k] = true := decide_eq_true (by rw [List.length_take]; omega)
  simp only [QpZ, Qaz, QaA, hk, decide_true, Qac, Int.toNat_natCast, add1 (show k < 4611686018427387904 by omega), QaF (y := tI) hk, ih, QHV, QJK (show k ≤ x0.length by omega), hi, Qjh]
  simp only [Qk8, Int.toNat_natCast, Qt9 hk]
  cases ieq (Qay x0[k]).2 0 <;> cases hasF (x0.take k) x0[k] <;> rfl
theorem QH2 : ∀ S l p, g_f76.L 0 (fgt Qir S) = some (true, l) → pickA l = some p → loopF (Qai g_f76 Qir Qka) S = some p :=
 QaG (s := Qo7) ⟨by decide, by decide⟩ (by kernel_rfl) fun x y hok p hp => by
 simp only [Qas, Qao] at hp
 exact (QPc x.1 x.2.1 x.2.2.1 x.2.2.2.1 (by simpa using hok)).trans hp
theorem lk_f76 : QzI.lok g_f76 := by
 repeat (first | exact trivial | exact QH2 | refine ⟨?_, ?_⟩)
theorem s_f76 (l : List Int) (h : Qa8 l = true) : r_f76 l = some (.t .bool (suitF l), []) := by
 simp only [Qa8, decide_eq_true_eq] at h
 simp only [r_f76, rng_0 h, QmG, Bool.and_self, Qac, Int.toNat_zero]
 unfold suitF
 cases QeZ l 0 <;> rfl
def QKP : Ent := spec (.pr (.sl tI) .nil) (fun x => (Qa8 x.1)) (fun x => (.t .bool (suitF x.1)))
theorem ms_f76 : Meets Tryz.prog 76 (strip QKP) := Qaf (R := runF g_f76 QzI QLA false) (mG Tryz.func76 (by kernel_rfl) Tryz.ntmps76 (by kernel_rfl) gk_f76 lk_f76) fun x hok => (e_f76 x.1).trans (s_f76 x.1 hok)
def nKey (n : Int) : Bool := !keyI n
noncomputable def QlC : TC := (.sq (.reg (rT Tryz.f80 0)) (.sq (.reg (rT Tryz.f80 1)) .rt))
def QrO : List (RV × Option Ty) := [((.t 3), some .bool)]
def Qlm : G := ⟨TYs, [], 8, EL [(82, Qv5)], keeps, (fun _ _ => none), IL [], RL []⟩
def QpC (p0 : Int) : Option (V × List VO) := some (.t .bool (!(keyI p0)), [.box (.c (.func (.func 82) #[] #[]))])
theorem QJc (p0 : Int) : runF Qlm QlC QrO false [.t tI p0, .ptr 50000 0] [.box (.c (.func (.func 82) ⟨[]⟩ ⟨[]⟩))] = QpC p0 := by kernel_rfl
theorem QFe : Qag Tryz.prog 80 := .inr ⟨by decide, _, Tryz.func80, by kernel_rfl, by kernel_rfl⟩
theorem QEU : GOk Tryz.prog Qlm := Qal _ (gA (gC QFc QDw gN))
theorem QEo : QlC.lok Qlm := by repeat (first | exact trivial | refine ⟨?_, ?_⟩)
theorem QHp (n : Int) : QpC n = some (.t .bool (nKey n), [.box (.c (.func (.func 82) #[] #[]))]) := by
 simp only [QpC]
 rfl
def QqX : Ent := specB [.ty tI, .ptr 50000 0] [.bc 82] (fun x y => true) (fun x y => (.t .bool (nKey x.1))) (fun x y => [.box (.c (.func (.func 82) #[] #[]))])
theorem QDy : Meets Tryz.prog 80 (strip QqX) := Qca (QaI (R := runF Qlm QlC QrO false) (mG Tryz.func80 (by kernel_rfl) Tryz.ntmps80 (by kernel_rfl) QEU QEo) fun x y _ => (QJc x.1).trans (QHp x.1))
def ixKey (l : List Int) : Int := match fstG nKey l with | some k => (k : Int) | none => -1
def Qbz : Fg := ⟨[(0, some (.sl tI)), (1, none), (7, some tI), (8, some tI)], [(50000, none)]⟩
noncomputable def Qce : TC := (.sq (.reg (rT Tryz.f40 2)) (.sq (.cd (.t 9) .sk (.fg ⟨[], [(50000, none)]⟩ (.ex 0))) (.sq (.bk 1 (.sq (.reg (rT Tryz.f40 3)) (.sq (.reg (rT Tryz.f40 4)) (.cd (.t 16) (.sq (.reg (rT Tryz.f40 5)) (.fg ⟨[(4, some tI)], [(50000, none)]⟩ .rt)) .sk)))) (.reg (rT Tryz.f40 6)))))
noncomputable def Qfc : TC := (.sq (.reg (rT Tryz.f40 0)) (.sq (.sq (.reg (rT Tryz.f40 1)) (.bk 0 (.lp 0 Qbz Qce))) (.sq (.reg (rT Tryz.f40 7)) .rt)))
def QjC : List (RV × Option Ty) := [((.t 4), some tI)]
abbrev QdR : Sh := ⟨[(0, .ty (.sl tI)), (1, .fn 80 [(50000, 0)]), (7, .ty tI), (8, .ty tI)], [(50000, .bc 82)]⟩
def QdO (x0 : List Int) (x7 x8 : Int) : VS := QdR.st (x0, (), x7, x8, ()) ((), ())
abbrev Qhw : Sh := ⟨[(4, .ty tI)], [(50000, .bc 82)]⟩
def Qbi (x4 : Int) : VS := Qhw.st (x4, ()) ((), ())
abbrev Qi3 : Sh := ⟨[], [(50000, .bc 82)]⟩
def Qbq  : VS := Qi3.st () ((), ())
def QqI : VS → Option (Bool × List (Bool × Exit × VS)) := mkL QdR (fun x y => (rngOk x.1 x.2.2.1 x.2.2.2.1)) (fun x y => [(((fstG nKey (x.1.drop x.2.2.2.1.toNat)).isSome), .ret, Qbi (x.2.2.2.1 + ((fstG nKey (x.1.drop x.2.2.2.1.toNat)).getD 0 : Nat))), (true, .exit 0, Qbq)])
def Qbm : G := ⟨TYs, [], 19, EL [(80, QqX)], keeps, (Ls [QqI]), IL [], RL []⟩
def QiL (x0 : List Int) (x7 x8 : Int) : Option (Exit × VS) := br (ilt x8 x7) (br (cIx x0 x8) (br (nKey (lgt tI x0 (Int.toNat x8))) (some (.ret, Qbi x8)) (some (.normal, QdO x0 x7 (iadd .i64 x8 1)))) none) (some (.exit 0, Qbq))
noncomputable def Qcl (x0 : List Int) (x7 x8 : Int) : Option (Exit × VS) := loopF (Qai Qbm Qbz Qce) (QdO x0 x7 x8)
noncomputable def QcH (x0 : List Int) (x7 x8 : Int) : Option (Exit × VS) := br (ilt x8 x7) (br (cIx x0 x8) (br (nKey (lgt tI x0 (Int.toNat x8))) (some (.ret, Qbi x8)) (Qcl x0 x7 (iadd .i64 x8 1))) none) (some (.exit 0, Qbq))
def Qcn (x0 : List Int) (x7 x8 : Int) : Option (Exit × VS) :=
 let a1 := fstG nKey (x0.drop x8.toNat)
 br (a1.isSome) (some (.ret, Qbi (x8 + (a1.getD 0 : Nat)))) <| some (.exit 0, Qbq)
theorem Qn5 (x0 : List Int) (x7 x8 : Int) : Qai Qbm Qbz Qce (QdO x0 x7 x8) = QiL x0 x7 x8 := by kernel_rfl
theorem Qgz (x0 : List Int) (x7 x8 : Int) : Qcl x0 x7 x8 = QcH x0 x7 x8 := (Qap _ _).trans (by
 rw [Qn5]
 simp only [QiL, QcH, QaE, nxt_n, nxt_r, nxt_e, nxt_0]
 rfl)
def QgU (p0 : List Int) : Option (V × List VO) :=
 let a1 := (fstG nKey (p0.drop (0 : Int).toNat))
 br (rngOk p0 (llen p0) (0 : Int)) (br (a1.isSome) (some (.t tI ((0 : Int) + (a1.getD 0 : Nat)), [.box (.c (.func (.func 82) #[] #[]))])) (some (.t tI (-1), [.box (.c (.func (.func 82) #[] #[]))]))) none
theorem QvO (p0 : List Int) : runF Qbm Qfc QjC false [.t (.sl tI) p0, .fn 80 [(.ptr 50000 0)]] [.box (.c (.func (.func 82) ⟨[]⟩ ⟨[]⟩))] = QgU p0 := by kernel_rfl
theorem Qs1 : Qag Tryz.prog 40 := .inr ⟨by decide, _, Tryz.func40, by kernel_rfl, by kernel_rfl⟩
theorem QsR : GOk Tryz.prog Qbm := Qal _ (gA (gC QFe QDy gN))
theorem Qql (x0 : List Int) (x7 x8 : Int) (h : (rngOk x0 x7 x8) = true) : Qcl x0 x7 x8 = Qcn x0 x7 x8 := by
 obtain ⟨rfl, h3, k, rfl, hk⟩ := rng_k h
 clear h
 refine Qav x0 (fun k => Qcl x0 (x0.length : Int) (k : Int) = Qcn x0 (x0.length : Int) (k : Int)) ?_ ?_ k hk
 ·rw [Qgz]
  simp [QcH, Qcn, Qaz, Qae, fstG]
 ·intro k hk ih
  rw [Qgz]
  simp only [QcH, Qaz, QaA, hk, decide_true, Qac, Int.toNat_natCast, add1 (show k < 4611686018427387904 by omega), ih, QaF (y := tI) hk]
  simp only [Qcn, Int.toNat_natCast, List.drop_eq_getElem_cons hk, fstG]
  cases h : nKey x0[k] with
  | true => simp [Qac]
  | false =>
   simp only [Qae, Bool.false_eq_true, if_false]
   cases hq : fstG nKey (x0.drop (k + 1)) with
   | none => rfl
   | some j =>
    simp only [Option.map_some, Option.isSome_some, Option.getD_some, Qac]
    congr 3
    omega
theorem Qn0 : ∀ S l p, Qbm.L 0 (fgt Qbz S) = some (true, l) → pickA l = some p → loopF (Qai Qbm Qbz Qce) S = some p :=
 QaG (s := QdR) ⟨by decide, by decide⟩ (by kernel_rfl) fun x y hok p hp => by
 simp only [Qas, Qao] at hp
 exact (Qql x.1 x.2.2.1 x.2.2.2.1 (by simpa using hok)).trans hp
theorem QsI : Qfc.lok Qbm := by
 repeat (first | exact trivial | exact Qn0 | refine ⟨?_, ?_⟩)
theorem QuQ (l : List Int) (h : Qa8 l = true) : QgU l = some (.t tI (ixKey l), [.box (.c (.func (.func 82) #[] #[]))]) := by
 simp only [Qa8, decide_eq_true_eq] at h
 simp only [QgU, rng_0 h, Qac, Int.toNat_zero, List.drop_zero, ixKey]
 cases fstG nKey l <;> simp [Qac, Qae]
def Qjx : Ent := specB [.ty (.sl tI), .fn 80 [(50000, 0)]] [.bc 82] (fun x y => (Qa8 x.1)) (fun x y => (.t tI (ixKey x.1))) (fun x y => [.box (.c (.func (.func 82) #[] #[]))])
theorem Qsg : Meets Tryz.prog 40 (strip Qjx) := Qca (QaI (R := runF Qbm Qfc QjC false) (mG Tryz.func40 (by kernel_rfl) Tryz.ntmps40 (by kernel_rfl) QsR QsI) fun x y hok => (QvO x.1).trans (QuQ x.1 hok))
def QnP (l : List Int) : Bool := !l.all keyI
noncomputable def Qfa : TC := (.sq (.reg (rT Tryz.f81 0)) (.sq (.reg (rT Tryz.f81 1)) .rt))
def QjA : List (RV × Option Ty) := [((.t 4), some .bool)]
def QeV : G := ⟨TYs, [], 9, EL [(40, Qjx)], keeps, (fun _ _ => none), IL [], RL []⟩
def QgS (p0 : List Int) : Option (V × List VO) := br (Qa8 p0) (some (.t .bool (ige (ixKey p0) 0), [.box (.c (.func (.func 82) #[] #[]))])) none
theorem QvM (p0 : List Int) : runF QeV Qfa QjA false [.t (.sl tI) p0, .fn 80 [(.ptr 50000 0)]] [.box (.c (.func (.func 82) ⟨[]⟩ ⟨[]⟩))] = QgS p0 := by kernel_rfl
theorem QsY : Qag Tryz.prog 81 := .inr ⟨by decide, _, Tryz.func81, by kernel_rfl, by kernel_rfl⟩
theorem QsP : GOk Tryz.prog QeV := Qal _ (gA (gC Qs1 Qsg gN))
theorem QsG : Qfa.lok QeV := by repeat (first | exact trivial | refine ⟨?_, ?_⟩)
theorem QuO (l : List Int) (h : Qa8 l = true) : QgS l = some (.t .bool (QnP l), [.box (.c (.func (.func 82) #[] #[]))]) := by
 simp only [QgS, h, Qac]
 have e : ige (ixKey l) 0 = QnP l := by
  have e2 : QnP l = l.any nKey := by
   unfold QnP
   rw [List.not_all_eq_any_not]
   rfl
  rw [e2]
  unfold ixKey
  cases hq : fstG nKey l with
  | none => rw [QcX.1 hq]; rfl
  | some k =>
   rw [← QcY, hq]
   simp only [ige, Option.isSome_some, decide_eq_true_eq]
   omega
 rw [e]
def Qjv : Ent := specB [.ty (.sl tI), .fn 80 [(50000, 0)]] [.bc 82] (fun x y => (Qa8 x.1)) (fun x y => (.t .bool (QnP x.1))) (fun x y => [.box (.c (.func (.func 82) #[] #[]))])
theorem Qsd : Meets Tryz.prog 81 (strip Qjv) := Qca (QaI (R := runF QeV Qfa QjA false) (mG Tryz.func81 (by kernel_rfl) Tryz.ntmps81 (by kernel_rfl) QsP QsG) fun x y hok => (QvM x.1).trans (QuO x.1 hok))
noncomputable def QlE : TC := (.sq (.reg (rT Tryz.f79 0)) (.sq (.reg (rT Tryz.f79 1)) .rt))
def QrQ : List (RV × Option Ty) := [((.t 2), none)]
def Qlo : G := ⟨TYs, [], 4, EL [], keeps, (fun _ _ => none), IL [], RL []⟩
def Qwl  : Option (V × List VO) := some (.fn 80 [(.ptr 50000 0)], [.box (.c (.func (.func 82) #[] #[]))])
theorem QJe  : runF Qlo QlE QrQ true [.c (.func (.func 82) ⟨[]⟩ ⟨[]⟩)] [] = Qwl  := by kernel_rfl
theorem QFg : Qag Tryz.prog 79 := .inr ⟨by decide, _, Tryz.func79, by kernel_rfl, by kernel_rfl⟩
theorem QEW : GOk Tryz.prog Qlo := Qal _ (fun p hp => by cases hp)
theorem QEq : QlE.lok Qlo := by repeat (first | exact trivial | refine ⟨?_, ?_⟩)
theorem QHr : Qwl = some (.fn 80 [.ptr 50000 0], [.box (.c (.func (.func 82) #[] #[]))]) := rfl
def QqZ : Ent := specB [.cf 82] [] (fun x y => true) (fun x y => (.fn 80 [(.ptr 50000 0)])) (fun x y => [.box (.c (.func (.func 82) #[] #[]))])
theorem QDA : Meets Tryz.prog 79 (strip QqZ) := Qca (QaI (R := runF Qlo QlE QrQ true) (mG Tryz.func79 (by kernel_rfl) Tryz.ntmps79 (by kernel_rfl) QEW QEq) fun x y _ => (QJe ).trans (QHr ))
def nHash (n : Int) : Bool := !hashF n
noncomputable def QlB : TC := (.sq (.reg (rT Tryz.f80 0)) (.sq (.reg (rT Tryz.f80 1)) .rt))
def QrN : List (RV × Option Ty) := [((.t 3), some .bool)]
def Qll : G := ⟨TYs, [], 8, EL [(83, QKM)], keeps, (fun _ _ => none), IL [], RL []⟩
def QpB (p0 : Int) : Option (V × List VO) := some (.t .bool (!(hashF p0)), [.box (.c (.func (.func 83) #[] #[]))])
theorem QJb (p0 : Int) : runF Qll QlB QrN false [.t tI p0, .ptr 50000 0] [.box (.c (.func (.func 83) ⟨[]⟩ ⟨[]⟩))] = QpB p0 := by kernel_rfl
theorem QFd : Qag Tryz.prog 80 := .inr ⟨by decide, _, Tryz.func80, by kernel_rfl, by kernel_rfl⟩
theorem QET : GOk Tryz.prog Qll := Qal _ (gA (gC en_f83 ms_f83 gN))
theorem QEn : QlB.lok Qll := by repeat (first | exact trivial | refine ⟨?_, ?_⟩)
theorem QHo (n : Int) : QpB n = some (.t .bool (nHash n), [.box (.c (.func (.func 83) #[] #[]))]) := by
 simp only [QpB]
 rfl
def QqW : Ent := specB [.ty tI, .ptr 50000 0] [.bc 83] (fun x y => true) (fun x y => (.t .bool (nHash x.1))) (fun x y => [.box (.c (.func (.func 83) #[] #[]))])
theorem QDx : Meets Tryz.prog 80 (strip QqW) := Qca (QaI (R := runF Qll QlB QrN false) (mG Tryz.func80 (by kernel_rfl) Tryz.ntmps80 (by kernel_rfl) QET QEn) fun x y _ => (QJb x.1).trans (QHo x.1))
def Qom (l : List Int) : Int := match fstG nHash l with | some k => (k : Int) | none => -1
def Qby : Fg := ⟨[(0, some (.sl tI)), (1, none), (7, some tI), (8, some tI)], [(50000, none)]⟩
noncomputable def Qcd : TC := (.sq (.reg (rT Tryz.f40 2)) (.sq (.cd (.t 9) .sk (.fg ⟨[], [(50000, none)]⟩ (.ex 0))) (.sq (.bk 1 (.sq (.reg (rT Tryz.f40 3)) (.sq (.reg (rT Tryz.f40 4)) (.cd (.t 16) (.sq (.reg (rT Tryz.f40 5)) (.fg ⟨[(4, some tI)], [(50000, none)]⟩ .rt)) .sk)))) (.reg (rT Tryz.f40 6)))))
noncomputable def Qfb : TC := (.sq (.reg (rT Tryz.f40 0)) (.sq (.sq (.reg (rT Tryz.f40 1)) (.bk 0 (.lp 0 Qby Qcd))) (.sq (.reg (rT Tryz.f40 7)) .rt)))
def QjB : List (RV × Option Ty) := [((.t 4), some tI)]
abbrev QdQ : Sh := ⟨[(0, .ty (.sl tI)), (1, .fn 80 [(50000, 0)]), (7, .ty tI), (8, .ty tI)], [(50000, .bc 83)]⟩
def QdN (x0 : List Int) (x7 x8 : Int) : VS := QdQ.st (x0, (), x7, x8, ()) ((), ())
abbrev Qhv : Sh := ⟨[(4, .ty tI)], [(50000, .bc 83)]⟩
def Qbh (x4 : Int) : VS := Qhv.st (x4, ()) ((), ())
abbrev Qi2 : Sh := ⟨[], [(50000, .bc 83)]⟩
def Qbp  : VS := Qi2.st () ((), ())
def QqH : VS → Option (Bool × List (Bool × Exit × VS)) := mkL QdQ (fun x y => (rngOk x.1 x.2.2.1 x.2.2.2.1)) (fun x y => [(((fstG nHash (x.1.drop x.2.2.2.1.toNat)).isSome), .ret, Qbh (x.2.2.2.1 + ((fstG nHash (x.1.drop x.2.2.2.1.toNat)).getD 0 : Nat))), (true, .exit 0, Qbp)])
def Qbl : G := ⟨TYs, [], 19, EL [(80, QqW)], keeps, (Ls [QqH]), IL [], RL []⟩
def QiK (x0 : List Int) (x7 x8 : Int) : Option (Exit × VS) := br (ilt x8 x7) (br (cIx x0 x8) (br (nHash (lgt tI x0 (Int.toNat x8))) (some (.ret, Qbh x8)) (some (.normal, QdN x0 x7 (iadd .i64 x8 1)))) none) (some (.exit 0, Qbp))
noncomputable def Qck (x0 : List Int) (x7 x8 : Int) : Option (Exit × VS) := loopF (Qai Qbl Qby Qcd) (QdN x0 x7 x8)
noncomputable def QcG (x0 : List Int) (x7 x8 : Int) : Option (Exit × VS) := br (ilt x8 x7) (br (cIx x0 x8) (br (nHash (lgt tI x0 (Int.toNat x8))) (some (.ret, Qbh x8)) (Qck x0 x7 (iadd .i64 x8 1))) none) (some (.exit 0, Qbp))
def Qcm (x0 : List Int) (x7 x8 : Int) : Option (Exit × VS) :=
 let a1 := fstG nHash (x0.drop x8.toNat)
 br (a1.isSome) (some (.ret, Qbh (x8 + (a1.getD 0 : Nat)))) <| some (.exit 0, Qbp)
theorem Qn4 (x0 : List Int) (x7 x8 : Int) : Qai Qbl Qby Qcd (QdN x0 x7 x8) = QiK x0 x7 x8 := by kernel_rfl
theorem Qgy (x0 : List Int) (x7 x8 : Int) : Qck x0 x7 x8 = QcG x0 x7 x8 := (Qap _ _).trans (by
 rw [Qn4]
 simp only [QiK, QcG, QaE, nxt_n, nxt_r, nxt_e, nxt_0]
 rfl)
def QgT (p0 : List Int) : Option (V × List VO) :=
 let a1 := (fstG nHash (p0.drop (0 : Int).toNat))
 br (rngOk p0 (llen p0) (0 : Int)) (br (a1.isSome) (some (.t tI ((0 : Int) + (a1.getD 0 : Nat)), [.box (.c (.func (.func 83) #[] #[]))])) (some (.t tI (-1), [.box (.c (.func (.func 83) #[] #[]))]))) none
theorem QvN (p0 : List Int) : runF Qbl Qfb QjB false [.t (.sl tI) p0, .fn 80 [(.ptr 50000 0)]] [.box (.c (.func (.func 83) ⟨[]⟩ ⟨[]⟩))] = QgT p0 := by kernel_rfl
theorem Qs0 : Qag Tryz.prog 40 := .inr ⟨by decide, _, Tryz.func40, by kernel_rfl, by kernel_rfl⟩
theorem QsQ : GOk Tryz.prog Qbl := Qal _ (gA (gC QFd QDx gN))
theorem Qqk (x0 : List Int) (x7 x8 : Int) (h : (rngOk x0 x7 x8) = true) : Qck x0 x7 x8 = Qcm x0 x7 x8 := by
 obtain ⟨rfl, h3, k, rfl, hk⟩ := rng_k h
 clear h
 refine Qav x0 (fun k => Qck x0 (x0.length : Int) (k : Int) = Qcm x0 (x0.length : Int) (k : Int)) ?_ ?_ k hk
 ·rw [Qgy]
  simp [QcG, Qcm, Qaz, Qae, fstG]
 ·intro k hk ih
  rw [Qgy]
  simp only [QcG, Qaz, QaA, hk, decide_true, Qac, Int.toNat_natCast, add1 (show k < 4611686018427387904 by omega), ih, QaF (y := tI) hk]
  simp only [Qcm, Int.toNat_natCast, List.drop_eq_getElem_cons hk, fstG]
  cases h : nHash x0[k] with
  | true => simp [Qac]
  | false =>
   simp only [Qae, Bool.false_eq_true, if_false]
   cases hq : fstG nHash (x0.drop (k + 1)) with
   | none => rfl
   | some j =>
    simp only [Option.map_some, Option.isSome_some, Option.getD_some, Qac]
    congr 3
    omega
theorem QnZ : ∀ S l p, Qbl.L 0 (fgt Qby S) = some (true, l) → pickA l = some p → loopF (Qai Qbl Qby Qcd) S = some p :=
 QaG (s := QdQ) ⟨by decide, by decide⟩ (by kernel_rfl) fun x y hok p hp => by
 simp only [Qas, Qao] at hp
 exact (Qqk x.1 x.2.2.1 x.2.2.2.1 (by simpa using hok)).trans hp
theorem QsH : Qfb.lok Qbl := by
 repeat (first | exact trivial | exact QnZ | refine ⟨?_, ?_⟩)
theorem QuP (l : List Int) (h : Qa8 l = true) : QgT l = some (.t tI (Qom l), [.box (.c (.func (.func 83) #[] #[]))]) := by
 simp only [Qa8, decide_eq_true_eq] at h
 simp only [QgT, rng_0 h, Qac, Int.toNat_zero, List.drop_zero, Qom]
 cases fstG nHash l <;> simp [Qac, Qae]
def Qjw : Ent := specB [.ty (.sl tI), .fn 80 [(50000, 0)]] [.bc 83] (fun x y => (Qa8 x.1)) (fun x y => (.t tI (Qom x.1))) (fun x y => [.box (.c (.func (.func 83) #[] #[]))])
theorem Qsf : Meets Tryz.prog 40 (strip Qjw) := Qca (QaI (R := runF Qbl Qfb QjB false) (mG Tryz.func40 (by kernel_rfl) Tryz.ntmps40 (by kernel_rfl) QsQ QsH) fun x y hok => (QvN x.1).trans (QuP x.1 hok))
def Qg2 (l : List Int) : Bool := !l.all hashF
noncomputable def Qe9 : TC := (.sq (.reg (rT Tryz.f81 0)) (.sq (.reg (rT Tryz.f81 1)) .rt))
def Qjz : List (RV × Option Ty) := [((.t 4), some .bool)]
def QeU : G := ⟨TYs, [], 9, EL [(40, Qjw)], keeps, (fun _ _ => none), IL [], RL []⟩
def QgR (p0 : List Int) : Option (V × List VO) := br (Qa8 p0) (some (.t .bool (ige (Qom p0) 0), [.box (.c (.func (.func 83) #[] #[]))])) none
theorem QvL (p0 : List Int) : runF QeU Qe9 Qjz false [.t (.sl tI) p0, .fn 80 [(.ptr 50000 0)]] [.box (.c (.func (.func 83) ⟨[]⟩ ⟨[]⟩))] = QgR p0 := by kernel_rfl
theorem QsX : Qag Tryz.prog 81 := .inr ⟨by decide, _, Tryz.func81, by kernel_rfl, by kernel_rfl⟩
theorem QsO : GOk Tryz.prog QeU := Qal _ (gA (gC Qs0 Qsf gN))
theorem QsF : Qe9.lok QeU := by repeat (first | exact trivial | refine ⟨?_, ?_⟩)
theorem QuN (l : List Int) (h : Qa8 l = true) : QgR l = some (.t .bool (Qg2 l), [.box (.c (.func (.func 83) #[] #[]))]) := by
 simp only [QgR, h, Qac]
 have e : ige (Qom l) 0 = Qg2 l := by
  have e2 : Qg2 l = l.any nHash := by
   unfold Qg2
   rw [List.not_all_eq_any_not]
   rfl
  rw [e2]
  unfold Qom
  cases hq : fstG nHash l with
  | none => rw [QcX.1 hq]; rfl
  | some k =>
   rw [← QcY, hq]
   simp only [ige, Option.isSome_some, decide_eq_true_eq]
   omega
 rw [e]
def Qju : Ent := specB [.ty (.sl tI), .fn 80 [(50000, 0)]] [.bc 83] (fun x y => (Qa8 x.1)) (fun x y => (.t .bool (Qg2 x.1))) (fun x y => [.box (.c (.func (.func 83) #[] #[]))])
theorem Qsc : Meets Tryz.prog 81 (strip Qju) := Qca (QaI (R := runF QeU Qe9 Qjz false) (mG Tryz.func81 (by kernel_rfl) Tryz.ntmps81 (by kernel_rfl) QsO QsF) fun x y hok => (QvL x.1).trans (QuN x.1 hok))
noncomputable def QlD : TC := (.sq (.reg (rT Tryz.f79 0)) (.sq (.reg (rT Tryz.f79 1)) .rt))
def QrP : List (RV × Option Ty) := [((.t 2), none)]
def Qln : G := ⟨TYs, [], 4, EL [], keeps, (fun _ _ => none), IL [], RL []⟩
def Qwk  : Option (V × List VO) := some (.fn 80 [(.ptr 50000 0)], [.box (.c (.func (.func 83) #[] #[]))])
theorem QJd  : runF Qln QlD QrP true [.c (.func (.func 83) ⟨[]⟩ ⟨[]⟩)] [] = Qwk  := by kernel_rfl
theorem QFf : Qag Tryz.prog 79 := .inr ⟨by decide, _, Tryz.func79, by kernel_rfl, by kernel_rfl⟩
theorem QEV : GOk Tryz.prog Qln := Qal _ (fun p hp => by cases hp)
theorem QEp : QlD.lok Qln := by repeat (first | exact trivial | refine ⟨?_, ?_⟩)
theorem QHq : Qwk = some (.fn 80 [.ptr 50000 0], [.box (.c (.func (.func 83) #[] #[]))]) := rfl
def QqY : Ent := specB [.cf 83] [] (fun x y => true) (fun x y => (.fn 80 [(.ptr 50000 0)])) (fun x y => [.box (.c (.func (.func 83) #[] #[]))])
theorem QDz : Meets Tryz.prog 79 (strip QqY) := Qca (QaI (R := runF Qln QlD QrP true) (mG Tryz.func79 (by kernel_rfl) Tryz.ntmps79 (by kernel_rfl) QEV QEp) fun x y _ => (QJd ).trans (QHq ))
end
end Go.Proofs.YtkngeegkjhipeaaGreat.K
