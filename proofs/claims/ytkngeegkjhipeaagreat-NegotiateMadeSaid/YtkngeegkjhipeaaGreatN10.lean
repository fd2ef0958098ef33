import Derived.Test.YtkngeegkjhipeaaGreatN9
import Derived.Shelf.Small.Strs
import Derived.Ground.NamesProg
set_option linter.unusedSimpArgs false
set_option linter.unusedVariables false
namespace Go.Proofs
open Go.Shelf
def Tryz.lays137_ren : Go.Shelf.Ren := ⟨fun | 137 => 133 | 217 => 146 | 266 => 167 | n => n, fun | 9 => 9 | 5 => 5 | 3 => 3 | n => n, fun | n => n⟩
theorem Tryz.lays137 : Go.Proofs.Lays.n137 Tryz.prog Tryz.lays137_ren := {
 mixed := by kernel_rfl
 f137 := Tryz.func133.trans (congrArg some (by kernel_rfl))
 f217 := Tryz.func146.trans (congrArg some (by kernel_rfl))
 f266 := Tryz.func167.trans (congrArg some (by kernel_rfl))
 t3 := Tryz.underlying3
 a3 := Tryz.isAgg3
 z3 := Tryz.sizeOf3
 v3 := Tryz.zeroValue3
 t5 := Tryz.underlying5
 a5 := Tryz.isAgg5
 z5 := Tryz.sizeOf5
 v5 := Tryz.zeroValue5
 t9 := Tryz.underlying9
 a9 := Tryz.isAgg9
 z9 := Tryz.sizeOf9
 v9 := Tryz.zeroValue9 }
end Go.Proofs
namespace Go.Proofs.YtkngeegkjhipeaaGreat.K
open Go.RowKit Go.Shelf
noncomputable section
def ixB (s : ByteArray) (c : Int) : Int := Lib.indexByte s.data.toList c.toNat.toUInt8
def QEE : Ent := spec (.pr .str (.pr (.int .u8) .nil)) (fun x => true) (fun x => (.t tI (ixB x.1 x.2.1)))
theorem QVw : Qai Tryz.prog 133 := .inr ⟨by decide, _, Tryz.func133, by kernel_rfl, by kernel_rfl⟩
theorem QSx : Meets Tryz.prog 133 (strip QEE) := Qyh fun x hok X w σ vs hfin hc => by
 obtain ⟨s, c, u⟩ := x
 simp only [Ty.canon, V.ds, V.d, Ty.d, Cs, C] at hc
 obtain ⟨v1, r1, rfl, ⟨rfl, _⟩, v2, r2, rfl, ⟨rfl, _⟩, rfl⟩ := hc
 refine (Any.strings_IndexByte Tryz.lays137 s c w).mono ?_
 rintro e w' ⟨rfl, rfl⟩
 refine ⟨_, rfl, ?_, Below.refl _ _⟩
 simp only [V.d, Ty.d, C]
 exact ⟨rfl, rfl⟩
def QhA (c : Int) (o : ByteArray) : Bool := (ige c 97 && ile c 122) || ((ige c 65 && ile c 90) || ((ige c 48 && ile c 57) || ige (ixB o c) 0))
noncomputable def QwK : TC := (.sq (.reg (rT Tryz.f106 0)) (.sq (.reg (rT Tryz.f106 1)) .rt))
def QFO : List (RV × Option Ty) := [((.t 4), some .bool)]
def QAQ : G := ⟨TYs, [], 33, EL [(133, QEE)], keeps, (fun _ _ => none), IL [], RL []⟩
def QrW (p0 : Int) (p1 : ByteArray) : Option (V × List VO) := br (ige p0 48) (br (ile p0 57) (some (.t .bool true, [])) (some (.t .bool (ige (ixB p1 p0) 0), []))) (some (.t .bool (ige (ixB p1 p0) 0), []))
def QrX (p0 : Int) (p1 : ByteArray) : Option (V × List VO) := br (ige p0 65) (br (ile p0 90) (some (.t .bool true, [])) (QrW p0 p1)) (QrW p0 p1)
def QGJ (p0 : Int) (p1 : ByteArray) : Option (V × List VO) := br (ige p0 97) (br (ile p0 122) (some (.t .bool true, [])) (QrX p0 p1)) (QrX p0 p1)
theorem e_f106 (p0 : Int) (p1 : ByteArray) : runF QAQ QwK QFO false [.t (.int .u8) p0, .t .str p1] [] = QGJ p0 p1 := by kernel_rfl
theorem QVG : Qai Tryz.prog 106 := .inr ⟨by decide, _, Tryz.func106, by kernel_rfl, by kernel_rfl⟩
theorem QU7 : GOk Tryz.prog QAQ := Qal _ (gA (gC QVw QSx gN))
theorem QTG : QwK.lok QAQ := by repeat (first | exact trivial | refine ⟨?_, ?_⟩)
theorem brO {a b r : Bool} {X : Option (V × List VO)} (h : X = some (.t .bool r, [])) : br a (br b (some (.t .bool true, [])) X) X = some (.t .bool ((a && b) || r), []) := by
 subst h
 cases a <;> cases b <;> rfl
theorem s_f106 (c : Int) (o : ByteArray) : QGJ c o = some (.t .bool (QhA c o), []) := by
 simp only [QGJ, QrX, QrW]
 exact brO (brO (brO rfl))
def QEP : Ent := spec (.pr (.int .u8) (.pr .str .nil)) (fun x => true) (fun x => (.t .bool (QhA x.1 x.2.1)))
theorem QSH : Meets Tryz.prog 106 (strip QEP) := Qag (R := runF QAQ QwK QFO false) (mG Tryz.func106 (by kernel_rfl) Tryz.ntmps106 (by kernel_rfl) QU7 QTG) fun x _ => (e_f106 x.1 x.2.1).trans (s_f106 x.1 x.2.1)
def wordC (c : Int) : Bool := !(ilt c 97 || igt c 122) || (!(ilt c 65 || igt c 90) || (!(ilt c 48 || igt c 57) || (ieq c 45 || (ieq c 95 || ieq c 46))))
def wordF (s : ByteArray) : Bool := (QaG s).all wordC && decide (1 ≤ s.size ∧ s.size ≤ 32)
set_option maxRecDepth 100000 in
theorem QTK : ((List.range 256).all fun n => QhA (n : Int) (ByteArray.mk #[45, 95, 46]) == wordC (n : Int)) = true := by kernel_rfl
theorem QMd {s : ByteArray} {c : Int} (h : c ∈ QaG s) : QhA c (ByteArray.mk #[45, 95, 46]) = wordC c := by
 obtain ⟨b, _, rfl⟩ := List.mem_map.1 h
 have := List.all_eq_true.1 QTK b.toNat (by rw [List.mem_range]; exact b.toNat_lt)
 exact eq_of_beq this
def Qjd : Fg := ⟨[(0, some .str), (6, some (.sl (.int .u8))), (7, some tI), (8, some tI)], []⟩
noncomputable def Qli : TC := (.sq (.reg (rT Tryz.f75 2)) (.sq (.cd (.t 9) .sk (.fg ⟨[(0, some .str)], []⟩ (.ex 0))) (.sq (.bk 1 (.sq (.reg (rT Tryz.f75 3)) (.sq (.reg (rT Tryz.f75 4)) (.cd (.t 14) (.sq (.reg (rT Tryz.f75 5)) (.fg ⟨[(2, some .bool)], []⟩ .rt)) .sk)))) (.reg (rT Tryz.f75 6)))))
noncomputable def QCY : TC := (.sq (.reg (rT Tryz.f75 0)) (.sq (.sq (.reg (rT Tryz.f75 1)) (.bk 0 (.lp 0 Qjd Qli))) (.sq (.reg (rT Tryz.f75 7)) .rt)))
def QPX : List (RV × Option Ty) := [((.t 2), some .bool)]
abbrev Qq4 : Sh := ⟨[(0, .ty .str), (6, .ty (.sl (.int .u8))), (7, .ty tI), (8, .ty tI)], []⟩
def Qqx (x0 : ByteArray) (x6 : List Int) (x7 x8 : Int) : VS := Qq4.st (x0, x6, x7, x8, ()) ()
abbrev QtF : Sh := ⟨[(2, .ty .bool)], []⟩
def Qdr (x2 : Bool) : VS := QtF.st (x2, ()) ()
abbrev Qxd : Sh := ⟨[(0, .ty .str)], []⟩
def QeI (x0 : ByteArray) : VS := Qxd.st (x0, ()) ()
def QV7 : VS → Option (Bool × List (Bool × Exit × VS)) := mkL Qq4 (fun x y => (rngG x.2.1 x.2.2.1 x.2.2.2.1 && samB x.2.1 (QaG x.1))) (fun x y => [((!((x.2.1.drop x.2.2.2.1.toNat).all wordC)), .ret, Qdr (false)), (true, .exit 0, QeI (x.1))])
def g_f75 : G := ⟨TYs, [], 24, EL [(106, QEP), (22760144, QaX)], keeps, (Ls [QV7]), IL [], RL []⟩
def QKb (x0 : ByteArray) (x6 : List Int) (x7 x8 : Int) : Option (Exit × VS) := br (ilt x8 x7) (br (cIx x6 x8) (br (!(QhA (lgt (.int .u8) x6 (Int.toNat x8)) (ByteArray.mk #[45, 95, 46]))) (some (.ret, Qdr false)) (some (.normal, Qqx x0 x6 x7 (iadd .i64 x8 1)))) none) (some (.exit 0, QeI x0))
noncomputable def Qmg (x0 : ByteArray) (x6 : List Int) (x7 x8 : Int) : Option (Exit × VS) := loopF (Qaj g_f75 Qjd Qli) (Qqx x0 x6 x7 x8)
noncomputable def Qr9 (x0 : ByteArray) (x6 : List Int) (x7 x8 : Int) : Option (Exit × VS) := br (ilt x8 x7) (br (cIx x6 x8) (br (!(QhA (lgt (.int .u8) x6 (Int.toNat x8)) (ByteArray.mk #[45, 95, 46]))) (some (.ret, Qdr false)) (Qmg x0 x6 x7 (iadd .i64 x8 1))) none) (some (.exit 0, QeI x0))
def QmG (x0 : ByteArray) (x6 : List Int) (x7 x8 : Int) : Option (Exit × VS) := br (!((x6.drop x8.toNat).all wordC)) (some (.ret, Qdr (false))) <| some (.exit 0, QeI (x0))
theorem QNW (x0 : ByteArray) (x6 : List Int) (x7 x8 : Int) : Qaj g_f75 Qjd Qli (Qqx x0 x6 x7 x8) = QKb x0 x6 x7 x8 := by kernel_rfl
theorem QzM (x0 : ByteArray) (x6 : List Int) (x7 x8 : Int) : Qmg x0 x6 x7 x8 = Qr9 x0 x6 x7 x8 := (Qap _ _).trans (by
 rw [QNW]
 simp only [QKb, Qr9, QaB, nxt_n, nxt_r, nxt_e, nxt_0]
 rfl)
def r_f75 (p0 : ByteArray) : Option (V × List VO) := br (Qa6 p0) (br (rngG (QaG p0) (llen (QaG p0)) (0 : Int) && samB (QaG p0) (QaG p0)) (br (!(((QaG p0).drop (0 : Int).toNat).all wordC)) (some (.t .bool (false), [])) (br (ige (slen (p0)) 1) (some (.t .bool (ile (slen (p0)) 32), [])) (some (.t .bool false, [])))) none) none
theorem e_f75 (p0 : ByteArray) : runF g_f75 QCY QPX false [.t .str p0] [] = r_f75 p0 := by kernel_rfl
theorem en_f75 : Qai Tryz.prog 75 := .inr ⟨by decide, _, Tryz.func75, by kernel_rfl, by kernel_rfl⟩
theorem gk_f75 : GOk Tryz.prog g_f75 := Qal _ (gA (gC QVG QSH (gC Qbj Qbg gN)))
theorem QTS (x0 : ByteArray) (x6 : List Int) (x7 x8 : Int) (h : (rngG x6 x7 x8 && samB x6 (QaG x0)) = true) : Qmg x0 x6 x7 x8 = QmG x0 x6 x7 x8 := by
 simp only [Bool.and_eq_true] at h
 obtain ⟨h, hs⟩ := h
 have hs := QxI hs
 obtain ⟨rfl, h3, k, rfl, hk⟩ := QFX h
 clear h
 refine Qas x6 (fun k => Qmg x0 x6 (x6.length : Int) (k : Int) = QmG x0 x6 (x6.length : Int) (k : Int)) ?_ ?_ k hk
 ·rw [QzM]
  simp [Qr9, QmG, QaA, Qaf]
 ·intro k hk ih
  rw [QzM]
  have hw : QhA x6[k] (ByteArray.mk #[45, 95, 46]) = wordC x6[k] := QMd (s := x0) (by rw [← hs]; exact List.getElem_mem hk)
  simp only [Qr9, QaA, Qaw, hk, decide_true, Qac, Int.toNat_natCast, add1G (show k < 9223372036854775807 by omega), QaE (y := .int .u8) hk, ih, hw]
  simp only [QmG, Int.toNat_natCast, List.drop_eq_getElem_cons hk, List.all_cons]
  cases wordC x6[k] <;> rfl
theorem QLJ : ∀ S l p, g_f75.L 0 (fgt Qjd S) = some (true, l) → pickA l = some p → loopF (Qaj g_f75 Qjd Qli) S = some p :=
 QaD (s := Qq4) ⟨by decide, by decide⟩ (by kernel_rfl) fun x y hok p hp => by
 simp only [Qar, Qao] at hp
 exact (QTS x.1 x.2.1 x.2.2.1 x.2.2.2.1 (by simpa using hok)).trans hp
theorem lk_f75 : QCY.lok g_f75 := by
 repeat (first | exact trivial | exact QLJ | refine ⟨?_, ?_⟩)
theorem s_f75 (s : ByteArray) (h : nameG s = true) : r_f75 s = some (.t .bool (wordF s), []) := by
 simp only [nameG, decide_eq_true_eq] at h
 have hl := Qco s
 simp only [r_f75, show Qa6 s = true from decide_eq_true (by omega), QFY (show (QaG s).length ≤ 9223372036854775807 by omega), Qom, Bool.and_self, Qac, Int.toNat_zero, List.drop_zero, wordF]
 cases (QaG s).all wordC with
 | false => rfl
 | true =>
  simp only [Bool.not_true, Qaf, Bool.true_and]
  refine QaP (fun g => ?_) (fun g => ?_)
  ·simp only [ige, slen, decide_eq_true_eq] at g
   apply Qtx
   rw [Bool.eq_iff_iff]
   simp only [ile, slen, decide_eq_true_eq]
   omega
  ·simp only [ige, slen, decide_eq_false_iff_not] at g
   apply Qtx
   rw [eq_comm, decide_eq_false_iff_not]
   omega
def QO5 : Ent := spec (.pr .str .nil) (fun x => (nameG x.1)) (fun x => (.t .bool (wordF x.1)))
theorem ms_f75 : Meets Tryz.prog 75 (strip QO5) := Qag (R := runF g_f75 QCY QPX false) (mG Tryz.func75 (by kernel_rfl) Tryz.ntmps75 (by kernel_rfl) gk_f75 lk_f75) fun x hok => (e_f75 x.1).trans (s_f75 x.1 hok)
def Qjg : Fg := ⟨[(0, some .str), (3, some tI)], []⟩
noncomputable def Qll : TC := (.sq (.sq (.reg (rT Tryz.f67 4)) (.cd (.t 16) .sk (.fg ⟨[], []⟩ (.ex 0)))) (.sq (.bk 1 (.sq (.reg (rT Tryz.f67 5)) (.sq (.reg (rT Tryz.f67 6)) (.cd (.t 55) (.sq (.reg (rT Tryz.f67 7)) (.fg ⟨[(2, some .bool)], []⟩ .rt)) .sk)))) (.reg (rT Tryz.f67 8))))
noncomputable def QC3 : TC := (.sq (.reg (rT Tryz.f67 0)) (.sq (.sq (.reg (rT Tryz.f67 1)) (.cd (.t 12) (.sq (.reg (rT Tryz.f67 2)) .rt) .sk)) (.sq (.sq (.reg (rT Tryz.f67 3)) (.bk 0 (.lp 0 Qjg Qll))) (.sq (.reg (rT Tryz.f67 9)) .rt))))
def QP2 : List (RV × Option Ty) := [((.t 2), some .bool)]
abbrev Qq7 : Sh := ⟨[(0, .ty .str), (3, .ty tI)], []⟩
def Qdu (x0 : ByteArray) (x3 : Int) : VS := Qq7.st (x0, x3, ()) ()
abbrev QtH : Sh := ⟨[(2, .ty .bool)], []⟩
def Qdt (x2 : Bool) : VS := QtH.st (x2, ()) ()
abbrev Qxg : Sh := ⟨[], []⟩
def QeL  : VS := Qxg.st () ()
def QWa : VS → Option (Bool × List (Bool × Exit × VS)) := mkL Qq7 (fun x y => (nameG x.1 && decide (0 ≤ x.2.1 ∧ x.2.1 ≤ x.1.size))) (fun x y => [((!(((QaG x.1).drop x.2.1.toNat).all wordC)), .ret, Qdt (false)), (true, .exit 0, QeL)])
def g_f67 : G := ⟨TYs, [], 56, EL [], keeps, (Ls [QWa]), IL [], RL []⟩
def Qpt (x0 : ByteArray) (x3 : Int) : Option (Exit × VS) :=
 let a1 := iadd .i64 x3 1
 br (ine (sgt x0 x3) 45) (br (ine (sgt x0 x3) 95) (br (ine (sgt x0 x3) 46) (some (.ret, Qdt false)) (some (.normal, Qdu x0 a1))) (some (.normal, Qdu x0 a1))) (some (.normal, Qdu x0 a1))
def Qpu (x0 : ByteArray) (x3 : Int) : Option (Exit × VS) := br (ilt (sgt x0 x3) 48) (Qpt x0 x3) (br (igt (sgt x0 x3) 57) (Qpt x0 x3) (some (.normal, Qdu x0 (iadd .i64 x3 1))))
def Qpv (x0 : ByteArray) (x3 : Int) : Option (Exit × VS) := br (ilt (sgt x0 x3) 65) (Qpu x0 x3) (br (igt (sgt x0 x3) 90) (Qpu x0 x3) (some (.normal, Qdu x0 (iadd .i64 x3 1))))
def QKe (x0 : ByteArray) (x3 : Int) : Option (Exit × VS) := br (ilt x3 (slen x0)) (br (cSx x0 x3) (br (ilt (sgt x0 x3) 97) (Qpv x0 x3) (br (igt (sgt x0 x3) 122) (Qpv x0 x3) (some (.normal, Qdu x0 (iadd .i64 x3 1))))) none) (some (.exit 0, QeL))
noncomputable def QcS (x0 : ByteArray) (x3 : Int) : Option (Exit × VS) := loopF (Qaj g_f67 Qjg Qll) (Qdu x0 x3)
noncomputable def Qh9 (x0 : ByteArray) (x3 : Int) : Option (Exit × VS) :=
 let a1 := iadd .i64 x3 1
 br (ine (sgt x0 x3) 45) (br (ine (sgt x0 x3) 95) (br (ine (sgt x0 x3) 46) (some (.ret, Qdt false)) (QcS x0 a1)) (QcS x0 a1)) (QcS x0 a1)
noncomputable def Qia (x0 : ByteArray) (x3 : Int) : Option (Exit × VS) := br (ilt (sgt x0 x3) 48) (Qh9 x0 x3) (br (igt (sgt x0 x3) 57) (Qh9 x0 x3) (QcS x0 (iadd .i64 x3 1)))
noncomputable def Qib (x0 : ByteArray) (x3 : Int) : Option (Exit × VS) := br (ilt (sgt x0 x3) 65) (Qia x0 x3) (br (igt (sgt x0 x3) 90) (Qia x0 x3) (QcS x0 (iadd .i64 x3 1)))
noncomputable def Qsb (x0 : ByteArray) (x3 : Int) : Option (Exit × VS) := br (ilt x3 (slen x0)) (br (cSx x0 x3) (br (ilt (sgt x0 x3) 97) (Qib x0 x3) (br (igt (sgt x0 x3) 122) (Qib x0 x3) (QcS x0 (iadd .i64 x3 1)))) none) (some (.exit 0, QeL))
def QmI (x0 : ByteArray) (x3 : Int) : Option (Exit × VS) := br (!(((QaG x0).drop x3.toNat).all wordC)) (some (.ret, Qdt (false))) <| some (.exit 0, QeL)
theorem QNZ (x0 : ByteArray) (x3 : Int) : Qaj g_f67 Qjg Qll (Qdu x0 x3) = QKe x0 x3 := by kernel_rfl
theorem QzP (x0 : ByteArray) (x3 : Int) : QcS x0 x3 = Qsb x0 x3 := (Qap _ _).trans (by
 rw [QNZ]
 simp only [QKe, Qpv, Qpu, Qpt, Qsb, Qib, Qia, Qh9, QaB, nxt_n, nxt_r, nxt_e, nxt_0]
 rfl)
def r_f67 (p0 : ByteArray) : Option (V × List VO) := br (ilt (slen p0) 1) (some (.t .bool false, [])) (br (igt (slen p0) 32) (some (.t .bool false, [])) (br (nameG p0 && decide (0 ≤ (0 : Int) ∧ (0 : Int) ≤ p0.size)) (br (!(((QaG p0).drop (0 : Int).toNat).all wordC)) (some (.t .bool (false), [])) (some (.t .bool true, []))) none))
theorem e_f67 (p0 : ByteArray) : runF g_f67 QC3 QP2 false [.t .str p0] [] = r_f67 p0 := by kernel_rfl
theorem en_f67 : Qai Tryz.prog 67 := .inr ⟨by decide, _, Tryz.func67, by kernel_rfl, by kernel_rfl⟩
theorem gk_f67 : GOk Tryz.prog g_f67 := Qal _ (fun p hp => by cases hp)
theorem QCv {β : Type} (c : Int) (bad ok : Option β) : (br (ilt c 97) (br (ilt c 65) (br (ilt c 48) (br (ine c 45) (br (ine c 95) (br (ine c 46) bad ok) ok) ok) (br (igt c 57) (br (ine c 45) (br (ine c 95) (br (ine c 46) bad ok) ok) ok) ok)) (br (igt c 90) (br (ilt c 48) (br (ine c 45) (br (ine c 95) (br (ine c 46) bad ok) ok) ok) (br (igt c 57) (br (ine c 45) (br (ine c 95) (br (ine c 46) bad ok) ok) ok) ok)) ok)) (br (igt c 122) (br (ilt c 65) (br (ilt c 48) (br (ine c 45) (br (ine c 95) (br (ine c 46) bad ok) ok) ok) (br (igt c 57) (br (ine c 45) (br (ine c 95) (br (ine c 46) bad ok) ok) ok) ok)) (br (igt c 90) (br (ilt c 48) (br (ine c 45) (br (ine c 95) (br (ine c 46) bad ok) ok) ok) (br (igt c 57) (br (ine c 45) (br (ine c 95) (br (ine c 46) bad ok) ok) ok) ok)) ok)) ok)) = br (wordC c) ok bad := by
 simp only [wordC, Qkk]
 cases ilt c 97 <;> cases igt c 122 <;> cases ilt c 65 <;> cases igt c 90 <;> cases ilt c 48 <;> cases igt c 57 <;> cases ieq c 45 <;> cases ieq c 95 <;> cases ieq c 46 <;> rfl
theorem QTV (x0 : ByteArray) (x3 : Int) (h : (nameG x0 && decide (0 ≤ x3 ∧ x3 ≤ x0.size)) = true) : QcS x0 x3 = QmI x0 x3 := by
 simp only [nameG, Bool.and_eq_true, decide_eq_true_eq] at h
 obtain ⟨h0, h1, h2⟩ := h
 obtain ⟨k, rfl⟩ := Int.eq_ofNat_of_zero_le h1
 have hl := Qco x0
 refine Qas (QaG x0) (fun k => QcS x0 (k : Int) = QmI x0 (k : Int)) ?_ ?_ k (by omega)
 ·rw [QzP]
  simp [Qsb, QmI, ilt, slen, hl, Qaf, List.drop_eq_nil_of_le (show (QaG x0).length ≤ x0.size by omega)]
 ·intro k hk ih
  have hk2 : k < x0.size := by omega
  rw [QzP]
  simp only [Qsb, Qib, Qia, Qh9, show ilt (k : Int) (slen x0) = true from by simp only [ilt, slen, decide_eq_true_eq]; omega, show cSx x0 (k : Int) = true from by simp only [cSx, decide_eq_true_eq]; omega, Qac, QE1 hk2, add1G (show k < 9223372036854775807 by omega), ih, QCv]
  simp only [QmI, Int.toNat_natCast, List.drop_eq_getElem_cons hk, List.all_cons]
  cases wordC (QaG x0)[k] <;> rfl
theorem QLM : ∀ S l p, g_f67.L 0 (fgt Qjg S) = some (true, l) → pickA l = some p → loopF (Qaj g_f67 Qjg Qll) S = some p :=
 QaD (s := Qq7) ⟨by decide, by decide⟩ (by kernel_rfl) fun x y hok p hp => by
 simp only [Qar, Qao] at hp
 exact (QTV x.1 x.2.1 (by simpa using hok)).trans hp
theorem lk_f67 : QC3.lok g_f67 := by
 repeat (first | exact trivial | exact QLM | refine ⟨?_, ?_⟩)
theorem s_f67 (s : ByteArray) (h : nameG s = true) : r_f67 s = some (.t .bool (wordF s), []) := by
 simp only [r_f67]
 unfold wordF
 refine QaP (fun g => ?_) (fun g => QaP (fun g2 => ?_) (fun g2 => ?_))
 ·simp only [ilt, slen, decide_eq_true_eq] at g
  rw [decide_eq_false (show ¬ (1 ≤ s.size ∧ s.size ≤ 32) by omega), Bool.and_false]
 ·simp only [igt, slen, decide_eq_true_eq] at g2
  rw [decide_eq_false (show ¬ (1 ≤ s.size ∧ s.size ≤ 32) by omega), Bool.and_false]
 ·simp only [ilt, igt, slen, decide_eq_false_iff_not] at g g2
  rw [h, decide_eq_true (show (0 : Int) ≤ 0 ∧ (0 : Int) ≤ s.size by omega), decide_eq_true (show 1 ≤ s.size ∧ s.size ≤ 32 by omega), Bool.and_true, Bool.and_true, Qac, Int.toNat_zero, List.drop_zero]
  cases (QaG s).all wordC <;> rfl
def QPa : Ent := spec (.pr .str .nil) (fun x => (nameG x.1)) (fun x => (.t .bool (wordF x.1)))
theorem ms_f67 : Meets Tryz.prog 67 (strip QPa) := Qag (R := runF g_f67 QC3 QP2 false) (mG Tryz.func67 (by kernel_rfl) Tryz.ntmps67 (by kernel_rfl) gk_f67 lk_f67) fun x hok => (e_f67 x.1).trans (s_f67 x.1 hok)
def Qbe {α : Type} (l : List α) : Bool := decide (l.length ≤ 100000)
def ascUp (l : List Int) (k : Nat) : Bool := (List.range' k (l.length - k)).all fun j => decide (j = 0) || ilt (l.getD (j - 1) 0) (l.getD j 0)
def ascF (l : List Int) : Bool := ascUp l 0
theorem Qpx (l : List Int) : ascUp l l.length = true := by
 unfold ascUp
 rw [Nat.sub_self]
 rfl
theorem Qkv {l : List Int} {k : Nat} (hk : k < l.length) : ascUp l k = ((decide (k = 0) || ilt (l.getD (k - 1) 0) l[k]) && ascUp l (k + 1)) := by
 have : l.length - k = (l.length - (k + 1)) + 1 := by omega
 unfold ascUp
 rw [this, List.range'_succ, List.all_cons]
 simp only [List.getD_eq_getElem?_getD, List.getElem?_eq_getElem hk, Option.getD_some]
theorem QKF {β : Type} {l : List Int} {k : Nat} (hk : k < l.length) (hb : k < 4611686018427387904) (bad ok : Option β) :
  br (igt (k : Int) 0) (br (cIx l (isub .i64 (k : Int) 1)) (br (ige (lgt tI l (Int.toNat (isub .i64 (k : Int) 1))) l[k]) bad ok) none) ok = br (decide (k = 0) || ilt (l.getD (k - 1) 0) l[k]) ok bad := by
 by_cases h0 : k = 0
 ·subst h0
  rw [show igt ((0 : Nat) : Int) 0 = false from rfl, Qaf, decide_eq_true rfl, Bool.true_or, Qac]
 ·have e : isub .i64 (k : Int) 1 = ((k - 1 : Nat) : Int) := by rw [QbE (by omega)]; omega
  rw [show igt (k : Int) 0 = true from decide_eq_true (by omega), Qac, e, Int.toNat_natCast, Qaw, decide_eq_true (show k - 1 < l.length by omega), Qac, decide_eq_false h0, Bool.false_or, QsI]
  show br (!ilt (l.getD (k - 1) 0) l[k]) bad ok = _
  cases ilt (l.getD (k - 1) 0) l[k] <;> rfl
noncomputable def QNe : List DO := dT Tryz.f77 4
def Qjb : Fg := ⟨[(0, some (.sl tI)), (5, some tI), (6, some tI)], []⟩
noncomputable def Qlg : TC := (.sq (.reg (rT Tryz.f77 2)) (.sq (.cd (.t 7) .sk (.fg ⟨[], []⟩ (.ex 0))) (.sq (.bk 1 (.sq (.reg (rT Tryz.f77 3)) (.sq (.dr QNe [(0, []), (1, []), (2, []), (3, []), (4, []), (5, []), (6, []), (7, []), (8, []), (9, []), (10, []), (11, []), (12, []), (13, [])] (.of [0, 1, 2, 3, 4, 5, 6, 7, 8, 9, 10, 11, 12, 13])) (.cd (.t 22) (.sq (.reg (rT Tryz.f77 5)) (.fg ⟨[(2, some .bool)], []⟩ .rt)) .sk)))) (.reg (rT Tryz.f77 6)))))
noncomputable def QCW : TC := (.sq (.reg (rT Tryz.f77 0)) (.sq (.sq (.reg (rT Tryz.f77 1)) (.bk 0 (.lp 0 Qjb Qlg))) (.sq (.reg (rT Tryz.f77 7)) .rt)))
def QPV : List (RV × Option Ty) := [((.t 2), some .bool)]
abbrev Qq2 : Sh := ⟨[(0, .ty (.sl tI)), (5, .ty tI), (6, .ty tI)], []⟩
def QlL (x0 : List Int) (x5 x6 : Int) : VS := Qq2.st (x0, x5, x6, ()) ()
abbrev QtD : Sh := ⟨[(2, .ty .bool)], []⟩
def Qdq (x2 : Bool) : VS := QtD.st (x2, ()) ()
abbrev Qxb : Sh := ⟨[], []⟩
def QeG  : VS := Qxb.st () ()
def QV5 : VS → Option (Bool × List (Bool × Exit × VS)) := mkL Qq2 (fun x y => (rngOk x.1 x.2.1 x.2.2.1)) (fun x y => [((!ascUp x.1 x.2.2.1.toNat), .ret, Qdq (false)), (true, .exit 0, QeG)])
def g_f77 : G := ⟨TYs, [], 24, EL [], keeps, (Ls [QV5]), IL [], RL []⟩
def QJ9 (x0 : List Int) (x5 x6 : Int) : Option (Exit × VS) := br (ilt x6 x5) (br (igt x6 0) (br (cIx x0 (isub .i64 x6 1)) (br (cIx x0 x6) (br (ige (lgt tI x0 (Int.toNat (isub .i64 x6 1))) (lgt tI x0 (Int.toNat x6))) (some (.ret, Qdq false)) (some (.normal, QlL x0 x5 (iadd .i64 x6 1)))) none) none) (some (.normal, QlL x0 x5 (iadd .i64 x6 1)))) (some (.exit 0, QeG))
noncomputable def Qil (x0 : List Int) (x5 x6 : Int) : Option (Exit × VS) := loopF (Qaj g_f77 Qjb Qlg) (QlL x0 x5 x6)
noncomputable def Qr7 (x0 : List Int) (x5 x6 : Int) : Option (Exit × VS) := br (ilt x6 x5) (br (igt x6 0) (br (cIx x0 (isub .i64 x6 1)) (br (cIx x0 x6) (br (ige (lgt tI x0 (Int.toNat (isub .i64 x6 1))) (lgt tI x0 (Int.toNat x6))) (some (.ret, Qdq false)) (Qil x0 x5 (iadd .i64 x6 1))) none) none) (Qil x0 x5 (iadd .i64 x6 1))) (some (.exit 0, QeG))
def QmE (x0 : List Int) (x5 x6 : Int) : Option (Exit × VS) := br (!ascUp x0 x6.toNat) (some (.ret, Qdq (false))) <| some (.exit 0, QeG)
theorem QNU (x0 : List Int) (x5 x6 : Int) : Qaj g_f77 Qjb Qlg (QlL x0 x5 x6) = QJ9 x0 x5 x6 := by kernel_rfl
theorem QzK (x0 : List Int) (x5 x6 : Int) : Qil x0 x5 x6 = Qr7 x0 x5 x6 := (Qap _ _).trans (by
 rw [QNU]
 simp only [QJ9, Qr7, QaB, nxt_n, nxt_r, nxt_e, nxt_0]
 rfl)
def r_f77 (p0 : List Int) : Option (V × List VO) := br (rngOk p0 (llen p0) (0 : Int)) (br (!ascUp p0 (0 : Int).toNat) (some (.t .bool (false), [])) (some (.t .bool true, []))) none
theorem e_f77 (p0 : List Int) : runF g_f77 QCW QPV false [.t (.sl tI) p0] [] = r_f77 p0 := by kernel_rfl
theorem en_f77 : Qai Tryz.prog 77 := .inr ⟨by decide, _, Tryz.func77, by kernel_rfl, by kernel_rfl⟩
theorem gk_f77 : GOk Tryz.prog g_f77 := Qal _ (fun p hp => by cases hp)
theorem QTQ (x0 : List Int) (x5 x6 : Int) (h : (rngOk x0 x5 x6) = true) : Qil x0 x5 x6 = QmE x0 x5 x6 := by
 obtain ⟨rfl, h3, k, rfl, hk⟩ := rng_k h
 clear h
 refine Qas x0 (fun k => Qil x0 (x0.length : Int) (k : Int) = QmE x0 (x0.length : Int) (k : Int)) ?_ ?_ k hk
 ·rw [QzK]
  simp only [Qr7, QmE, QaA, Nat.lt_irrefl, decide_false, Qaf, Int.toNat_natCast, Qpx, Bool.not_true]
 ·intro k hk ih
  rw [QzK]
  simp only [Qr7, QaA, Qaw, hk, decide_true, Qac, Int.toNat_natCast, add1 (show k < 4611686018427387904 by omega), QaE (y := tI) hk, ih, QKF hk (show k < 4611686018427387904 by omega)]
  simp only [QmE, Int.toNat_natCast, Qkv hk]
  cases decide (k = 0) || ilt (x0.getD (k - 1) 0) x0[k] <;> rfl
theorem QLH : ∀ S l p, g_f77.L 0 (fgt Qjb S) = some (true, l) → pickA l = some p → loopF (Qaj g_f77 Qjb Qlg) S = some p :=
 QaD (s := Qq2) ⟨by decide, by decide⟩ (by kernel_rfl) fun x y hok p hp => by
 simp only [Qar, Qao] at hp
 exact (QTQ x.1 x.2.1 x.2.2.1 (by simpa using hok)).trans hp
theorem lk_f77 : QCW.lok g_f77 := by
 repeat (first | exact trivial | exact QLH | refine ⟨?_, ?_⟩)
theorem s_f77 (l : List Int) (h : Qbe l = true) : r_f77 l = some (.t .bool (ascF l), []) := by
 simp only [Qbe, decide_eq_true_eq] at h
 simp only [r_f77, rng_0 h, Qac, Int.toNat_zero]
 unfold ascF
 cases ascUp l 0 <;> rfl
def QO3 : Ent := spec (.pr (.sl tI) .nil) (fun x => (Qbe x.1)) (fun x => (.t .bool (ascF x.1)))
theorem ms_f77 : Meets Tryz.prog 77 (strip QO3) := Qag (R := runF g_f77 QCW QPV false) (mG Tryz.func77 (by kernel_rfl) Tryz.ntmps77 (by kernel_rfl) gk_f77 lk_f77) fun x hok => (e_f77 x.1).trans (s_f77 x.1 hok)
def hashF (a : Int) : Bool := ieq (kindF a) 1
noncomputable def QCT : TC := (.sq (.reg (rT Tryz.f83 0)) (.sq (.reg (rT Tryz.f83 1)) .rt))
def QPS : List (RV × Option Ty) := [((.t 2), some .bool)]
def g_f83 : G := ⟨TYs, [], 6, EL [(108, QqT)], keeps, (fun _ _ => none), IL [], RL []⟩
def r_f83 (p0 : Int) : Option (V × List VO) := some (.t .bool (ieq (kindF p0) 1), [])
theorem e_f83 (p0 : Int) : runF g_f83 QCT QPS false [.t tI p0] [] = r_f83 p0 := by kernel_rfl
theorem en_f83 : Qai Tryz.prog 83 := .inr ⟨by decide, _, Tryz.func83, by kernel_rfl, by kernel_rfl⟩
theorem gk_f83 : GOk Tryz.prog g_f83 := Qal _ (gA (gC QyH Qyd gN))
theorem lk_f83 : QCT.lok g_f83 := by repeat (first | exact trivial | refine ⟨?_, ?_⟩)
theorem s_f83 (a : Int) : r_f83 a = some (.t .bool (hashF a), []) := rfl
def QO1 : Ent := spec (.pr tI .nil) (fun x => true) (fun x => (.t .bool (hashF x.1)))
theorem ms_f83 : Meets Tryz.prog 83 (strip QO1) := Qag (R := runF g_f83 QCT QPS false) (mG Tryz.func83 (by kernel_rfl) Tryz.ntmps83 (by kernel_rfl) gk_f83 lk_f83) fun x _ => (e_f83 x.1).trans (s_f83 x.1)
def Qdl (l : List Int) (k : Nat) : Bool := (List.range' k (l.length - k)).all fun j => ieq (Qay (l.getD j 0)).2 0 && !hasF (l.take j) (l.getD j 0)
def suitF (l : List Int) : Bool := Qdl l 0
theorem QpS (l : List Int) : Qdl l l.length = true := by
 unfold Qdl
 rw [Nat.sub_self]
 rfl
theorem Qnu {l : List Int} {k : Nat} (hk : k < l.length) : Qdl l k = ((ieq (Qay l[k]).2 0 && !hasF (l.take k) l[k]) && Qdl l (k + 1)) := by
 have : l.length - k = (l.length - (k + 1)) + 1 := by omega
 unfold Qdl
 rw [this, List.range'_succ, List.all_cons]
 simp only [List.getD_eq_getElem?_getD, List.getElem?_eq_getElem hk, Option.getD_some]
theorem QzE (l : List Int) (k : Nat) : lsl l 0 (k : Int) = l.take k := by
 simp [lsl]
theorem QBi {l : List Int} {k : Nat} (hk : k ≤ l.length) : cSl l 0 (k : Int) ((List.length l : Nat) : Int) = true := by
 simp only [cSl, decide_eq_true_eq]
 omega
def Qjc : Fg := ⟨[(0, some (.sl tI)), (7, some (.sl tI)), (8, some tI), (9, some tI)], []⟩
noncomputable def Qlh : TC := (.sq (.reg (rT Tryz.f76 2)) (.sq (.cd (.t 10) .sk (.fg ⟨[], []⟩ (.ex 0))) (.sq (.bk 1 (.sq (.reg (rT Tryz.f76 3)) (.sq (.reg (rT Tryz.f76 4)) (.sq (.reg (rT Tryz.f76 5)) (.cd (.t 27) (.sq (.reg (rT Tryz.f76 6)) (.fg ⟨[(2, some .bool)], []⟩ .rt)) .sk))))) (.reg (rT Tryz.f76 7)))))
noncomputable def QCX : TC := (.sq (.reg (rT Tryz.f76 0)) (.sq (.sq (.reg (rT Tryz.f76 1)) (.bk 0 (.lp 0 Qjc Qlh))) (.sq (.reg (rT Tryz.f76 8)) .rt)))
def QPW : List (RV × Option Ty) := [((.t 2), some .bool)]
abbrev Qq3 : Sh := ⟨[(0, .ty (.sl tI)), (7, .ty (.sl tI)), (8, .ty tI), (9, .ty tI)], []⟩
def Qqw (x0 x7 : List Int) (x8 x9 : Int) : VS := Qq3.st (x0, x7, x8, x9, ()) ()
abbrev QtE : Sh := ⟨[(2, .ty .bool)], []⟩
def QbO (x2 : Bool) : VS := QtE.st (x2, ()) ()
abbrev Qxc : Sh := ⟨[], []⟩
def QeH  : VS := Qxc.st () ()
def QV6 : VS → Option (Bool × List (Bool × Exit × VS)) := mkL Qq3 (fun x y => (rngOk x.2.1 x.2.2.1 x.2.2.2.1 && samB x.1 x.2.1)) (fun x y => [((!Qdl x.2.1 x.2.2.2.1.toNat), .ret, QbO (false)), (true, .exit 0, QeH)])
def g_f76 : G := ⟨TYs, [], 29, EL [(48, Qto), (59, QpV)], keeps, (Ls [QV6]), IL [], RL []⟩
def QKa (x0 x7 : List Int) (x8 x9 : Int) : Option (Exit × VS) :=
 let a1 := lgt tI x7 (Int.toNat x9)
 br (ilt x9 x8) (br (cIx x7 x9) (br (ine ((Qay a1).2) 0) (some (.ret, QbO false)) (br (cSl x0 0 x9 ((List.length x0 : Nat) : Int)) (br (QaR (lsl x0 0 x9) a1) (br (hasF (lsl x0 0 x9) a1) (some (.ret, QbO false)) (some (.normal, Qqw x0 x7 x8 (iadd .i64 x9 1)))) none) none)) none) (some (.exit 0, QeH))
noncomputable def Qmf (x0 x7 : List Int) (x8 x9 : Int) : Option (Exit × VS) := loopF (Qaj g_f76 Qjc Qlh) (Qqw x0 x7 x8 x9)
noncomputable def Qr8 (x0 x7 : List Int) (x8 x9 : Int) : Option (Exit × VS) :=
 let a1 := lgt tI x7 (Int.toNat x9)
 br (ilt x9 x8) (br (cIx x7 x9) (br (ine ((Qay a1).2) 0) (some (.ret, QbO false)) (br (cSl x0 0 x9 ((List.length x0 : Nat) : Int)) (br (QaR (lsl x0 0 x9) a1) (br (hasF (lsl x0 0 x9) a1) (some (.ret, QbO false)) (Qmf x0 x7 x8 (iadd .i64 x9 1))) none) none)) none) (some (.exit 0, QeH))
def QmF (x0 x7 : List Int) (x8 x9 : Int) : Option (Exit × VS) := br (!Qdl x7 x9.toNat) (some (.ret, QbO (false))) <| some (.exit 0, QeH)
theorem QNV (x0 x7 : List Int) (x8 x9 : Int) : Qaj g_f76 Qjc Qlh (Qqw x0 x7 x8 x9) = QKa x0 x7 x8 x9 := by kernel_rfl
theorem QzL (x0 x7 : List Int) (x8 x9 : Int) : Qmf x0 x7 x8 x9 = Qr8 x0 x7 x8 x9 := (Qap _ _).trans (by
 rw [QNV]
 simp only [QKa, Qr8, QaB, nxt_n, nxt_r, nxt_e, nxt_0]
 rfl)
def r_f76 (p0 : List Int) : Option (V × List VO) := br (rngOk p0 (llen p0) (0 : Int) && samB p0 p0) (br (!Qdl p0 (0 : Int).toNat) (some (.t .bool (false), [])) (some (.t .bool true, []))) none
theorem e_f76 (p0 : List Int) : runF g_f76 QCX QPW false [.t (.sl tI) p0] [] = r_f76 p0 := by kernel_rfl
theorem en_f76 : Qai Tryz.prog 76 := .inr ⟨by decide, _, Tryz.func76, by kernel_rfl, by kernel_rfl⟩
theorem gk_f76 : GOk Tryz.prog g_f76 := Qal _ (gA (gC QA6 Qzy (gC QvD QuT gN)))
theorem QTR (x0 x7 : List Int) (x8 x9 : Int) (h : (rngOk x7 x8 x9 && samB x0 x7) = true) : Qmf x0 x7 x8 x9 = QmF x0 x7 x8 x9 := by
 simp only [Bool.and_eq_true] at h
 obtain ⟨h0, hs⟩ := h
 have hs := QxI hs
 subst hs
 obtain ⟨rfl, h3, k, rfl, hk⟩ := rng_k h0
 clear h0
 refine Qas x0 (fun k => Qmf x0 x0 (x0.length : Int) (k : Int) = QmF x0 x0 (x0.length : Int) (k : Int)) ?_ ?_ k hk
 ·rw [QzL]
  simp only [Qr8, QmF, QaA, Nat.lt_irrefl, decide_false, Qaf, Int.toNat_natCast, QpS, Bool.not_true]
 ·intro k hk ih
  rw [QzL]
  have hi : QaR (x0.take k) x0[k] = true := decide_eq_true (by rw [List.length_take]; omega)
  simp only [Qr8, QaA, Qaw, hk, decide_true, Qac, Int.toNat_natCast, add1 (show k < 4611686018427387904 by omega), QaE (y := tI) hk, ih, QzE, QBi (show k ≤ x0.length by omega), hi, Qkk]
  simp only [QmF, Int.toNat_natCast, Qnu hk]
  cases ieq (Qay x0[k]).2 0 <;> cases hasF (x0.take k) x0[k] <;> rfl
theorem QLI : ∀ S l p, g_f76.L 0 (fgt Qjc S) = some (true, l) → pickA l = some p → loopF (Qaj g_f76 Qjc Qlh) S = some p :=
 QaD (s := Qq3) ⟨by decide, by decide⟩ (by kernel_rfl) fun x y hok p hp => by
 simp only [Qar, Qao] at hp
 exact (QTR x.1 x.2.1 x.2.2.1 x.2.2.2.1 (by simpa using hok)).trans hp
theorem lk_f76 : QCX.lok g_f76 := by
 repeat (first | exact trivial | exact QLI | refine ⟨?_, ?_⟩)
theorem s_f76 (l : List Int) (h : Qbe l = true) : r_f76 l = some (.t .bool (suitF l), []) := by
 simp only [Qbe, decide_eq_true_eq] at h
 simp only [r_f76, rng_0 h, Qom, Bool.and_self, Qac, Int.toNat_zero]
 unfold suitF
 cases Qdl l 0 <;> rfl
def QO4 : Ent := spec (.pr (.sl tI) .nil) (fun x => (Qbe x.1)) (fun x => (.t .bool (suitF x.1)))
theorem ms_f76 : Meets Tryz.prog 76 (strip QO4) := Qag (R := runF g_f76 QCX QPW false) (mG Tryz.func76 (by kernel_rfl) Tryz.ntmps76 (by kernel_rfl) gk_f76 lk_f76) fun x hok => (e_f76 x.1).trans (s_f76 x.1 hok)
def nKey (n : Int) : Bool := !keyI n
noncomputable def Qnk : TC := (.sq (.reg (rT Tryz.f80 0)) (.sq (.reg (rT Tryz.f80 1)) .rt))
def Qum : List (RV × Option Ty) := [((.t 3), some .bool)]
def Qm5 : G := ⟨TYs, [], 8, EL [(82, Qy6)], keeps, (fun _ _ => none), IL [], RL []⟩
def QrK (p0 : Int) : Option (V × List VO) := some (.t .bool (!(keyI p0)), [.box (.c (.func (.func 82) #[] #[]))])
theorem QM1 (p0 : Int) : runF Qm5 Qnk Qum false [.t tI p0, .ptr 50000 0] [.box (.c (.func (.func 82) ⟨[]⟩ ⟨[]⟩))] = QrK p0 := by kernel_rfl
theorem QIM : Qai Tryz.prog 80 := .inr ⟨by decide, _, Tryz.func80, by kernel_rfl, by kernel_rfl⟩
theorem QIs : GOk Tryz.prog Qm5 := Qal _ (gA (gC QIK QG3 gN))
theorem QHZ : Qnk.lok Qm5 := by repeat (first | exact trivial | refine ⟨?_, ?_⟩)
theorem QK5 (n : Int) : QrK n = some (.t .bool (nKey n), [.box (.c (.func (.func 82) #[] #[]))]) := by
 simp only [QrK]
 rfl
def Qth : Ent := specB [.ty tI, .ptr 50000 0] [.bc 82] (fun x y => true) (fun x y => (.t .bool (nKey x.1))) (fun x y => [.box (.c (.func (.func 82) #[] #[]))])
theorem QG5 : Meets Tryz.prog 80 (strip Qth) := Qcn (QaK (R := runF Qm5 Qnk Qum false) (mG Tryz.func80 (by kernel_rfl) Tryz.ntmps80 (by kernel_rfl) QIs QHZ) fun x y _ => (QM1 x.1).trans (QK5 x.1))
def ixKey (l : List Int) : Int := match fstG nKey l with | some k => (k : Int) | none => -1
def QbG : Fg := ⟨[(0, some (.sl tI)), (1, none), (7, some tI), (8, some tI)], [(50000, none)]⟩
noncomputable def Qcq : TC := (.sq (.reg (rT Tryz.f40 2)) (.sq (.cd (.t 9) .sk (.fg ⟨[], [(50000, none)]⟩ (.ex 0))) (.sq (.bk 1 (.sq (.reg (rT Tryz.f40 3)) (.sq (.reg (rT Tryz.f40 4)) (.cd (.t 16) (.sq (.reg (rT Tryz.f40 5)) (.fg ⟨[(4, some tI)], [(50000, none)]⟩ .rt)) .sk)))) (.reg (rT Tryz.f40 6)))))
noncomputable def QfM : TC := (.sq (.reg (rT Tryz.f40 0)) (.sq (.sq (.reg (rT Tryz.f40 1)) (.bk 0 (.lp 0 QbG Qcq))) (.sq (.reg (rT Tryz.f40 7)) .rt)))
def QkI : List (RV × Option Ty) := [((.t 4), some tI)]
abbrev Qed : Sh := ⟨[(0, .ty (.sl tI)), (1, .fn 80 [(50000, 0)]), (7, .ty tI), (8, .ty tI)], [(50000, .bc 82)]⟩
def Qd9 (x0 : List Int) (x7 x8 : Int) : VS := Qed.st (x0, (), x7, x8, ()) ((), ())
abbrev Qh7 : Sh := ⟨[(4, .ty tI)], [(50000, .bc 82)]⟩
def Qbo (x4 : Int) : VS := Qh7.st (x4, ()) ((), ())
abbrev Qj5 : Sh := ⟨[], [(50000, .bc 82)]⟩
def Qby  : VS := Qj5.st () ((), ())
def Qs3 : VS → Option (Bool × List (Bool × Exit × VS)) := mkL Qed (fun x y => (rngOk x.1 x.2.2.1 x.2.2.2.1)) (fun x y => [(((fstG nKey (x.1.drop x.2.2.2.1.toNat)).isSome), .ret, Qbo (x.2.2.2.1 + ((fstG nKey (x.1.drop x.2.2.2.1.toNat)).getD 0 : Nat))), (true, .exit 0, Qby)])
def Qbt : G := ⟨TYs, [], 19, EL [(80, Qth)], keeps, (Ls [Qs3]), IL [], RL []⟩
def QjL (x0 : List Int) (x7 x8 : Int) : Option (Exit × VS) := br (ilt x8 x7) (br (cIx x0 x8) (br (nKey (lgt tI x0 (Int.toNat x8))) (some (.ret, Qbo x8)) (some (.normal, Qd9 x0 x7 (iadd .i64 x8 1)))) none) (some (.exit 0, Qby))
noncomputable def Qcx (x0 : List Int) (x7 x8 : Int) : Option (Exit × VS) := loopF (Qaj Qbt QbG Qcq) (Qd9 x0 x7 x8)
noncomputable def QcR (x0 : List Int) (x7 x8 : Int) : Option (Exit × VS) := br (ilt x8 x7) (br (cIx x0 x8) (br (nKey (lgt tI x0 (Int.toNat x8))) (some (.ret, Qbo x8)) (Qcx x0 x7 (iadd .i64 x8 1))) none) (some (.exit 0, Qby))
def Qcz (x0 : List Int) (x7 x8 : Int) : Option (Exit × VS) :=
 let a1 := fstG nKey (x0.drop x8.toNat)
 br (a1.isSome) (some (.ret, Qbo (x8 + (a1.getD 0 : Nat)))) <| some (.exit 0, Qby)
theorem QpN (x0 : List Int) (x7 x8 : Int) : Qaj Qbt QbG Qcq (Qd9 x0 x7 x8) = QjL x0 x7 x8 := by kernel_rfl
theorem Qg9 (x0 : List Int) (x7 x8 : Int) : Qcx x0 x7 x8 = QcR x0 x7 x8 := (Qap _ _).trans (by
 rw [QpN]
 simp only [QjL, QcR, QaB, nxt_n, nxt_r, nxt_e, nxt_0]
 rfl)
def Qhw (p0 : List Int) : Option (V × List VO) :=
 let a1 := (fstG nKey (p0.drop (0 : Int).toNat))
 br (rngOk p0 (llen p0) (0 : Int)) (br (a1.isSome) (some (.t tI ((0 : Int) + (a1.getD 0 : Nat)), [.box (.c (.func (.func 82) #[] #[]))])) (some (.t tI (-1), [.box (.c (.func (.func 82) #[] #[]))]))) none
theorem QyL (p0 : List Int) : runF Qbt QfM QkI false [.t (.sl tI) p0, .fn 80 [(.ptr 50000 0)]] [.box (.c (.func (.func 82) ⟨[]⟩ ⟨[]⟩))] = Qhw p0 := by kernel_rfl
theorem QvF : Qai Tryz.prog 40 := .inr ⟨by decide, _, Tryz.func40, by kernel_rfl, by kernel_rfl⟩
theorem Qvv : GOk Tryz.prog Qbt := Qal _ (gA (gC QIM QG5 gN))
theorem QsH (x0 : List Int) (x7 x8 : Int) (h : (rngOk x0 x7 x8) = true) : Qcx x0 x7 x8 = Qcz x0 x7 x8 := by
 obtain ⟨rfl, h3, k, rfl, hk⟩ := rng_k h
 clear h
 refine Qas x0 (fun k => Qcx x0 (x0.length : Int) (k : Int) = Qcz x0 (x0.length : Int) (k : Int)) ?_ ?_ k hk
 ·rw [Qg9]
  simp [QcR, Qcz, QaA, Qaf, fstG]
 ·intro k hk ih
  rw [Qg9]
  simp only [QcR, QaA, Qaw, hk, decide_true, Qac, Int.toNat_natCast, add1 (show k < 4611686018427387904 by omega), ih, QaE (y := tI) hk]
  simp only [Qcz, Int.toNat_natCast, List.drop_eq_getElem_cons hk, fstG]
  cases h : nKey x0[k] with
  | true => simp [Qac]
  | false =>
   simp only [Qaf, Bool.false_eq_true, if_false]
   cases hq : fstG nKey (x0.drop (k + 1)) with
   | none => rfl
   | some j =>
    simp only [Option.map_some, Option.isSome_some, Option.getD_some, Qac]
    congr 3
    omega
theorem QpI : ∀ S l p, Qbt.L 0 (fgt QbG S) = some (true, l) → pickA l = some p → loopF (Qaj Qbt QbG Qcq) S = some p :=
 QaD (s := Qed) ⟨by decide, by decide⟩ (by kernel_rfl) fun x y hok p hp => by
 simp only [Qar, Qao] at hp
 exact (QsH x.1 x.2.2.1 x.2.2.2.1 (by simpa using hok)).trans hp
theorem Qvn : QfM.lok Qbt := by
 repeat (first | exact trivial | exact QpI | refine ⟨?_, ?_⟩)
theorem QxM (l : List Int) (h : Qbe l = true) : Qhw l = some (.t tI (ixKey l), [.box (.c (.func (.func 82) #[] #[]))]) := by
 simp only [Qbe, decide_eq_true_eq] at h
 simp only [Qhw, rng_0 h, Qac, Int.toNat_zero, List.drop_zero, ixKey]
 cases fstG nKey l <;> simp [Qac, Qaf]
def QkD : Ent := specB [.ty (.sl tI), .fn 80 [(50000, 0)]] [.bc 82] (fun x y => (Qbe x.1)) (fun x y => (.t tI (ixKey x.1))) (fun x y => [.box (.c (.func (.func 82) #[] #[]))])
theorem QuV : Meets Tryz.prog 40 (strip QkD) := Qcn (QaK (R := runF Qbt QfM QkI false) (mG Tryz.func40 (by kernel_rfl) Tryz.ntmps40 (by kernel_rfl) Qvv Qvn) fun x y hok => (QyL x.1).trans (QxM x.1 hok))
def Qpy (l : List Int) : Bool := !l.all keyI
noncomputable def QfK : TC := (.sq (.reg (rT Tryz.f81 0)) (.sq (.reg (rT Tryz.f81 1)) .rt))
def QkG : List (RV × Option Ty) := [((.t 4), some .bool)]
def Qfw : G := ⟨TYs, [], 9, EL [(40, QkD)], keeps, (fun _ _ => none), IL [], RL []⟩
def Qhu (p0 : List Int) : Option (V × List VO) := br (Qbe p0) (some (.t .bool (ige (ixKey p0) 0), [.box (.c (.func (.func 82) #[] #[]))])) none
theorem QyJ (p0 : List Int) : runF Qfw QfK QkG false [.t (.sl tI) p0, .fn 80 [(.ptr 50000 0)]] [.box (.c (.func (.func 82) ⟨[]⟩ ⟨[]⟩))] = Qhu p0 := by kernel_rfl
theorem QvC : Qai Tryz.prog 81 := .inr ⟨by decide, _, Tryz.func81, by kernel_rfl, by kernel_rfl⟩
theorem Qvt : GOk Tryz.prog Qfw := Qal _ (gA (gC QvF QuV gN))
theorem Qvl : QfK.lok Qfw := by repeat (first | exact trivial | refine ⟨?_, ?_⟩)
theorem QxK (l : List Int) (h : Qbe l = true) : Qhu l = some (.t .bool (Qpy l), [.box (.c (.func (.func 82) #[] #[]))]) := by
 simp only [Qhu, h, Qac]
 have e : ige (ixKey l) 0 = Qpy l := by
  have e2 : Qpy l = l.any nKey := by
   unfold Qpy
   rw [List.not_all_eq_any_not]
   rfl
  rw [e2]
  unfold ixKey
  cases hq : fstG nKey l with
  | none => rw [Qc9.1 hq]; rfl
  | some k =>
   rw [← Qda, hq]
   simp only [ige, Option.isSome_some, decide_eq_true_eq]
   omega
 rw [e]
def QkB : Ent := specB [.ty (.sl tI), .fn 80 [(50000, 0)]] [.bc 82] (fun x y => (Qbe x.1)) (fun x y => (.t .bool (Qpy x.1))) (fun x y => [.box (.c (.func (.func 82) #[] #[]))])
theorem QuS : Meets Tryz.prog 81 (strip QkB) := Qcn (QaK (R := runF Qfw QfK QkG false) (mG Tryz.func81 (by kernel_rfl) Tryz.ntmps81 (by kernel_rfl) Qvt Qvl) fun x y hok => (QyJ x.1).trans (QxK x.1 hok))
noncomputable def Qnm : TC := (.sq (.reg (rT Tryz.f79 0)) (.sq (.reg (rT Tryz.f79 1)) .rt))
def Quo : List (RV × Option Ty) := [((.t 2), none)]
def Qm7 : G := ⟨TYs, [], 4, EL [], keeps, (fun _ _ => none), IL [], RL []⟩
def Qzn  : Option (V × List VO) := some (.fn 80 [(.ptr 50000 0)], [.box (.c (.func (.func 82) #[] #[]))])
theorem QM3  : runF Qm7 Qnm Quo true [.c (.func (.func 82) ⟨[]⟩ ⟨[]⟩)] [] = Qzn  := by kernel_rfl
theorem QIO : Qai Tryz.prog 79 := .inr ⟨by decide, _, Tryz.func79, by kernel_rfl, by kernel_rfl⟩
theorem QIu : GOk Tryz.prog Qm7 := Qal _ (fun p hp => by cases hp)
theorem QH1 : Qnm.lok Qm7 := by repeat (first | exact trivial | refine ⟨?_, ?_⟩)
theorem QK7 : Qzn = some (.fn 80 [.ptr 50000 0], [.box (.c (.func (.func 82) #[] #[]))]) := rfl
def Qtj : Ent := specB [.cf 82] [] (fun x y => true) (fun x y => (.fn 80 [(.ptr 50000 0)])) (fun x y => [.box (.c (.func (.func 82) #[] #[]))])
theorem QG7 : Meets Tryz.prog 79 (strip Qtj) := Qcn (QaK (R := runF Qm7 Qnm Quo true) (mG Tryz.func79 (by kernel_rfl) Tryz.ntmps79 (by kernel_rfl) QIu QH1) fun x y _ => (QM3 ).trans (QK7 ))
def nHash (n : Int) : Bool := !hashF n
noncomputable def Qnj : TC := (.sq (.reg (rT Tryz.f80 0)) (.sq (.reg (rT Tryz.f80 1)) .rt))
def Qul : List (RV × Option Ty) := [((.t 3), some .bool)]
def Qm4 : G := ⟨TYs, [], 8, EL [(83, QO1)], keeps, (fun _ _ => none), IL [], RL []⟩
def QrJ (p0 : Int) : Option (V × List VO) := some (.t .bool (!(hashF p0)), [.box (.c (.func (.func 83) #[] #[]))])
theorem QM0 (p0 : Int) : runF Qm4 Qnj Qul false [.t tI p0, .ptr 50000 0] [.box (.c (.func (.func 83) ⟨[]⟩ ⟨[]⟩))] = QrJ p0 := by kernel_rfl
theorem QIL : Qai Tryz.prog 80 := .inr ⟨by decide, _, Tryz.func80, by kernel_rfl, by kernel_rfl⟩
theorem QIr : GOk Tryz.prog Qm4 := Qal _ (gA (gC en_f83 ms_f83 gN))
theorem QHY : Qnj.lok Qm4 := by repeat (first | exact trivial | refine ⟨?_, ?_⟩)
theorem QK4 (n : Int) : QrJ n = some (.t .bool (nHash n), [.box (.c (.func (.func 83) #[] #[]))]) := by
 simp only [QrJ]
 rfl
def Qtg : Ent := specB [.ty tI, .ptr 50000 0] [.bc 83] (fun x y => true) (fun x y => (.t .bool (nHash x.1))) (fun x y => [.box (.c (.func (.func 83) #[] #[]))])
theorem QG4 : Meets Tryz.prog 80 (strip Qtg) := Qcn (QaK (R := runF Qm4 Qnj Qul false) (mG Tryz.func80 (by kernel_rfl) Tryz.ntmps80 (by kernel_rfl) QIr QHY) fun x y _ => (QM0 x.1).trans (QK4 x.1))
def Qp7 (l : List Int) : Int := match fstG nHash l with | some k => (k : Int) | none => -1
def QbF : Fg := ⟨[(0, some (.sl tI)), (1, none), (7, some tI), (8, some tI)], [(50000, none)]⟩
noncomputable def Qcp : TC := (.sq (.reg (rT Tryz.f40 2)) (.sq (.cd (.t 9) .sk (.fg ⟨[], [(50000, none)]⟩ (.ex 0))) (.sq (.bk 1 (.sq (.reg (rT Tryz.f40 3)) (.sq (.reg (rT Tryz.f40 4)) (.cd (.t 16) (.sq (.reg (rT Tryz.f40 5)) (.fg ⟨[(4, some tI)], [(50000, none)]⟩ .rt)) .sk)))) (.reg (rT Tryz.f40 6)))))
noncomputable def QfL : TC := (.sq (.reg (rT Tryz.f40 0)) (.sq (.sq (.reg (rT Tryz.f40 1)) (.bk 0 (.lp 0 QbF Qcp))) (.sq (.reg (rT Tryz.f40 7)) .rt)))
def QkH : List (RV × Option Ty) := [((.t 4), some tI)]
abbrev Qec : Sh := ⟨[(0, .ty (.sl tI)), (1, .fn 80 [(50000, 0)]), (7, .ty tI), (8, .ty tI)], [(50000, .bc 83)]⟩
def Qd8 (x0 : List Int) (x7 x8 : Int) : VS := Qec.st (x0, (), x7, x8, ()) ((), ())
abbrev Qh6 : Sh := ⟨[(4, .ty tI)], [(50000, .bc 83)]⟩
def Qbn (x4 : Int) : VS := Qh6.st (x4, ()) ((), ())
abbrev Qj4 : Sh := ⟨[], [(50000, .bc 83)]⟩
def Qbx  : VS := Qj4.st () ((), ())
def Qs2 : VS → Option (Bool × List (Bool × Exit × VS)) := mkL Qec (fun x y => (rngOk x.1 x.2.2.1 x.2.2.2.1)) (fun x y => [(((fstG nHash (x.1.drop x.2.2.2.1.toNat)).isSome), .ret, Qbn (x.2.2.2.1 + ((fstG nHash (x.1.drop x.2.2.2.1.toNat)).getD 0 : Nat))), (true, .exit 0, Qbx)])
def Qbs : G := ⟨TYs, [], 19, EL [(80, Qtg)], keeps, (Ls [Qs2]), IL [], RL []⟩
def QjK (x0 : List Int) (x7 x8 : Int) : Option (Exit × VS) := br (ilt x8 x7) (br (cIx x0 x8) (br (nHash (lgt tI x0 (Int.toNat x8))) (some (.ret, Qbn x8)) (some (.normal, Qd8 x0 x7 (iadd .i64 x8 1)))) none) (some (.exit 0, Qbx))
noncomputable def Qcw (x0 : List Int) (x7 x8 : Int) : Option (Exit × VS) := loopF (Qaj Qbs QbF Qcp) (Qd8 x0 x7 x8)
noncomputable def QcQ (x0 : List Int) (x7 x8 : Int) : Option (Exit × VS) := br (ilt x8 x7) (br (cIx x0 x8) (br (nHash (lgt tI x0 (Int.toNat x8))) (some (.ret, Qbn x8)) (Qcw x0 x7 (iadd .i64 x8 1))) none) (some (.exit 0, Qbx))
def Qcy (x0 : List Int) (x7 x8 : Int) : Option (Exit × VS) :=
 let a1 := fstG nHash (x0.drop x8.toNat)
 br (a1.isSome) (some (.ret, Qbn (x8 + (a1.getD 0 : Nat)))) <| some (.exit 0, Qbx)
theorem QpM (x0 : List Int) (x7 x8 : Int) : Qaj Qbs QbF Qcp (Qd8 x0 x7 x8) = QjK x0 x7 x8 := by kernel_rfl
theorem Qg8 (x0 : List Int) (x7 x8 : Int) : Qcw x0 x7 x8 = QcQ x0 x7 x8 := (Qap _ _).trans (by
 rw [QpM]
 simp only [QjK, QcQ, QaB, nxt_n, nxt_r, nxt_e, nxt_0]
 rfl)
def Qhv (p0 : List Int) : Option (V × List VO) :=
 let a1 := (fstG nHash (p0.drop (0 : Int).toNat))
 br (rngOk p0 (llen p0) (0 : Int)) (br (a1.isSome) (some (.t tI ((0 : Int) + (a1.getD 0 : Nat)), [.box (.c (.func (.func 83) #[] #[]))])) (some (.t tI (-1), [.box (.c (.func (.func 83) #[] #[]))]))) none
theorem QyK (p0 : List Int) : runF Qbs QfL QkH false [.t (.sl tI) p0, .fn 80 [(.ptr 50000 0)]] [.box (.c (.func (.func 83) ⟨[]⟩ ⟨[]⟩))] = Qhv p0 := by kernel_rfl
theorem QvE : Qai Tryz.prog 40 := .inr ⟨by decide, _, Tryz.func40, by kernel_rfl, by kernel_rfl⟩
theorem Qvu : GOk Tryz.prog Qbs := Qal _ (gA (gC QIL QG4 gN))
theorem QsG (x0 : List Int) (x7 x8 : Int) (h : (rngOk x0 x7 x8) = true) : Qcw x0 x7 x8 = Qcy x0 x7 x8 := by
 obtain ⟨rfl, h3, k, rfl, hk⟩ := rng_k h
 clear h
 refine Qas x0 (fun k => Qcw x0 (x0.length : Int) (k : Int) = Qcy x0 (x0.length : Int) (k : Int)) ?_ ?_ k hk
 ·rw [Qg8]
  simp [QcQ, Qcy, QaA, Qaf, fstG]
 ·intro k hk ih
  rw [Qg8]
  simp only [QcQ, QaA, Qaw, hk, decide_true, Qac, Int.toNat_natCast, add1 (show k < 4611686018427387904 by omega), ih, QaE (y := tI) hk]
  simp only [Qcy, Int.toNat_natCast, List.drop_eq_getElem_cons hk, fstG]
  cases h : nHash x0[k] with
  | true => simp [Qac]
  | false =>
   simp only [Qaf, Bool.false_eq_true, if_false]
   cases hq : fstG nHash (x0.drop (k + 1)) with
   | none => rfl
   | some j =>
    simp only [Option.map_some, Option.isSome_some, Option.getD_some, Qac]
    congr 3
    omega
theorem QpH : ∀ S l p, Qbs.L 0 (fgt QbF S) = some (true, l) → pickA l = some p → loopF (Qaj Qbs QbF Qcp) S = some p :=
 QaD (s := Qec) ⟨by decide, by decide⟩ (by kernel_rfl) fun x y hok p hp => by
 simp only [Qar, Qao] at hp
 exact (QsG x.1 x.2.2.1 x.2.2.2.1 (by simpa using hok)).trans hp
theorem Qvm : QfL.lok Qbs := by
 repeat (first | exact trivial | exact QpH | refine ⟨?_, ?_⟩)
theorem QxL (l : List Int) (h : Qbe l = true) : Qhv l = some (.t tI (Qp7 l), [.box (.c (.func (.func 83) #[] #[]))]) := by
 simp only [Qbe, decide_eq_true_eq] at h
 simp only [Qhv, rng_0 h, Qac, Int.toNat_zero, List.drop_zero, Qp7]
 cases fstG nHash l <;> simp [Qac, Qaf]
def QkC : Ent := specB [.ty (.sl tI), .fn 80 [(50000, 0)]] [.bc 83] (fun x y => (Qbe x.1)) (fun x y => (.t tI (Qp7 x.1))) (fun x y => [.box (.c (.func (.func 83) #[] #[]))])
theorem QuU : Meets Tryz.prog 40 (strip QkC) := Qcn (QaK (R := runF Qbs QfL QkH false) (mG Tryz.func40 (by kernel_rfl) Tryz.ntmps40 (by kernel_rfl) Qvu Qvm) fun x y hok => (QyK x.1).trans (QxL x.1 hok))
def QhD (l : List Int) : Bool := !l.all hashF
noncomputable def QfJ : TC := (.sq (.reg (rT Tryz.f81 0)) (.sq (.reg (rT Tryz.f81 1)) .rt))
def QkF : List (RV × Option Ty) := [((.t 4), some .bool)]
def Qfv : G := ⟨TYs, [], 9, EL [(40, QkC)], keeps, (fun _ _ => none), IL [], RL []⟩
def Qht (p0 : List Int) : Option (V × List VO) := br (Qbe p0) (some (.t .bool (ige (Qp7 p0) 0), [.box (.c (.func (.func 83) #[] #[]))])) none
theorem QyI (p0 : List Int) : runF Qfv QfJ QkF false [.t (.sl tI) p0, .fn 80 [(.ptr 50000 0)]] [.box (.c (.func (.func 83) ⟨[]⟩ ⟨[]⟩))] = Qht p0 := by kernel_rfl
theorem QvB : Qai Tryz.prog 81 := .inr ⟨by decide, _, Tryz.func81, by kernel_rfl, by kernel_rfl⟩
theorem Qvs : GOk Tryz.prog Qfv := Qal _ (gA (gC QvE QuU gN))
theorem Qvk : QfJ.lok Qfv := by repeat (first | exact trivial | refine ⟨?_, ?_⟩)
theorem QxJ (l : List Int) (h : Qbe l = true) : Qht l = some (.t .bool (QhD l), [.box (.c (.func (.func 83) #[] #[]))]) := by
 simp only [Qht, h, Qac]
 have e : ige (Qp7 l) 0 = QhD l := by
  have e2 : QhD l = l.any nHash := by
   unfold QhD
   rw [List.not_all_eq_any_not]
   rfl
  rw [e2]
  unfold Qp7
  cases hq : fstG nHash l with
  | none => rw [Qc9.1 hq]; rfl
  | some k =>
   rw [← Qda, hq]
   simp only [ige, Option.isSome_some, decide_eq_true_eq]
   omega
 rw [e]
def QkA : Ent := specB [.ty (.sl tI), .fn 80 [(50000, 0)]] [.bc 83] (fun x y => (Qbe x.1)) (fun x y => (.t .bool (QhD x.1))) (fun x y => [.box (.c (.func (.func 83) #[] #[]))])
theorem QuR : Meets Tryz.prog 81 (strip QkA) := Qcn (QaK (R := runF Qfv QfJ QkF false) (mG Tryz.func81 (by kernel_rfl) Tryz.ntmps81 (by kernel_rfl) Qvs Qvk) fun x y hok => (QyI x.1).trans (QxJ x.1 hok))
noncomputable def Qnl : TC := (.sq (.reg (rT Tryz.f79 0)) (.sq (.reg (rT Tryz.f79 1)) .rt))
def Qun : List (RV × Option Ty) := [((.t 2), none)]
def Qm6 : G := ⟨TYs, [], 4, EL [], keeps, (fun _ _ => none), IL [], RL []⟩
def Qzm  : Option (V × List VO) := some (.fn 80 [(.ptr 50000 0)], [.box (.c (.func (.func 83) #[] #[]))])
theorem QM2  : runF Qm6 Qnl Qun true [.c (.func (.func 83) ⟨[]⟩ ⟨[]⟩)] [] = Qzm  := by kernel_rfl
theorem QIN : Qai Tryz.prog 79 := .inr ⟨by decide, _, Tryz.func79, by kernel_rfl, by kernel_rfl⟩
theorem QIt : GOk Tryz.prog Qm6 := Qal _ (fun p hp => by cases hp)
theorem QH0 : Qnl.lok Qm6 := by repeat (first | exact trivial | refine ⟨?_, ?_⟩)
theorem QK6 : Qzm = some (.fn 80 [.ptr 50000 0], [.box (.c (.func (.func 83) #[] #[]))]) := rfl
def Qti : Ent := specB [.cf 83] [] (fun x y => true) (fun x y => (.fn 80 [(.ptr 50000 0)])) (fun x y => [.box (.c (.func (.func 83) #[] #[]))])
theorem QG6 : Meets Tryz.prog 79 (strip Qti) := Qcn (QaK (R := runF Qm6 Qnl Qun true) (mG Tryz.func79 (by kernel_rfl) Tryz.ntmps79 (by kernel_rfl) QIt QH0) fun x y _ => (QM2 ).trans (QK6 ))
end
end Go.Proofs.YtkngeegkjhipeaaGreat.K
