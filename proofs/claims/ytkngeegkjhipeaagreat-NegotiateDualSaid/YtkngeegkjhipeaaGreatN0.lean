import Derived.Test.YtkngeegkjhipeaaGreatM1
import Derived.Test.YtkngeegkjhipeaaGreatKD
set_option linter.unusedSimpArgs false
set_option linter.unusedVariables false
namespace Go.Proofs.YtkngeegkjhipeaaGreat.K
open Go.RowKit
noncomputable section
def rngG {α : Type} (l : List α) (n i : Int) : Bool := decide (n = l.length ∧ 0 ≤ i ∧ i ≤ n ∧ l.length ≤ 9223372036854775807)
theorem QCi {α : Type} {l : List α} {n i : Int} (h : rngG l n i = true) : n = l.length ∧ l.length ≤ 9223372036854775807 ∧ ∃ k : Nat, i = k ∧ k ≤ l.length := by
 simp only [rngG, decide_eq_true_eq] at h
 obtain ⟨h1, h2, h3, h4⟩ := h
 exact ⟨h1, h4, i.toNat, by omega, by omega⟩
theorem QCj {α : Type} {l : List α} (h : l.length ≤ 9223372036854775807) : rngG l (llen l) 0 = true := by
 simp only [rngG, decide_eq_true_eq, llen]
 exact ⟨trivial, by omega, by omega, h⟩
def lenG {α : Type} (l : List α) : Bool := decide (l.length ≤ 9223372036854775807)
theorem add1G {k : Nat} (h : k < 9223372036854775807) : iadd .i64 (k : Int) 1 = ((k + 1 : Nat) : Int) := by rw [Qb9 (by omega)]; omega
def fstG {α : Type} (m : α → Bool) : List α → Option Nat
 | [] => none
 | a :: l => if m a then some 0 else (fstG m l).map (· + 1)
theorem Qcr {α : Type} {m : α → Bool} : ∀ {l : List α}, fstG m l = none ↔ l.any m = false
 | [] => by simp [fstG]
 | a :: l => by
  have ih := Qcr (m := m) (l := l)
  unfold fstG
  cases h : m a with
  | true => simp [h]
  | false => simpa [h] using ih
theorem Qfx {α : Type} {m : α → Bool} : ∀ {l : List α} {k : Nat}, fstG m l = some k → ∃ h : k < l.length, m l[k] = true
 | [], _, h => by cases h
 | a :: l, k, h => by
  unfold fstG at h
  split at h
  ·rename_i ha
   injection h with h
   subst h
   exact ⟨by simp, ha⟩
  ·obtain ⟨j, h1, h2⟩ := Option.map_eq_some_iff.1 h
   subst h2
   obtain ⟨q, h3⟩ := Qfx h1
   exact ⟨by simp only [List.length_cons]; omega, h3⟩
theorem QcW {α : Type} {m : α → Bool} {l : List α} : (fstG m l).isSome = l.any m := by
 cases h : fstG m l with
 | none => rw [Qcr.1 h]; rfl
 | some k =>
  obtain ⟨q, h1⟩ := Qfx h
  exact (List.any_eq_true.2 ⟨l[k], List.getElem_mem q, h1⟩).symm
theorem QcQ (s : ByteArray) : (QaH s).length = s.size := by simp [QaH]
def idxS (l : List ByteArray) (v : ByteArray) : Int := match fstG (seq v) l with | some k => (k : Int) | none => -1
def Qij (l : List ByteArray) (_v : ByteArray) : Bool := lenG l
def Qip : Fg := ⟨[(0, some (.sl .str)), (1, some .str), (7, some tI), (8, some tI)], []⟩
noncomputable def Qj7 : TC := (.sq (.reg (rT Tryz.f92 2)) (.sq (.cd (.t 9) .sk (.fg ⟨[], []⟩ (.ex 0))) (.sq (.bk 1 (.sq (.reg (rT Tryz.f92 3)) (.sq (.reg (rT Tryz.f92 4)) (.cd (.t 16) (.sq (.reg (rT Tryz.f92 5)) (.fg ⟨[(4, some tI)], []⟩ .rt)) .sk)))) (.reg (rT Tryz.f92 6)))))
noncomputable def Qzs : TC := (.sq (.reg (rT Tryz.f92 0)) (.sq (.sq (.reg (rT Tryz.f92 1)) (.bk 0 (.lp 0 Qip Qj7))) (.sq (.reg (rT Tryz.f92 7)) .rt)))
def QLr : List (RV × Option Ty) := [((.t 4), some tI)]
abbrev Qo0 : Sh := ⟨[(0, .ty (.sl .str)), (1, .ty .str), (7, .ty tI), (8, .ty tI)], []⟩
def QoE (x0 : List ByteArray) (x1 : ByteArray) (x7 x8 : Int) : VS := Qo0.st (x0, x1, x7, x8, ()) ()
abbrev Qre : Sh := ⟨[(4, .ty tI)], []⟩
def Qc6 (x4 : Int) : VS := Qre.st (x4, ()) ()
abbrev Qur : Sh := ⟨[], []⟩
def Qed  : VS := Qur.st () ()
def QRf : VS → Option (Bool × List (Bool × Exit × VS)) := mkL Qo0 (fun x y => (rngG x.1 x.2.2.1 x.2.2.2.1)) (fun x y => [(((fstG (seq x.2.1) (x.1.drop x.2.2.2.1.toNat)).isSome), .ret, Qc6 (x.2.2.2.1 + ((fstG (seq x.2.1) (x.1.drop x.2.2.2.1.toNat)).getD 0 : Nat))), (true, .exit 0, Qed)])
def g_f92 : G := ⟨TYs, [], 19, EL [], keeps, (Ls [QRf]), IL [], RL []⟩
def QGt (x0 : List ByteArray) (x1 : ByteArray) (x7 x8 : Int) : Option (Exit × VS) := br (ilt x8 x7) (br (cIx x0 x8) (br (seq x1 (lgt .str x0 (Int.toNat x8))) (some (.ret, Qc6 x8)) (some (.normal, QoE x0 x1 x7 (iadd .i64 x8 1)))) none) (some (.exit 0, Qed))
noncomputable def QkR (x0 : List ByteArray) (x1 : ByteArray) (x7 x8 : Int) : Option (Exit × VS) := loopF (Qaj g_f92 Qip Qj7) (QoE x0 x1 x7 x8)
noncomputable def QpT (x0 : List ByteArray) (x1 : ByteArray) (x7 x8 : Int) : Option (Exit × VS) := br (ilt x8 x7) (br (cIx x0 x8) (br (seq x1 (lgt .str x0 (Int.toNat x8))) (some (.ret, Qc6 x8)) (QkR x0 x1 x7 (iadd .i64 x8 1))) none) (some (.exit 0, Qed))
def Qk5 (x0 : List ByteArray) (x1 : ByteArray) (x7 x8 : Int) : Option (Exit × VS) :=
 let a1 := fstG (seq x1) (x0.drop x8.toNat)
 br (a1.isSome) (some (.ret, Qc6 (x8 + (a1.getD 0 : Nat)))) <| some (.exit 0, Qed)
theorem QJO (x0 : List ByteArray) (x1 : ByteArray) (x7 x8 : Int) : Qaj g_f92 Qip Qj7 (QoE x0 x1 x7 x8) = QGt x0 x1 x7 x8 := by kernel_rfl
theorem Qwz (x0 : List ByteArray) (x1 : ByteArray) (x7 x8 : Int) : QkR x0 x1 x7 x8 = QpT x0 x1 x7 x8 := (Qaq _ _).trans (by
 rw [QJO]
 simp only [QGt, QpT, QaE, nxt_n, nxt_r, nxt_e, nxt_0]
 rfl)
def r_f92 (p0 : List ByteArray) (p1 : ByteArray) : Option (V × List VO) :=
 let a1 := (fstG (seq p1) (p0.drop (0 : Int).toNat))
 br (rngG p0 (llen p0) (0 : Int)) (br (a1.isSome) (some (.t tI ((0 : Int) + (a1.getD 0 : Nat)), [])) (some (.t tI (-1), []))) none
theorem e_f92 (p0 : List ByteArray) (p1 : ByteArray) : runF g_f92 Qzs QLr false [.t (.sl .str) p0, .t .str p1] [] = r_f92 p0 p1 := by kernel_rfl
theorem en_f92 : Qag Tryz.prog 92 := .inr ⟨by decide, _, Tryz.func92, by kernel_rfl, by kernel_rfl⟩
theorem gk_f92 : GOk Tryz.prog g_f92 := Qan _ (fun p hp => by cases hp)
theorem QPa (x0 : List ByteArray) (x1 : ByteArray) (x7 x8 : Int) (h : (rngG x0 x7 x8) = true) : QkR x0 x1 x7 x8 = Qk5 x0 x1 x7 x8 := by
 obtain ⟨rfl, h3, k, rfl, hk⟩ := QCi h
 clear h
 refine Qav x0 (fun k => QkR x0 x1 (x0.length : Int) (k : Int) = Qk5 x0 x1 (x0.length : Int) (k : Int)) ?_ ?_ k hk
 ·rw [Qwz]
  simp [QpT, Qk5, Qaz, Qae, fstG]
 ·intro k hk ih
  rw [Qwz]
  simp only [QpT, Qaz, Qay, hk, decide_true, Qac, Int.toNat_natCast, add1G (show k < 9223372036854775807 by omega), ih, QaG (y := .str) hk]
  simp only [Qk5, Int.toNat_natCast, List.drop_eq_getElem_cons hk, fstG]
  cases h : seq x1 x0[k] with
  | true => simp [Qac]
  | false =>
   simp only [Qae, Bool.false_eq_true, if_false]
   cases hq : fstG (seq x1) (x0.drop (k + 1)) with
   | none => rfl
   | some j =>
    simp only [Option.map_some, Option.isSome_some, Option.getD_some, Qac]
    congr 3
    omega
theorem QHT : ∀ S l p, g_f92.L 0 (fgt Qip S) = some (true, l) → pickA l = some p → loopF (Qaj g_f92 Qip Qj7) S = some p :=
 QaF (s := Qo0) ⟨by decide, by decide⟩ (by kernel_rfl) fun x y hok p hp => by
 simp only [Qas, Qap] at hp
 exact (QPa x.1 x.2.1 x.2.2.1 x.2.2.2.1 (by simpa using hok)).trans hp
theorem lk_f92 : Qzs.lok g_f92 := by
 repeat (first | exact trivial | exact QHT | refine ⟨?_, ?_⟩)
theorem s_f92 (l : List ByteArray) (v : ByteArray) (h : Qij l v = true) : r_f92 l v = some (.t tI (idxS l v), []) := by
 simp only [Qij, lenG, decide_eq_true_eq] at h
 simp only [r_f92, QCj h, Qac, Int.toNat_zero, List.drop_zero, idxS]
 cases fstG (seq v) l <;> simp [Qac, Qae]
def QKH : Ent := spec (.pr (.sl .str) (.pr .str .nil)) (fun x => (Qij x.1 x.2.1)) (fun x => (.t tI (idxS x.1 x.2.1)))
theorem ms_f92 : Meets Tryz.prog 92 (strip QKH) := Qaf (R := runF g_f92 Qzs QLr false) (mG Tryz.func92 (by kernel_rfl) Tryz.ntmps92 (by kernel_rfl) gk_f92 lk_f92) fun x hok => (e_f92 x.1 x.2.1).trans (s_f92 x.1 x.2.1 hok)
def hasS (l : List ByteArray) (v : ByteArray) : Bool := l.any (seq v)
noncomputable def QzL : TC := (.sq (.reg (rT Tryz.f63 0)) (.sq (.reg (rT Tryz.f63 1)) .rt))
def QLK : List (RV × Option Ty) := [((.t 4), some .bool)]
def g_f63 : G := ⟨TYs, [], 9, EL [(92, QKH)], keeps, (fun _ _ => none), IL [], RL []⟩
def r_f63 (p0 : List ByteArray) (p1 : ByteArray) : Option (V × List VO) := br (Qij p0 p1) (some (.t .bool (ige (idxS p0 p1) 0), [])) none
theorem e_f63 (p0 : List ByteArray) (p1 : ByteArray) : runF g_f63 QzL QLK false [.t (.sl .str) p0, .t .str p1] [] = r_f63 p0 p1 := by kernel_rfl
theorem en_f63 : Qag Tryz.prog 63 := .inr ⟨by decide, _, Tryz.func63, by kernel_rfl, by kernel_rfl⟩
theorem gk_f63 : GOk Tryz.prog g_f63 := Qan _ (gA (gC en_f92 ms_f92 gN))
theorem lk_f63 : QzL.lok g_f63 := by repeat (first | exact trivial | refine ⟨?_, ?_⟩)
theorem s_f63 (l : List ByteArray) (v : ByteArray) (h : Qij l v = true) : r_f63 l v = some (.t .bool (hasS l v), []) := by
 simp only [r_f63, h, Qac]
 apply Qrc
 unfold idxS hasS
 cases hq : fstG (seq v) l with
 | none => rw [Qcr.1 hq]; rfl
 | some k =>
  rw [← QcW, hq]
  simp only [ige, Option.isSome_some, decide_eq_true_eq]
  omega
def QKV : Ent := spec (.pr (.sl .str) (.pr .str .nil)) (fun x => (Qij x.1 x.2.1)) (fun x => (.t .bool (hasS x.1 x.2.1)))
theorem ms_f63 : Meets Tryz.prog 63 (strip QKV) := Qaf (R := runF g_f63 QzL QLK false) (mG Tryz.func63 (by kernel_rfl) Tryz.ntmps63 (by kernel_rfl) gk_f63 lk_f63) fun x hok => (e_f63 x.1 x.2.1).trans (s_f63 x.1 x.2.1 hok)
def charG (c : Int) : Bool := decide (32 < c ∧ c ≤ 126)
def QaV (s : ByteArray) : Bool := (QaH s).all charG && decide (1 ≤ s.size ∧ s.size ≤ 32)
def nameG (s : ByteArray) : Bool := decide (s.size ≤ 9223372036854775807)
def QfR : Fg := ⟨[(0, some .str), (6, some (.sl (.int .u8))), (7, some tI), (8, some tI)], []⟩
noncomputable def Qhp : TC := (.sq (.reg (rT Tryz.f114 2)) (.sq (.cd (.t 9) .sk (.fg ⟨[(0, some .str)], []⟩ (.ex 0))) (.sq (.bk 1 (.sq (.reg (rT Tryz.f114 3)) (.sq (.reg (rT Tryz.f114 4)) (.cd (.t 17) (.sq (.reg (rT Tryz.f114 5)) (.fg ⟨[(2, some .bool)], []⟩ .rt)) .sk)))) (.reg (rT Tryz.f114 6)))))
noncomputable def Qt0 : TC := (.sq (.reg (rT Tryz.f114 0)) (.sq (.sq (.reg (rT Tryz.f114 1)) (.bk 0 (.lp 0 QfR Qhp))) (.sq (.reg (rT Tryz.f114 7)) .rt)))
def QB4 : List (RV × Option Ty) := [((.t 2), some .bool)]
abbrev QmB : Sh := ⟨[(0, .ty .str), (6, .ty (.sl (.int .u8))), (7, .ty tI), (8, .ty tI)], []⟩
def Ql5 (x0 : ByteArray) (x6 : List Int) (x7 x8 : Int) : VS := QmB.st (x0, x6, x7, x8, ()) ()
abbrev Qpo : Sh := ⟨[(2, .ty .bool)], []⟩
def Qbs (x2 : Bool) : VS := Qpo.st (x2, ()) ()
abbrev QrH : Sh := ⟨[(0, .ty .str)], []⟩
def Qdv (x0 : ByteArray) : VS := QrH.st (x0, ()) ()
def QKv : VS → Option (Bool × List (Bool × Exit × VS)) := mkL QmB (fun x y => (rngG x.2.1 x.2.2.1 x.2.2.2.1)) (fun x y => [((!((x.2.1.drop x.2.2.2.1.toNat).all charG)), .ret, Qbs (false)), (true, .exit 0, Qdv (x.1))])
def QjY : G := ⟨TYs, [], 27, EL [(22760144, QaX)], keeps, (Ls [QKv]), IL [], RL []⟩
def Qyc (x0 : ByteArray) (x6 : List Int) (x7 x8 : Int) : Option (Exit × VS) :=
 let a1 := lgt (.int .u8) x6 (Int.toNat x8)
 br (ilt x8 x7) (br (cIx x6 x8) (br (ile a1 32) (some (.ret, Qbs false)) (br (igt a1 126) (some (.ret, Qbs false)) (some (.normal, Ql5 x0 x6 x7 (iadd .i64 x8 1))))) none) (some (.exit 0, Qdv x0))
noncomputable def QhX (x0 : ByteArray) (x6 : List Int) (x7 x8 : Int) : Option (Exit × VS) := loopF (Qaj QjY QfR Qhp) (Ql5 x0 x6 x7 x8)
noncomputable def QkO (x0 : ByteArray) (x6 : List Int) (x7 x8 : Int) : Option (Exit × VS) :=
 let a1 := lgt (.int .u8) x6 (Int.toNat x8)
 br (ilt x8 x7) (br (cIx x6 x8) (br (ile a1 32) (some (.ret, Qbs false)) (br (igt a1 126) (some (.ret, Qbs false)) (QhX x0 x6 x7 (iadd .i64 x8 1)))) none) (some (.exit 0, Qdv x0))
def Qig (x0 : ByteArray) (x6 : List Int) (x7 x8 : Int) : Option (Exit × VS) := br (!((x6.drop x8.toNat).all charG)) (some (.ret, Qbs (false))) <| some (.exit 0, Qdv (x0))
theorem QGp (x0 : ByteArray) (x6 : List Int) (x7 x8 : Int) : Qaj QjY QfR Qhp (Ql5 x0 x6 x7 x8) = Qyc x0 x6 x7 x8 := by kernel_rfl
theorem QsC (x0 : ByteArray) (x6 : List Int) (x7 x8 : Int) : QhX x0 x6 x7 x8 = QkO x0 x6 x7 x8 := (Qaq _ _).trans (by
 rw [QGp]
 simp only [Qyc, QkO, QaE, nxt_n, nxt_r, nxt_e, nxt_0]
 rfl)
def QCZ (p0 : ByteArray) : Option (V × List VO) := br (Qa3 p0) (br (rngG (QaH p0) (llen (QaH p0)) (0 : Int)) (br (!(((QaH p0).drop (0 : Int).toNat).all charG)) (some (.t .bool (false), [])) (br (ige (slen (p0)) 1) (some (.t .bool (ile (slen (p0)) 32), [])) (some (.t .bool false, [])))) none) none
theorem e_f114 (p0 : ByteArray) : runF QjY Qt0 QB4 false [.t .str p0] [] = QCZ p0 := by kernel_rfl
theorem QFz : Qag Tryz.prog 114 := .inr ⟨by decide, _, Tryz.func114, by kernel_rfl, by kernel_rfl⟩
theorem QQd : GOk Tryz.prog QjY := Qan _ (gA (gC Qbc Qba gN))
theorem QIA (x0 : ByteArray) (x6 : List Int) (x7 x8 : Int) (h : (rngG x6 x7 x8) = true) : QhX x0 x6 x7 x8 = Qig x0 x6 x7 x8 := by
 obtain ⟨rfl, h3, k, rfl, hk⟩ := QCi h
 clear h
 refine Qav x6 (fun k => QhX x0 x6 (x6.length : Int) (k : Int) = Qig x0 x6 (x6.length : Int) (k : Int)) ?_ ?_ k hk
 ·rw [QsC]
  simp [QkO, Qig, Qaz, Qae]
 ·intro k hk ih
  rw [QsC]
  simp only [QkO, Qaz, Qay, hk, decide_true, Qac, Int.toNat_natCast, add1G (show k < 9223372036854775807 by omega), QaG (y := .int .u8) hk, ih]
  simp only [Qig, Int.toNat_natCast, List.drop_eq_getElem_cons hk, List.all_cons, charG]
  by_cases c1 : x6[k] ≤ 32
  ·rw [show ile x6[k] 32 = true from decide_eq_true c1, Qac, decide_eq_false (show ¬ (32 < x6[k] ∧ x6[k] ≤ 126) by omega)]
   rfl
  ·rw [show ile x6[k] 32 = false from decide_eq_false c1, Qae]
   by_cases c2 : 126 < x6[k]
   ·rw [show igt x6[k] 126 = true from decide_eq_true (by omega), Qac, decide_eq_false (show ¬ (32 < x6[k] ∧ x6[k] ≤ 126) by omega)]
    rfl
   ·rw [show igt x6[k] 126 = false from decide_eq_false (by omega), Qae, decide_eq_true (show 32 < x6[k] ∧ x6[k] ≤ 126 by omega), Bool.true_and]
theorem QEc : ∀ S l p, QjY.L 0 (fgt QfR S) = some (true, l) → pickA l = some p → loopF (Qaj QjY QfR Qhp) S = some p :=
 QaF (s := QmB) ⟨by decide, by decide⟩ (by kernel_rfl) fun x y hok p hp => by
 simp only [Qas, Qap] at hp
 exact (QIA x.1 x.2.1 x.2.2.1 x.2.2.2.1 (by simpa using hok)).trans hp
theorem QOY : Qt0.lok QjY := by
 repeat (first | exact trivial | exact QEc | refine ⟨?_, ?_⟩)
theorem s_f114 (s : ByteArray) (h : nameG s = true) : QCZ s = some (.t .bool (QaV s), []) := by
 simp only [nameG, decide_eq_true_eq] at h
 have hl := QcQ s
 simp only [QCZ, show Qa3 s = true from decide_eq_true (by omega), QCj (show (QaH s).length ≤ 9223372036854775807 by omega), Qac, Int.toNat_zero, List.drop_zero, QaV]
 cases (QaH s).all charG with
 | false => rfl
 | true =>
  simp only [Bool.not_true, Qae, Bool.true_and]
  refine QaP (fun g => ?_) (fun g => ?_)
  ·simp only [ige, slen, decide_eq_true_eq] at g
   apply Qrc
   rw [Bool.eq_iff_iff]
   simp only [ile, slen, decide_eq_true_eq]
   omega
  ·simp only [ige, slen, decide_eq_false_iff_not] at g
   apply Qrc
   rw [eq_comm, decide_eq_false_iff_not]
   omega
def Quk : Ent := spec (.pr .str .nil) (fun x => (nameG x.1)) (fun x => (.t .bool (QaV x.1)))
theorem QDK : Meets Tryz.prog 114 (strip Quk) := Qaf (R := runF QjY Qt0 QB4 false) (mG Tryz.func114 (by kernel_rfl) Tryz.ntmps114 (by kernel_rfl) QQd QOY) fun x hok => (e_f114 x.1).trans (s_f114 x.1 hok)
theorem QNd {s : ByteArray} {k : Nat} (h : k < s.size) : sgt s (k : Int) = (QaH s)[k]'(by rw [QcQ]; exact h) := by
 have hl : k < s.data.toList.length := by simpa using h
 simp only [sgt, QaH, Int.toNat_natCast, List.getElem_map, List.getD_eq_getElem?_getD, List.getElem?_eq_getElem hl, Option.getD_some]
def QfO : Fg := ⟨[(0, some .str), (3, some tI)], []⟩
noncomputable def Qhm : TC := (.sq (.sq (.reg (rT Tryz.f121 4)) (.cd (.t 15) .sk (.fg ⟨[], []⟩ (.ex 0)))) (.sq (.bk 1 (.sq (.reg (rT Tryz.f121 5)) (.cd (.t 27) (.sq (.reg (rT Tryz.f121 6)) (.fg ⟨[(2, some .bool)], []⟩ .rt)) .sk))) (.reg (rT Tryz.f121 7))))
noncomputable def QtT : TC := (.sq (.reg (rT Tryz.f121 0)) (.sq (.sq (.reg (rT Tryz.f121 1)) (.cd (.t 11) (.sq (.reg (rT Tryz.f121 2)) .rt) .sk)) (.sq (.sq (.reg (rT Tryz.f121 3)) (.bk 0 (.lp 0 QfO Qhm))) (.sq (.reg (rT Tryz.f121 8)) .rt))))
def QBX : List (RV × Option Ty) := [((.t 2), some .bool)]
abbrev Qmy : Sh := ⟨[(0, .ty .str), (3, .ty tI)], []⟩
def Ql3 (x0 : ByteArray) (x3 : Int) : VS := Qmy.st (x0, x3, ()) ()
abbrev Qpm : Sh := ⟨[(2, .ty .bool)], []⟩
def Qbq (x2 : Bool) : VS := Qpm.st (x2, ()) ()
abbrev QrE : Sh := ⟨[], []⟩
def Qds  : VS := QrE.st () ()
def QKs : VS → Option (Bool × List (Bool × Exit × VS)) := mkL Qmy (fun x y => (nameG x.1 && decide (0 ≤ x.2.1 ∧ x.2.1 ≤ x.1.size))) (fun x y => [((!(((QaH x.1).drop x.2.1.toNat).all charG)), .ret, Qbq (false)), (true, .exit 0, Qds)])
def QjV : G := ⟨TYs, [], 28, EL [], keeps, (Ls [QKs]), IL [], RL []⟩
def Qx9 (x0 : ByteArray) (x3 : Int) : Option (Exit × VS) := br (ilt x3 (slen x0)) (br (cSx x0 x3) (br (ilt (sgt x0 x3) 33) (some (.ret, Qbq false)) (br (cSx x0 x3) (br (igt (sgt x0 x3) 126) (some (.ret, Qbq false)) (some (.normal, Ql3 x0 (iadd .i64 x3 1)))) none)) none) (some (.exit 0, Qds))
noncomputable def QhV (x0 : ByteArray) (x3 : Int) : Option (Exit × VS) := loopF (Qaj QjV QfO Qhm) (Ql3 x0 x3)
noncomputable def QkL (x0 : ByteArray) (x3 : Int) : Option (Exit × VS) := br (ilt x3 (slen x0)) (br (cSx x0 x3) (br (ilt (sgt x0 x3) 33) (some (.ret, Qbq false)) (br (cSx x0 x3) (br (igt (sgt x0 x3) 126) (some (.ret, Qbq false)) (QhV x0 (iadd .i64 x3 1))) none)) none) (some (.exit 0, Qds))
def Qid (x0 : ByteArray) (x3 : Int) : Option (Exit × VS) := br (!(((QaH x0).drop x3.toNat).all charG)) (some (.ret, Qbq (false))) <| some (.exit 0, Qds)
theorem QGm (x0 : ByteArray) (x3 : Int) : Qaj QjV QfO Qhm (Ql3 x0 x3) = Qx9 x0 x3 := by kernel_rfl
theorem Qsz (x0 : ByteArray) (x3 : Int) : QhV x0 x3 = QkL x0 x3 := (Qaq _ _).trans (by
 rw [QGm]
 simp only [Qx9, QkL, QaE, nxt_n, nxt_r, nxt_e, nxt_0]
 rfl)
def QCU (p0 : ByteArray) : Option (V × List VO) := br (ilt (slen p0) 1) (some (.t .bool false, [])) (br (igt (slen p0) 32) (some (.t .bool false, [])) (br (nameG p0 && decide (0 ≤ (0 : Int) ∧ (0 : Int) ≤ p0.size)) (br (!(((QaH p0).drop (0 : Int).toNat).all charG)) (some (.t .bool (false), [])) (some (.t .bool true, []))) none))
theorem e_f121 (p0 : ByteArray) : runF QjV QtT QBX false [.t .str p0] [] = QCU p0 := by kernel_rfl
theorem QQK : Qag Tryz.prog 121 := .inr ⟨by decide, _, Tryz.func121, by kernel_rfl, by kernel_rfl⟩
theorem QP6 : GOk Tryz.prog QjV := Qan _ (fun p hp => by cases hp)
theorem QIx (x0 : ByteArray) (x3 : Int) (h : (nameG x0 && decide (0 ≤ x3 ∧ x3 ≤ x0.size)) = true) : QhV x0 x3 = Qid x0 x3 := by
 simp only [nameG, Bool.and_eq_true, decide_eq_true_eq] at h
 obtain ⟨h0, h1, h2⟩ := h
 obtain ⟨k, rfl⟩ := Int.eq_ofNat_of_zero_le h1
 have hl := QcQ x0
 refine Qav (QaH x0) (fun k => QhV x0 (k : Int) = Qid x0 (k : Int)) ?_ ?_ k (by omega)
 ·rw [Qsz]
  simp [QkL, Qid, ilt, slen, hl, Qae, List.drop_eq_nil_of_le (show (QaH x0).length ≤ x0.size by omega)]
 ·intro k hk ih
  have hk2 : k < x0.size := by omega
  rw [Qsz]
  simp only [QkL, show ilt (k : Int) (slen x0) = true from by simp only [ilt, slen, decide_eq_true_eq]; omega, show cSx x0 (k : Int) = true from by simp only [cSx, decide_eq_true_eq]; omega, Qac, QNd hk2, add1G (show k < 9223372036854775807 by omega), ih]
  simp only [Qid, Int.toNat_natCast, List.drop_eq_getElem_cons hk, List.all_cons, charG]
  by_cases c1 : (QaH x0)[k] < 33
  ·rw [show ilt (QaH x0)[k] 33 = true from decide_eq_true c1, Qac, decide_eq_false (show ¬ (32 < (QaH x0)[k] ∧ (QaH x0)[k] ≤ 126) by omega)]
   rfl
  ·rw [show ilt (QaH x0)[k] 33 = false from decide_eq_false c1, Qae]
   by_cases c2 : 126 < (QaH x0)[k]
   ·rw [show igt (QaH x0)[k] 126 = true from decide_eq_true c2, Qac, decide_eq_false (show ¬ (32 < (QaH x0)[k] ∧ (QaH x0)[k] ≤ 126) by omega)]
    rfl
   ·rw [show igt (QaH x0)[k] 126 = false from decide_eq_false c2, Qae, decide_eq_true (show 32 < (QaH x0)[k] ∧ (QaH x0)[k] ≤ 126 by omega), Bool.true_and]
theorem QD9 : ∀ S l p, QjV.L 0 (fgt QfO S) = some (true, l) → pickA l = some p → loopF (Qaj QjV QfO Qhm) S = some p :=
 QaF (s := Qmy) ⟨by decide, by decide⟩ (by kernel_rfl) fun x y hok p hp => by
 simp only [Qas, Qap] at hp
 exact (QIx x.1 x.2.1 (by simpa using hok)).trans hp
theorem QOR : QtT.lok QjV := by
 repeat (first | exact trivial | exact QD9 | refine ⟨?_, ?_⟩)
theorem s_f121 (s : ByteArray) (h : nameG s = true) : QCU s = some (.t .bool (QaV s), []) := by
 simp only [QCU]
 unfold QaV
 refine QaP (fun g => ?_) (fun g => QaP (fun g2 => ?_) (fun g2 => ?_))
 ·simp only [ilt, slen, decide_eq_true_eq] at g
  rw [decide_eq_false (show ¬ (1 ≤ s.size ∧ s.size ≤ 32) by omega), Bool.and_false]
 ·simp only [igt, slen, decide_eq_true_eq] at g2
  rw [decide_eq_false (show ¬ (1 ≤ s.size ∧ s.size ≤ 32) by omega), Bool.and_false]
 ·simp only [ilt, igt, slen, decide_eq_false_iff_not] at g g2
  rw [h, decide_eq_true (show (0 : Int) ≤ 0 ∧ (0 : Int) ≤ s.size by omega), decide_eq_true (show 1 ≤ s.size ∧ s.size ≤ 32 by omega), Bool.and_true, Bool.and_true, Qac, Int.toNat_zero, List.drop_zero]
  cases (QaH s).all charG <;> rfl
def QA5 : Ent := spec (.pr .str .nil) (fun x => (nameG x.1)) (fun x => (.t .bool (QaV x.1)))
theorem QNY : Meets Tryz.prog 121 (strip QA5) := Qaf (R := runF QjV QtT QBX false) (mG Tryz.func121 (by kernel_rfl) Tryz.ntmps121 (by kernel_rfl) QP6 QOR) fun x hok => (e_f121 x.1).trans (s_f121 x.1 hok)
def dwdG (d : Dice) (l : List ByteArray) : ByteArray := l.getD (dval d l.length).toNat ByteArray.empty
def dwdGN (d : Dice) (l : List ByteArray) : Dice := dnext d l.length
end
end Go.Proofs.YtkngeegkjhipeaaGreat.K
