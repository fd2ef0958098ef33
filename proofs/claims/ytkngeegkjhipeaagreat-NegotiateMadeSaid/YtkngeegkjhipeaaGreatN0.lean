import Derived.Test.YtkngeegkjhipeaaGreatM1
import Derived.Test.YtkngeegkjhipeaaGreatKD
set_option linter.unusedSimpArgs false
set_option linter.unusedVariables false
namespace Go.Proofs.YtkngeegkjhipeaaGreat.K
open Go.RowKit
noncomputable section
def rngG {α : Type} (l : List α) (n i : Int) : Bool := decide (n = l.length ∧ 0 ≤ i ∧ i ≤ n ∧ l.length ≤ 9223372036854775807)
theorem QFX {α : Type} {l : List α} {n i : Int} (h : rngG l n i = true) : n = l.length ∧ l.length ≤ 9223372036854775807 ∧ ∃ k : Nat, i = k ∧ k ≤ l.length := by
 simp only [rngG, decide_eq_true_eq] at h
 obtain ⟨h1, h2, h3, h4⟩ := h
 exact ⟨h1, h4, i.toNat, by omega, by omega⟩
theorem QFY {α : Type} {l : List α} (h : l.length ≤ 9223372036854775807) : rngG l (llen l) 0 = true := by
 simp only [rngG, decide_eq_true_eq, llen]
 exact ⟨trivial, by omega, by omega, h⟩
def lenG {α : Type} (l : List α) : Bool := decide (l.length ≤ 9223372036854775807)
theorem add1G {k : Nat} (h : k < 9223372036854775807) : iadd .i64 (k : Int) 1 = ((k + 1 : Nat) : Int) := by rw [Qb8 (by omega)]; omega
def fstG {α : Type} (m : α → Bool) : List α → Option Nat
 | [] => none
 | a :: l => if m a then some 0 else (fstG m l).map (· + 1)
theorem Qc9 {α : Type} {m : α → Bool} : ∀ {l : List α}, fstG m l = none ↔ l.any m = false
 | [] => by simp [fstG]
 | a :: l => by
  have ih := Qc9 (m := m) (l := l)
  unfold fstG
  cases h : m a with
  | true => simp [h]
  | false => simpa [h] using ih
theorem Qi2 {α : Type} {m : α → Bool} : ∀ {l : List α} {k : Nat}, fstG m l = some k → ∃ h : k < l.length, m l[k] = true
 | [], _, h => by cases h
 | a :: l, k, h => by
  unfold fstG at h
  split at h
  ·rename_i ha
   injection h with h
   subst h
   exact ⟨by simp, ha⟩
  ·obtain ⟨j, h1, h2⟩ := Option.map_eq_some_iff.1 h
   subst h2
   obtain ⟨q, h3⟩ := Qi2 h1
   exact ⟨by simp only [List.length_cons]; omega, h3⟩
theorem Qda {α : Type} {m : α → Bool} {l : List α} : (fstG m l).isSome = l.any m := by
 cases h : fstG m l with
 | none => rw [Qc9.1 h]; rfl
 | some k =>
  obtain ⟨q, h1⟩ := Qi2 h
  exact (List.any_eq_true.2 ⟨l[k], List.getElem_mem q, h1⟩).symm
theorem Qco (s : ByteArray) : (QaG s).length = s.size := by simp [QaG]
def idxS (l : List ByteArray) (v : ByteArray) : Int := match fstG (seq v) l with | some k => (k : Int) | none => -1
def Qi0 (l : List ByteArray) (_v : ByteArray) : Bool := lenG l
def Qi8 : Fg := ⟨[(0, some (.sl .str)), (1, some .str), (7, some tI), (8, some tI)], []⟩
noncomputable def Qld : TC := (.sq (.reg (rT Tryz.f92 2)) (.sq (.cd (.t 9) .sk (.fg ⟨[], []⟩ (.ex 0))) (.sq (.bk 1 (.sq (.reg (rT Tryz.f92 3)) (.sq (.reg (rT Tryz.f92 4)) (.cd (.t 16) (.sq (.reg (rT Tryz.f92 5)) (.fg ⟨[(4, some tI)], []⟩ .rt)) .sk)))) (.reg (rT Tryz.f92 6)))))
noncomputable def QCL : TC := (.sq (.reg (rT Tryz.f92 0)) (.sq (.sq (.reg (rT Tryz.f92 1)) (.bk 0 (.lp 0 Qi8 Qld))) (.sq (.reg (rT Tryz.f92 7)) .rt)))
def QPK : List (RV × Option Ty) := [((.t 4), some tI)]
abbrev QqZ : Sh := ⟨[(0, .ty (.sl .str)), (1, .ty .str), (7, .ty tI), (8, .ty tI)], []⟩
def Qqt (x0 : List ByteArray) (x1 : ByteArray) (x7 x8 : Int) : VS := QqZ.st (x0, x1, x7, x8, ()) ()
abbrev QtA : Sh := ⟨[(4, .ty tI)], []⟩
def Qdn (x4 : Int) : VS := QtA.st (x4, ()) ()
abbrev Qw8 : Sh := ⟨[], []⟩
def QeD  : VS := Qw8.st () ()
def QV2 : VS → Option (Bool × List (Bool × Exit × VS)) := mkL QqZ (fun x y => (rngG x.1 x.2.2.1 x.2.2.2.1)) (fun x y => [(((fstG (seq x.2.1) (x.1.drop x.2.2.2.1.toNat)).isSome), .ret, Qdn (x.2.2.2.1 + ((fstG (seq x.2.1) (x.1.drop x.2.2.2.1.toNat)).getD 0 : Nat))), (true, .exit 0, QeD)])
def g_f92 : G := ⟨TYs, [], 19, EL [], keeps, (Ls [QV2]), IL [], RL []⟩
def QJ6 (x0 : List ByteArray) (x1 : ByteArray) (x7 x8 : Int) : Option (Exit × VS) := br (ilt x8 x7) (br (cIx x0 x8) (br (seq x1 (lgt .str x0 (Int.toNat x8))) (some (.ret, Qdn x8)) (some (.normal, Qqt x0 x1 x7 (iadd .i64 x8 1)))) none) (some (.exit 0, QeD))
noncomputable def Qmc (x0 : List ByteArray) (x1 : ByteArray) (x7 x8 : Int) : Option (Exit × VS) := loopF (Qaj g_f92 Qi8 Qld) (Qqt x0 x1 x7 x8)
noncomputable def Qr4 (x0 : List ByteArray) (x1 : ByteArray) (x7 x8 : Int) : Option (Exit × VS) := br (ilt x8 x7) (br (cIx x0 x8) (br (seq x1 (lgt .str x0 (Int.toNat x8))) (some (.ret, Qdn x8)) (Qmc x0 x1 x7 (iadd .i64 x8 1))) none) (some (.exit 0, QeD))
def QmB (x0 : List ByteArray) (x1 : ByteArray) (x7 x8 : Int) : Option (Exit × VS) :=
 let a1 := fstG (seq x1) (x0.drop x8.toNat)
 br (a1.isSome) (some (.ret, Qdn (x8 + (a1.getD 0 : Nat)))) <| some (.exit 0, QeD)
theorem QNR (x0 : List ByteArray) (x1 : ByteArray) (x7 x8 : Int) : Qaj g_f92 Qi8 Qld (Qqt x0 x1 x7 x8) = QJ6 x0 x1 x7 x8 := by kernel_rfl
theorem QzH (x0 : List ByteArray) (x1 : ByteArray) (x7 x8 : Int) : Qmc x0 x1 x7 x8 = Qr4 x0 x1 x7 x8 := (Qap _ _).trans (by
 rw [QNR]
 simp only [QJ6, Qr4, QaB, nxt_n, nxt_r, nxt_e, nxt_0]
 rfl)
def r_f92 (p0 : List ByteArray) (p1 : ByteArray) : Option (V × List VO) :=
 let a1 := (fstG (seq p1) (p0.drop (0 : Int).toNat))
 br (rngG p0 (llen p0) (0 : Int)) (br (a1.isSome) (some (.t tI ((0 : Int) + (a1.getD 0 : Nat)), [])) (some (.t tI (-1), []))) none
theorem e_f92 (p0 : List ByteArray) (p1 : ByteArray) : runF g_f92 QCL QPK false [.t (.sl .str) p0, .t .str p1] [] = r_f92 p0 p1 := by kernel_rfl
theorem en_f92 : Qai Tryz.prog 92 := .inr ⟨by decide, _, Tryz.func92, by kernel_rfl, by kernel_rfl⟩
theorem gk_f92 : GOk Tryz.prog g_f92 := Qal _ (fun p hp => by cases hp)
theorem QTN (x0 : List ByteArray) (x1 : ByteArray) (x7 x8 : Int) (h : (rngG x0 x7 x8) = true) : Qmc x0 x1 x7 x8 = QmB x0 x1 x7 x8 := by
 obtain ⟨rfl, h3, k, rfl, hk⟩ := QFX h
 clear h
 refine Qas x0 (fun k => Qmc x0 x1 (x0.length : Int) (k : Int) = QmB x0 x1 (x0.length : Int) (k : Int)) ?_ ?_ k hk
 ·rw [QzH]
  simp [Qr4, QmB, QaA, Qaf, fstG]
 ·intro k hk ih
  rw [QzH]
  simp only [Qr4, QaA, Qaw, hk, decide_true, Qac, Int.toNat_natCast, add1G (show k < 9223372036854775807 by omega), ih, QaE (y := .str) hk]
  simp only [QmB, Int.toNat_natCast, List.drop_eq_getElem_cons hk, fstG]
  cases h : seq x1 x0[k] with
  | true => simp [Qac]
  | false =>
   simp only [Qaf, Bool.false_eq_true, if_false]
   cases hq : fstG (seq x1) (x0.drop (k + 1)) with
   | none => rfl
   | some j =>
    simp only [Option.map_some, Option.isSome_some, Option.getD_some, Qac]
    congr 3
    omega
theorem QLE : ∀ S l p, g_f92.L 0 (fgt Qi8 S) = some (true, l) → pickA l = some p → loopF (Qaj g_f92 Qi8 Qld) S = some p :=
 QaD (s := QqZ) ⟨by decide, by decide⟩ (by kernel_rfl) fun x y hok p hp => by
 simp only [Qar, Qao] at hp
 exact (QTN x.1 x.2.1 x.2.2.1 x.2.2.2.1 (by simpa using hok)).trans hp
theorem lk_f92 : QCL.lok g_f92 := by
 repeat (first | exact trivial | exact QLE | refine ⟨?_, ?_⟩)
theorem s_f92 (l : List ByteArray) (v : ByteArray) (h : Qi0 l v = true) : r_f92 l v = some (.t tI (idxS l v), []) := by
 simp only [Qi0, lenG, decide_eq_true_eq] at h
 simp only [r_f92, QFY h, Qac, Int.toNat_zero, List.drop_zero, idxS]
 cases fstG (seq v) l <;> simp [Qac, Qaf]
def QOX : Ent := spec (.pr (.sl .str) (.pr .str .nil)) (fun x => (Qi0 x.1 x.2.1)) (fun x => (.t tI (idxS x.1 x.2.1)))
theorem ms_f92 : Meets Tryz.prog 92 (strip QOX) := Qag (R := runF g_f92 QCL QPK false) (mG Tryz.func92 (by kernel_rfl) Tryz.ntmps92 (by kernel_rfl) gk_f92 lk_f92) fun x hok => (e_f92 x.1 x.2.1).trans (s_f92 x.1 x.2.1 hok)
def hasS (l : List ByteArray) (v : ByteArray) : Bool := l.any (seq v)
noncomputable def QC7 : TC := (.sq (.reg (rT Tryz.f63 0)) (.sq (.reg (rT Tryz.f63 1)) .rt))
def QP6 : List (RV × Option Ty) := [((.t 4), some .bool)]
def g_f63 : G := ⟨TYs, [], 9, EL [(92, QOX)], keeps, (fun _ _ => none), IL [], RL []⟩
def r_f63 (p0 : List ByteArray) (p1 : ByteArray) : Option (V × List VO) := br (Qi0 p0 p1) (some (.t .bool (ige (idxS p0 p1) 0), [])) none
theorem e_f63 (p0 : List ByteArray) (p1 : ByteArray) : runF g_f63 QC7 QP6 false [.t (.sl .str) p0, .t .str p1] [] = r_f63 p0 p1 := by kernel_rfl
theorem en_f63 : Qai Tryz.prog 63 := .inr ⟨by decide, _, Tryz.func63, by kernel_rfl, by kernel_rfl⟩
theorem gk_f63 : GOk Tryz.prog g_f63 := Qal _ (gA (gC en_f92 ms_f92 gN))
theorem lk_f63 : QC7.lok g_f63 := by repeat (first | exact trivial | refine ⟨?_, ?_⟩)
theorem s_f63 (l : List ByteArray) (v : ByteArray) (h : Qi0 l v = true) : r_f63 l v = some (.t .bool (hasS l v), []) := by
 simp only [r_f63, h, Qac]
 apply Qtx
 unfold idxS hasS
 cases hq : fstG (seq v) l with
 | none => rw [Qc9.1 hq]; rfl
 | some k =>
  rw [← Qda, hq]
  simp only [ige, Option.isSome_some, decide_eq_true_eq]
  omega
def QPe : Ent := spec (.pr (.sl .str) (.pr .str .nil)) (fun x => (Qi0 x.1 x.2.1)) (fun x => (.t .bool (hasS x.1 x.2.1)))
theorem ms_f63 : Meets Tryz.prog 63 (strip QPe) := Qag (R := runF g_f63 QC7 QP6 false) (mG Tryz.func63 (by kernel_rfl) Tryz.ntmps63 (by kernel_rfl) gk_f63 lk_f63) fun x hok => (e_f63 x.1 x.2.1).trans (s_f63 x.1 x.2.1 hok)
def charG (c : Int) : Bool := decide (32 < c ∧ c ≤ 126)
def Qbr (s : ByteArray) : Bool := (QaG s).all charG && decide (1 ≤ s.size ∧ s.size ≤ 32)
def nameG (s : ByteArray) : Bool := decide (s.size ≤ 9223372036854775807)
def Qgs : Fg := ⟨[(0, some .str), (6, some (.sl (.int .u8))), (7, some tI), (8, some tI)], []⟩
noncomputable def Qh0 : TC := (.sq (.reg (rT Tryz.f114 2)) (.sq (.cd (.t 9) .sk (.fg ⟨[(0, some .str)], []⟩ (.ex 0))) (.sq (.bk 1 (.sq (.reg (rT Tryz.f114 3)) (.sq (.reg (rT Tryz.f114 4)) (.cd (.t 17) (.sq (.reg (rT Tryz.f114 5)) (.fg ⟨[(2, some .bool)], []⟩ .rt)) .sk)))) (.reg (rT Tryz.f114 6)))))
noncomputable def QwC : TC := (.sq (.reg (rT Tryz.f114 0)) (.sq (.sq (.reg (rT Tryz.f114 1)) (.bk 0 (.lp 0 Qgs Qh0))) (.sq (.reg (rT Tryz.f114 7)) .rt)))
def QFG : List (RV × Option Ty) := [((.t 2), some .bool)]
abbrev Qoh : Sh := ⟨[(0, .ty .str), (6, .ty (.sl (.int .u8))), (7, .ty tI), (8, .ty tI)], []⟩
def QnN (x0 : ByteArray) (x6 : List Int) (x7 x8 : Int) : VS := Qoh.st (x0, x6, x7, x8, ()) ()
abbrev Qrz : Sh := ⟨[(2, .ty .bool)], []⟩
def QbC (x2 : Bool) : VS := Qrz.st (x2, ()) ()
abbrev Quf : Sh := ⟨[(0, .ty .str)], []⟩
def QdU (x0 : ByteArray) : VS := Quf.st (x0, ()) ()
def QOL : VS → Option (Bool × List (Bool × Exit × VS)) := mkL Qoh (fun x y => (rngG x.2.1 x.2.2.1 x.2.2.2.1)) (fun x y => [((!((x.2.1.drop x.2.2.2.1.toNat).all charG)), .ret, QbC (false)), (true, .exit 0, QdU (x.1))])
def Qk4 : G := ⟨TYs, [], 27, EL [(22760144, QaX)], keeps, (Ls [QOL]), IL [], RL []⟩
def QBD (x0 : ByteArray) (x6 : List Int) (x7 x8 : Int) : Option (Exit × VS) :=
 let a1 := lgt (.int .u8) x6 (Int.toNat x8)
 br (ilt x8 x7) (br (cIx x6 x8) (br (ile a1 32) (some (.ret, QbC false)) (br (igt a1 126) (some (.ret, QbC false)) (some (.normal, QnN x0 x6 x7 (iadd .i64 x8 1))))) none) (some (.exit 0, QdU x0))
noncomputable def QiE (x0 : ByteArray) (x6 : List Int) (x7 x8 : Int) : Option (Exit × VS) := loopF (Qaj Qk4 Qgs Qh0) (QnN x0 x6 x7 x8)
noncomputable def Ql8 (x0 : ByteArray) (x6 : List Int) (x7 x8 : Int) : Option (Exit × VS) :=
 let a1 := lgt (.int .u8) x6 (Int.toNat x8)
 br (ilt x8 x7) (br (cIx x6 x8) (br (ile a1 32) (some (.ret, QbC false)) (br (igt a1 126) (some (.ret, QbC false)) (QiE x0 x6 x7 (iadd .i64 x8 1)))) none) (some (.exit 0, QdU x0))
def QiX (x0 : ByteArray) (x6 : List Int) (x7 x8 : Int) : Option (Exit × VS) := br (!((x6.drop x8.toNat).all charG)) (some (.ret, QbC (false))) <| some (.exit 0, QdU (x0))
theorem QJ1 (x0 : ByteArray) (x6 : List Int) (x7 x8 : Int) : Qaj Qk4 Qgs Qh0 (QnN x0 x6 x7 x8) = QBD x0 x6 x7 x8 := by kernel_rfl
theorem Qvg (x0 : ByteArray) (x6 : List Int) (x7 x8 : Int) : QiE x0 x6 x7 x8 = Ql8 x0 x6 x7 x8 := (Qap _ _).trans (by
 rw [QJ1]
 simp only [QBD, Ql8, QaB, nxt_n, nxt_r, nxt_e, nxt_0]
 rfl)
def QGE (p0 : ByteArray) : Option (V × List VO) := br (Qa6 p0) (br (rngG (QaG p0) (llen (QaG p0)) (0 : Int)) (br (!(((QaG p0).drop (0 : Int).toNat).all charG)) (some (.t .bool (false), [])) (br (ige (slen (p0)) 1) (some (.t .bool (ile (slen (p0)) 32), [])) (some (.t .bool false, [])))) none) none
theorem e_f114 (p0 : ByteArray) : runF Qk4 QwC QFG false [.t .str p0] [] = QGE p0 := by kernel_rfl
theorem QJc : Qai Tryz.prog 114 := .inr ⟨by decide, _, Tryz.func114, by kernel_rfl, by kernel_rfl⟩
theorem QUZ : GOk Tryz.prog Qk4 := Qal _ (gA (gC Qbj Qbg gN))
theorem QMx (x0 : ByteArray) (x6 : List Int) (x7 x8 : Int) (h : (rngG x6 x7 x8) = true) : QiE x0 x6 x7 x8 = QiX x0 x6 x7 x8 := by
 obtain ⟨rfl, h3, k, rfl, hk⟩ := QFX h
 clear h
 refine Qas x6 (fun k => QiE x0 x6 (x6.length : Int) (k : Int) = QiX x0 x6 (x6.length : Int) (k : Int)) ?_ ?_ k hk
 ·rw [Qvg]
  simp [Ql8, QiX, QaA, Qaf]
 ·intro k hk ih
  rw [Qvg]
  simp only [Ql8, QaA, Qaw, hk, decide_true, Qac, Int.toNat_natCast, add1G (show k < 9223372036854775807 by omega), QaE (y := .int .u8) hk, ih]
  simp only [QiX, Int.toNat_natCast, List.drop_eq_getElem_cons hk, List.all_cons, charG]
  by_cases c1 : x6[k] ≤ 32
  ·rw [show ile x6[k] 32 = true from decide_eq_true c1, Qac, decide_eq_false (show ¬ (32 < x6[k] ∧ x6[k] ≤ 126) by omega)]
   rfl
  ·rw [show ile x6[k] 32 = false from decide_eq_false c1, Qaf]
   by_cases c2 : 126 < x6[k]
   ·rw [show igt x6[k] 126 = true from decide_eq_true (by omega), Qac, decide_eq_false (show ¬ (32 < x6[k] ∧ x6[k] ≤ 126) by omega)]
    rfl
   ·rw [show igt x6[k] 126 = false from decide_eq_false (by omega), Qaf, decide_eq_true (show 32 < x6[k] ∧ x6[k] ≤ 126 by omega), Bool.true_and]
theorem QHR : ∀ S l p, Qk4.L 0 (fgt Qgs S) = some (true, l) → pickA l = some p → loopF (Qaj Qk4 Qgs Qh0) S = some p :=
 QaD (s := Qoh) ⟨by decide, by decide⟩ (by kernel_rfl) fun x y hok p hp => by
 simp only [Qar, Qao] at hp
 exact (QMx x.1 x.2.1 x.2.2.1 x.2.2.2.1 (by simpa using hok)).trans hp
theorem QTy : QwC.lok Qk4 := by
 repeat (first | exact trivial | exact QHR | refine ⟨?_, ?_⟩)
theorem s_f114 (s : ByteArray) (h : nameG s = true) : QGE s = some (.t .bool (Qbr s), []) := by
 simp only [nameG, decide_eq_true_eq] at h
 have hl := Qco s
 simp only [QGE, show Qa6 s = true from decide_eq_true (by omega), QFY (show (QaG s).length ≤ 9223372036854775807 by omega), Qac, Int.toNat_zero, List.drop_zero, Qbr]
 cases (QaG s).all charG with
 | false => rfl
 | true =>
  simp only [Bool.not_true, Qaf, Bool.true_and]
  refine QaP (fun g => ?_) (fun g => ?_)
  ·simp only [ige, slen, decide_eq_true_eq] at g
   apply Qtx
   rw [Bool.eq_iff_iff]
   simp only [ile, slen, decide_eq_true_eq]
   omega
  ·simp only [ige, slen, decide_eq_false_iff_not] at g
   apply Qtx
   rw [eq_comm, decide_eq_false_iff_not]
   omega
def QwX : Ent := spec (.pr .str .nil) (fun x => (nameG x.1)) (fun x => (.t .bool (Qbr x.1)))
theorem QHn : Meets Tryz.prog 114 (strip QwX) := Qag (R := runF Qk4 QwC QFG false) (mG Tryz.func114 (by kernel_rfl) Tryz.ntmps114 (by kernel_rfl) QUZ QTy) fun x hok => (e_f114 x.1).trans (s_f114 x.1 hok)
theorem QE1 {s : ByteArray} {k : Nat} (h : k < s.size) : sgt s (k : Int) = (QaG s)[k]'(by rw [Qco]; exact h) := by
 have hl : k < s.data.toList.length := by simpa using h
 simp only [sgt, QaG, Int.toNat_natCast, List.getElem_map, List.getD_eq_getElem?_getD, List.getElem?_eq_getElem hl, Option.getD_some]
def Qgp : Fg := ⟨[(0, some .str), (3, some tI)], []⟩
noncomputable def QhX : TC := (.sq (.sq (.reg (rT Tryz.f121 4)) (.cd (.t 15) .sk (.fg ⟨[], []⟩ (.ex 0)))) (.sq (.bk 1 (.sq (.reg (rT Tryz.f121 5)) (.cd (.t 27) (.sq (.reg (rT Tryz.f121 6)) (.fg ⟨[(2, some .bool)], []⟩ .rt)) .sk))) (.reg (rT Tryz.f121 7))))
noncomputable def Qwv : TC := (.sq (.reg (rT Tryz.f121 0)) (.sq (.sq (.reg (rT Tryz.f121 1)) (.cd (.t 11) (.sq (.reg (rT Tryz.f121 2)) .rt) .sk)) (.sq (.sq (.reg (rT Tryz.f121 3)) (.bk 0 (.lp 0 Qgp QhX))) (.sq (.reg (rT Tryz.f121 8)) .rt))))
def QFz : List (RV × Option Ty) := [((.t 2), some .bool)]
abbrev Qoe : Sh := ⟨[(0, .ty .str), (3, .ty tI)], []⟩
def QnL (x0 : ByteArray) (x3 : Int) : VS := Qoe.st (x0, x3, ()) ()
abbrev Qrx : Sh := ⟨[(2, .ty .bool)], []⟩
def QbA (x2 : Bool) : VS := Qrx.st (x2, ()) ()
abbrev Quc : Sh := ⟨[], []⟩
def QdR  : VS := Quc.st () ()
def QOI : VS → Option (Bool × List (Bool × Exit × VS)) := mkL Qoe (fun x y => (nameG x.1 && decide (0 ≤ x.2.1 ∧ x.2.1 ≤ x.1.size))) (fun x y => [((!(((QaG x.1).drop x.2.1.toNat).all charG)), .ret, QbA (false)), (true, .exit 0, QdR)])
def Qk1 : G := ⟨TYs, [], 28, EL [], keeps, (Ls [QOI]), IL [], RL []⟩
def QBA (x0 : ByteArray) (x3 : Int) : Option (Exit × VS) := br (ilt x3 (slen x0)) (br (cSx x0 x3) (br (ilt (sgt x0 x3) 33) (some (.ret, QbA false)) (br (cSx x0 x3) (br (igt (sgt x0 x3) 126) (some (.ret, QbA false)) (some (.normal, QnL x0 (iadd .i64 x3 1)))) none)) none) (some (.exit 0, QdR))
noncomputable def QiC (x0 : ByteArray) (x3 : Int) : Option (Exit × VS) := loopF (Qaj Qk1 Qgp QhX) (QnL x0 x3)
noncomputable def Ql5 (x0 : ByteArray) (x3 : Int) : Option (Exit × VS) := br (ilt x3 (slen x0)) (br (cSx x0 x3) (br (ilt (sgt x0 x3) 33) (some (.ret, QbA false)) (br (cSx x0 x3) (br (igt (sgt x0 x3) 126) (some (.ret, QbA false)) (QiC x0 (iadd .i64 x3 1))) none)) none) (some (.exit 0, QdR))
def QiU (x0 : ByteArray) (x3 : Int) : Option (Exit × VS) := br (!(((QaG x0).drop x3.toNat).all charG)) (some (.ret, QbA (false))) <| some (.exit 0, QdR)
theorem QJY (x0 : ByteArray) (x3 : Int) : Qaj Qk1 Qgp QhX (QnL x0 x3) = QBA x0 x3 := by kernel_rfl
theorem Qvd (x0 : ByteArray) (x3 : Int) : QiC x0 x3 = Ql5 x0 x3 := (Qap _ _).trans (by
 rw [QJY]
 simp only [QBA, Ql5, QaB, nxt_n, nxt_r, nxt_e, nxt_0]
 rfl)
def QGz (p0 : ByteArray) : Option (V × List VO) := br (ilt (slen p0) 1) (some (.t .bool false, [])) (br (igt (slen p0) 32) (some (.t .bool false, [])) (br (nameG p0 && decide (0 ≤ (0 : Int) ∧ (0 : Int) ≤ p0.size)) (br (!(((QaG p0).drop (0 : Int).toNat).all charG)) (some (.t .bool (false), [])) (some (.t .bool true, []))) none))
theorem e_f121 (p0 : ByteArray) : runF Qk1 Qwv QFz false [.t .str p0] [] = QGz p0 := by kernel_rfl
theorem QVx : Qai Tryz.prog 121 := .inr ⟨by decide, _, Tryz.func121, by kernel_rfl, by kernel_rfl⟩
theorem QUS : GOk Tryz.prog Qk1 := Qal _ (fun p hp => by cases hp)
theorem QMu (x0 : ByteArray) (x3 : Int) (h : (nameG x0 && decide (0 ≤ x3 ∧ x3 ≤ x0.size)) = true) : QiC x0 x3 = QiU x0 x3 := by
 simp only [nameG, Bool.and_eq_true, decide_eq_true_eq] at h
 obtain ⟨h0, h1, h2⟩ := h
 obtain ⟨k, rfl⟩ := Int.eq_ofNat_of_zero_le h1
 have hl := Qco x0
 refine Qas (QaG x0) (fun k => QiC x0 (k : Int) = QiU x0 (k : Int)) ?_ ?_ k (by omega)
 ·rw [Qvd]
  simp [Ql5, QiU, ilt, slen, hl, Qaf, List.drop_eq_nil_of_le (show (QaG x0).length ≤ x0.size by omega)]
 ·intro k hk ih
  have hk2 : k < x0.size := by omega
  rw [Qvd]
  simp only [Ql5, show ilt (k : Int) (slen x0) = true from by simp only [ilt, slen, decide_eq_true_eq]; omega, show cSx x0 (k : Int) = true from by simp only [cSx, decide_eq_true_eq]; omega, Qac, QE1 hk2, add1G (show k < 9223372036854775807 by omega), ih]
  simp only [QiU, Int.toNat_natCast, List.drop_eq_getElem_cons hk, List.all_cons, charG]
  by_cases c1 : (QaG x0)[k] < 33
  ·rw [show ilt (QaG x0)[k] 33 = true from decide_eq_true c1, Qac, decide_eq_false (show ¬ (32 < (QaG x0)[k] ∧ (QaG x0)[k] ≤ 126) by omega)]
   rfl
  ·rw [show ilt (QaG x0)[k] 33 = false from decide_eq_false c1, Qaf]
   by_cases c2 : 126 < (QaG x0)[k]
   ·rw [show igt (QaG x0)[k] 126 = true from decide_eq_true c2, Qac, decide_eq_false (show ¬ (32 < (QaG x0)[k] ∧ (QaG x0)[k] ≤ 126) by omega)]
    rfl
   ·rw [show igt (QaG x0)[k] 126 = false from decide_eq_false c2, Qaf, decide_eq_true (show 32 < (QaG x0)[k] ∧ (QaG x0)[k] ≤ 126 by omega), Bool.true_and]
theorem QHO : ∀ S l p, Qk1.L 0 (fgt Qgp S) = some (true, l) → pickA l = some p → loopF (Qaj Qk1 Qgp QhX) S = some p :=
 QaD (s := Qoe) ⟨by decide, by decide⟩ (by kernel_rfl) fun x y hok p hp => by
 simp only [Qar, Qao] at hp
 exact (QMu x.1 x.2.1 (by simpa using hok)).trans hp
theorem QTr : Qwv.lok Qk1 := by
 repeat (first | exact trivial | exact QHO | refine ⟨?_, ?_⟩)
theorem s_f121 (s : ByteArray) (h : nameG s = true) : QGz s = some (.t .bool (Qbr s), []) := by
 simp only [QGz]
 unfold Qbr
 refine QaP (fun g => ?_) (fun g => QaP (fun g2 => ?_) (fun g2 => ?_))
 ·simp only [ilt, slen, decide_eq_true_eq] at g
  rw [decide_eq_false (show ¬ (1 ≤ s.size ∧ s.size ≤ 32) by omega), Bool.and_false]
 ·simp only [igt, slen, decide_eq_true_eq] at g2
  rw [decide_eq_false (show ¬ (1 ≤ s.size ∧ s.size ≤ 32) by omega), Bool.and_false]
 ·simp only [ilt, igt, slen, decide_eq_false_iff_not] at g g2
  rw [h, decide_eq_true (show (0 : Int) ≤ 0 ∧ (0 : Int) ≤ s.size by omega), decide_eq_true (show 1 ≤ s.size ∧ s.size ≤ 32 by omega), Bool.and_true, Bool.and_true, Qac, Int.toNat_zero, List.drop_zero]
  cases (QaG s).all charG <;> rfl
def QEG : Ent := spec (.pr .str .nil) (fun x => (nameG x.1)) (fun x => (.t .bool (Qbr x.1)))
theorem QSy : Meets Tryz.prog 121 (strip QEG) := Qag (R := runF Qk1 Qwv QFz false) (mG Tryz.func121 (by kernel_rfl) Tryz.ntmps121 (by kernel_rfl) QUS QTr) fun x hok => (e_f121 x.1).trans (s_f121 x.1 hok)
def dwdG (d : Dice) (l : List ByteArray) : ByteArray := l.getD (dval d l.length).toNat ByteArray.empty
def dwdGN (d : Dice) (l : List ByteArray) : Dice := dnext d l.length
def wdGOk (d : Dice) (l : List ByteArray) : Bool := dOk d && decide (0 < l.length ∧ l.length < 4611686018427387904)
noncomputable def QDv : TC := (.sq (.reg (rT Tryz.f34 0)) (.sq (.reg (rT Tryz.f34 1)) .rt))
def QQu : List (RV × Option Ty) := [((.t 4), some .str)]
def g_f34 : G := ⟨TYs, [], 12, EL [(32, Qg5)], keeps, (fun _ _ => none), IL [], RL []⟩
def r_f34 (d0 : Dice) (p1 : List ByteArray) : Option (V × List VO) := br (QaN d0 (llen p1)) (br (cIx p1 (dval d0 (llen p1))) (some (.t .str (lgt .str p1 (Int.toNat (dval d0 (llen p1)))), [.box (.t Qat (dnext d0 (llen p1)))])) none) none
theorem e_f34 (d0 : Dice) (p1 : List ByteArray) : runF g_f34 QDv QQu false [.ptr 50000 0, .t (.sl .str) p1] [.box (.t Qat d0)] = r_f34 d0 p1 := by kernel_rfl
theorem en_f34 : Qai Tryz.prog 34 := .inr ⟨by decide, _, Tryz.func34, by kernel_rfl, by kernel_rfl⟩
theorem gk_f34 : GOk Tryz.prog g_f34 := Qal _ (gA (gC QjF Qif gN))
theorem lk_f34 : QDv.lok g_f34 := by repeat (first | exact trivial | refine ⟨?_, ?_⟩)
theorem s_f34 (d : Dice) (l : List ByteArray) (h : wdGOk d l = true) : r_f34 d l = some (.t .str (dwdG d l), [.box (.t Qat (dwdGN d l))]) := by
 simp only [wdGOk, Bool.and_eq_true, decide_eq_true_eq] at h
 obtain ⟨h1, h2, h3⟩ := h
 simp only [r_f34]
 have e1 : QaN d (llen l) = true := by simp only [QaN, h1, llen, Bool.true_and, decide_eq_true_eq]; omega
 rw [e1, Qac]
 have h4 := Qdf (d := d) (n := llen l) (by unfold llen; omega)
 have e2 : cIx l (dval d (llen l)) = true := by simp only [cIx, decide_eq_true_eq]; exact h4
 rw [e2, Qac]
 rfl
def QPs : Ent := specP Qat (.pr (.sl .str) .nil) (fun d x => (wdGOk d x.1)) (fun d x => (.t .str (dwdG d x.1))) (fun d x => (dwdGN d x.1))
theorem ms_f34 : Meets Tryz.prog 34 (strip QPs) := Qbh (R := runF g_f34 QDv QQu false) (mG Tryz.func34 (by kernel_rfl) Tryz.ntmps34 (by kernel_rfl) gk_f34 lk_f34) rfl fun d x hok => (e_f34 d x.1).trans (s_f34 d x.1 hok)
end
end Go.Proofs.YtkngeegkjhipeaaGreat.K
