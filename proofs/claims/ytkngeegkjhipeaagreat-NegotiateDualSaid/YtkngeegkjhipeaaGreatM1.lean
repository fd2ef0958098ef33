import Derived.Test.YtkngeegkjhipeaaGreatV0
import Derived.KernelRfl
import Derived.IntWalk
set_option linter.unusedSimpArgs false
set_option linter.unusedVariables false
namespace Go.Proofs.YtkngeegkjhipeaaGreat.K
open Go.RowKit
theorem QaG {y : Ty} {l : List y.T} {j : Nat} (h : j < l.length) : lgt y l j = l[j] := by
 unfold lgt
 rw [List.getD_eq_getElem?_getD, List.getElem?_eq_getElem h]
 rfl
theorem add1 {k : Nat} (h : k < 4611686018427387904) : iadd .i64 (k : Int) 1 = ((k + 1 : Nat) : Int) := by
 unfold iadd
 rw [Go.IntWalk.i64_in _ (by omega)]
 rfl
theorem Qb9 {a b : Int} (h : -9223372036854775808 ≤ a + b ∧ a + b ≤ 9223372036854775807) : iadd .i64 a b = a + b := Go.IntWalk.i64_in _ h
theorem QbE {a b : Int} (h : -9223372036854775808 ≤ a - b ∧ a - b ≤ 9223372036854775807) : isub .i64 a b = a - b := Go.IntWalk.i64_in _ h
theorem QPw {a b : Int} (h : -9223372036854775808 ≤ a * b ∧ a * b ≤ 9223372036854775807) : imul .i64 a b = a * b := Go.IntWalk.i64_in _ h
theorem Qay {α : Type} {l : List α} {k : Nat} : cIx l (k : Int) = decide (k < l.length) := by
 unfold cIx
 congr 1
 exact propext ⟨fun h => by omega, fun h => by omega⟩
theorem Qaz {a b : Nat} : ilt (a : Int) (b : Int) = decide (a < b) := by
 unfold ilt
 congr 1
 exact propext ⟨fun h => by omega, fun h => by omega⟩
theorem Qlv {p : Prop} [Decidable p] (h : p) : decide p = true := by simp [h]
theorem QFL {p : Prop} [Decidable p] (h : ¬ p) : decide p = false := by simp [h]
theorem Qav {α : Type} (l : List α) (P : Nat → Prop) (h0 : P l.length) (hs : ∀ k, k < l.length → P (k + 1) → P k) : ∀ k, k ≤ l.length → P k := by
 intro k hk
 induction hn : l.length - k generalizing k with
 | zero =>
  have : k = l.length := by omega
  subst this
  exact h0
 | succ n ih => exact hs k (by omega) (ih (k + 1) (by omega) (by omega))
theorem QKz (N : Nat) (P : Nat → Prop) (h0 : P N) (hs : ∀ k, k < N → P (k + 1) → P k) : ∀ k, k ≤ N → P k := by
 intro k hk
 induction hn : N - k generalizing k with
 | zero =>
  have : k = N := by omega
  subst this
  exact h0
 | succ n ih => exact hs k (by omega) (ih (k + 1) (by omega) (by omega))
def idxOk {α : Type} (l : List α) (i : Int) : Bool := decide (0 ≤ i ∧ i ≤ l.length ∧ l.length ≤ 100000)
def rngOk {α : Type} (l : List α) (n i : Int) : Bool := decide (n = l.length ∧ 0 ≤ i ∧ i ≤ n ∧ l.length ≤ 100000)
theorem rng_k {α : Type} {l : List α} {n i : Int} (h : rngOk l n i = true) : n = l.length ∧ l.length ≤ 100000 ∧ ∃ k : Nat, i = k ∧ k ≤ l.length := by
 simp only [rngOk, decide_eq_true_eq] at h
 obtain ⟨h1, h2, h3, h4⟩ := h
 exact ⟨h1, h4, i.toNat, by omega, by omega⟩
theorem rng_0 {α : Type} {l : List α} (h : l.length ≤ 100000) : rngOk l (llen l) 0 = true := by
 simp only [rngOk, decide_eq_true_eq, llen]
 exact ⟨trivial, by omega, by omega, h⟩
theorem Qrc {x y : Bool} {l : List VO} (h : x = y) : some (V.t .bool x, l) = some (V.t .bool y, l) := by rw [h]
theorem QPy {a b : Int} : ieq a b = decide (a = b) := by
 unfold ieq
 rw [Bool.beq_eq_decide_eq]
def light (l : List Int) : Bool := decide (l.length ≤ 400)
noncomputable def tc_f7 : TC := (.sq (.reg (rT Tryz.f7 0)) (.sq (.reg (rT Tryz.f7 1)) .rt))
def rv_f7 : List (RV × Option Ty) := [((.t 2), some .bool)]
def g_f7 : G := ⟨TYs, [], 6, EL [], keeps, (fun _ _ => none), IL [], RL []⟩
def r_f7 (p0 : List Int) : Option (V × List VO) := some (.t .bool (ile (llen p0) 400), [])
theorem e_f7 (p0 : List Int) : runF g_f7 tc_f7 rv_f7 false [.t (.sl tI) p0] [] = r_f7 p0 := by kernel_rfl
theorem en_f7 : Qag Tryz.prog 7 := .inr ⟨by decide, _, Tryz.func7, by kernel_rfl, by kernel_rfl⟩
theorem gk_f7 : GOk Tryz.prog g_f7 := Qan _ (fun p hp => by cases hp)
theorem lk_f7 : tc_f7.lok g_f7 := by repeat (first | exact trivial | refine ⟨?_, ?_⟩)
theorem s_f7 (l : List Int) : r_f7 l = some (.t .bool (light l), []) := by
 simp only [r_f7, light]
 congr 3
 unfold ile llen
 congr 1
 exact propext ⟨fun h => by omega, fun h => by omega⟩
def sp_f7 : Ent := spec (.pr (.sl tI) .nil) (fun x => true) (fun x => (.t .bool (light x.1)))
theorem ms_f7 : Meets Tryz.prog 7 (strip sp_f7) := Qaf (R := runF g_f7 tc_f7 rv_f7 false) (mG Tryz.func7 (by kernel_rfl) Tryz.ntmps7 (by kernel_rfl) gk_f7 lk_f7) fun x _ => (e_f7 x.1).trans (s_f7 x.1)
def dmod (n k : Int) : Int := if k < 1 then 0 else n % k
def Qon (_n k : Int) : Bool := decide (k < 4611686018427387904)
noncomputable def QzR : TC := (.sq (.reg (rT Tryz.f56 0)) (.sq (.sq (.reg (rT Tryz.f56 1)) (.cd (.t 6) (.sq (.reg (rT Tryz.f56 2)) .rt) .sk)) (.sq (.reg (rT Tryz.f56 3)) .rt)))
def QLQ : List (RV × Option Ty) := [((.t 4), some tI)]
def g_f56 : G := ⟨TYs, [], 14, EL [], keeps, (fun _ _ => none), IL [], RL []⟩
def r_f56 (p0 p1 : Int) : Option (V × List VO) := br (ilt p1 1) (some (.t tI 0, [])) (br (cNz p1) (br (cNz p1) (some (.t tI (irem (iadd .i64 (irem p0 p1) p1) p1), [])) none) none)
theorem e_f56 (p0 p1 : Int) : runF g_f56 QzR QLQ false [.t tI p0, .t tI p1] [] = r_f56 p0 p1 := by kernel_rfl
theorem en_f56 : Qag Tryz.prog 56 := .inr ⟨by decide, _, Tryz.func56, by kernel_rfl, by kernel_rfl⟩
theorem gk_f56 : GOk Tryz.prog g_f56 := Qan _ (fun p hp => by cases hp)
theorem lk_f56 : QzR.lok g_f56 := by repeat (first | exact trivial | refine ⟨?_, ?_⟩)
theorem s_f56 (n k : Int) (h : Qon n k = true) : r_f56 n k = some (.t tI (dmod n k), []) := by
 simp only [Qon, decide_eq_true_eq] at h
 simp only [r_f56]
 refine QaP (fun h1 => ?_) (fun h1 => ?_)
 ·have h1 : k < 1 := by simpa [ilt] using h1
  simp [dmod, h1]
 ·have h1 : ¬ k < 1 := by simpa [ilt] using h1
  have hk : cNz k = true := by simp [cNz]; omega
  simp only [hk, Qac]
  have h3 : -k < n.tmod k := by
   have := Int.lt_tmod_of_pos n (show 0 < k by omega)
   exact this
  have h4 : n.tmod k < k := Int.tmod_lt_of_pos n (by omega)
  have e1 : iadd .i64 (irem n k) k = n.tmod k + k := Qb9 (by unfold irem; omega)
  rw [e1]
  have e2 : irem (n.tmod k + k) k = n % k := by
   unfold irem
   rw [Int.tmod_eq_emod_of_nonneg (by omega), Int.add_emod_right, Int.tmod_def]
   exact Int.sub_mul_emod_self_left n k _
  rw [e2]
  simp [dmod, h1]
def QKZ : Ent := spec (.pr tI (.pr tI .nil)) (fun x => (Qon x.1 x.2.1)) (fun x => (.t tI (dmod x.1 x.2.1)))
theorem ms_f56 : Meets Tryz.prog 56 (strip QKZ) := Qaf (R := runF g_f56 QzR QLQ false) (mG Tryz.func56 (by kernel_rfl) Tryz.ntmps56 (by kernel_rfl) gk_f56 lk_f56) fun x hok => (e_f56 x.1 x.2.1).trans (s_f56 x.1 x.2.1 hok)
def roll (l : List Int) : Dice := (l, 0, ())
noncomputable def tc_f9 : TC := (.sq (.reg (rT Tryz.f9 0)) (.sq (.reg (rT Tryz.f9 1)) .rt))
def rv_f9 : List (RV × Option Ty) := [((.t 2), none)]
def g_f9 : G := ⟨TYs, [], 6, EL [], keeps, (fun _ _ => none), IL [], RL []⟩
def r_f9 (p0 : List Int) : Option (V × List VO) := some (.ptr 50000 0, [.box (.ag [(.t (.sl tI) p0), (.t tI 0)])])
theorem e_f9 (p0 : List Int) : runF g_f9 tc_f9 rv_f9 false [.t (.sl tI) p0] [] = r_f9 p0 := by kernel_rfl
theorem en_f9 : Qag Tryz.prog 9 := .inr ⟨by decide, _, Tryz.func9, by kernel_rfl, by kernel_rfl⟩
theorem gk_f9 : GOk Tryz.prog g_f9 := Qan _ (fun p hp => by cases hp)
theorem lk_f9 : tc_f9.lok g_f9 := by repeat (first | exact trivial | refine ⟨?_, ?_⟩)
theorem s_f9 (l : List Int) : ∃ c, r_f9 l = some (.ptr 50000 0, [.box c]) ∧ c.as Qau = some (roll l) := ⟨_, rfl, rfl⟩
def sp_f9 : Ent := specN Qau (.pr (.sl tI) .nil) (fun x => true) (fun x => (roll x.1))
theorem ms_f9 : Meets Tryz.prog 9 (strip sp_f9) := Qvj (R := runF g_f9 tc_f9 rv_f9 false) (mG Tryz.func9 (by kernel_rfl) Tryz.ntmps9 (by kernel_rfl) gk_f9 lk_f9) rfl fun x _ => (s_f9 x.1).imp fun c h => ⟨(e_f9 x.1).trans h.1, h.2⟩
def dval (d : Dice) (n : Int) : Int := if d.2.1 ≥ d.1.length then 0 else dmod (d.1.getD d.2.1.toNat 0) n
def dnext (d : Dice) (_n : Int) : Dice := if d.2.1 ≥ d.1.length then d else (d.1, d.2.1 + 1, ())
def dOk (d : Dice) : Bool := decide (0 ≤ d.2.1 ∧ d.1.length ≤ 400)
def QaN (d : Dice) (n : Int) : Bool := dOk d && decide (n < 4611686018427387904)
noncomputable def QJx : List DO := dT Tryz.f32 1
noncomputable def QJw : List DO := dT Tryz.f32 4
noncomputable def Qz8 : TC := (.sq (.reg (rT Tryz.f32 0)) (.sq (.sq (.dr QJx [(0, [50000]), (1, [50000]), (2, [50000]), (3, [50000]), (4, [50000]), (5, [50000]), (6, [50000]), (7, [50000]), (8, []), (9, [])] (.of [0, 1, 2, 3, 4, 5, 6, 7, 8, 9])) (.cd (.t 14) (.sq (.reg (rT Tryz.f32 2)) .rt) .sk)) (.sq (.reg (rT Tryz.f32 3)) (.sq (.dr QJw [(0, [50000]), (1, [50000]), (2, [50000]), (3, [50000]), (4, [50000]), (5, [50000]), (6, [50000]), (7, [50000]), (8, []), (9, []), (10, []), (11, []), (12, []), (13, [])] (.of [0, 1, 2, 3, 4, 5, 6, 7, 8, 9, 10, 11, 12, 13])) .rt))))
def QL7 : List (RV × Option Ty) := [((.t 4), some tI)]
def g_f32 : G := ⟨TYs, [], 35, EL [(56, QKZ)], keeps, (fun _ _ => none), IL [], RL []⟩
def r_f32 (d0 : Dice) (p1 : Int) : Option (V × List VO) :=
 let a1 := isub .i64 (iadd .i64 d0.2.1 1) 1
 let a2 := lgt tI d0.1 (Int.toNat a1)
 br (ige d0.2.1 (llen d0.1)) (some (.t tI 0, [.box (.t Qau d0)])) (br (cIx d0.1 a1) (br (Qon a2 p1) (some (.t tI (dmod a2 p1), [.box (.t Qau (d0.1, ((iadd .i64 d0.2.1 1), d0.2.2)))])) none) none)
theorem e_f32 (d0 : Dice) (p1 : Int) : runF g_f32 Qz8 QL7 false [.ptr 50000 0, .t tI p1] [.box (.t Qau d0)] = r_f32 d0 p1 := by kernel_rfl
theorem QnD : Qag Tryz.prog 32 := .inr ⟨by decide, _, Tryz.func32, by kernel_rfl, by kernel_rfl⟩
theorem gk_f32 : GOk Tryz.prog g_f32 := Qan _ (gA (gC en_f56 ms_f56 gN))
theorem lk_f32 : Qz8.lok g_f32 := by repeat (first | exact trivial | refine ⟨?_, ?_⟩)
theorem s_f32 (d : Dice) (n : Int) (h : QaN d n = true) : r_f32 d n = some (.t tI (dval d n), [.box (.t Qau (dnext d n))]) := by
 simp only [QaN, dOk, Bool.and_eq_true, decide_eq_true_eq] at h
 obtain ⟨⟨h1, h2⟩, h3⟩ := h
 obtain ⟨l, at_, _⟩ := d
 simp only at h1 h2
 obtain ⟨k, rfl⟩ : ∃ k : Nat, at_ = k := ⟨at_.toNat, by omega⟩
 simp only [r_f32]
 refine QaP (fun h4 => ?_) (fun h4 => ?_)
 ·have h4 : l.length ≤ k := by simp [ige, llen] at h4; omega
  have h5 : (k : Int) ≥ l.length := by omega
  simp [dval, dnext, h5]
 ·have h4 : k < l.length := by simp [ige, llen] at h4; omega
  have h5 : ¬ (k : Int) ≥ l.length := by omega
  have e1 : iadd .i64 (k : Int) 1 = ((k + 1 : Nat) : Int) := add1 (by omega)
  have e2 : isub .i64 ((k + 1 : Nat) : Int) 1 = (k : Int) := by rw [QbE (by omega)]; omega
  rw [e1, e2, Qay, Qlv h4, Qac]
  have e3 : Qon (lgt tI l (Int.toNat (k : Int))) n = true := by simp [Qon, h3]
  rw [e3, Qac]
  simp only [dval, dnext, h5, if_false]
  rfl
def Qjy : Ent := specP Qau (.pr tI .nil) (fun d x => (QaN d x.1)) (fun d x => (.t tI (dval d x.1))) (fun d x => (dnext d x.1))
theorem Qm3 : Meets Tryz.prog 32 (strip Qjy) := QbD (R := runF g_f32 Qz8 QL7 false) (mG Tryz.func32 (by kernel_rfl) Tryz.ntmps32 (by kernel_rfl) gk_f32 lk_f32) rfl fun d x hok => (e_f32 d x.1).trans (s_f32 d x.1 hok)
def done (d : Dice) (n : Int) : Bool := dval d n == n - 1
def oneOk (d : Dice) (n : Int) : Bool := QaN d n && decide (0 ≤ n)
noncomputable def Qz7 : TC := (.sq (.reg (rT Tryz.f33 0)) (.sq (.reg (rT Tryz.f33 1)) .rt))
def QL6 : List (RV × Option Ty) := [((.t 4), some .bool)]
def g_f33 : G := ⟨TYs, [], 11, EL [(32, Qjy)], keeps, (fun _ _ => none), IL [], RL []⟩
def r_f33 (d0 : Dice) (p1 : Int) : Option (V × List VO) := br (QaN d0 p1) (some (.t .bool (ieq (dval d0 p1) (isub .i64 p1 1)), [.box (.t Qau (dnext d0 p1))])) none
theorem e_f33 (d0 : Dice) (p1 : Int) : runF g_f33 Qz7 QL6 false [.ptr 50000 0, .t tI p1] [.box (.t Qau d0)] = r_f33 d0 p1 := by kernel_rfl
theorem QxG : Qag Tryz.prog 33 := .inr ⟨by decide, _, Tryz.func33, by kernel_rfl, by kernel_rfl⟩
theorem gk_f33 : GOk Tryz.prog g_f33 := Qan _ (gA (gC QnD Qm3 gN))
theorem lk_f33 : Qz7.lok g_f33 := by repeat (first | exact trivial | refine ⟨?_, ?_⟩)
theorem s_f33 (d : Dice) (n : Int) (h : oneOk d n = true) : r_f33 d n = some (.t .bool (done d n), [.box (.t Qau (dnext d n))]) := by
 simp only [oneOk, Bool.and_eq_true, decide_eq_true_eq] at h
 simp only [r_f33]
 rw [h.1, Qac]
 have h2 := h.1
 simp only [QaN, Bool.and_eq_true, decide_eq_true_eq] at h2
 rw [QbE (by omega)]
 rfl
def Qq8 : Ent := specP Qau (.pr tI .nil) (fun d x => (oneOk d x.1)) (fun d x => (.t .bool (done d x.1))) (fun d x => (dnext d x.1))
theorem Qwv : Meets Tryz.prog 33 (strip Qq8) := QbD (R := runF g_f33 Qz7 QL6 false) (mG Tryz.func33 (by kernel_rfl) Tryz.ntmps33 (by kernel_rfl) gk_f33 lk_f33) rfl fun d x hok => (e_f33 d x.1).trans (s_f33 d x.1 hok)
def dof (d : Dice) (l : List Int) : Int := l.getD (dval d l.length).toNat 0
def dofN (d : Dice) (l : List Int) : Dice := dnext d l.length
def ofOk (d : Dice) (l : List Int) : Bool := dOk d && decide (0 < l.length ∧ l.length < 4611686018427387904)
noncomputable def QAk : TC := (.sq (.reg (rT Tryz.f11 0)) (.sq (.reg (rT Tryz.f11 1)) .rt))
def QMj : List (RV × Option Ty) := [((.t 4), some tI)]
def g_f11 : G := ⟨TYs, [], 12, EL [(32, Qjy)], keeps, (fun _ _ => none), IL [], RL []⟩
def r_f11 (d0 : Dice) (p1 : List Int) : Option (V × List VO) := br (QaN d0 (llen p1)) (br (cIx p1 (dval d0 (llen p1))) (some (.t tI (lgt tI p1 (Int.toNat (dval d0 (llen p1)))), [.box (.t Qau (dnext d0 (llen p1)))])) none) none
theorem e_f11 (d0 : Dice) (p1 : List Int) : runF g_f11 QAk QMj false [.ptr 50000 0, .t (.sl tI) p1] [.box (.t Qau d0)] = r_f11 d0 p1 := by kernel_rfl
theorem Qs4 : Qag Tryz.prog 11 := .inr ⟨by decide, _, Tryz.func11, by kernel_rfl, by kernel_rfl⟩
theorem gk_f11 : GOk Tryz.prog g_f11 := Qan _ (gA (gC QnD Qm3 gN))
theorem lk_f11 : QAk.lok g_f11 := by repeat (first | exact trivial | refine ⟨?_, ?_⟩)
theorem QbF {d : Dice} {n : Int} (h : 0 < n) : 0 ≤ dval d n ∧ dval d n < n := by
 unfold dval
 split
 ·omega
 ·unfold dmod
  rw [if_neg (by omega)]
  exact ⟨Int.emod_nonneg _ (by omega), Int.emod_lt_of_pos _ (by omega)⟩
theorem s_f11 (d : Dice) (l : List Int) (h : ofOk d l = true) : r_f11 d l = some (.t tI (dof d l), [.box (.t Qau (dofN d l))]) := by
 simp only [ofOk, Bool.and_eq_true, decide_eq_true_eq] at h
 obtain ⟨h1, h2, h3⟩ := h
 simp only [r_f11]
 have e1 : QaN d (llen l) = true := by simp only [QaN, h1, llen, Bool.true_and, decide_eq_true_eq]; omega
 rw [e1, Qac]
 have h4 := QbF (d := d) (n := llen l) (by unfold llen; omega)
 have e2 : cIx l (dval d (llen l)) = true := by simp only [cIx, decide_eq_true_eq]; exact h4
 rw [e2, Qac]
 rfl
def Qob : Ent := specP Qau (.pr (.sl tI) .nil) (fun d x => (ofOk d x.1)) (fun d x => (.t tI (dof d x.1))) (fun d x => (dofN d x.1))
theorem Qsi : Meets Tryz.prog 11 (strip Qob) := QbD (R := runF g_f11 QAk QMj false) (mG Tryz.func11 (by kernel_rfl) Tryz.ntmps11 (by kernel_rfl) gk_f11 lk_f11) rfl fun d x hok => (e_f11 d x.1).trans (s_f11 d x.1 hok)
theorem Qat {d : Dice} {n : Int} (h : dOk d = true) : dOk (dnext d n) = true := by
 simp only [dOk, decide_eq_true_eq] at h ⊢
 unfold dnext
 split
 ·exact h
 ·exact ⟨by simp only; omega, h.2⟩
theorem QJF {l : List Int} (h : light l = true) : dOk (roll l) = true := by
 simp only [light, decide_eq_true_eq] at h
 simp [dOk, roll, h]
end Go.Proofs.YtkngeegkjhipeaaGreat.K
