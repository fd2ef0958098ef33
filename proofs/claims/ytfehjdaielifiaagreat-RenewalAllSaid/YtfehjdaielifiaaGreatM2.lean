/-
 Uses and policies out of dice.
-/
import Derived.Test.YtfehjdaielifiaaGreatV7
set_option linter.unusedSimpArgs false
set_option linter.unusedVariables false
namespace Go.Proofs.YtfehjdaielifiaaGreat.K
open Go.RowKit
theorem dOk_nextI {d : Dice} {n : Int} (h : dOk d = true) : dOk (dnext d n) = true := dOk_next h
theorem dOk_of {d : Dice} {l : List Int} (h : dOk d = true) : dOk (dofN d l) = true := dOk_next h
theorem dof_mem {d : Dice} {l : List Int} (h : l ≠ []) : dof d l ∈ l := by
 have hl : 0 < (l.length : Int) := by
  cases l with
  | nil => exact absurd rfl h
  | cons a l => rw [List.length_cons]; omega
 have h2 := dval_lt (d := d) hl
 have h3 : (dval d l.length).toNat < l.length := by omega
 unfold dof
 rw [List.getD_eq_getElem?_getD, List.getElem?_eq_getElem h3]
 exact List.getElem_mem h3
def g_f49 : G := ⟨TYs, [], 46, EL [(22, sp_f22)], keeps, (fun _ _ => none), IL [], RL []⟩
theorem gk_f49 : GOk Tryz.prog g_f49 := gok_of _ (by
 intro p hp
 simp only [List.mem_cons, List.not_mem_nil, or_false] at hp
 rcases hp with rfl
 ·exact ⟨en_f22, ms_f22⟩)
def rDraw (d0 : Dice) : Rule × Dice :=
 let d1 := dnext d0 3
 let d2 := dofN d1 [14, 1, 2, 5, 15, 0, 16, 10, 20, 7]
 let b2 := done d2 2
 let d3 := dnext d2 2
 let below := if b2 then dof d3 [2048, 256, 1024, 3072, 129] else 0
 let d4 := if b2 then dofN d3 [2048, 256, 1024, 3072, 129] else d3
 let b4 := done d4 3
 let d5 := dnext d4 3
 let purpose := if b4 then iadd .i64 1 (dval d5 4) else 0
 let d6 := if b4 then dnext d5 4 else d5
 let b6 := done d6 2
 let d7 := dnext d6 2
 let frm := if b6 then dof d7 [10, 30, 100, 7] else 0
 let d8 := if b6 then dofN d7 [10, 30, 100, 7] else d7
 let b8 := done d8 3
 let d9 := dnext d8 3
 let to := if b8 then iadd .i64 frm (dof d9 [20, 1, 200]) else 40001
 let d10 := if b8 then dofN d9 [20, 1, 200] else d9
 ((done d0 3, (dof d1 [14, 1, 2, 5, 15, 0, 16, 10, 20, 7], (below, (purpose, (frm, (to, ())))))), d10)
def rulesZ : Nat → Dice → List Rule × Dice
 | 0, d => ([], d)
 | n + 1, d => ((rDraw d).1 :: (rulesZ n (rDraw d).2).1, (rulesZ n (rDraw d).2).2)
def kDraw (d : Dice) : Keep × Dice := ((iadd .i64 1 (dval d 4), (dof (dnext d 4) [10, 100, 3000], ())), dofN (dnext d 4) [10, 100, 3000])
def keepsZ : Nat → Dice → List Keep × Dice
 | 0, d => ([], d)
 | n + 1, d => ((kDraw d).1 :: (keepsZ n (kDraw d).2).1, (keepsZ n (kDraw d).2).2)
def polR (d : Dice) : List Rule × Dice := rulesZ (dval d 7).toNat (dnext d 7)
def polK (d : Dice) : List Keep × Dice := keepsZ (dval (polR d).2 3).toNat (dnext (polR d).2 3)
def polV (d : Dice) : Policy := ((polR d).1, ((polK d).1, ()))
def polN (d : Dice) : Dice := (polK d).2
theorem dOk_rDraw {d : Dice} (h : dOk d = true) : dOk (rDraw d).2 = true := by
 unfold rDraw
 simp only
 repeat' split
 all_goals (repeat first | exact h | apply dOk_next | apply dOk_of)
theorem dOk_rules {n : Nat} : ∀ {d : Dice}, dOk d = true → dOk (rulesZ n d).2 = true := by
 induction n with
 | zero => exact fun h => h
 | succ n ih => exact fun h => ih (dOk_rDraw h)
theorem dOk_kDraw {d : Dice} (h : dOk d = true) : dOk (kDraw d).2 = true := dOk_of (l := [10, 100, 3000]) (dOk_next h)
theorem dOk_keeps {n : Nat} : ∀ {d : Dice}, dOk d = true → dOk (keepsZ n d).2 = true := by
 induction n with
 | zero => exact fun h => h
 | succ n ih => exact fun h => ih (dOk_kDraw h)
theorem dOk_pol {d : Dice} (h : dOk d = true) : dOk (polN d) = true := dOk_keeps (dOk_next (dOk_rules (dOk_next h)))
theorem rDraw_ok (d : Dice) : ruledF (rDraw d).1 = true := by
 have ga : ∀ d : Dice, 0 ≤ dof d [14, 1, 2, 5, 15, 0, 16, 10, 20, 7] ∧ dof d [14, 1, 2, 5, 15, 0, 16, 10, 20, 7] ≤ 22 := fun d => by
  have h := dof_mem (d := d) (l := [14, 1, 2, 5, 15, 0, 16, 10, 20, 7]) (by decide)
  simp only [List.mem_cons, List.not_mem_nil, or_false] at h
  omega
 have gb : ∀ d : Dice, 0 ≤ dof d [2048, 256, 1024, 3072, 129] ∧ dof d [2048, 256, 1024, 3072, 129] ≤ 16384 := fun d => by
  have h := dof_mem (d := d) (l := [2048, 256, 1024, 3072, 129]) (by decide)
  simp only [List.mem_cons, List.not_mem_nil, or_false] at h
  omega
 have gf : ∀ d : Dice, 0 ≤ dof d [10, 30, 100, 7] ∧ dof d [10, 30, 100, 7] ≤ 100 := fun d => by
  have h := dof_mem (d := d) (l := [10, 30, 100, 7]) (by decide)
  simp only [List.mem_cons, List.not_mem_nil, or_false] at h
  omega
 have gt : ∀ d : Dice, 1 ≤ dof d [20, 1, 200] ∧ dof d [20, 1, 200] ≤ 200 := fun d => by
  have h := dof_mem (d := d) (l := [20, 1, 200]) (by decide)
  simp only [List.mem_cons, List.not_mem_nil, or_false] at h
  omega
 have gp : ∀ d : Dice, 1 ≤ iadd .i64 1 (dval d 4) ∧ iadd .i64 1 (dval d 4) ≤ 4 := fun d => by
  have h := dval_lt (d := d) (n := 4) (by omega)
  rw [iadd_in (by omega)]
  omega
 have gu : ∀ (x : Int) (d : Dice), 0 ≤ x → x ≤ 100 → iadd .i64 x (dof d [20, 1, 200]) = x + dof d [20, 1, 200] := fun x d h1 h2 => by
  have h := gt d
  exact iadd_in (by omega)
 unfold ruledF
 rw [decide_eq_true_eq]
 unfold rDraw
 simp only [Item.Name, Item.Kind, Item.Purpose, Item.Links, Item.Until, Policy.Rules, Policy.Keeps, Rule.Allow, Rule.Alg, Rule.Below, Rule.Purpose, Rule.From, Rule.To, Keep.Alg, Keep.Bits, Link.Use, Link.Day, Dice.L, Dice.At, LinkX.day, LinkX.fall, LinkX.falls, Row.name, Row.kind, Row.way, Row.sizes, Row.strengths]
 have pB : ∀ (b : Bool) (e : Dice), (0 ≤ if b = true then dof e [2048, 256, 1024, 3072, 129] else 0) ∧ (if b = true then dof e [2048, 256, 1024, 3072, 129] else 0) ≤ 16384 := by
  intro b e
  have h := gb e
  cases b <;> simp only [Bool.false_eq_true, if_true, if_false] <;> omega
 have pP : ∀ (b : Bool) (e : Dice), (0 ≤ if b = true then iadd .i64 1 (dval e 4) else 0) ∧ (if b = true then iadd .i64 1 (dval e 4) else 0) ≤ 4 := by
  intro b e
  have h := gp e
  cases b <;> simp only [Bool.false_eq_true, if_true, if_false] <;> omega
 refine ⟨(ga _).1, (ga _).2, (pB _ _).1, (pB _ _).2, (pP _ _).1, (pP _ _).2, ?_⟩
 have key : ∀ (b1 b2 : Bool) (e1 e2 : Dice), (0 ≤ if b1 = true then dof e1 [10, 30, 100, 7] else 0) ∧ (if b1 = true then dof e1 [10, 30, 100, 7] else 0) < (if b2 = true then iadd .i64 (if b1 = true then dof e1 [10, 30, 100, 7] else 0) (dof e2 [20, 1, 200]) else 40001) ∧ (if b2 = true then iadd .i64 (if b1 = true then dof e1 [10, 30, 100, 7] else 0) (dof e2 [20, 1, 200]) else 40001) ≤ 40001 := by
  intro b1 b2 e1 e2
  have h1 := gf e1
  have h2 := gt e2
  cases b1 <;> cases b2 <;> simp only [Bool.false_eq_true, if_true, if_false]
  ·omega
  ·rw [gu _ _ (by omega) (by omega)]; omega
  ·omega
  ·rw [gu _ _ (by omega) (by omega)]; omega
 exact key _ _ _ _
theorem rulesZ_ok : ∀ (n : Nat) (d : Dice), (rulesZ n d).1.length = n ∧ ∀ r, r ∈ (rulesZ n d).1 → ruledF r = true
 | 0, d => ⟨rfl, fun r h => by cases h⟩
 | n + 1, d => by
  obtain ⟨h1, h2⟩ := rulesZ_ok n (rDraw d).2
  refine ⟨by simp only [rulesZ, List.length_cons, h1], fun r h => ?_⟩
  rcases List.mem_cons.1 h with rfl | h
  ·exact rDraw_ok d
  ·exact h2 r h
theorem kDraw_ok (d : Dice) : keptF (kDraw d).1 = true := by
 have h := dof_mem (d := dnext d 4) (l := [10, 100, 3000]) (by decide)
 simp only [List.mem_cons, List.not_mem_nil, or_false] at h
 have h2 := dval_lt (d := d) (n := 4) (by omega)
 have h3 : iadd .i64 1 (dval d 4) = 1 + dval d 4 := iadd_in (by omega)
 unfold keptF kDraw
 rw [decide_eq_true_eq]
 simp only [h3]
 omega
theorem keepsZ_ok : ∀ (n : Nat) (d : Dice), (keepsZ n d).1.length = n ∧ ∀ r, r ∈ (keepsZ n d).1 → keptF r = true
 | 0, d => ⟨rfl, fun r h => by cases h⟩
 | n + 1, d => by
  obtain ⟨h1, h2⟩ := keepsZ_ok n (kDraw d).2
  refine ⟨by simp only [keepsZ, List.length_cons, h1], fun r h => ?_⟩
  rcases List.mem_cons.1 h with rfl | h
  ·exact kDraw_ok d
  ·exact h2 r h
theorem pol_size (d : Dice) : (polV d).1.length ≤ 6 ∧ (polV d).2.1.length ≤ 2 := by
 have b7 := dval_lt (d := d) (n := 7) (by omega)
 have b3 := dval_lt (d := (polR d).2) (n := 3) (by omega)
 have h1 := (rulesZ_ok (dval d 7).toNat (dnext d 7)).1
 have h2 := (keepsZ_ok (dval (polR d).2 3).toNat (dnext (polR d).2 3)).1
 unfold polV polK polR at *
 simp only
 omega
theorem pol_ok (d : Dice) : polOk (polV d) = true := by
 have hs := pol_size d
 simp only [polOk, Bool.and_eq_true, decide_eq_true_eq]
 refine ⟨⟨List.all_eq_true.2 (rulesZ_ok _ _).2, List.all_eq_true.2 (keepsZ_ok _ _).2⟩, by omega, by omega⟩
end Go.Proofs.YtfehjdaielifiaaGreat.K
