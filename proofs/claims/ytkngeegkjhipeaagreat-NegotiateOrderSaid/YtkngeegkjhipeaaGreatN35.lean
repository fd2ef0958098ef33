import Derived.Test.YtkngeegkjhipeaaGreatN34
set_option linter.unusedSimpArgs false
set_option linter.unusedVariables false
namespace Go.Proofs.YtkngeegkjhipeaaGreat.K
open Go.RowKit
noncomputable section
def rotS (l : List Int) (t : Nat) : List Int := (List.range l.length).map fun i => l.getD ((i + t) % l.length) 0
theorem QN4 {l : List Int} {t : Nat} (h : 0 < l.length) : rotS l t = l.drop (t % l.length) ++ l.take (t % l.length) := by
 have hr := Nat.mod_lt t h
 refine List.ext_getElem ?_ fun i h1 h2 => ?_
 ·simp only [rotS, List.length_map, List.length_range, List.length_append, List.length_drop, List.length_take]
  omega
 ·simp only [rotS, List.length_map, List.length_range] at h1
  simp only [rotS, List.getElem_map, List.getElem_range]
  rw [← Nat.add_mod_mod]
  by_cases hi : i < l.length - t % l.length
  ·rw [Nat.mod_eq_of_lt (show i + t % l.length < l.length by omega), List.getElem_append_left (by rw [List.length_drop]; exact hi), List.getElem_drop, List.getD_eq_getElem?_getD, List.getElem?_eq_getElem (by omega), Option.getD_some]
   congr 1
   omega
  ·have e : (i + t % l.length) % l.length = i - (l.length - t % l.length) := by
    rw [show i + t % l.length = (i - (l.length - t % l.length)) + l.length by omega, Nat.add_mod_right, Nat.mod_eq_of_lt (by omega)]
   rw [e, List.getElem_append_right (by rw [List.length_drop]; omega), List.getElem_take, List.getD_eq_getElem?_getD, List.getElem?_eq_getElem (by omega), Option.getD_some]
   simp only [List.length_drop]
theorem Qsi (l : List Int) (t : Nat) : (rotS l t).Perm l := by
 cases hl : l.length with
 | zero =>
  have : l = [] := List.length_eq_zero_iff.1 hl
  subst this
  exact List.Perm.refl _
 | succ n =>
  rw [QN4 (by omega)]
  refine List.perm_append_comm.trans ?_
  rw [List.take_append_drop]
theorem QFs {l : List Int} {x : Int} : hasF l x = true ↔ x ∈ l := List.contains_iff_mem
theorem Qlt {a b : List Int} (h : a.Perm b) (x : Int) : hasF a x = hasF b x := by
 rw [Bool.eq_iff_iff, QFs, QFs]
 exact h.mem_iff
def setS (e : Qad) (l : List Int) : Qad := (e.1, (e.2.1, (e.2.2.1, (l, e.2.2.2.2))))
theorem QoA {e : Qad} (h : QaM e = true) : goodS (Qak e) := ⟨Qi8 (QfV h), Qwz (QfV h)⟩
theorem Qhy {e : Qad} {l : List Int} (h : QaM e = true) (hl : goodS l) : QaM (setS e l) = true := by
 have h1 : suitF l = true := QA0 hl.1 hl.2
 have h2 := QfV h
 unfold QaM at h ⊢
 rw [h2] at h
 show (wordF e.1 && (!ilt e.2.1 1 && (!igt e.2.1 e.2.2.1 && (!igt e.2.2.1 4 && (suitF l && (!igt (llen (eIds e)) 4 && (!igt (llen (eAnch e)) 16 && (ascF (eAnch e) && (ascF (eHash e) && ((eIds e).all idOk && ((eAnch e).all keyI && (eHash e).all hashF))))))))))) = true
 rw [h1]
 exact h
theorem Qsu {s : Qad} {a b : List Int} (h : ∀ x, hasF a x = hasF b x) (v x : Int) : posE s a v x = posE s b v x := by
 unfold posE
 rw [h]
theorem Qst {s : Qad} {o l : List Int} (h : ∀ x, hasF l x = hasF (Qak s) x) (v x : Int) : posE (setS s l) o v x = posE s o v x := by
 show (ieq (QaC x).2 0 && (ige v (QaC x).1.2.2.2.2.2.2.1 && (ige (QaC x).1.2.2.2.2.2.2.2.1 v && (hasF o x && (hasF l x && (Qa3 s x).2))))) = posE s o v x
 rw [h]
 rfl
theorem QtC {c s : Qad} {l : List Int} {d : Int} (hc : QaM c = true) (hs : QaM s = true) (hl : goodS l) (hp : l.Perm (Qak c)) (ho : s.2.2.2.2.1 = true) (hd : 0 ≤ d ∧ d ≤ 40000) : Qbm (setS c l) s d = Qbm c s d := by
 have hr : QbW c s = true := Bool.and_eq_true_iff.2 ⟨hc, hs⟩
 have hr2 : QbW (setS c l) s = true := Bool.and_eq_true_iff.2 ⟨Qhy hc hl, hs⟩
 have e1 : outL s (Qak (setS c l)) = outL s (Qak c) := by unfold outL; rw [ho]; rfl
 have e2 : posE s (Qak (setS c l)) (hiC c s) = posE s (Qak c) (hiC c s) := funext fun x => Qsu (fun y => Qlt hp y) _ _
 rw [QiQ hr hd, QiQ hr2 hd]
 show (if hiC c s < loC c s then (zK, 27) else overF (setS c l) s (hiC c s) d (Qak (setS c l)) (outL s (Qak (setS c l)))) = _
 unfold overF
 rw [e1, e2]
 rfl
theorem QtB {c s : Qad} {l : List Int} {d : Int} (hc : QaM c = true) (hs : QaM s = true) (hl : goodS l) (hp : l.Perm (Qak s)) (ho : s.2.2.2.2.1 = false) (hd : 0 ≤ d ∧ d ≤ 40000) : Qbm c (setS s l) d = Qbm c s d := by
 have hr : QbW c s = true := Bool.and_eq_true_iff.2 ⟨hc, hs⟩
 have hr2 : QbW c (setS s l) = true := Bool.and_eq_true_iff.2 ⟨hc, Qhy hs hl⟩
 have e1 : outL (setS s l) (Qak c) = outL s (Qak c) := by
  show (bif s.2.2.2.2.1 then l else Qak c) = (bif s.2.2.2.2.1 then Qak s else Qak c)
  rw [ho]
  rfl
 have e2 : posE (setS s l) (Qak c) (hiC c s) = posE s (Qak c) (hiC c s) := funext fun x => Qst (fun y => Qlt hp y) _ _
 rw [QiQ hr hd, QiQ hr2 hd]
 show (if hiC c s < loC c s then (zK, 27) else overF c (setS s l) (hiC c s) d (Qak c) (outL (setS s l) (Qak c))) = _
 unfold overF
 rw [e1, e2]
 rfl
theorem QzB {c s : Qad} {l m : List Int} (hc : QaM c = true) (hs : QaM s = true) (hl : goodS l) (hm : goodS m) (hp : l.Perm (Qak c)) (hq : m.Perm (Qak s)) : Qbl (setS c l) (setS s m) = Qbl c s := by
 have hr : QbW c s = true := Bool.and_eq_true_iff.2 ⟨hc, hs⟩
 have hr2 : QbW (setS c l) (setS s m) = true := Bool.and_eq_true_iff.2 ⟨Qhy hc hl, Qhy hs hm⟩
 unfold Qbl
 rw [hr, hr2]
 show verC (setS s m) l (loC c s).toNat (hiC c s + 1 - loC c s).toNat = verC s (Qak c) (loC c s).toNat (hiC c s + 1 - loC c s).toNat
 have hrow : ∀ v : Int, rowC (setS s m) l v 1 = rowC s (Qak c) v 1 := fun v => by
  unfold rowC
  have : (fun (j : Nat) => posE (setS s m) l v (j : Int)) = fun (j : Nat) => posE s (Qak c) v (j : Int) := funext fun j => (Qst (fun y => Qlt hq y) _ _).trans (Qsu (fun y => Qlt hp y) _ _)
  rw [this]
 unfold verC
 simp only [hrow]
end
end Go.Proofs.YtkngeegkjhipeaaGreat.K
