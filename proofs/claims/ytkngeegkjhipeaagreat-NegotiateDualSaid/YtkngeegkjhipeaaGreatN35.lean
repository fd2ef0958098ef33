import Derived.Test.YtkngeegkjhipeaaGreatN34
set_option linter.unusedSimpArgs false
set_option linter.unusedVariables false
namespace Go.Proofs.YtkngeegkjhipeaaGreat.K
open Go.RowKit
noncomputable section
def addI (e : Qad) (x : Qal) : Qad := (e.1, (e.2.1, (e.2.2.1, (e.2.2.2.1, (e.2.2.2.2.1, (eIds e ++ [x], e.2.2.2.2.2.2))))))
theorem QEZ {α : Type} {p : α → Bool} {m : List α} : ∀ {l : List α} {k : Nat}, fstG p l = some k → fstG p (l ++ m) = some k
 | [], _, h => by cases h
 | x :: r, k, h => by
  rw [List.cons_append]
  unfold fstG at h ⊢
  by_cases hx : p x = true
  ·rw [if_pos hx] at h ⊢
   exact h
  ·rw [if_neg hx] at h ⊢
   cases hq : fstG p r with
   | none => rw [hq] at h; cases h
   | some j =>
    rw [hq] at h
    rw [QEZ hq]
    exact h
theorem QsO {e : Qad} {x : Qal} {c : Int} (h : (QaS e c).2 = true) : QaS (addI e x) c = QaS e c := by
 unfold QaS at h ⊢
 cases hi : ine (QaA c).2 0 with
 | true => rfl
 | false =>
  rw [hi] at h
  have hx : ixAlg (eIds (addI e x)) (QaA c).1 = ixAlg (eIds e) (QaA c).1 := by
   unfold ixAlg at h ⊢
   cases hq : fstG (fun x => idAlg x (QaA c).1) (eIds e) with
   | none => rw [hq] at h; cases h
   | some k =>
    show (match fstG (fun x => idAlg x (QaA c).1) (eIds e ++ [x]) with | some k => (k : Int) | none => -1) = _
    rw [QEZ hq]
  rw [hx]
theorem QGT {e : Qad} {x : Qal} (h : QaO e = true) (hl : (eIds e).length < 4) (hx : idOk x = true) : QaO (addI e x) = true := by
 unfold QaO at h ⊢
 have g : igt (llen (eIds (addI e x))) 4 = false := decide_eq_false (by
  show ¬ ((eIds e ++ [x]).length : Int) > 4
  rw [List.length_append, List.length_singleton]
  omega)
 have g2 : igt (llen (eIds e)) 4 = false := decide_eq_false (by simp only [llen]; omega)
 have g3 : (eIds (addI e x)).all idOk = (eIds e).all idOk := by
  show (eIds e ++ [x]).all idOk = _
  rw [List.all_append, List.all_cons, hx]
  simp
 rw [g, g3]
 rw [g2] at h
 exact h
theorem QNl {s : Qad} {x : Qal} {o : List Int} {v c : Int} (h : posE s o v c = true) : posE (addI s x) o v c = true := by
 have hi := QDa h
 unfold posE at h ⊢
 rw [QsO hi]
 exact h
theorem QQn {α : Type} {p : α → Bool} {l : List α} {x : α} (hx : x ∈ l) (hp : p x = true) : fstG p l ≠ none := fun h => by
 rw [Qcr] at h
 rw [List.any_eq_false] at h
 exact h x hx hp
theorem QJj {c s : Qad} {x : Qal} {d : Int} {k : Nat} (hc : QaO c = true) (hs : QaO s = true) (hl : (eIds s).length < 4) (hx : idOk x = true) (hd : 0 ≤ d ∧ d ≤ 40000) (h1 : loC c s ≤ hiC c s) (h2 : k < (outL s (Qao c)).length) (h3 : posE s (Qao c) (hiC c s) ((outL s (Qao c)).getD k 0) = true) :
  QaU c (addI s x) d = (zK, 29) ∨ ∃ m, QaU c (addI s x) d = ((hiC c s, (m, ())), 0) := by
 have hr : Qcx c (addI s x) = true := Bool.and_eq_true_iff.2 ⟨hc, QGT hs hl hx⟩
 have hm : (outL s (Qao c)).getD k 0 ∈ outL (addI s x) (Qao c) := by
  show _ ∈ outL s (Qao c)
  rw [List.getD_eq_getElem?_getD, List.getElem?_eq_getElem h2, Option.getD_some]
  exact List.getElem_mem h2
 rcases Qj1 (d := d) hr hd with ⟨_, _, e⟩ | ⟨_, e⟩ | ⟨e, _⟩ | ⟨j, _, _, _, _, _, e⟩
 ·exfalso
  have : hiC c s < loC c s := e
  omega
 ·exact absurd e (QQn hm (QNl h3))
 ·exact .inl e
 ·exact .inr ⟨_, e⟩
end
end Go.Proofs.YtkngeegkjhipeaaGreat.K
