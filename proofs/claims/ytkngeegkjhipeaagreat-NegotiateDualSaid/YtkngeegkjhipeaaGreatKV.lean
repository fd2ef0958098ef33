import Derived.Test.YtkngeegkjhipeaaGreatKD
set_option linter.unusedSimpArgs false
set_option linter.unusedVariables false
namespace Go.Proofs.YtkngeegkjhipeaaGreat.K
open Go.RowKit
def coeO (b : Ty) : VO → VO
 | .box (.ag [.t b' x]) => if b' = b ∧ b'.row = false then .box (.t b' x) else .box (.ag [.t b' x])
 | o => o
def coeOs : List Ty → List VO → List VO
 | b :: bs, o :: os => coeO b o :: coeOs bs os
 | _, os => os
def Qn9 (l : List SV) (bs : List Ty) (ok : SVt l → boxT bs → Bool) (F : SVt l → boxT bs → V) : Ent := fun args objs => specH l bs ok F args (coeOs bs objs)
section
variable {P : Program} {X : Nat → Nat → Prop} {w : World} {σ : Pl}
theorem QQ2 {b : Ty} {o : VO} {k : Nat} (h : OAt X w σ k o) : OAt X w σ k (coeO b o) := by
 unfold coeO
 split
 ·rename_i b' x
  split
  ·rename_i hq
   obtain ⟨g, ty, vs, h1, h2, h3, h4⟩ := h
   refine ⟨g, ty, vs, h1, h2, ?_, h4⟩
   have e1 : (V.ag [.t b' x]).d.cells = [b'.d x] := rfl
   have e2 : (V.t b' x).d.cells = [b'.d x] := by
    show (b'.d x).cells = _
    rw [Ty.d_cells, Ty.d_one b' x hq.2]
   rw [e2, ← e1]
   exact h3
  ·exact h
 ·exact h
theorem QQ1 {b : Ty} {o : VO} (h : o ≠ .no) : coeO b o ≠ .no := by
 unfold coeO
 split
 ·split <;> simp
 ·exact h
theorem QiK : ∀ (bs : List Ty) (os : List VO), (coeOs bs os).length = os.length
 | [], os => rfl
 | b :: bs, [] => rfl
 | b :: bs, o :: os => by rw [coeOs, List.length_cons, List.length_cons, QiK bs os]
theorem QxQ : ∀ (bs : List Ty) (os : List VO) (j : Nat) (o : VO), (coeOs bs os)[j]? = some o → ∃ o', os[j]? = some o' ∧ (o = o' ∨ ∃ b, o = coeO b o')
 | [], os, j, o, h => ⟨o, h, .inl rfl⟩
 | b :: bs, [], j, o, h => ⟨o, h, .inl rfl⟩
 | b :: bs, o1 :: os, 0, o, h => by
  simp only [coeOs, List.getElem?_cons_zero, Option.some.injEq] at h
  exact ⟨o1, rfl, .inr ⟨b, h.symm⟩⟩
 | b :: bs, o1 :: os, j + 1, o, h => by
  simp only [coeOs, List.getElem?_cons_succ] at h
  obtain ⟨o', h1, h2⟩ := QxQ bs os j o h
  exact ⟨o', by rw [List.getElem?_cons_succ]; exact h1, h2⟩
theorem QhC {f : FuncId} {l : List SV} {bs : List Ty} {ok : SVt l → boxT bs → Bool} {F : SVt l → boxT bs → V} (hM : Meets P f (strip (specH l bs ok F))) : Meets P f (strip (Qn9 l bs ok F)) := by
 intro args objs r os hF X w σ vs hfin hl hc
 have := hM args (coeOs bs objs) r os hF X w σ vs hfin ⟨fun j o hj => by
  obtain ⟨o', h1, h2⟩ := QxQ bs objs j o hj
  obtain ⟨g1, g2⟩ := hl.at_ j o' h1
  rcases h2 with rfl | ⟨b, rfl⟩
  ·exact ⟨g1, g2⟩
  ·exact ⟨QQ2 g1, QQ1 g2⟩, fun i j b hij hi hj => hl.apart i j b hij (by rwa [QiK] at hi) (by rwa [QiK] at hj)⟩ hc
 rw [QiK] at this
 exact this
end
end Go.Proofs.YtkngeegkjhipeaaGreat.K
