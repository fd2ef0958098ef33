/-
  Regions whose order is open: operations that turn own things leave the others alone, and do not see a slot that they do not look at.
-/
import Derived.Test.YtnimpcffagidoaaK18
namespace Go.Proofs.Ytnimpcffagidoaa.K
open Go.RowKit
set_option linter.unusedSimpArgs false
set_option linter.unusedVariables false

/-- a slot is set -/
def VS.ss (S : VS) (q : Nat) (v : V) : VS := ⟨upd S.ts q v, S.st, S.dom⟩
/-- what an operation with the keys ks leaves -/
structure Eff (ks : List Nat) (d : Option Nat) (S T : VS) : Prop where
  ts : ∀ j, (∀ q, d = some q → j ≠ q) → (∀ r ∈ (S.ts j).refs, r ∈ ks → 50000 ≤ r) → T.ts j = S.ts j
  st : ∀ k, k ∉ ks → (∀ r ∈ (S.st k).refs, r ∉ ks) → T.st k = S.st k
  dom : ∀ k ∈ S.dom, k ∈ T.dom
theorem Eff.refl (ks : List Nat) (d : Option Nat) (S : VS) : Eff ks d S S := ⟨fun _ _ _ => rfl, fun _ _ _ => rfl, fun _ h => h⟩
/-- without a slot: what turns own things alone -/
structure Eff0 (ks : List Nat) (S T : VS) : Prop where
  ts : ∀ j, (∀ r ∈ (S.ts j).refs, r ∈ ks → 50000 ≤ r) → T.ts j = S.ts j
  st : ∀ k, k ∉ ks → (∀ r ∈ (S.st k).refs, r ∉ ks) → T.st k = S.st k
  dom : ∀ k ∈ S.dom, k ∈ T.dom
theorem Eff0.refl (ks : List Nat) (S : VS) : Eff0 ks S S := ⟨fun _ _ => rfl, fun _ _ _ => rfl, fun _ h => h⟩
theorem Eff0.trans {ks : List Nat} {S T U : VS} (h : Eff0 ks S T) (k : Eff0 ks T U) : Eff0 ks S U :=
  ⟨fun j hj => by rw [k.ts j (by rw [h.ts j hj]; exact hj), h.ts j hj], fun i hi hr => by rw [k.st i hi (by rw [h.st i hi hr]; exact hr), h.st i hi hr], fun i hi => k.dom i (h.dom i hi)⟩
theorem mask_ne {k : Nat} {v : V} (h : k ∉ v.refs) : v.mask k = v := by
  unfold V.mask
  rw [if_neg (by simpa using h)]
theorem free_lt5 {S : VS} {k : Nat} (h : S.free k = true) : k < 50000 := by
  simp only [VS.free, Bool.and_eq_true, decide_eq_true_eq] at h
  exact h.1
theorem alloc_eff {ks : List Nat} {S : VS} {k : Nat} {o : VO} (hf : S.free k = true) (hk : k ∈ ks) : Eff0 ks S (S.alloc k o) :=
  ⟨fun j hj => mask_ne fun h => by have := hj k h hk; have := free_lt5 hf; omega, fun i hi _ => upd_ne _ _ fun h => hi (h ▸ hk), fun i hi => List.mem_cons_of_mem _ hi⟩
theorem setO_eff {ks : List Nat} {S : VS} {k : Nat} {o : VO} (hk : k ∈ ks) : Eff0 ks S (S.setO k o) :=
  ⟨fun _ _ => rfl, fun i hi _ => upd_ne _ _ fun h => hi (h ▸ hk), fun i hi => hi⟩
mutual
theorem fz_ne {k : Nat} {y : Ty} {l : List y.T} : ∀ (v : V), k ∉ v.refs → v.fz k y l = v
  | .ms j, h => by simp only [V.fz]; rw [if_neg fun e => h (by simp [V.refs, e])]
  | .pa sz j i o, h => by simp only [V.fz]; rw [if_neg fun e => h (by simp [V.refs, e])]
  | .ptr j o, h => by simp only [V.fz]; rw [if_neg fun e => h (by simp [V.refs, e])]
  | .ag vs, h => by simp only [V.fz, fzs_ne vs (by simpa only [V.refs] using h)]
  | .tu vs, h => by simp only [V.fz, fzs_ne vs (by simpa only [V.refs] using h)]
  | .fn f vs, h => by simp only [V.fz, fzs_ne vs (by simpa only [V.refs] using h)]
  | .ifc n x, h => by simp only [V.fz, fz_ne x (by simpa only [V.refs] using h)]
  | .t y' x, _ => rfl
  | .c x, _ => rfl
  | .el y' x o, _ => rfl
  | .ud, _ => rfl
  | .un, _ => rfl
theorem fzs_ne {k : Nat} {y : Ty} {l : List y.T} : ∀ (vs : List V), k ∉ V.refss vs → V.fzs k y l vs = vs
  | [], _ => rfl
  | v :: vs, h => by
    simp only [V.refss, List.mem_append, not_or] at h
    simp only [V.fzs, fz_ne v h.1, fzs_ne vs h.2]
end
theorem ofz_ne {k : Nat} {y : Ty} {l : List y.T} {o : VO} (h : k ∉ o.refs) : o.fz k y l = o := by
  cases o with
  | box v => simp only [VO.fz, fz_ne v h]
  | _ => rfl
theorem odim_ne {k : Nat} {o : VO} (h : k ∉ o.refs) : o.dim k = o := by
  cases o with
  | box v =>
    cases v with
    | ag vs =>
      have key : ∀ l : List V, k ∉ V.refss l → (l.map fun v => if v.refs.contains k = true then .un else v) = l := by
        intro l
        induction l with
        | nil => intro _; rfl
        | cons v l ih =>
          intro hl
          simp only [V.refss, List.mem_append, not_or] at hl
          rw [List.map_cons, ih hl.2, if_neg (by simpa using hl.1)]
      simp only [VO.dim, V.dimc]
      rw [key vs (by simpa only [VO.refs, V.refs] using h)]
    | _ => rfl
  | _ => rfl
theorem dim_eff {ks : List Nat} {S : VS} {k : Nat} (hk : k ∈ ks) : Eff0 ks S (S.dim k) :=
  ⟨fun _ _ => rfl, fun i _ hr => odim_ne fun h => hr k h hk, fun _ h => h⟩
theorem fz_eff {ks : List Nat} {S : VS} {k : Nat} (hk : k ∈ ks) : Eff0 ks S (S.fz k) := by
  unfold VS.fz
  split
  · split
    · rename_i hlt
      exact ⟨fun j hj => fz_ne _ fun h => by have := hj k h hk; omega, fun i hi hr => by
        have hne : i ≠ k := fun h => hi (h ▸ hk)
        simp only
        rw [if_neg hne, ofz_ne fun h => hr k h hk], fun _ h => h⟩
    · exact Eff0.refl _ _
  · exact Eff0.refl _ _
theorem fzs_eff {ks : List Nat} : ∀ (l : List Nat) {S : VS}, (∀ k ∈ l, k ∈ ks) → Eff0 ks S (S.fzs l)
  | [], S, _ => Eff0.refl _ _
  | k :: l, S, h => (fz_eff (h k (by simp))).trans (fzs_eff l fun j hj => h j (by simp [hj]))
theorem allocs_eff {ks : List Nat} : ∀ (l : List (Nat × VO)) {S S' : VS}, S.allocs l = some S' → (∀ p ∈ l, p.1 ∈ ks) → Eff0 ks S S'
  | [], S, S', h, _ => by
    simp only [VS.allocs, Option.some.injEq] at h
    subst h
    exact Eff0.refl _ _
  | (k, o) :: l, S, S', h, hk => by
    simp only [VS.allocs] at h
    split at h
    · rename_i hc
      simp only [Bool.and_eq_true] at hc
      exact (alloc_eff hc.1 (hk (k, o) (by simp))).trans (allocs_eff l h fun p hp => hk p (by simp [hp]))
    · cases h

/-! ### A slot that is not looked at -/
section
variable {S : VS} {q : Nat} {v : V}
theorem ss_alloc {k : Nat} {o : VO} (h : k ∉ v.refs) : (S.ss q v).alloc k o = (S.alloc k o).ss q v := by
  unfold VS.alloc VS.ss
  congr 1
  funext i
  simp only [upd]
  split
  · exact mask_ne h
  · rfl
theorem ss_setO {k : Nat} {o : VO} : (S.ss q v).setO k o = (S.setO k o).ss q v := rfl
theorem ss_free {k : Nat} : (S.ss q v).free k = S.free k := id rfl
theorem ss_fz {k : Nat} (h : k ∈ v.refs → 50000 ≤ k) : (S.ss q v).fz k = (S.fz k).ss q v := by
  unfold VS.fz VS.ss
  simp only
  split
  · split
    · rename_i hlt
      congr 1
      funext i
      simp only [upd]
      split
      · exact fz_ne v fun hk => by have := h hk; omega
      · rfl
    · rfl
  · rfl
theorem ss_fzs : ∀ (l : List Nat) {S : VS}, (∀ k ∈ l, k ∈ v.refs → 50000 ≤ k) → (S.ss q v).fzs l = (S.fzs l).ss q v
  | [], S, _ => rfl
  | k :: l, S, h => by
    simp only [VS.fzs, List.foldl_cons]
    rw [ss_fz (h k (by simp))]
    exact ss_fzs l fun j hj => h j (by simp [hj])
theorem ss_like {looks : List Nat} (h : q ∉ looks) : Alike S (S.ss q v) looks := ⟨fun j hj => upd_ne _ _ fun e => h (e ▸ hj), fun _ _ _ _ => rfl⟩
theorem ss_reach : ∀ (n : Nat) (l acc : List Nat), (S.ss q v).reach n l acc = S.reach n l acc
  | 0, _, _ => rfl
  | _ + 1, [], _ => rfl
  | n + 1, k :: l, acc => by
    simp only [VS.reach]
    split
    · exact ss_reach n l acc
    · exact ss_reach n _ _
theorem ss_src {y : Ty} {x : V} : (S.ss q v).src y x = S.src y x := id rfl
theorem ss_back {ks : List Nat} {os : List VO} {g : Nat → Nat} : (S.ss q v).back ks os g = (S.back ks os g).ss q v := rfl
theorem ss_allocs : ∀ (l : List (Nat × VO)) {S : VS}, (∀ p ∈ l, p.1 ∈ v.refs → 50000 ≤ p.1) → (S.ss q v).allocs l = (S.allocs l).map (VS.ss · q v)
  | [], S, _ => rfl
  | (k, o) :: l, S, h => by
    simp only [VS.allocs, ss_free]
    by_cases hc : (S.free k && o.refs.isEmpty) = true
    · rw [if_pos hc, if_pos hc, ss_alloc fun hk => by
        simp only [Bool.and_eq_true] at hc
        have := h (k, o) (by simp) hk
        have := free_lt5 hc.1
        omega]
      exact ss_allocs l fun p hp => h p (by simp [hp])
    · rw [if_neg hc, if_neg hc]
      rfl
theorem ss_set {d : Option Nat} {u : V} (h : d ≠ some q) : (S.ss q v).set d u = (S.set d u).ss q v := by
  cases d with
  | none => rfl
  | some d =>
    simp only [VS.set, VS.ss]
    congr 1
    funext i
    simp only [upd]
    split
    · rename_i hi
      subst hi
      rw [if_neg fun e => h (by rw [e])]
    · rfl
theorem ss_putR {β : Type} {n : Nat} {d : Option Nat} {u : V} {K : VS → Option β} (h : d ≠ some q) : putR n (S.ss q v) d u K = putR n S d u fun S' => K (S'.ss q v) := by
  cases d with
  | none => rfl
  | some d =>
    simp only [putR]
    rw [ss_set h]
end
end Go.Proofs.Ytnimpcffagidoaa.K
