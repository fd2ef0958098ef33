/-
  Regions whose order is open: what an operation looks at, and what it leaves alone.
-/
import Derived.Test.YtnimpcffagidoaaK16
namespace Go.Proofs.Ytnimpcffagidoaa.K
open Go.RowKit
set_option linter.unusedSimpArgs false
set_option linter.unusedVariables false

theorem br_bind {β γ : Type} (q : Bool) (a b : Option β) (K : β → Option γ) : (br q a b).bind K = br q (a.bind K) (b.bind K) := by cases q <;> rfl
section
variable {β : Type}
theorem nz_bind (v : V) (K : V → Option β) : nz v K = (nz v some).bind K := by unfold nz; split <;> rfl
theorem binTI_bind (k : IntKind) (a b : Int) (K : V → Option β) (op : BinOp) : binTI k a b K op = (binTI k a b some op).bind K := by
  cases op <;> simp only [binTI, br_bind, Option.bind_some, Option.bind_none]
theorem binTS_bind (a b : ByteArray) (K : V → Option β) (op : BinOp) : binTS a b K op = (binTS a b some op).bind K := by
  cases op <;> simp only [binTS, br_bind, Option.bind_some, Option.bind_none]
theorem binTB_bind (a b : Bool) (K : V → Option β) (op : BinOp) : binTB a b K op = (binTB a b some op).bind K := by
  cases op <;> simp only [binTB, Option.bind_some, Option.bind_none]
theorem binT_bind (bl : Bool) (op : BinOp) (x y : V) (K : V → Option β) : binT bl op x y K = (binT bl op x y some).bind K := by
  unfold binT
  split
  · split
    · exact binTI_bind ..
    · rfl
  · exact binTS_bind ..
  · split
    · exact binTB_bind ..
    · rfl
  · rfl
theorem ao_bind (S : VS) (K : V → Option β) (ao : AO) : ao.run S K = (ao.run S some).bind K := by
  cases ao with
  | mv x => exact nz_bind _ _
  | pick c a b =>
    simp only [AO.run]
    split
    · rw [br_bind, ← nz_bind, ← nz_bind]
    · rfl
  | fa off x => simp only [AO.run]; split <;> rfl
  | fd agg off n x =>
    simp only [AO.run]
    split
    · split
      · exact nz_bind _ _
      · rfl
    · rfl
  | ix sz x i =>
    simp only [AO.run]
    split
    · split
      · unfold ixT
        split
        · simp only [br_bind, Option.bind_some, Option.bind_none]
        · rfl
      · split
        · unfold ixM
          split
          · simp only [br_bind, Option.bind_some, Option.bind_none]
          · rfl
        · rfl
      · rfl
    · rfl
  | sx x i =>
    simp only [AO.run]
    split
    · simp only [sxT, br_bind, Option.bind_some, Option.bind_none]
    · rfl
  | bin bl op x y => exact binT_bind ..
  | nc x => simp only [AO.run]; split <;> rfl
  | nt x => simp only [AO.run]; split <;> rfl
  | ng x => simp only [AO.run]; split <;> rfl
  | cv k x => simp only [AO.run]; split <;> rfl
  | ext i x =>
    simp only [AO.run]
    split
    · split
      · exact nz_bind _ _
      · rfl
    · rfl
  | len q x =>
    cases q with
    | true => simp only [AO.run]; split <;> rfl
    | false =>
      simp only [AO.run]
      split
      · rfl
      · rfl
      · split <;> rfl
      · rfl
  | mx x y =>
    simp only [AO.run]
    split
    · split <;> rfl
    · rfl
  | mn x y =>
    simp only [AO.run]
    split
    · split <;> rfl
    · rfl
  | eqs neg ks x y =>
    simp only [AO.run]
    split
    · split <;> rfl
    · rfl
  | slc sz x lo hi top =>
    simp only [AO.run]
    split
    · split
      · split
        · simp only [slcT, br_bind, Option.bind_some, Option.bind_none]
        · rfl
      · rfl
    · split
      · simp only [br_bind, Option.bind_some, Option.bind_none]
      · rfl
    · rfl
  | sls x lo hi =>
    simp only [AO.run]
    split
    · split
      · simp only [slsT, br_bind, Option.bind_some, Option.bind_none]
      · rfl
    · rfl
  | bd init parts =>
    simp only [AO.run]
    split
    · split <;> rfl
    · rfl
  | lde agg n x => rfl
theorem ld_bind {TY : Nat → Option Ty} {own : Bool} {k : Nat} (S : VS) (K : VS → V → Option β) (agg : Bool) (n : Nat) (x : AX) : MO.run TY own k S K (.ld agg n x) = (MO.run TY false 0 S (fun _ v => some v) (.ld agg n x)).bind (K S) := by
  simp only [MO.run]
  split
  · split
    · split
      · exact nz_bind _ _
      · rfl
    · rfl
  · split
    · exact nz_bind _ _
    · rfl
  · split
    · split
      · unfold ldA
        rw [br_bind]
        congr 1
        split
        · exact nz_bind _ _
        · rfl
      · rfl
    · rfl
  · rfl
theorem bs_bind {TY : Nat → Option Ty} {k : Nat} (S : VS) (K : VS → V → Option β) (e sz len : Nat) (init : List D) (parts : List (Nat × Nat × AX)) (hp : partMs S.ts parts = []) :
    MO.run TY false k S K (.bs e sz len init parts) = (MO.run TY false 0 S (fun _ v => some v) (.bs e sz len init parts)).bind (K S) := by
  simp only [MO.run, hp, VS.fzs, List.foldl_nil]
  split
  · split
    · split
      · split
        · split
          · split <;> rfl
          · rfl
        · rfl
      · rfl
    · rfl
  · rfl
theorem rkq_bind (g : G) (S : VS) (K : V → Option β) (k : RK) : k.q g S K = (k.q g S some).bind K := by
  unfold RK.q
  split
  · exact ao_bind ..
  · rw [ld_bind S (fun _ v => K v), ld_bind S (fun _ v => some v)]
  · split
    · rename_i hp
      rw [bs_bind S (fun _ v => K v) _ _ _ _ _ hp, bs_bind S (fun _ v => some v) _ _ _ _ _ hp]
    · rfl
  · split <;> rfl
  · split
    · split
      · rw [br_bind]
        congr 1
        split <;> rfl
      · rfl
    · rfl
  · rfl
theorem roq_bind (g : G) (S : VS) (K : V → Option β) (r : RO) : r.q g S K = (r.q g S some).bind K := by
  unfold RO.q
  split
  · exact rkq_bind ..
  · split
    · split
      · rw [br_bind, ← rkq_bind]; rfl
      · rw [br_bind, ← rkq_bind]; rfl
    · rfl
    · rfl
end

/-! ### What a quiet operation looks at -/
section
variable {β : Type} {S T : VS}
/-- two states are alike where an operation looks -/
def Alike (S T : VS) (looks : List Nat) : Prop := (∀ j ∈ looks, T.ts j = S.ts j) ∧ ∀ j ∈ looks, ∀ k ∈ (S.ts j).refs, T.st k = S.st k
theorem Alike.sub {a b : List Nat} (h : Alike S T a) (hb : ∀ j ∈ b, j ∈ a) : Alike S T b := ⟨fun j hj => h.1 j (hb j hj), fun j hj => h.2 j (hb j hj)⟩
theorem xv_like {x : AX} (h : Alike S T x.looks) : x.xv T.ts = x.xv S.ts := by
  cases x with
  | t i => exact h.1 i (by simp [AX.looks])
  | c d => rfl
theorem xv_st {x : AX} (h : Alike S T x.looks) {k : Nat} (hk : k ∈ (x.xv S.ts).refs) : T.st k = S.st k := by
  cases x with
  | t i => exact h.2 i (by simp [AX.looks]) k hk
  | c d =>
    cases d with
    | v x => cases x <;> cases hk
    | _ => cases hk
theorem bnd_like {d : Int} {x : Option AX} (h : Alike S T (optL x)) : bndV T.ts d x = bndV S.ts d x := by
  cases x with
  | none => rfl
  | some x => simp only [bndV, xv_like (x := x) h]
theorem fill_like : ∀ {parts : List (Nat × Nat × AX)} {cells : List V}, Alike S T (parts.flatMap fun p => p.2.2.looks) → fillV T.ts cells parts = fillV S.ts cells parts
  | [], _, _ => rfl
  | (off, sz, x) :: r, cells, h => by
    have h1 : Alike S T x.looks := h.sub fun j hj => by simp [hj]
    have h2 : Alike S T (r.flatMap fun p => p.2.2.looks) := h.sub fun j hj => by
      simp only [List.flatMap_cons, List.mem_append]
      exact .inr hj
    simp only [fillV, xv_like h1]
    split
    · exact fill_like h2
    · rfl
theorem vals_like {l : List AX} (h : Alike S T (l.flatMap AX.looks)) : vals T.ts l = vals S.ts l := by
  refine List.map_congr_left fun x hx => xv_like (h.sub fun j hj => List.mem_flatMap.2 ⟨x, hx, hj⟩)
theorem ao_like {K : V → Option β} {ao : AO} (h : Alike S T ao.looks) : ao.run T K = ao.run S K := by
  have two : ∀ {x y : AX}, Alike S T (x.looks ++ y.looks) → Alike S T x.looks ∧ Alike S T y.looks := fun h => ⟨h.sub fun j hj => List.mem_append_left _ hj, h.sub fun j hj => List.mem_append_right _ hj⟩
  cases ao with
  | mv x => simp only [AO.run, xv_like (x := x) h]
  | pick c a b =>
    have h1 : Alike S T c.looks := h.sub fun j hj => by simp [AO.looks, hj]
    have h2 : Alike S T a.looks := h.sub fun j hj => by simp [AO.looks, hj]
    have h3 : Alike S T b.looks := h.sub fun j hj => by simp [AO.looks, hj]
    simp only [AO.run, xv_like h1, xv_like h2, xv_like h3]
  | fa off x => simp only [AO.run, xv_like (x := x) h]
  | fd agg off n x => simp only [AO.run, xv_like (x := x) h]
  | ix sz x i =>
    obtain ⟨h1, h2⟩ := two h
    simp only [AO.run, xv_like h1, xv_like h2]
    split
    · split
      · rfl
      · rename_i k hk
        rw [xv_st h1 (k := k) (by rw [hk]; simp [V.refs])]
      · rfl
    · rfl
  | sx x i =>
    obtain ⟨h1, h2⟩ := two h
    simp only [AO.run, xv_like h1, xv_like h2]
  | bin bl op x y =>
    obtain ⟨h1, h2⟩ := two h
    simp only [AO.run, xv_like h1, xv_like h2]
  | nc x => simp only [AO.run, xv_like (x := x) h]
  | nt x => simp only [AO.run, xv_like (x := x) h]
  | ng x => simp only [AO.run, xv_like (x := x) h]
  | cv k x => simp only [AO.run, xv_like (x := x) h]
  | ext i x => simp only [AO.run, xv_like (x := x) h]
  | len q x =>
    cases q with
    | true => simp only [AO.run, xv_like (x := x) h]
    | false =>
      simp only [AO.run, xv_like (x := x) h]
      split
      · rfl
      · rfl
      · rename_i k hk
        rw [xv_st (x := x) h (k := k) (by rw [hk]; simp [V.refs])]
      · rfl
  | mx x y =>
    obtain ⟨h1, h2⟩ := two h
    simp only [AO.run, xv_like h1, xv_like h2]
  | mn x y =>
    obtain ⟨h1, h2⟩ := two h
    simp only [AO.run, xv_like h1, xv_like h2]
  | eqs neg ks x y =>
    obtain ⟨h1, h2⟩ := two h
    simp only [AO.run, xv_like h1, xv_like h2]
  | slc sz x lo hi top =>
    have h1 : Alike S T x.looks := h.sub fun j hj => by simp [AO.looks, hj]
    have h2 : Alike S T (optL lo) := h.sub fun j hj => by simp [AO.looks, hj]
    have h3 : Alike S T (optL hi) := h.sub fun j hj => by simp [AO.looks, hj]
    have h4 : Alike S T (optL top) := h.sub fun j hj => by simp [AO.looks, hj]
    simp only [AO.run, xv_like h1, bnd_like h2, bnd_like h3, bnd_like h4]
  | sls x lo hi =>
    have h1 : Alike S T x.looks := h.sub fun j hj => by simp [AO.looks, hj]
    have h2 : Alike S T (optL lo) := h.sub fun j hj => by simp [AO.looks, hj]
    have h3 : Alike S T (optL hi) := h.sub fun j hj => by simp [AO.looks, hj]
    simp only [AO.run, xv_like h1, bnd_like h2, bnd_like h3]
  | bd init parts => simp only [AO.run, fill_like (parts := parts) h]
  | lde agg n x => rfl
theorem part_like {parts : List (Nat × Nat × AX)} (h : Alike S T (parts.flatMap fun p => p.2.2.looks)) : partMs T.ts parts = partMs S.ts parts := by
  unfold partMs
  rw [List.flatMap_def, List.flatMap_def]
  congr 1
  exact List.map_congr_left fun p hp => by rw [xv_like (h.sub fun j hj => List.mem_flatMap.2 ⟨p, hp, hj⟩)]
theorem rkq_like {g : G} {K : V → Option β} {k : RK} (h : Alike S T k.looks) : k.q g T K = k.q g S K := by
  unfold RK.q
  split
  · exact ao_like h
  · rename_i a n x
    have h : Alike S T x.looks := h
    simp only [MO.run, xv_like h]
    split
    · rename_i j o hx
      rw [xv_st h (k := j) (by rw [hx]; simp [V.refs])]
    · rfl
    · rename_i sz j i o hx
      rw [xv_st h (k := j) (by rw [hx]; simp [V.refs])]
    · rfl
  · rename_i e sz len init parts
    have h : Alike S T (parts.flatMap fun p => p.2.2.looks) := h
    rw [part_like h]
    split
    · rename_i hp
      have hp' : partMs T.ts parts = [] := by rw [part_like h]; exact hp
      simp only [MO.run, hp, hp', VS.fzs, List.foldl_nil, fill_like h]
      rfl
    · rfl
  · rename_i f caps
    have h : Alike S T (caps.flatMap AX.looks) := h
    rw [vals_like h]
  · rename_i f l
    have h : Alike S T (l.flatMap AX.looks) := h
    rw [vals_like h]
  · rfl
theorem roq_like {g : G} {K : V → Option β} {r : RO} (h : Alike S T r.looks) : r.q g T K = r.q g S K := by
  have hk : Alike S T r.k.looks := h.sub fun j hj => List.mem_append_right _ hj
  unfold RO.q
  split
  · exact rkq_like hk
  · rename_i s b hg
    have hs : T.ts s = S.ts s := h.1 s (by simp [RO.looks, hg])
    rw [hs]
    split
    · split <;> simp only [rkq_like hk]
    · rfl
    · rfl
end

/-! ### A quiet operation is one -/
section
variable {β : Type} {S : VS}
theorem rens_nil : ∀ {vs : List V} (f : Nat → Nat), V.refss vs = [] → V.rens f vs = vs := by
  have key : ∀ f : Nat → Nat, (∀ v : V, v.refs = [] → v.ren f = v) ∧ True := by
    intro f
    refine ⟨?_, trivial⟩
    intro v
    refine V.rec (motive_1 := fun v => v.refs = [] → v.ren f = v) (motive_2 := fun vs => V.refss vs = [] → V.rens f vs = vs) ?_ ?_ ?_ ?_ ?_ ?_ ?_ ?_ ?_ ?_ ?_ ?_ ?_ ?_ v
    · intros; rfl
    · intros; rfl
    · intro k o h; cases h
    · intro a b c d h; cases h
    · intros; rfl
    · intro k h; cases h
    · intro vs ih h; simp only [V.ren, ih h]
    · intro vs ih h; simp only [V.ren, ih h]
    · intro g vs ih h; simp only [V.ren, ih h]
    · intro n x ih h; simp only [V.ren, ih h]
    · intros; rfl
    · intros; rfl
    · intros; rfl
    · intro v vs ih1 ih2 h
      simp only [V.refss, List.append_eq_nil_iff] at h
      simp only [V.rens, ih1 h.1, ih2 h.2]
  intro vs f h
  induction vs with
  | nil => rfl
  | cons v vs ih =>
    simp only [V.refss, List.append_eq_nil_iff] at h
    simp only [V.rens, (key f).1 v h.1, ih h.2]
theorem ren_nil {v : V} (f : Nat → Nat) (h : v.refs = []) : v.ren f = v := by
  have := rens_nil (vs := [v]) f (by simp [V.refss, h])
  simpa [V.rens] using this
theorem mss_refs : ∀ (vs : List V), V.refss vs = [] → V.msss vs = [] := by
  have key : ∀ v : V, v.refs = [] → v.mss = [] := by
    intro v
    refine V.rec (motive_1 := fun v => v.refs = [] → v.mss = []) (motive_2 := fun vs => V.refss vs = [] → V.msss vs = []) ?_ ?_ ?_ ?_ ?_ ?_ ?_ ?_ ?_ ?_ ?_ ?_ ?_ ?_ v
    · intros; rfl
    · intros; rfl
    · intros; rfl
    · intros; rfl
    · intros; rfl
    · intro k h; cases h
    · intro vs ih h; exact ih h
    · intro vs ih h; exact ih h
    · intro g vs ih h; exact ih h
    · intro n x ih h; exact ih h
    · intros; rfl
    · intros; rfl
    · intros; rfl
    · intro v vs ih1 ih2 h
      simp only [V.refss, List.append_eq_nil_iff] at h
      simp only [V.msss, ih1 h.1, ih2 h.2, List.append_nil]
  intro vs h
  induction vs with
  | nil => rfl
  | cons v vs ih =>
    simp only [V.refss, List.append_eq_nil_iff] at h
    simp only [V.msss, key v h.1, ih h.2, List.append_nil]
theorem refss_nil {vs : List V} (h : (vs.all fun v => v.good && v.refs.isEmpty) = true) : V.refss vs = [] ∧ vs.all V.good = true := by
  induction vs with
  | nil => exact ⟨rfl, rfl⟩
  | cons v vs ih =>
    simp only [List.all_cons, Bool.and_eq_true, List.isEmpty_iff] at h
    obtain ⟨h1, h2⟩ := ih h.2
    exact ⟨by simp only [V.refss, h.1.2, h1, List.append_nil], by simp only [List.all_cons, h.1.1, h2, Bool.and_self]⟩
theorem callR_quiet {F : List V → List VO → Option (Bool × V × List VO)} {vs : List V} {d : Nat} {K : VS → V → Option β} {q : Bool} {r : V} (hv : V.refss vs = []) (hF : F vs [] = some (q, r, [])) (hr : r.refs = []) : callR F S vs d K = br q (K S r) none := by
  have hreach : S.reach 20 (V.refss vs) [] = [] := by rw [hv]; rfl
  have hl : S.lends vs [] = true := by simp [VS.lends, hv]
  have hb : backOk [] (imps d 0) r [] = true := by simp [backOk, imps, hr]
  have hback : S.back [] [] (kr [] (imps d 0)) = S := by
    unfold VS.back
    cases S
    simp
  unfold callR
  simp only [hreach, hl, if_true, rens_nil _ hv, List.map_nil, hF, List.length_nil, Nat.sub_zero, hb, hback, List.drop_nil, List.zip_nil_right, VS.allocs, ren_nil _ hr]
theorem rkq_run {g : G} {dst : Option Nat} {K : VS → Option β} {x : β} {k : RK} {ks : List Nat} (hq : k.quick g.own dst ks = true) (h : (k.q g S fun v => putR g.n S dst v K) = some x) : k.run g S dst K = some x := by
  unfold RK.q at h
  split at h
  · exact h
  · rename_i a n y
    simp only [RK.run]
    rw [ld_bind S] at h ⊢
    exact h
  · rename_i e sz len init parts
    split at h
    · rename_i hp
      simp only [RK.quick, Bool.not_eq_true'] at hq
      simp only [RK.run, hq]
      rw [bs_bind S _ _ _ _ _ _ hp] at h ⊢
      exact h
    · cases h
  · exact h
  · rename_i f l
    split at h
    · rename_i hv
      obtain ⟨h1, h2⟩ := refss_nil hv
      split at h
      · rename_i q r hE
        obtain ⟨rfl, h⟩ := br_none h
        split at h
        · rename_i hr
          have hr : r.refs = [] := by simpa using hr
          have hfr : frz g f S (vals S.ts l) = S := by
            unfold frz
            rw [mss_refs _ h1]
            split <;> rfl
          simp only [RK.run, hfr, callA, h2, if_true]
          rw [callR_quiet h1 hE hr]
          exact h
        · cases h
      · cases h
    · cases h
  · cases h
theorem roq_run {g : G} {K : VS → Option β} {x : β} {r : RO} {ks : List Nat} (hq : r.k.quick g.own r.dst ks = true) (h : (r.q g S fun v => putR g.n S r.dst v K) = some x) : r.run g S K = some x := by
  unfold RO.q at h
  unfold RO.run
  split at h
  · rename_i hg
    simp only [hg]
    exact rkq_run hq h
  · rename_i s b hg
    simp only [hg]
    split at h
    · rename_i q hs
      simp only [hs]
      cases b with
      | true =>
        rcases br_some h with ⟨rfl, h⟩ | ⟨rfl, h⟩
        · exact rkq_run hq h
        · exact h
      | false =>
        rcases br_some h with ⟨rfl, h⟩ | ⟨rfl, h⟩
        · exact h
        · exact rkq_run hq h
    · rename_i hs
      simp only [hs]
      exact h
    · cases h
theorem stepD_run {g : G} {K : VS → Option β} {x : β} {r : RO} {ks : List Nat} (h : stepD g S K r ks = some x) : r.run g S K = some x := by
  unfold stepD at h
  split at h
  · split at h
    · rename_i hq
      refine roq_run hq ?_
      rw [roq_bind] at h ⊢
      obtain ⟨v, h1, h2⟩ := Option.bind_eq_some_iff.1 h
      rw [h1]
      split at h2
      · exact h2
      · cases h2
    · split at h
      · exact h
      · cases h
  · cases h
end
end Go.Proofs.Ytnimpcffagidoaa.K
