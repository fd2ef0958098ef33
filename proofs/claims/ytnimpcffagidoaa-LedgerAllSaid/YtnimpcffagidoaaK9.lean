/-
  What the operations on own variables and slices make of a state, and that they do so.
-/
import Derived.Test.YtnimpcffagidoaaK8
namespace Go.Proofs.Ytnimpcffagidoaa.K
open Go.RowKit
set_option linter.unusedSimpArgs false
set_option linter.unusedVariables false

section
variable {β : Type}
/-- the elements of a slice of a type -/
def VS.src (S : VS) (y : Ty) : V → Option (List y.T)
  | .t (.sl y') l => if h : y' = y then some (h ▸ l) else none
  | .c (.slice none 0 0) => some []
  | .ms k => match S.st k with
    | .arr _ y' l => if h : y' = y then some (h ▸ l) else none
    | _ => none
  | _ => none
def ldA (y : Ty) (l : List y.T) (i o n : Nat) (agg : Bool) (K : V → Option β) : Option β :=
  br (decide (i < l.length)) (match y.sub true (l.getD i y.zero) o n agg with
    | some v => nz v K
    | none => none) none
def stA (e : Nat) (y : Ty) (l : List y.T) (i o n : Nat) (v : V) (K : VO → Option β) : Option β :=
  br (decide (i < l.length)) (match (V.t y (l.getD i y.zero)).put o n v with
    | some z => match z.as y with
      | some x => K (.arr e y (l.set i x))
      | none => none
    | none => none) none
def bsA (own : Bool) (S : VS) (k e : Nat) (y : Ty) (l : List y.T) (K : VS → V → Option β) : Option β :=
  if own = true then (if S.free k = true then K (S.alloc k (.arr e y l)) (.ms k) else none) else K S (.t (.sl y) l)
/-- cells that speak of k are forgotten -/
def V.dimc (k : Nat) : V → V
  | .ag vs => .ag (vs.map fun v => if v.refs.contains k = true then .un else v)
  | v => v
def VO.dim (k : Nat) : VO → VO
  | .box v => .box (v.dimc k)
  | o => o
def VS.dim (S : VS) (k : Nat) : VS := ⟨S.ts, fun i => (S.st i).dim k, S.dom⟩
def appA (S : VS) (k e bytes : Nat) (y : Ty) (l l2 : List y.T) (K : VS → V → Option β) : Option β :=
  br (decide ((l.length + l2.length) * (bytes + 1) ≤ 140737488355328)) (if S.free k = true then K (S.alloc k (.arr e y (l ++ l2))) (.ms k) else none) none
/-- own slices in the parts of a literal -/
def partMs (e : Env) (parts : List (Nat × Nat × AX)) : List Nat := parts.flatMap fun p => (p.2.2.xv e).mss

/-- what an operation makes: TY the types of elements; own: is a new slice to be an own one?; k: the number of a new own thing -/
def MO.run (TY : Nat → Option Ty) (own : Bool) (k : Nat) (S : VS) (K : VS → V → Option β) : MO → Option β
  | .pu ao => ao.run S (K S)
  | .new zs => if (zs.all fun d => (ofD d).one) = true then
      (if S.free k = true then K (S.alloc k (.box (.ag (zs.map ofD)))) (.ptr k 0) else none) else none
  | .box x => if ((x.xv S.ts).good && ((x.xv S.ts).cellable && !(x.xv S.ts).refs.contains k)) = true then
      (if S.free k = true then K (S.alloc k (.box (x.xv S.ts))) (.ptr k 0) else none) else none
  | .ld agg n x => match x.xv S.ts with
    | .ptr j o => match S.st j with
      | .box c => match c.sub true o n agg with
        | some v => nz v (K S)
        | none => none
      | _ => none
    | .el y z o => match y.sub true z o n agg with
      | some v => nz v (K S)
      | none => none
    | .pa sz j i o => match S.st j with
      | .arr _ y l => if y.sz = sz then ldA y l i o n agg (K S) else none
      | _ => none
    | _ => none
  | .st n x y => if (y.xv S.ts).good = true then match x.xv S.ts with
    | .ptr j o => match S.st j with
      | .box c => match c.put o n (y.xv S.ts) with
        | some c' => K (S.setO j (.box c')) .un
        | none => none
      | _ => none
    | .pa sz j i o => match S.st j with
      | .arr e t l => if t.sz = sz then stA e t l i o n (y.xv S.ts) (fun ob => K (S.setO j ob) .un) else none
      | _ => none
    | _ => none
    else none
  | .bs e sz len init parts => if (init.all fun d => (ofD d).one) = true then match TY e with
    | some y => if y.sz = sz then match fillV (S.fzs (partMs S.ts parts)).ts (init.map ofD) parts with
      | some vs => match y.rds len vs with
        | some l => if len ≤ 140737488355328 then bsA own (S.fzs (partMs S.ts parts)) k e y l K else none
        | none => none
      | none => none
      else none
    | none => none
    else none
  | .app e sz bytes x y => match x.xv S.ts with
    | .c (.slice none 0 0) => match TY e with
      | some t => if t.sz = sz then match S.src t (y.xv S.ts) with
        | some l2 => appA S k e bytes t [] l2 K
        | none => none
        else none
      | none => none
    | .ms j => match S.st j with
      | .arr e' t l => if (e' == e && t.sz == sz) = true then match S.src t (y.xv S.ts) with
        | some l2 => appA (S.dim j) j e bytes t l l2 K
        | none => none
        else none
      | _ => none
    | _ => none
end

section
variable {B : Base} {X X' : Nat → Nat → Prop} {w w' : World} {σ σ' : Pl} {st : Nat → VO} {n : Nat} {S : VS} {us : List Value} {P : Program}
mutual
theorem fz_c {k : Nat} {y : Ty} {l : List y.T} {e : Nat} (hk : OAt X w σ k (.arr e y l)) (ex : Ext X w X' w) (hX : ∀ u b, σ k = .arr u → u.ownBlock = some b → ∀ q, ¬ X' b q) : ∀ (v : V) (u : Value), C X w σ v.d u → C X' w σ (v.fz k y l).d u
  | .ms j, u, h => by
    simp only [V.fz]
    split
    · rename_i hj
      subst hj
      obtain ⟨u', xs, h1, h2, h3, h4, h5⟩ := hk
      simp only [V.d, C] at h
      rw [h1] at h
      obtain ⟨h, _⟩ := h
      injection h with h
      subst h
      simp only [V.d, Ty.d, C]
      rcases h2.2 with ⟨a6, a7⟩ | ⟨g, cap, cur, a6, _, a8, a9, a10, a11, a12⟩
      · rw [a7]
        have : l = [] := List.eq_nil_of_length_eq_zero a7
        exact ⟨none, 0, a6, Nat.le_refl _, by simp [maxLen], fun _ => by rw [this]; rfl, fun q => absurd q (by simp)⟩
      · refine ⟨_, cap, a6, a9, a10, fun h0 => ?_, fun _ => ⟨g, 0, xs, rfl, Cs.ext ex _ _ (fun r hr => by simp [y.refs_flat] at hr) h3, ?_⟩⟩
        · have : l = [] := List.eq_nil_of_length_eq_zero h0
          rw [this]; rfl
        · have hg : (u').ownBlock = some g := by rw [a6]; rfl
          refine ⟨(h2.lt g hg).2, fun j hj => hX u' g h1 hg _, fun j v hv => ?_, h4⟩
          have := h2.cells hg j v hv
          rwa [Addr.add_mid] at this
    · rename_i hj
      exact C.ext ex _ _ (fun _ _ => rfl) h
  | .pa sz j i o, u, h => by
    simp only [V.fz]
    split
    · exact C.any_ u
    · exact C.ext ex _ _ (fun _ _ => rfl) h
  | .ptr j o, u, h => by
    simp only [V.fz]
    split
    · exact C.any_ u
    · exact C.ext ex _ _ (fun _ _ => rfl) h
  | .ag vs, u, h => by
    simp only [V.fz, V.d, C] at h ⊢
    obtain ⟨us, h1, h2⟩ := h
    exact ⟨us, h1, fz_cs hk ex hX vs us h2⟩
  | .tu vs, u, h => by
    simp only [V.fz, V.d, C] at h ⊢
    obtain ⟨us, h1, h2⟩ := h
    exact ⟨us, h1, fz_cs hk ex hX vs us h2⟩
  | .fn f vs, u, h => by
    simp only [V.fz, V.d, C] at h ⊢
    obtain ⟨us, h1, h2⟩ := h
    exact ⟨us, h1, fz_cs hk ex hX vs us h2⟩
  | .ifc m x, u, h => by
    simp only [V.fz, V.d, C] at h ⊢
    obtain ⟨z, h1, h2⟩ := h
    exact ⟨z, h1, fz_c hk ex hX x z h2⟩
  | .t y' x, u, h => C.ext ex _ _ (fun _ _ => rfl) h
  | .c x, u, h => C.ext ex _ _ (fun _ _ => rfl) h
  | .el y' x o, u, h => C.ext ex _ _ (fun _ _ => rfl) h
  | .ud, u, h => C.ext ex _ _ (fun _ _ => rfl) h
  | .un, u, h => C.ext ex _ _ (fun _ _ => rfl) h
theorem fz_cs {k : Nat} {y : Ty} {l : List y.T} {e : Nat} (hk : OAt X w σ k (.arr e y l)) (ex : Ext X w X' w) (hX : ∀ u b, σ k = .arr u → u.ownBlock = some b → ∀ q, ¬ X' b q) : ∀ (vs : List V) (us : List Value), Cs X w σ (V.ds vs) us → Cs X' w σ (V.ds (V.fzs k y l vs)) us
  | [], us, h => by simpa only [V.ds, V.fzs, Cs] using h
  | v :: vs, us, h => by
    simp only [V.ds, V.fzs, Cs] at h ⊢
    obtain ⟨u, us', rfl, h2, h3⟩ := h
    exact ⟨u, us', rfl, fz_c hk ex hX v u h2, fz_cs hk ex hX vs us' h3⟩
end
theorem fz_cells {k : Nat} {y : Ty} {l : List y.T} {e : Nat} (hk : OAt X w σ k (.arr e y l)) (ex : Ext X w X' w) (hX : ∀ u b, σ k = .arr u → u.ownBlock = some b → ∀ q, ¬ X' b q) (v : V) {us : List Value} (h : Cs X w σ v.d.cells us) : Cs X' w σ (v.fz k y l).d.cells us := by
  cases v with
  | ag vs => exact fz_cs hk ex hX vs us h
  | t y' x =>
    simp only [V.fz, V.d, Ty.d_cells] at h ⊢
    exact Cs.ext ex _ _ (fun _ _ => rfl) h
  | ms j =>
    simp only [V.d, D.cells] at h
    obtain ⟨u, rfl, h1⟩ := h.one
    have h2 := fz_c hk ex hX (.ms j) u h1
    simp only [V.fz] at h2 ⊢
    split
    · rename_i hj
      rw [if_pos hj] at h2
      exact Cs.mk1 h2
    · rename_i hj
      rw [if_neg hj] at h2
      exact Cs.mk1 h2
  | pa sz j i o =>
    simp only [V.d, D.cells] at h
    obtain ⟨u, rfl, h1⟩ := h.one
    have h2 := fz_c hk ex hX (.pa sz j i o) u h1
    simp only [V.fz] at h2 ⊢
    split
    · rename_i hj
      rw [if_pos hj] at h2
      exact Cs.mk1 h2
    · rename_i hj
      rw [if_neg hj] at h2
      exact Cs.mk1 h2
  | ptr j o =>
    simp only [V.d, D.cells] at h
    obtain ⟨u, rfl, h1⟩ := h.one
    have h2 := fz_c hk ex hX (.ptr j o) u h1
    simp only [V.fz] at h2 ⊢
    split
    · rename_i hj
      rw [if_pos hj] at h2
      exact Cs.mk1 h2
    · rename_i hj
      rw [if_neg hj] at h2
      exact Cs.mk1 h2
  | tu vs =>
    obtain ⟨u, rfl, h1⟩ := h.one
    exact Cs.mk1 (fz_c hk ex hX (.tu vs) u h1)
  | fn f vs =>
    obtain ⟨u, rfl, h1⟩ := h.one
    exact Cs.mk1 (fz_c hk ex hX (.fn f vs) u h1)
  | ifc m x =>
    obtain ⟨u, rfl, h1⟩ := h.one
    exact Cs.mk1 (fz_c hk ex hX (.ifc m x) u h1)
  | c x => exact Cs.ext ex _ _ (fun _ _ => rfl) h
  | el y' x o => exact Cs.ext ex _ _ (fun _ _ => rfl) h
  | ud => exact Cs.ext ex _ _ (fun _ _ => rfl) h
  | un => exact Cs.ext ex _ _ (fun _ _ => rfl) h
/-- an own slice becomes one that nobody writes any more -/
theorem At.fz (h : At B X w σ n S us) (k : Nat) : ∃ X', At B X' w σ n (S.fz k) us ∧ Ext X w X' w := by
  unfold VS.fz
  split
  · rename_i e y l hst
    split
    · rename_i hk
      have hat := h.ti.obj k
      rw [hst] at hat
      let X' : Nat → Nat → Prop := fun b q => X b q ∧ (σ k).blk ≠ some b
      have ex : Ext X w X' w := ⟨Nat.le_refl _, fun b q _ hx => ⟨fun hx' => hx hx'.1, rfl⟩⟩
      have hX : ∀ u b, σ k = .arr u → u.ownBlock = some b → ∀ q, ¬ X' b q := fun u b h1 h2 q hx => hx.2 (by rw [h1]; exact h2)
      refine ⟨X', ⟨⟨fun b q hx => h.ti.fin b q hx.1, fun j => ?_, ?_, ?_, h.ti.fr, ?_, h.ti.lnt⟩, ⟨h.rel.len, fun i u hu => fz_c hat ex hX _ u (h.rel.at_ i u hu), fun i hi => by simp only [h.rel.out i hi, V.fz]⟩, ?_⟩, ex⟩
      · by_cases hjk : j = k
        · simp only [if_pos hjk]; trivial
        · simp only [if_neg hjk]
          have hj := h.ti.obj j
          cases ho : S.st j with
          | no => trivial
          | box v =>
            rw [ho] at hj
            obtain ⟨b, ty, vs, h1, h2, h3, h4⟩ := hj
            refine ⟨b, ty, vs, h1, h2, fz_cells hat ex hX v h3, fun q => ⟨h4 q, fun hb => ?_⟩⟩
            exact h.ti.apart k j b (Ne.symm hjk) (by rw [hst]; simp) (by rw [ho]; simp) hb (by rw [h1]; rfl)
          | arr e' y' l' =>
            rw [ho] at hj
            obtain ⟨u, xs, h1, h2, h3, h4, h5⟩ := hj
            refine ⟨u, xs, h1, h2, Cs.ext ex _ _ (fun _ _ => rfl) h3, h4, fun b hb q => ⟨h5 b hb q, fun hb' => ?_⟩⟩
            exact h.ti.apart k j b (Ne.symm hjk) (by rw [hst]; simp) (by rw [ho]; simp) hb' (by rw [h1]; exact hb)
      · intro i j b hij hi hj hb
        simp only at hi hj
        split at hi
        · exact absurd rfl hi
        · split at hj
          · exact absurd rfl hj
          · have g : ∀ o : VO, o.fz k y l ≠ .no → o ≠ .no := fun o ho hn => ho (by rw [hn]; rfl)
            exact h.ti.apart i j b hij (g _ hi) (g _ hj) hb
      · intro j b hj hb
        simp only at hj
        split at hj
        · exact absurd rfl hj
        · have g : ∀ o : VO, o.fz k y l ≠ .no → o ≠ .no := fun o ho hn => ho (by rw [hn]; rfl)
          exact h.ti.own j b (g _ hj) hb
      · intro b q hb
        refine ⟨fun hx => (h.ti.old b q hb).1 hx.1, fun hx => ⟨(h.ti.old b q hb).2 hx, fun hb' => ?_⟩⟩
        rcases h.ti.own k b (by rw [hst]; simp) hb' with h1 | h1
        · have := h1.1; simp only [lentK] at this; omega
        · omega
      · intro j hj
        simp only at hj
        split at hj
        · exact absurd rfl hj
        · have g : ∀ o : VO, o.fz k y l ≠ .no → o ≠ .no := fun o ho hn => ho (by rw [hn]; rfl)
          exact h.dom j (g _ hj)
    · exact ⟨X, h, Ext.refl X w⟩
  · exact ⟨X, h, Ext.refl X w⟩
theorem At.fzs (h : At B X w σ n S us) (ks : List Nat) : ∃ X', At B X' w σ n (S.fzs ks) us ∧ Ext X w X' w := by
  induction ks generalizing X S with
  | nil => exact ⟨X, h, Ext.refl X w⟩
  | cons k ks ih =>
    obtain ⟨X1, h1, e1⟩ := h.fz k
    obtain ⟨X2, h2, e2⟩ := ih h1
    exact ⟨X2, h2, e1.trans e2⟩
end
end Go.Proofs.Ytnimpcffagidoaa.K
