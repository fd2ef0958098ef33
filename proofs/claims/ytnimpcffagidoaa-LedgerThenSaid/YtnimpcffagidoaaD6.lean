/-
  Walks by values: regions whose order is open.
-/
import Derived.Test.YtnimpcffagidoaaD5
namespace Go.Proofs.Ytnimpcffagidoaa
open Go.RowKit
set_option linter.unusedSimpArgs false
set_option linter.unusedVariables false

def AX.looks : AX → List Nat
  | .t i => [i]
  | .c _ => []
def optL : Option AX → List Nat
  | none => []
  | some x => x.looks
def AO.looks : AO → List Nat
  | .mv x | .fa _ x | .fd _ _ _ x | .nc x | .nt x | .ng x | .cv _ x | .ext _ x | .len _ x | .lde _ _ x => x.looks
  | .pick c a b => c.looks ++ a.looks ++ b.looks
  | .slc _ x a b c => x.looks ++ (optL a ++ (optL b ++ optL c))
  | .sls x a b => x.looks ++ (optL a ++ optL b)
  | .eqs _ _ x y | .ix _ x y | .sx x y | .bin _ _ x y | .mx x y | .mn x y => x.looks ++ y.looks
  | .bd _ l => l.flatMap fun p => p.2.2.looks
def MO.looks : MO → List Nat
  | .pu ao => ao.looks
  | .new _ => []
  | .box x | .ld _ _ x => x.looks
  | .st _ x y => x.looks ++ y.looks
  | .bs _ _ _ _ l => l.flatMap fun p => p.2.2.looks
  | .app _ _ _ x y => x.looks ++ y.looks
def RK.looks : RK → List Nat
  | .m mo => mo.looks
  | .call _ l => l.flatMap AX.looks
  | _ => []
def RO.looks (r : RO) : List Nat := (match r.g with | some (s, _) => [s] | none => []) ++ r.k.looks

section
variable {ts : List D} {lo : List LO} {q : Nat} {e : D}
theorem val_set {x : AX} (h : q ∉ x.looks) : x.val (ts.set q e) = x.val ts := by
  cases x with
  | t i =>
    simp only [AX.looks, List.mem_singleton] at h
    simp only [AX.val]
    rw [List.getElem?_set_ne h]
  | c d => rfl
theorem fill_set : ∀ {l : List (Nat × Nat × AX)} {cs : List D}, q ∉ (l.flatMap fun p => p.2.2.looks) → fillD (ts.set q e) cs l = fillD ts cs l
  | [], cs, _ => rfl
  | (off, sz, x) :: l, cs, h => by
    simp only [List.flatMap_cons, List.mem_append, not_or] at h
    simp only [fillD, val_set h.1, fill_set h.2]
theorem bnd_set {a : Option AX} {j : Int} (h : q ∉ optL a) : bndD (ts.set q e) j a = bndD ts j a := by
  cases a with
  | none => rfl
  | some x => simp only [optL] at h; simp only [bndD, val_set h]
theorem ev_set {ao : AO} (h : q ∉ ao.looks) : ao.ev (ts.set q e) = ao.ev ts := by
  cases ao with
  | fd agg off n x => cases agg <;> (simp only [AO.looks] at h; simp only [AO.ev, val_set h])
  | len str x => cases str <;> (simp only [AO.looks] at h; simp only [AO.ev, val_set h])
  | bd a b => simp only [AO.looks] at h; simp only [AO.ev, fill_set h]
  | pick c a b =>
    simp only [AO.looks, List.mem_append, not_or] at h
    simp only [AO.ev, val_set h.1.1, val_set h.1.2, val_set h.2]
  | slc sz x a b c =>
    simp only [AO.looks, List.mem_append, not_or] at h
    simp only [AO.ev, val_set h.1, bnd_set h.2.1, bnd_set h.2.2.1, bnd_set h.2.2.2]
  | sls x a b =>
    simp only [AO.looks, List.mem_append, not_or] at h
    simp only [AO.ev, val_set h.1, bnd_set h.2.1, bnd_set h.2.2]
  | eqs a b x y => simp only [AO.looks, List.mem_append, not_or] at h; simp only [AO.ev, val_set h.1, val_set h.2]
  | ix sz x y => simp only [AO.looks, List.mem_append, not_or] at h; simp only [AO.ev, val_set h.1, val_set h.2]
  | sx x y => simp only [AO.looks, List.mem_append, not_or] at h; simp only [AO.ev, val_set h.1, val_set h.2]
  | bin bl op x y => simp only [AO.looks, List.mem_append, not_or] at h; simp only [AO.ev, val_set h.1, val_set h.2]
  | mx x y => simp only [AO.looks, List.mem_append, not_or] at h; simp only [AO.ev, val_set h.1, val_set h.2]
  | mn x y => simp only [AO.looks, List.mem_append, not_or] at h; simp only [AO.ev, val_set h.1, val_set h.2]
  | _ => simp only [AO.looks] at h; simp only [AO.ev, val_set h]
theorem mev_set {mo : MO} (h : q ∉ mo.looks) : mo.ev (ts.set q e) lo = mo.ev ts lo := by
  cases mo with
  | pu ao => simp only [MO.looks] at h; simp only [MO.ev, ev_set h]
  | new zs => simp only [MO.ev]
  | box x => simp only [MO.looks] at h; simp only [MO.ev, val_set h]
  | ld agg n x => simp only [MO.looks] at h; simp only [MO.ev, val_set h]
  | st n x y => simp only [MO.looks, List.mem_append, not_or] at h; simp only [MO.ev, val_set h.1, val_set h.2]
  | bs a b c d l => simp only [MO.looks] at h; simp only [MO.ev, fill_set h]
  | app a b c x y => simp only [MO.looks, List.mem_append, not_or] at h; simp only [MO.ev, val_set h.1, val_set h.2]
theorem vals_set : ∀ {l : List AX}, q ∉ l.flatMap AX.looks → vals (ts.set q e) l = vals ts l
  | [], _ => rfl
  | x :: l, h => by
    simp only [List.flatMap_cons, List.mem_append, not_or] at h
    simp only [vals, val_set h.1, vals_set h.2]
theorem geff_set {s : Nat} {b : Bool} (h : q ≠ s) : geff (ts.set q e) s b = geff ts s b := by
  simp only [geff]
  rw [List.getElem?_set_ne h]
end

/-- an operation whose value is settled: it reads, or it is a call of which the contract names the value -/
def Settled (P : Program) (G : Prop) (k : RK) (ts : List D) (lo : List LO) (d : D) : Prop :=
  match k with
  | .m mo => mo.reads = true ∧ (G → ∃ φ, mo.ev ts lo = some (d, lo, φ) ∧ φ)
  | .call f xs => G → ∃ ds φ, vals ts xs = some (ds, φ) ∧ φ ∧ ds.all D.cl1 = true ∧ ACalls P f [] ds (fun r nl => r = d ∧ nl = [])
  | _ => False
/-- what a settled operation lays into its slot -/
def settle (P : Program) (r : RO) (ts : List D) (lo : List LO) (d : D) : Prop :=
  match r.g with
  | none => Settled P True r.k ts lo d
  | some (s, b) => ∃ g d', geff ts s b = some g ∧ d = .gd g d' ∧ Settled P (g = true) r.k ts lo d'
/-- one operation, run -/
def stepU (P : Program) (dst : Option Nat) (k : RK) (S : St) (K : St → Prop) : Prop :=
  match k with
  | .m mo => ∃ d lo' φ, mo.ev S.ts S.lo = some (d, lo', φ) ∧ φ ∧ K ⟨setD S.ts dst d, lo', S.no⟩
  | .call f xs => (∃ ds φ nl fr R, vals S.ts xs = some (ds, φ) ∧ φ ∧ ds.all D.cl1 = true ∧ S.no.Perm (nl ++ fr) ∧ ACalls P f nl ds R ∧ ∀ d nl', R d nl' → K ⟨setD S.ts dst d, S.lo, nl' ++ fr⟩) ∨
    (∃ k cs ds φ, ∃ R : Nat → D → List NO → Prop, S.lo[k]? = some (.hid cs) ∧ vals S.ts xs = some (ds, φ) ∧ φ ∧ ds.all (D.clk k) = true ∧ (∀ g, ACalls P f [.box g cs] (ds.map (lendD k g)) (R g)) ∧ ∀ g d nl', R g d nl' → ∃ cs', nl' = [.box g cs'] ∧ K ⟨setD S.ts dst d, S.lo.set k (.hid cs'), S.no⟩)
  | _ => False
def stepA (P : Program) (r : RO) (S : St) (K : St → Prop) : Prop :=
  (∃ d, settle P r S.ts S.lo d ∧ K ⟨setD S.ts r.dst d, S.lo, S.no⟩) ∨
  (match r.g with
   | none => stepU P r.dst r.k S K
   | some (s, b) => ∃ g, geff S.ts s b = some g ∧ (g = true → stepU P r.dst r.k S K) ∧ (g = false → K ⟨setD S.ts r.dst .any, S.lo, S.no⟩))

section
variable {P : Program} {r : RO} {S : St}
theorem stepU.mono {dst : Option Nat} {k : RK} {K K' : St → Prop} (hk : ∀ S, K S → K' S) (h : stepU P dst k S K) : stepU P dst k S K' := by
  cases k with
  | m mo => obtain ⟨d, lo', φ, h1, h2, h3⟩ := h; exact ⟨d, lo', φ, h1, h2, hk _ h3⟩
  | call f xs =>
    rcases h with ⟨ds, φ, nl, fr, R, h1, h2, h3, h4, h5, h6⟩ | ⟨k, cs, ds, φ, R, h1, h2, h3, h4, h5, h6⟩
    · exact .inl ⟨ds, φ, nl, fr, R, h1, h2, h3, h4, h5, fun d nl' hr => hk _ (h6 d nl' hr)⟩
    · exact .inr ⟨k, cs, ds, φ, R, h1, h2, h3, h4, h5, fun g d nl' hr => let ⟨cs', q1, q2⟩ := h6 g d nl' hr; ⟨cs', q1, hk _ q2⟩⟩
  | _ => exact h
theorem stepA.mono {K K' : St → Prop} (hk : ∀ S, K S → K' S) (h : stepA P r S K) : stepA P r S K' := by
  rcases h with ⟨d, h1, h2⟩ | h
  · exact .inl ⟨d, h1, hk _ h2⟩
  · right
    cases hg : r.g with
    | none => rw [hg] at h; exact h.mono hk
    | some sb =>
      obtain ⟨s, b⟩ := sb
      rw [hg] at h
      obtain ⟨g, h1, h2, h3⟩ := h
      exact ⟨g, h1, fun q => (h2 q).mono hk, fun q => hk _ (h3 q)⟩
end

def rdy (ds : List DO) (l : List Bool) : List Nat :=
  (List.range ds.length).filter fun i => !l.getD i true && ((ds[i]?).map (fun d => d.pre.all fun j => l.getD j false)).getD false
def JAny (P : Program) (Q : Exit → St → Prop) (ds : List DO) : Nat → List Bool → St → Prop
  | 0, l, S => rdy ds l = [] ∧ Q .normal S
  | n + 1, l, S => (rdy ds l = [] → Q .normal S) ∧ ∀ i ∈ rdy ds l, ∀ d, ds[i]? = some d → stepA P d.r S (JAny P Q ds n (l.set i true))

/-- may k be taken first? nobody who may come before it writes what it looks at, looks at what it writes, or writes variables -/
def free (ds : List DO) (l : List Bool) (k : Nat) : Bool :=
  match ds[k]? with
  | none => false
  | some dk => (List.range ds.length).all fun i => match ds[i]? with
    | none => true
    | some d => l.getD i true || i == k || d.pre.contains k ||
      ((match d.r.dst with | some q => !dk.r.looks.contains q && dk.r.dst != some q | none => true) &&
       (match dk.r.dst with | some q => !d.r.looks.contains q | none => true) &&
       (match d.r.k with | .m (.pu _) | .m (.ld _ _ _) | .m (.new _) | .m (.box _) | .m (.bs _ _ _ _ _) | .m (.app _ _ _ _ _) | .call _ _ => true | _ => false))

section
variable {P : Program}
theorem set_comm' {ts : List D} {a b : Option Nat} {x y : D} (h : ∀ q, a = some q → b ≠ some q) : setD (setD ts a x) b y = setD (setD ts b y) a x := by
  cases a with
  | none => cases b <;> rfl
  | some p =>
    cases b with
    | none => rfl
    | some q =>
      simp only [setD]
      exact List.set_comm _ _ (fun e => h p rfl (by rw [e]))
/-- settled stays settled, if a slot is written that it does not look at, and if variables are added -/
theorem Settled.keep {G : Prop} {k : RK} {ts : List D} {lo lo' : List LO} {d e : D} {q : Option Nat} (h : Settled P G k ts lo d) (hq : ∀ s, q = some s → s ∉ k.looks) (hlo : ∀ (i : Nat) cs, lo[i]? = some (.box cs) → lo'[i]? = some (.box cs)) : Settled P G k (setD ts q e) lo' d := by
  cases k with
  | m mo =>
    obtain ⟨h1, h2⟩ := h
    refine ⟨h1, fun hG => ?_⟩
    obtain ⟨φ, h2, h3⟩ := h2 hG
    refine ⟨φ, ?_, h3⟩
    have hs : mo.ev (setD ts q e) lo' = mo.ev ts lo' := by
      cases q with
      | none => rfl
      | some s => exact mev_set (hq s rfl)
    rw [hs]
    cases mo with
    | pu ao =>
      simp only [MO.ev] at h2 ⊢
      split at h2
      · rename_i d1 φ1 he
        simp only [Option.some.injEq, Prod.mk.injEq] at h2
        obtain ⟨rfl, _, rfl⟩ := h2
        rfl
      · cases h2
    | ld agg n x =>
      simp only [MO.ev] at h2 ⊢
      split at h2
      · rename_i i o ψ hv
        split at h2
        · rename_i cs hl
          rw [hlo _ _ hl]
          simp only
          split at h2
          · rename_i ha
            simp only [Option.some.injEq, Prod.mk.injEq] at h2
            obtain ⟨rfl, _, rfl⟩ := h2
            rw [if_pos ha]
          · rename_i ha
            rw [if_neg ha]
            split at h2
            · rename_i d1 hd
              simp only [Option.some.injEq, Prod.mk.injEq] at h2
              obtain ⟨rfl, _, rfl⟩ := h2
              rfl
            · cases h2
        · cases h2
      · rename_i cs ψ hv
        split at h2
        · rename_i ha
          simp only [Option.some.injEq, Prod.mk.injEq] at h2
          obtain ⟨rfl, _, rfl⟩ := h2
          rw [if_pos ha]
        · rename_i ha
          rw [if_neg ha]
          split at h2
          · simp only [Option.some.injEq, Prod.mk.injEq] at h2
            obtain ⟨rfl, _, rfl⟩ := h2
            rfl
          · cases h2
      · cases h2
    | _ => cases h1
  | call f xs =>
    intro hG
    obtain ⟨ds, φ, h1, h2⟩ := h hG
    refine ⟨ds, φ, ?_, h2⟩
    cases q with
    | none => exact h1
    | some s => simp only [setD]; rw [vals_set (hq s rfl)]; exact h1
  | _ => exact h
theorem settle.keep {r : RO} {ts : List D} {lo lo' : List LO} {d e : D} {q : Option Nat} (h : settle P r ts lo d) (hq : ∀ s, q = some s → s ∉ r.looks) (hlo : ∀ (i : Nat) cs, lo[i]? = some (.box cs) → lo'[i]? = some (.box cs)) : settle P r (setD ts q e) lo' d := by
  obtain ⟨dst, g, k⟩ := r
  cases g with
  | none => exact Settled.keep h (fun s hs => by have := hq s hs; simpa [RO.looks] using this) hlo
  | some sb =>
    obtain ⟨s, b⟩ := sb
    obtain ⟨g, d', h1, h2, h3⟩ := h
    refine ⟨g, d', ?_, h2, h3.keep (fun t ht => by have := hq t ht; simp [RO.looks] at this; exact this.2) hlo⟩
    cases q with
    | none => exact h1
    | some t =>
      simp only [setD]
      rw [geff_set (by have := hq t rfl; simp [RO.looks] at this; exact this.1)]
      exact h1

/-- a step of another operation, k's value being laid already: it can be run before -/
theorem stepA.before {r rk : RO} {S : St} {K : St → Prop} {d : D} (hk : settle P rk S.ts S.lo d) (h1 : ∀ s, rk.dst = some s → s ∉ r.looks) (h2 : ∀ s, r.dst = some s → s ∉ rk.looks) (h3 : ∀ s, r.dst = some s → rk.dst ≠ some s)
    (hm : match r.k with | .m (.pu _) | .m (.ld _ _ _) | .m (.new _) | .m (.box _) | .m (.bs _ _ _ _ _) | .m (.app _ _ _ _ _) | .call _ _ => True | _ => False)
    (h : stepA P r ⟨setD S.ts rk.dst d, S.lo, S.no⟩ K) : stepA P r S (fun S1 => settle P rk S1.ts S1.lo d ∧ K ⟨setD S1.ts rk.dst d, S1.lo, S1.no⟩) := by
  obtain ⟨ts, lo, no⟩ := S
  simp only at hk h ⊢
  have hvk : ∀ {x : D} {lo' : List LO}, (∀ (i : Nat) cs, lo[i]? = some (.box cs) → lo'[i]? = some (.box cs)) → settle P rk (setD ts r.dst x) lo' d := fun hlo => hk.keep h2 hlo
  have hcm : ∀ x, setD (setD ts rk.dst d) r.dst x = setD (setD ts r.dst x) rk.dst d := fun x => set_comm' (fun q hq hr => h3 q hr (by rw [hq]))
  have hlook : ∀ s, rk.dst = some s → s ∉ r.k.looks := fun s hs => by have := h1 s hs; simp only [RO.looks, List.mem_append, not_or] at this; exact this.2
  have hev : ∀ mo, r.k = .m mo → mo.ev (setD ts rk.dst d) lo = mo.ev ts lo := by
    intro mo he
    cases hd : rk.dst with
    | none => rfl
    | some s => exact mev_set (by have := hlook s hd; rw [he] at this; exact this)
  have hvs : ∀ f xs, r.k = .call f xs → vals (setD ts rk.dst d) xs = vals ts xs := by
    intro f xs he
    cases hd : rk.dst with
    | none => rfl
    | some s => exact vals_set (by have := hlook s hd; rw [he] at this; exact this)
  have hgf : ∀ s b, r.g = some (s, b) → geff (setD ts rk.dst d) s b = geff ts s b := by
    intro s b he
    cases hd : rk.dst with
    | none => rfl
    | some t => exact geff_set (by have := h1 t hd; simp [RO.looks, he] at this; exact this.1)
  have hset : ∀ G x, Settled P G r.k (setD ts rk.dst d) lo x → Settled P G r.k ts lo x := by
    intro G x hs
    cases hkk : r.k with
    | m mo =>
      rw [hkk] at hs
      obtain ⟨a1, a2⟩ := hs
      refine ⟨a1, fun hG => ?_⟩
      obtain ⟨φ, a2, a3⟩ := a2 hG
      exact ⟨φ, by rw [← hev mo hkk]; exact a2, a3⟩
    | call f xs =>
      rw [hkk] at hs
      intro hG
      obtain ⟨ds, φ, a1, a2⟩ := hs hG
      exact ⟨ds, φ, by rw [← hvs f xs hkk]; exact a1, a2⟩
    | o op => rw [hkk] at hs; exact hs
    | bad => rw [hkk] at hs; exact hs
  have hU : stepU P r.dst r.k ⟨setD ts rk.dst d, lo, no⟩ K → stepU P r.dst r.k ⟨ts, lo, no⟩ (fun S1 => settle P rk S1.ts S1.lo d ∧ K ⟨setD S1.ts rk.dst d, S1.lo, S1.no⟩) := by
    intro hu
    cases hkk : r.k with
    | m mo =>
      rw [hkk] at hu hm
      obtain ⟨x, lo', φ, a1, a2, a3⟩ := hu
      simp only at a1 a3
      rw [hev mo hkk] at a1
      rw [hcm] at a3
      refine ⟨x, lo', φ, a1, a2, hvk ?_, a3⟩
      intro i cs hi
      cases mo with
      | pu ao => rw [reads_lo rfl a1]; exact hi
      | ld g n y => rw [reads_lo rfl a1]; exact hi
      | new zs =>
        simp only [MO.ev, Option.some.injEq, Prod.mk.injEq] at a1
        rw [← a1.2.1, List.getElem?_append_left (List.getElem?_eq_some_iff.1 hi).1]
        exact hi
      | box y =>
        simp only [MO.ev] at a1
        split at a1
        · simp only [Option.some.injEq, Prod.mk.injEq] at a1
          rw [← a1.2.1, List.getElem?_append_left (List.getElem?_eq_some_iff.1 hi).1]
          exact hi
        · cases a1
      | st n y z => exact hm.elim
      | bs a b c d l =>
        simp only [MO.ev] at a1
        split at a1
        · simp only [Option.some.injEq, Prod.mk.injEq] at a1
          rw [← a1.2.1, List.getElem?_append_left (List.getElem?_eq_some_iff.1 hi).1]
          exact hi
        · cases a1
      | app a b c y z =>
        simp only [MO.ev] at a1
        split at a1
        · split at a1
          · rename_i hl _
            simp only [Option.some.injEq, Prod.mk.injEq] at a1
            rw [← a1.2.1, List.getElem?_set]
            split
            · rename_i hk
              subst hk
              rw [hl] at hi
              cases hi
            · exact hi
          · cases a1
        · split at a1
          · simp only [Option.some.injEq, Prod.mk.injEq] at a1
            rw [← a1.2.1, List.getElem?_append_left (List.getElem?_eq_some_iff.1 hi).1]
            exact hi
          · cases a1
        · cases a1
    | call f xs =>
      rw [hkk] at hu
      rcases hu with ⟨ds, φ, nl, fr, R, a1, a2, a3, a4, a5, a6⟩ | ⟨k, cs, ds, φ, R, a0, a1, a2, a3, a5, a6⟩
      · simp only at a1 a4 a6
        rw [hvs f xs hkk] at a1
        refine .inl ⟨ds, φ, nl, fr, R, a1, a2, a3, a4, a5, fun x nl' hr => ⟨hvk (fun _ _ hi => hi), ?_⟩⟩
        have := a6 x nl' hr
        rw [hcm] at this
        exact this
      · simp only at a0 a1 a6
        rw [hvs f xs hkk] at a1
        refine .inr ⟨k, cs, ds, φ, R, a0, a1, a2, a3, a5, fun g x nl' hr => ?_⟩
        obtain ⟨cs', q1, q2⟩ := a6 g x nl' hr
        refine ⟨cs', q1, hvk (fun i c hi => ?_), ?_⟩
        · rw [List.getElem?_set]
          split
          · rename_i hk
            subst hk
            rw [a0] at hi
            cases hi
          · exact hi
        · rw [hcm] at q2
          exact q2
    | o op => rw [hkk] at hu; exact hu
    | bad => rw [hkk] at hu; exact hu
  rcases h with ⟨x, a1, a2⟩ | h
  · left
    rw [hcm] at a2
    refine ⟨x, ?_, hvk (fun _ _ hi => hi), a2⟩
    unfold settle at a1 ⊢
    cases hg : r.g with
    | none => rw [hg] at a1; exact hset _ _ a1
    | some sb =>
      obtain ⟨s, b⟩ := sb
      rw [hg] at a1
      obtain ⟨g, d', b1, b2, b3⟩ := a1
      exact ⟨g, d', by rw [← hgf s b hg]; exact b1, b2, hset _ _ b3⟩
  · right
    cases hg : r.g with
    | none => rw [hg] at h; exact hU h
    | some sb =>
      obtain ⟨s, b⟩ := sb
      rw [hg] at h
      obtain ⟨g, b1, b2, b3⟩ := h
      refine ⟨g, by rw [← hgf s b hg]; exact b1, fun q => hU (b2 q), fun q => ⟨hvk (fun _ _ hi => hi), ?_⟩⟩
      have := b3 q
      rw [hcm] at this
      exact this

theorem rdy_mem {ds : List DO} {l : List Bool} {i : Nat} : i ∈ rdy ds l ↔ i < ds.length ∧ l.getD i true = false ∧ ∃ d, ds[i]? = some d ∧ d.pre.all (fun j => l.getD j false) = true := by
  simp only [rdy, List.mem_filter, List.mem_range, Bool.and_eq_true, Bool.not_eq_true']
  constructor
  · rintro ⟨h1, h2, h3⟩
    refine ⟨h1, h2, ds[i], List.getElem?_eq_getElem h1, ?_⟩
    rw [List.getElem?_eq_getElem h1] at h3
    simpa using h3
  · rintro ⟨h1, h2, d, h3, h4⟩
    refine ⟨h1, h2, ?_⟩
    rw [h3]
    simpa using h4
theorem getD_set_ne {l : List Bool} {i k : Nat} (h : i ≠ k) (b x : Bool) : (l.set k b).getD i x = l.getD i x := by
  simp only [List.getD_eq_getElem?_getD]
  rw [List.getElem?_set_ne (fun e => h e.symm)]
theorem getD_set_le {l : List Bool} {i k : Nat} {x : Bool} (h : l.getD i x = true) : (l.set k true).getD i x = true := by
  by_cases he : i = k
  · subst he
    simp only [List.getD_eq_getElem?_getD, List.getElem?_set]
    simp only [if_true]
    split
    · rfl
    · rename_i hl
      simp only [List.getD_eq_getElem?_getD] at h
      rw [List.getElem?_eq_none (by omega)] at h
      simpa using h
  · rw [getD_set_ne he]; exact h

/-- THE RULE: what is settled may be taken first -/
theorem jany_take {Q : Exit → St → Prop} {ds : List DO} (hl0 : True) : ∀ {n : Nat} {l : List Bool} {S : St} {k : Nat} {dk : DO} {d : D}, l.length = ds.length → ds[k]? = some dk → k ∈ rdy ds l → free ds l k = true → settle P dk.r S.ts S.lo d →
    JAny P Q ds n (l.set k true) ⟨setD S.ts dk.r.dst d, S.lo, S.no⟩ → JAny P Q ds (n + 1) l S := by
  intro n
  induction n with
  | zero =>
    intro l S k dk d hlen hk hr hf hs h
    refine ⟨(fun he => by rw [he] at hr; cases hr), fun i hi di hdi => ?_⟩
    obtain ⟨h1, h2, d', h3, h4⟩ := rdy_mem.1 hi
    by_cases hik : i = k
    · subst hik
      rw [hk] at hdi
      injection hdi with hdi
      subst hdi
      exact .inl ⟨d, hs, h⟩
    · exfalso
      have : i ∈ rdy ds (l.set k true) := rdy_mem.2 ⟨h1, by rw [getD_set_ne hik]; exact h2, d', h3, List.all_eq_true.2 fun j hj => getD_set_le (List.all_eq_true.1 h4 j hj)⟩
      rw [h.1] at this
      cases this
  | succ n ih =>
    intro l S k dk d hlen hk hr hf hs h
    refine ⟨(fun he => by rw [he] at hr; cases hr), fun i hi di hdi => ?_⟩
    obtain ⟨h1, h2, d', h3, h4⟩ := rdy_mem.1 hi
    by_cases hik : i = k
    · subst hik
      rw [hk] at hdi
      injection hdi with hdi
      subst hdi
      exact .inl ⟨d, hs, h⟩
    · have hi' : i ∈ rdy ds (l.set k true) := rdy_mem.2 ⟨h1, by rw [getD_set_ne hik]; exact h2, d', h3, List.all_eq_true.2 fun j hj => getD_set_le (List.all_eq_true.1 h4 j hj)⟩
      have hst := h.2 i hi' di hdi
      rw [hdi] at h3
      injection h3 with h3
      subst h3
      obtain ⟨k1, k2, dk', k3, k4⟩ := rdy_mem.1 hr
      rw [hk] at k3
      injection k3 with k3
      subst k3
      have hfree := hf
      unfold free at hfree
      rw [hk] at hfree
      have hfi := List.all_eq_true.1 hfree i (List.mem_range.2 h1)
      rw [hdi] at hfi
      have hnp : di.pre.contains k = false := by
        cases hc : di.pre.contains k with
        | false => rfl
        | true =>
          have hkm : k ∈ di.pre := by simpa using hc
          have := List.all_eq_true.1 h4 k hkm
          exfalso
          have hlk : k < l.length := by omega
          simp only [List.getD_eq_getElem?_getD, List.getElem?_eq_getElem hlk, Option.getD_some] at this k2
          rw [k2] at this
          cases this
      have hik' : (i == k) = false := by simpa using hik
      simp only [h2, hik', hnp, Bool.false_or, Bool.and_eq_true] at hfi
      obtain ⟨⟨f1, f2⟩, f3⟩ := hfi
      have hb := stepA.before (r := di.r) (rk := dk.r) hs (fun s e => by rw [e] at f2; simpa using f2) (fun s e => by rw [e] at f1; simp at f1; exact f1.1) (fun s e => by rw [e] at f1; simp at f1; exact f1.2) (by
        revert f3
        cases hkk : di.r.k with
        | m mo => cases mo <;> simp
        | call f xs => simp
        | o op => simp
        | bad => simp) hst
      refine hb.mono ?_
      rintro S1 ⟨g1, g2⟩
      have hcomm : (l.set k true).set i true = (l.set i true).set k true := List.set_comm _ _ (fun e => hik e.symm)
      rw [hcomm] at g2
      have hr' : k ∈ rdy ds (l.set i true) := rdy_mem.2 ⟨k1, by rw [getD_set_ne (fun e => hik e.symm)]; exact k2, dk, hk, List.all_eq_true.2 fun j hj => getD_set_le (List.all_eq_true.1 k4 j hj)⟩
      have hf' : free ds (l.set i true) k = true := by
        unfold free
        rw [hk]
        refine List.all_eq_true.2 fun j hj => ?_
        have hfj := List.all_eq_true.1 hfree j hj
        revert hfj
        cases hdj : ds[j]? with
        | none => exact fun _ => rfl
        | some dj =>
          intro hfj
          simp only [Bool.or_eq_true] at hfj ⊢
          rcases hfj with ((hfj | hfj) | hfj) | hfj
          · exact .inl (.inl (.inl (getD_set_le hfj)))
          · exact .inl (.inl (.inr hfj))
          · exact .inl (.inr hfj)
          · exact .inr hfj
      exact ih (by simp [hlen]) hk hr' hf' g1 g2

theorem runs_settled {B : Base} {G : Prop} {k : RK} {dst : Option Nat} {ts : List D} {lo : List LO} {no : List NO} {d : D} {K : St → Prop} (h : Settled P G k ts lo d) (hg : G) (hK : K ⟨setD ts dst d, lo, no⟩) : Runs P B k dst ts lo no K := by
  cases k with
  | m mo =>
    obtain ⟨_, h2⟩ := h
    obtain ⟨φ, h2, h3⟩ := h2 hg
    exact runs_m h2 h3 hK
  | call f xs =>
    obtain ⟨ds, φ, h1, h3, h4, h5⟩ := h hg
    refine runs_call (nl := []) (fr := no) h1 h3 h4 (by simp) h5 ?_
    rintro d nl' ⟨rfl, rfl⟩
    exact hK
  | _ => exact h.elim
theorem runs_stepU {B : Base} {k : RK} {dst : Option Nat} {S : St} {K : St → Prop} (h : stepU P dst k S K) : Runs P B k dst S.ts S.lo S.no K := by
  cases k with
  | m mo =>
    obtain ⟨d, lo', φ, h1, h2, h3⟩ := h
    exact runs_m h1 h2 h3
  | call f xs =>
    rcases h with ⟨ds, φ, nl, fr, R, h1, h2, h3, h4, h5, h6⟩ | ⟨k, cs, ds, φ, R, h1, h2, h3, h4, h5, h6⟩
    · exact runs_call h1 h2 h3 h4 h5 h6
    · exact runs_lend h1 h2 h3 h4 h5 h6
  | _ => exact h.elim
theorem settle_bad {r : RO} {ts : List D} {lo : List LO} {d : D} (h : settle P r ts lo d) : r.k ≠ .bad := by
  intro hb
  unfold settle at h
  cases hg : r.g with
  | none => rw [hg, hb] at h; exact h
  | some sb => obtain ⟨s, b⟩ := sb; rw [hg, hb] at h; obtain ⟨_, _, _, _, h⟩ := h; exact h

theorem stepA_sound {B : Base} {Q : Exit → St → Prop} {ops : Array Oper} {o : Oper} {i : Nat} {r : RO} {S : St} {K : St → Prop} {K' : Act → World → Prop} {X : Nat → Nat → Prop} {w : World} {σ : List SC} {us : List Value} (ho : ops[i]? = some o) (hr : trR P ops o = r) (h : stepA P r S K) (hi : Inv B X w σ S.lo S.no) (hc : Cs X w σ S.ts us)
    (hK : ∀ S' X' w' σ' us', Inv B X' w' σ' S'.lo S'.no → Cs X' w' σ' S'.ts us' → K S' → K' ⟨us'.toArray, []⟩ w') : wpOp P ops (lift B Q) i K' ⟨us.toArray, []⟩ w := by
  obtain ⟨dst, g, k⟩ := r
  have hbad : g = none → k ≠ .bad := by
    intro hg hb
    subst hg hb
    rcases h with ⟨d, h1, _⟩ | h
    · exact settle_bad h1 rfl
    · exact h
  unfold wpOp
  rw [ho]
  simp only
  cases g with
  | none =>
    obtain ⟨e1, e2, e3⟩ := trR_none hr (hbad rfl)
    have hw : Region.wanted o (yielded ops us.toArray) = true := by simp [Region.wanted, e1]
    rw [if_pos hw]
    left
    rcases h with ⟨d, h1, h2⟩ | h
    · exact runs_settled (dst := dst) h1 trivial h2 o e3 e2 X w σ us hi hc K' _ hK
    · exact runs_stepU h o e3 e2 X w σ us hi hc K' _ hK
  | some sb =>
    obtain ⟨s, b⟩ := sb
    obtain ⟨⟨j, e1, e2⟩, e3, e4⟩ := trR_some hr
    rcases h with ⟨d, ⟨g, d', h0, rfl, h1⟩, h2⟩ | ⟨g, h0, h1, h2⟩
    · have hw := guard_wanted h0 hc e1 e2
      cases g with
      | true =>
        rw [if_pos hw]
        left
        refine runs_settled (dst := dst) (K := fun S' => S' = ⟨setD S.ts dst d', S.lo, S.no⟩) h1 rfl rfl o e4 e3 X w σ us hi hc K' _ ?_
        rintro S' X' w' σ' us' q1 q2 rfl
        refine hK ⟨setD S.ts dst (.gd true d'), S.lo, S.no⟩ X' w' σ' us' q1 ?_ h2
        cases dst with
        | none => exact q2
        | some t =>
          simp only [setD] at q2 ⊢
          rcases Nat.lt_or_ge t S.ts.length with hlt | hge
          · obtain ⟨u, hu, hcu⟩ := q2.at_ (i := t) (d := d') (by simp [hlt])
            have hset : us'.set t u = us' := by
              apply List.ext_getElem?
              intro m
              rw [List.getElem?_set]
              split
              · rename_i he
                subst he
                split
                · exact hu.symm
                · rename_i hl
                  rw [List.getElem?_eq_none (by omega)] at hu
                  cases hu
              · rfl
            have := q2.set_ t (d := .gd true d') (u := u) (by simp only [C]; exact ⟨fun _ => hcu, fun h => by cases h⟩)
            rw [hset, List.set_set] at this
            exact this
          · rw [List.set_eq_of_length_le hge] at q2 ⊢
            exact q2
      | false =>
        rw [if_neg (by rw [hw]; simp), put_eq, e3]
        exact hK ⟨setD S.ts dst (.gd false d'), S.lo, S.no⟩ X w σ _ hi (setD_cs hc dst (by simp [C])) h2
    · have hw := guard_wanted h0 hc e1 e2
      cases g with
      | true =>
        rw [if_pos hw]
        left
        exact runs_stepU (h1 rfl) o e4 e3 X w σ us hi hc K' _ hK
      | false =>
        rw [if_neg (by rw [hw]; simp), put_eq, e3]
        exact hK ⟨setD S.ts dst .any, S.lo, S.no⟩ X w σ _ hi (setD_cs hc dst (C.any_ _)) (h2 rfl)

theorem rdy_eq {ops : Array Oper} {l : List Bool} : rdy (ops.toList.map (trD P ops)) l = Region.ready .any ops l.toArray := by
  unfold rdy Region.ready
  simp only [List.length_map, Array.length_toList]
  refine List.filter_congr fun i hi => ?_
  simp only [List.getElem?_map, Array.getElem?_toList, Option.map_map]
  have hl : ∀ j x, l.getD j x = l.toArray.getD j x := fun j x => by simp
  rw [hl]
  congr 1
  cases ops[i]? with
  | none => rfl
  | some o =>
    simp only [Option.map_some, Option.getD_some, Function.comp, trD]
    rw [List.all_map, List.all_filter, ← Array.all_toList]
    congr 1
    funext e
    simp [Function.comp]
theorem jany_sound {B : Base} {Q : Exit → St → Prop} {ops : Array Oper} : ∀ (n : Nat) {l : List Bool} {S : St} {X : Nat → Nat → Prop} {w : World} {σ : List SC} {us : List Value}, JAny P Q (ops.toList.map (trD P ops)) n l S → Inv B X w σ S.lo S.no → Cs X w σ S.ts us → wpAny P .any ops (lift B Q) n l.toArray ⟨us.toArray, []⟩ w := by
  intro n
  induction n with
  | zero =>
    intro l S X w σ us h hi hc
    simp only [JAny, rdy_eq] at h
    exact ⟨h.1, S, X, σ, us, hi, hc, rfl, h.2⟩
  | succ n ih =>
    intro l S X w σ us h hi hc
    simp only [JAny, rdy_eq] at h
    refine ⟨fun he => ⟨S, X, σ, us, hi, hc, rfl, h.1 he⟩, fun i hir => ?_⟩
    have hlt : i < ops.size := by
      simp only [Region.ready, List.mem_filter, List.mem_range] at hir
      exact hir.1
    have ho : ops[i]? = some ops[i] := Array.getElem?_eq_getElem hlt
    refine stepA_sound ho rfl (h.2 i hir (trD P ops ops[i]) (by simp [ho])) hi hc ?_
    intro S' X' w' σ' us' h1 h2 h3
    have := ih h3 h1 h2
    simpa using this
end

/-- THE RULE of a region whose order is open -/
theorem jv_dr {P : Program} {B : Base} {Q : Exit → St → Prop} {ds : List DO} {S : St} (hm : P.follows .mixedOrders = true) (n : Nat) (hn : ds.length = n) (h : JAny P Q ds n (List.replicate n false) S) : JV P B Q (.dr ds) S := by
  intro c hc X w σ us hi hs
  cases c with
  | region id ops d =>
    cases d with
    | false => simp [trC] at hc
    | true =>
      simp only [trC, AC.dr.injEq] at hc
      subst hc
      have hl : ops.size = n := by simpa using hn
      refine wp_region_any hm ?_
      have := jany_sound (B := B) n h hi.drew (Cs.ext (Ext.drew X w σ) _ _ hs)
      rw [hl]
      simpa using this
  | cond x a b => simp only [trC] at hc; split at hc <;> cases hc
  | _ => simp [trC] at hc
end Go.Proofs.Ytnimpcffagidoaa
