/-
  Walks by values: an order in which a region whose order is open may be walked.
-/
import Derived.Test.YtnimpcffagidoaaD6
namespace Go.Proofs.Ytnimpcffagidoaa
open Go.RowKit
set_option linter.unusedSimpArgs false
set_option linter.unusedVariables false

/-- one operation after the other; the mark says that no other one could run there -/
def JQ (P : Program) (Q : Exit → St → Prop) : List (Bool × RO) → St → Prop
  | [], S => Q .normal S
  | (only, r) :: rest, S => (∃ d, settle P r S.ts S.lo d ∧ JQ P Q rest ⟨setD S.ts r.dst d, S.lo, S.no⟩) ∨ (only = true ∧ stepA P r S (JQ P Q rest))

def RK.quick : RK → Bool
  | .m (.pu _) | .m (.ld _ _ _) => true
  | _ => false
def RK.isCall : RK → Bool
  | .call _ _ => true
  | _ => false
def quick (q : RK → Bool) (ds : List DO) (k : Nat) : Bool := match ds[k]? with
  | some d => q d.r.k
  | none => false
def firstBy (q : RK → Bool) (ds : List DO) (l : List Bool) : List Nat → Option Nat
  | [] => none
  | k :: r => if free ds l k && quick q ds k then some k else firstBy q ds l r
def firstFree (ds : List DO) (l : List Bool) (r : List Nat) : Option Nat :=
  match firstBy RK.quick ds l r with
  | some k => some k
  | none => firstBy RK.isCall ds l r
def planned (ds : List DO) : Nat → List Bool → Option (List (Bool × RO))
  | 0, l => if (rdy ds l).isEmpty then some [] else none
  | n + 1, l => match rdy ds l with
    | [] => none
    | [k] => match ds[k]?, planned ds n (l.set k true) with
      | some d, some rs => some ((true, d.r) :: rs)
      | _, _ => none
    | k :: k2 :: r => match firstFree ds l (k :: k2 :: r) with
      | some k => match ds[k]?, planned ds n (l.set k true) with
        | some d, some rs => some ((false, d.r) :: rs)
        | _, _ => none
      | none => none

theorem firstBy_spec {q : RK → Bool} {ds : List DO} {l : List Bool} {k : Nat} : ∀ {r : List Nat}, firstBy q ds l r = some k → k ∈ r ∧ free ds l k = true
  | [], h => by simp [firstBy] at h
  | a :: r, h => by
    simp only [firstBy] at h
    split at h
    · rename_i hc
      simp only [Option.some.injEq] at h
      subst h
      simp only [Bool.and_eq_true] at hc
      exact ⟨List.mem_cons_self, hc.1⟩
    · have := firstBy_spec h
      exact ⟨List.mem_cons_of_mem _ this.1, this.2⟩
theorem firstFree_spec {ds : List DO} {l : List Bool} {k : Nat} {r : List Nat} (h : firstFree ds l r = some k) : k ∈ r ∧ free ds l k = true := by
  unfold firstFree at h
  split at h
  · rename_i k' hk
    simp only [Option.some.injEq] at h
    subst h
    exact firstBy_spec hk
  · exact firstBy_spec h

theorem planned_sound {P : Program} {Q : Exit → St → Prop} {ds : List DO} : ∀ {n : Nat} {l : List Bool} {rs : List (Bool × RO)} {S : St}, l.length = ds.length → planned ds n l = some rs → JQ P Q rs S → JAny P Q ds n l S := by
  intro n
  induction n with
  | zero =>
    intro l rs S hl h hj
    simp only [planned] at h
    split at h
    · rename_i he
      simp only [Option.some.injEq] at h
      subst h
      exact ⟨by simpa using he, hj⟩
    · cases h
  | succ n ih =>
    intro l rs S hl h hj
    simp only [planned] at h
    split at h
    · cases h
    · rename_i k hr
      split at h
      · rename_i d rs' hd hp
        simp only [Option.some.injEq] at h
        subst h
        refine ⟨(fun he => by rw [he] at hr; cases hr), fun i hi d' hd' => ?_⟩
        rw [hr] at hi
        simp only [List.mem_singleton] at hi
        subst hi
        rw [hd] at hd'
        injection hd' with hd'
        subst hd'
        rcases hj with ⟨e, h1, h2⟩ | ⟨_, h2⟩
        · exact .inl ⟨e, h1, ih (by simp [hl]) hp h2⟩
        · exact h2.mono fun S' h3 => ih (by simp [hl]) hp h3
      · cases h
    · rename_i k k2 r hr
      split at h
      · rename_i k' hf
        split at h
        · rename_i d rs' hd hp
          simp only [Option.some.injEq] at h
          subst h
          obtain ⟨f1, f2⟩ := firstFree_spec hf
          rcases hj with ⟨e, h1, h2⟩ | ⟨h0, _⟩
          · exact jany_take trivial hl hd (by rw [hr]; exact f1) f2 h1 (ih (by simp [hl]) hp h2)
          · cases h0
        · cases h
      · cases h

/-- THE RULE of a region whose order is open, with the order in which it is walked -/
theorem jv_drq {P : Program} {B : Base} {Q : Exit → St → Prop} {ds : List DO} {rs : List (Bool × RO)} {S : St} (hm : P.follows .mixedOrders = true) (h : planned ds ds.length (List.replicate ds.length false) = some rs) (hj : JQ P Q rs S) : JV P B Q (.dr ds) S :=
  jv_dr hm ds.length rfl (planned_sound (by simp) h hj)

/-- its plain operations, as far as they go -/
def arunQ : Nat → List (Bool × RO) → List D → List LO → Prop → List D × List LO × Prop × List (Bool × RO)
  | 0, rs, ts, lo, φ => (ts, lo, φ, rs)
  | _ + 1, [], ts, lo, φ => (ts, lo, φ, [])
  | n + 1, r :: rs, ts, lo, φ => match r with
    | (only, ⟨dst, none, .m mo⟩) => match only || mo.reads, mo.ev ts lo with
      | true, some (d, lo', ψ) => arunQ n rs (setD ts dst d) lo' (φ ∧ ψ)
      | _, _ => (ts, lo, φ, r :: rs)
    | (_, ⟨dst, some (s, b), .m mo⟩) => match mo.reads, geff ts s b, mo.ev ts lo with
      | true, some g, some (d, _, ψ) => arunQ n rs (setD ts dst (.gd g d)) lo (φ ∧ (g = true → ψ))
      | true, some false, none => arunQ n rs (setD ts dst (.gd false (.v (.bool false)))) lo φ
      | _, _, _ => (ts, lo, φ, r :: rs)
    | _ => (ts, lo, φ, r :: rs)
section
variable {P : Program} {Q : Exit → St → Prop} {ts : List D} {lo : List LO} {no : List NO}
theorem jq_run' : ∀ {n : Nat} {rs : List (Bool × RO)} {ts ts' : List D} {lo lo' : List LO} {φ φ' : Prop} {rest : List (Bool × RO)}, arunQ n rs ts lo φ = (ts', lo', φ', rest) → φ' → JQ P Q rest ⟨ts', lo', no⟩ → φ ∧ JQ P Q rs ⟨ts, lo, no⟩ := by
  intro n
  induction n with
  | zero =>
    intro rs ts ts' lo lo' φ φ' rest h hφ hj
    simp only [arunQ, Prod.mk.injEq] at h
    obtain ⟨rfl, rfl, rfl, rfl⟩ := h
    exact ⟨hφ, hj⟩
  | succ n ih =>
    intro rs ts ts' lo lo' φ φ' rest h hφ hj
    cases rs with
    | nil =>
      simp only [arunQ, Prod.mk.injEq] at h
      obtain ⟨rfl, rfl, rfl, rfl⟩ := h
      exact ⟨hφ, hj⟩
    | cons r rs =>
      obtain ⟨only, dst, g, k⟩ := r
      have stay : (ts, lo, φ, ((only, ⟨dst, g, k⟩) : Bool × RO) :: rs) = (ts', lo', φ', rest) → φ ∧ JQ P Q ((only, ⟨dst, g, k⟩) :: rs) ⟨ts, lo, no⟩ := by
        intro h
        simp only [Prod.mk.injEq] at h
        obtain ⟨rfl, rfl, rfl, rfl⟩ := h
        exact ⟨hφ, hj⟩
      cases k with
      | m mo =>
        cases g with
        | none =>
          simp only [arunQ] at h
          split at h
          · rename_i d lo1 ψ ho he
            obtain ⟨⟨h1, h2⟩, h3⟩ := ih h hφ hj
            refine ⟨h1, ?_⟩
            by_cases hr : mo.reads = true
            · have := reads_lo hr he
              subst this
              exact .inl ⟨d, ⟨hr, fun _ => ⟨ψ, he, h2⟩⟩, h3⟩
            · have : only = true := by
                cases only
                · simp at ho; exact absurd ho hr
                · rfl
              exact .inr ⟨this, .inr ⟨d, lo1, ψ, he, h2, h3⟩⟩
          · exact stay h
        | some sb =>
          obtain ⟨s, b⟩ := sb
          simp only [arunQ] at h
          split at h
          · rename_i hr g d lo1 ψ h1 h2 he
            obtain ⟨⟨q1, q2⟩, q3⟩ := ih h hφ hj
            have := reads_lo h1 he
            subst this
            exact ⟨q1, .inl ⟨.gd g d, ⟨g, d, h2, rfl, h1, fun hg => ⟨ψ, he, q2 hg⟩⟩, q3⟩⟩
          · rename_i hr h1 h2 he
            obtain ⟨q1, q3⟩ := ih h hφ hj
            exact ⟨q1, .inl ⟨.gd false (.v (.bool false)), ⟨false, _, h2, rfl, h1, fun hg => by cases hg⟩, q3⟩⟩
          · exact stay h
      | call f l => cases g <;> exact stay (by simpa only [arunQ] using h)
      | o op => cases g <;> exact stay (by simpa only [arunQ] using h)
      | bad => cases g <;> exact stay (by simpa only [arunQ] using h)
theorem jq_run (n : Nat) {rs : List (Bool × RO)} {ts' : List D} {lo' : List LO} {φ' : Prop} {rest : List (Bool × RO)} (h : arunQ n rs ts lo True = (ts', lo', φ', rest)) (hφ : φ') (hj : JQ P Q rest ⟨ts', lo', no⟩) : JQ P Q rs ⟨ts, lo, no⟩ := (jq_run' h hφ hj).2
theorem jq_nil {S : St} (h : Q .normal S) : JQ P Q [] S := h
theorem jq_nx {S : St} {next : St → Prop} (h : next S) : JQ P (thenQ next Q) [] S := h
theorem jq_m_ {only : Bool} {dst : Option Nat} {g : Option (Nat × Bool)} {mo : MO} {rs : List (Bool × RO)} {S : St} (h : JQ P Q ((only, ⟨dst, g, .m mo⟩) :: rs) S) : JQ P Q ((only, ⟨dst, g, .m mo⟩) :: rs) S := h
/-- a call whose value the contract names -/
theorem jq_fn {only : Bool} {dst : Option Nat} {f : Nat} {xs : List AX} {rs : List (Bool × RO)} {ds : List D} {φ : Prop} {d : D} (hv : vals ts xs = some (ds, φ)) (hφ : φ) (hc : ACalls P f [] ds (fun r nl => r = d ∧ nl = [])) (hcl : ds.all D.cl1 = true) (h : JQ P Q rs ⟨setD ts dst d, lo, no⟩) :
    JQ P Q ((only, ⟨dst, none, .call f xs⟩) :: rs) ⟨ts, lo, no⟩ := .inl ⟨d, fun _ => ⟨ds, φ, hv, hφ, hcl, hc⟩, h⟩
theorem jq_gfn {only : Bool} {dst : Option Nat} {s : Nat} {b g : Bool} {f : Nat} {xs : List AX} {rs : List (Bool × RO)} {ds : List D} {φ : Prop} {d : D} (hg : geff ts s b = some g) (hv : vals ts xs = some (ds, φ)) (hφ : g = true → φ) (hc : g = true → ACalls P f [] ds (fun r nl => r = d ∧ nl = [])) (hcl : ds.all D.cl1 = true) (h : JQ P Q rs ⟨setD ts dst (.gd g d), lo, no⟩) :
    JQ P Q ((only, ⟨dst, some (s, b), .call f xs⟩) :: rs) ⟨ts, lo, no⟩ := .inl ⟨.gd g d, ⟨g, d, hg, rfl, fun q => ⟨ds, φ, hv, hφ q, hcl, hc q⟩⟩, h⟩
/-- a call that is not made -/
theorem jq_off {only : Bool} {dst : Option Nat} {s : Nat} {b : Bool} {f : Nat} {xs : List AX} {rs : List (Bool × RO)} (hg : geff ts s b = some false) (h : JQ P Q rs ⟨setD ts dst (.gd false (.v (.bool false))), lo, no⟩) :
    JQ P Q ((only, ⟨dst, some (s, b), .call f xs⟩) :: rs) ⟨ts, lo, no⟩ := .inl ⟨.gd false (.v (.bool false)), ⟨false, _, hg, rfl, fun q => by cases q⟩, h⟩
/-- any call, where no other operation could run -/
theorem jq_call {dst : Option Nat} {f : Nat} {xs : List AX} {rs : List (Bool × RO)} {ds : List D} {φ : Prop} {nl fr : List NO} {R : D → List NO → Prop} (hv : vals ts xs = some (ds, φ)) (hφ : φ) (hc : ACalls P f nl ds R) (hp : no.Perm (nl ++ fr)) (hcl : ds.all D.cl1 = true) (h : ∀ d nl', R d nl' → JQ P Q rs ⟨setD ts dst d, lo, nl' ++ fr⟩) :
    JQ P Q ((true, ⟨dst, none, .call f xs⟩) :: rs) ⟨ts, lo, no⟩ := .inr ⟨rfl, .inr (.inl ⟨ds, φ, nl, fr, R, hv, hφ, hcl, hp, hc, h⟩)⟩
/-- a call that a thing is lent to -/
theorem jq_lend {dst : Option Nat} {f k : Nat} {xs : List AX} {rs : List (Bool × RO)} {ds : List D} {φ : Prop} {cs : List D} {R : Nat → D → List NO → Prop} (hl : lo[k]? = some (.hid cs)) (hv : vals ts xs = some (ds, φ)) (hφ : φ) (hcl : ds.all (D.clk k) = true) (hc : ∀ g, ACalls P f [.box g cs] (ds.map (lendD k g)) (R g)) (h : ∀ g d nl', R g d nl' → ∃ cs', nl' = [.box g cs'] ∧ JQ P Q rs ⟨setD ts dst d, lo.set k (.hid cs'), no⟩) :
    JQ P Q ((true, ⟨dst, none, .call f xs⟩) :: rs) ⟨ts, lo, no⟩ := .inr ⟨rfl, .inr (.inr ⟨k, cs, ds, φ, R, hl, hv, hφ, hcl, hc, h⟩)⟩
end

section
variable {P : Program} {B : Base} {Q : Exit → St → Prop} {ts : List D} {lo : List LO} {no : List NO} {rs : List RO} {dst : Option Nat} {f : Nat} {xs : List AX} {ds : List D} {φ : Prop} {d : D}
/-- the same in a plain region -/
theorem jl_fn (hv : vals ts xs = some (ds, φ)) (hφ : φ) (hc : ACalls P f [] ds (fun r nl => r = d ∧ nl = [])) (hcl : ds.all D.cl1 = true) (h : JL P B Q rs ⟨setD ts dst d, lo, no⟩) : JL P B Q (⟨dst, none, .call f xs⟩ :: rs) ⟨ts, lo, no⟩ := by
  refine jl_runs (by simp) (runs_call (nl := []) (fr := no) hv hφ hcl (by simp) hc ?_)
  rintro _ _ ⟨rfl, rfl⟩
  exact h
theorem jl_call {nl fr : List NO} {R : D → List NO → Prop} (hv : vals ts xs = some (ds, φ)) (hφ : φ) (hc : ACalls P f nl ds R) (hp : no.Perm (nl ++ fr)) (hcl : ds.all D.cl1 = true) (h : ∀ d nl', R d nl' → JL P B Q rs ⟨setD ts dst d, lo, nl' ++ fr⟩) : JL P B Q (⟨dst, none, .call f xs⟩ :: rs) ⟨ts, lo, no⟩ :=
  jl_runs (by simp) (runs_call hv hφ hcl hp hc h)
theorem jl_gfn {s : Nat} {b g : Bool} (hg : geff ts s b = some g) (hv : vals ts xs = some (ds, φ)) (hφ : g = true → φ) (hc : g = true → ACalls P f [] ds (fun r nl => r = d ∧ nl = [])) (hcl : ds.all D.cl1 = true) (h : JL P B Q rs ⟨setD ts dst (.gd g d), lo, no⟩) :
    JL P B Q (⟨dst, some (s, b), .call f xs⟩ :: rs) ⟨ts, lo, no⟩ := by
  intro ops rest hm X w σ us hi hc'
  cases rest with
  | nil => simp at hm
  | cons o rest =>
    simp only [List.map_cons, List.cons.injEq] at hm
    obtain ⟨e1, e4⟩ := hm
    have ho : (#[o] : Array Oper)[0]? = some o := rfl
    have hst : stepA P ⟨dst, some (s, b), .call f xs⟩ ⟨ts, lo, no⟩ (JL P B Q rs) := .inl ⟨.gd g d, ⟨g, d, hg, rfl, fun q => ⟨ds, φ, hv, hφ q, hcl, hc q⟩⟩, h⟩
    rcases hst with hst
    have hw : wpList P ops (lift B Q) (o :: rest) ⟨us.toArray, []⟩ w ↔ (if Region.wanted o (yielded ops us.toArray) then o.wp P ⟨us.toArray, []⟩ w (wpList P ops (lift B Q) rest) (lift B Q) ∨ (o.asks P ⟨us.toArray, []⟩ w ∧ LetsOut (lift B Q)) else wpList P ops (lift B Q) rest (Act.put ⟨us.toArray, []⟩ o.dst undef) w) := Iff.rfl
    rw [hw]
    obtain ⟨⟨j, q1, q2⟩, q3, q4⟩ := trR_some e1
    have hwant := guard_wanted hg hc' q1 q2
    cases g with
    | true =>
      rw [if_pos hwant]
      left
      refine runs_call (B := B) (nl := []) (fr := no) (K := fun S' => S' = ⟨setD ts dst d, lo, no⟩) hv (hφ rfl) hcl (by simp) (hc rfl) (by rintro _ _ ⟨rfl, rfl⟩; rfl) o q4 q3 X w σ us hi hc' _ _ ?_
      rintro S' X' w' σ' us' k1 k2 rfl
      refine h ops rest e4 X' w' σ' us' k1 ?_
      cases dst with
      | none => exact k2
      | some t =>
        simp only [setD] at k2 ⊢
        rcases Nat.lt_or_ge t ts.length with hlt | hge
        · obtain ⟨u, hu, hcu⟩ := k2.at_ (i := t) (d := d) (by simp [hlt])
          have hset : us'.set t u = us' := by
            apply List.ext_getElem?
            intro m
            rw [List.getElem?_set]
            split
            · rename_i he
              subst he
              split
              · exact hu.symm
              · rename_i hl
                rw [List.getElem?_eq_none (by omega)] at hu
                cases hu
            · rfl
          have := k2.set_ t (d := .gd true d) (u := u) (by simp only [C]; exact ⟨fun _ => hcu, fun h => by cases h⟩)
          rw [hset, List.set_set] at this
          exact this
        · rw [List.set_eq_of_length_le hge] at k2 ⊢
          exact k2
    | false =>
      rw [if_neg (by rw [hwant]; simp), put_eq, q3]
      exact h ops rest e4 X w σ _ hi (setD_cs hc' dst (by simp [C]))
end
end Go.Proofs.Ytnimpcffagidoaa
