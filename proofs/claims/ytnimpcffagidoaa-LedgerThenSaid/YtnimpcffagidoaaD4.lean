/-
  Walks by values: regions, calls.
-/
import Derived.Test.YtnimpcffagidoaaD3
namespace Go.Proofs.Ytnimpcffagidoaa
open Go.RowKit
set_option linter.unusedSimpArgs false
set_option linter.unusedVariables false

/-- things that are handed in -/
structure NInv (X : Nat → Nat → Prop) (w : World) (nl : List NO) : Prop where
  at_ : ∀ o ∈ nl, NO.at_ X w o
  nod : (names nl).Nodup

/-- what a call leaves -/
structure Left (X : Nat → Nat → Prop) (w : World) (nl : List NO) (X' : Nat → Nat → Prop) (w' : World) (nl' : List NO) : Prop where
  fin : ∀ b o, X' b o → b < w'.heap.size
  old : ∀ b o, b < w.heap.size → (X' b o ↔ X b o)
  nin : NInv X' w' nl'
  new : ∀ b ∈ names nl', b ∈ names nl ∨ w.heap.size ≤ b
  fr : Fr (names nl) w w'

/-- THE CONTRACT of a function in values: with these things and these arguments it returns a value with R -/
def ACalls (P : Program) (f : FuncId) (nl : List NO) (ds : List D) (R : D → List NO → Prop) : Prop :=
  ∀ X w vs, (∀ b o, X b o → b < w.heap.size) → NInv X w nl → Cs X w [] ds vs →
    Calls P f vs.toArray w fun e w' => ∃ d u X' nl', e = .returned u ∧ R d nl' ∧ C X' w' [] d u ∧ Left X w nl X' w' nl'

theorem ACalls.mono {P : Program} {f : FuncId} {nl : List NO} {ds : List D} {R R' : D → List NO → Prop} (h : ACalls P f nl ds R) (hr : ∀ d nl', R d nl' → R' d nl') : ACalls P f nl ds R' :=
  fun X w vs h1 h2 h3 => (h X w vs h1 h2 h3).mono fun _ _ ⟨d, u, X', nl', q1, q2, q3, q4⟩ => ⟨d, u, X', nl', q1, hr d nl' q2, q3, q4⟩

def D.cl1 : D → Bool
  | .ag cs => cs.all D.cl0
  | d => d.cl0
def D.cl : D → Bool
  | .tu ds => ds.all D.cl1
  | d => d.cl1
/-- slices without the leave to append to them -/
def D.bare1 : D → D
  | .ag cs => .ag (cs.map D.bare)
  | d => d.bare
section
variable {X : Nat → Nat → Prop} {w : World} {σ : List SC}
theorem C.bare1 {d : D} {u : Value} (h : C X w σ d u) : C X w σ d.bare1 u := by
  cases d with
  | ag cs =>
    simp only [C, D.bare1] at h ⊢
    obtain ⟨vs, e, h2⟩ := h
    exact ⟨vs, e, h2.bare⟩
  | _ => exact h.bare
theorem C.cl1 {d : D} {u : Value} (h : C X w σ d u) (h1 : d.cl1 = true) : C X w [] d u := by
  cases d with
  | ag cs =>
    simp only [C] at h ⊢
    obtain ⟨vs, e, h2⟩ := h
    exact ⟨vs, e, h2.cl0 h1⟩
  | _ => exact h.cl0 h1
theorem Cs.cl1 {ds : List D} {us : List Value} (h : Cs X w σ ds us) (h1 : ds.all D.cl1 = true) : Cs X w [] ds us := by
  induction ds generalizing us with
  | nil => simpa only [Cs] using h
  | cons d ds ih =>
    simp only [Cs] at h ⊢
    obtain ⟨u, us', rfl, h2, h3⟩ := h
    simp only [List.all_cons, Bool.and_eq_true] at h1
    exact ⟨u, us', rfl, h2.cl1 h1.1, ih h3 h1.2⟩
theorem C.cl {d : D} {u : Value} (h : C X w σ d u) (h1 : d.cl = true) : C X w [] d u := by
  cases d with
  | tu cs =>
    simp only [C] at h ⊢
    obtain ⟨vs, e, h2⟩ := h
    exact ⟨vs, e, h2.cl1 h1⟩
  | _ => exact h.cl1 h1
end

/-- an operation of a region, in short -/
inductive RK where
  | m (mo : MO)
  | call (f : Nat) (args : List AX)
  | o (op : Op)
  | bad
structure RO where
  dst : Option Nat
  g : Option (Nat × Bool)
  k : RK

def trA : List Operand → Option (List AX)
  | [] => some []
  | x :: r => match trX x, trA r with
    | some a, some l => some (a :: l)
    | _, _ => none
def trK (P : Program) (o : Op) : RK :=
  match trM P o with
  | some mo => .m mo
  | none => match o with
    | .call c => match c.callee, trA c.args.toList with
      | .value (.func f), some l => match P.funcs[f]? with
        | some fn => if fn.body.isSome && !(fn.name == "runtime.NumGoroutine") then .call f l else .o o
        | none => .o o
      | _, _ => .o o
    | _ => .o o
def trR (P : Program) (ops : Array Oper) (o : Oper) : RO :=
  match o.guard with
  | none => ⟨o.dst, none, trK P o.op⟩
  | some (j, b) => match (ops[j]?).bind (·.dst) with
    | some s => ⟨o.dst, some (s, b), trK P o.op⟩
    | none => ⟨o.dst, none, .bad⟩

/-- a region whose order is open: each operation with those that come before it -/
structure DO where
  r : RO
  pre : List Nat
def trD (P : Program) (ops : Array Oper) (o : Oper) : DO := ⟨trR P ops o, (o.after.toList.filter (Region.binds .any)).map (·.on)⟩

def lift (B : Base) (Q : Exit → St → Prop) : Exit → Act → World → Prop := fun e a w =>
  ∃ S X σ us, Inv B X w σ S.lo S.no ∧ Cs X w σ S.ts us ∧ a = ⟨us.toArray, []⟩ ∧ Q e S

/-- the rest of a region from a state on -/
def JL (P : Program) (B : Base) (Q : Exit → St → Prop) (rs : List RO) (S : St) : Prop :=
  ∀ (ops : Array Oper) (rest : List Oper), rest.map (trR P ops) = rs → ∀ X w σ us, Inv B X w σ S.lo S.no → Cs X w σ S.ts us → wpList P ops (lift B Q) rest ⟨us.toArray, []⟩ w

def setD (ts : List D) (dst : Option Nat) (d : D) : List D :=
  match dst with
  | some k => ts.set k d
  | none => ts
theorem put_eq (us : List Value) (dst : Option Nat) (u : Value) : Act.put ⟨us.toArray, []⟩ dst u = ⟨(match dst with | some k => us.set k u | none => us).toArray, []⟩ := by
  cases dst <;> simp [Act.put]

/-- the guard of an operation: a condition -/
def geff (ts : List D) (s : Nat) (b : Bool) : Option Bool :=
  match ts[s]? with
  | some (.v (.bool q)) => some (q == b)
  | some (.gd p (.v (.bool q))) => some (p && (q == b))
  | _ => none

section
variable {P : Program} {B : Base} {Q : Exit → St → Prop} {rs : List RO} {ts : List D} {lo : List LO} {no : List NO}
theorem jl_nil {S : St} (h : Q .normal S) : JL P B Q [] S := by
  intro ops rest hm X w σ us hi hc
  have : rest = [] := List.map_eq_nil_iff.1 hm
  subst this
  exact ⟨S, X, σ, us, hi, hc, rfl, h⟩
theorem setD_cs {X : Nat → Nat → Prop} {w : World} {σ : List SC} {us : List Value} (hc : Cs X w σ ts us) (dst : Option Nat) {d : D} {u : Value} (h : C X w σ d u) : Cs X w σ (setD ts dst d) (match dst with | some k => us.set k u | none => us) := by
  cases dst with
  | none => exact hc
  | some k => exact hc.set_ k h
theorem C.any_ {X : Nat → Nat → Prop} {w : World} {σ : List SC} (u : Value) : C X w σ .any u := by simp only [C]

/-- what an operation does when it runs -/
def Runs (P : Program) (B : Base) (k : RK) (dst : Option Nat) (ts : List D) (lo : List LO) (no : List NO) (K : St → Prop) : Prop :=
  ∀ (o : Oper), trK P o.op = k → o.dst = dst → ∀ X w σ us, Inv B X w σ lo no → Cs X w σ ts us → ∀ (K' : Act → World → Prop) (Q' : Exit → Act → World → Prop),
    (∀ S' X' w' σ' us', Inv B X' w' σ' S'.lo S'.no → Cs X' w' σ' S'.ts us' → K S' → K' ⟨us'.toArray, []⟩ w') → o.wp P ⟨us.toArray, []⟩ w K' Q'

theorem trR_none {ops : Array Oper} {o : Oper} {dst : Option Nat} {k : RK} (h : trR P ops o = ⟨dst, none, k⟩) (hk : k ≠ .bad) : o.guard = none ∧ o.dst = dst ∧ trK P o.op = k := by
  unfold trR at h
  split at h
  · rename_i hg
    simp only [RO.mk.injEq] at h
    exact ⟨hg, h.1, h.2.2⟩
  · split at h
    · simp at h
    · simp only [RO.mk.injEq] at h
      exact absurd h.2.2.symm hk
theorem trR_some {ops : Array Oper} {o : Oper} {dst : Option Nat} {k : RK} {s : Nat} {b : Bool} (h : trR P ops o = ⟨dst, some (s, b), k⟩) : (∃ j, o.guard = some (j, b) ∧ (ops[j]?).bind (·.dst) = some s) ∧ o.dst = dst ∧ trK P o.op = k := by
  unfold trR at h
  split at h
  · simp at h
  · rename_i j b' hg
    split at h
    · rename_i s' hs
      simp only [RO.mk.injEq, Option.some.injEq, Prod.mk.injEq] at h
      obtain ⟨h1, ⟨rfl, rfl⟩, h3⟩ := h
      exact ⟨⟨j, hg, hs⟩, h1, h3⟩
    · simp at h
theorem jl_runs {dst : Option Nat} {k : RK} (hk : k ≠ .bad) (h : Runs P B k dst ts lo no (JL P B Q rs)) : JL P B Q (⟨dst, none, k⟩ :: rs) ⟨ts, lo, no⟩ := by
  intro ops rest hm X w σ us hi hc
  cases rest with
  | nil => simp at hm
  | cons o rest =>
    simp only [List.map_cons, List.cons.injEq] at hm
    obtain ⟨h1, h4⟩ := hm
    obtain ⟨hg, hd, ht⟩ := trR_none h1 hk
    refine wpList_plain hg fun K' hK => h o ht hd X w σ us hi hc K' _ fun S' X' w' σ' us' hi' hc' hj => hK _ _ (hj ops rest h4 X' w' σ' us' hi' hc')

theorem guard_wanted {ops : Array Oper} {o : Oper} {X : Nat → Nat → Prop} {w : World} {σ : List SC} {us : List Value} {s j : Nat} {b g : Bool} (hg : geff ts s b = some g) (hc : Cs X w σ ts us) (ho : o.guard = some (j, b)) (hs : (ops[j]?).bind (·.dst) = some s) :
    Region.wanted o (yielded ops us.toArray) = g := by
  simp only [Region.wanted, ho, yielded, hs, Option.bind_some, List.getElem?_toArray]
  unfold geff at hg
  split at hg
  · rename_i q hq
    simp only [Option.some.injEq] at hg
    obtain ⟨u, hu, hcu⟩ := hc.at_ hq
    rw [hu, hcu.v.1]
    simp only [← hg]
    cases q <;> cases b <;> rfl
  · rename_i p q hq
    simp only [Option.some.injEq] at hg
    obtain ⟨u, hu, hcu⟩ := hc.at_ hq
    simp only [C] at hcu
    rw [hu]
    subst hg
    cases p
    · rw [hcu.2 rfl]
      cases b <;> rfl
    · rw [(hcu.1 rfl).1]
      cases q <;> cases b <;> rfl
  · cases hg

theorem jl_guard {dst : Option Nat} {k : RK} {s : Nat} {b g : Bool} (hk : k ≠ .bad) (hg : geff ts s b = some g) (h1 : g = true → JL P B Q (⟨dst, none, k⟩ :: rs) ⟨ts, lo, no⟩) (h0 : g = false → JL P B Q rs ⟨setD ts dst .any, lo, no⟩) :
    JL P B Q (⟨dst, some (s, b), k⟩ :: rs) ⟨ts, lo, no⟩ := by
  intro ops rest hm X w σ us hi hc
  cases rest with
  | nil => simp at hm
  | cons o rest =>
    simp only [List.map_cons, List.cons.injEq] at hm
    obtain ⟨e1, e4⟩ := hm
    obtain ⟨⟨j, ho, hs⟩, hd, ht⟩ := trR_some e1
    have hw := guard_wanted hg hc ho hs
    cases g with
    | true =>
      have k1 := h1 rfl ops ({ o with guard := none } :: rest) (by simp [trR, e4, hd, ht]) X w σ us hi hc
      simp only [wpList, hw, if_true]
      simp only [wpList, Region.wanted, if_true] at k1
      exact k1
    | false =>
      simp only [wpList, hw, Bool.false_eq_true, if_false]
      rw [put_eq, hd]
      exact h0 rfl ops rest e4 X w σ _ hi (setD_cs hc dst (C.any_ _))

/-- the plain operations -/
theorem runs_m {mo : MO} {dst : Option Nat} {d : D} {lo' : List LO} {φ : Prop} {K : St → Prop} (he : mo.ev ts lo = some (d, lo', φ)) (hφ : φ) (h : K ⟨setD ts dst d, lo', no⟩) : Runs P B (.m mo) dst ts lo no K := by
  intro o ht hd X w σ us hi hc K' Q' hK
  have htm : trM P o.op = some mo := by
    unfold trK at ht
    split at ht
    · rename_i m hm
      simp only [RK.m.injEq] at ht
      rw [hm, ht]
    · split at ht
      · split at ht
        · split at ht
          · split at ht <;> cases ht
          · cases ht
        · cases ht
      · cases ht
  obtain ⟨r, w', X', σ', h1, h2, h3, h4⟩ := mev_sound o htm he hφ hi hc
  unfold Oper.wp
  rw [h1]
  rcases h2 with ⟨u, rfl, hu⟩ | ⟨rfl, rfl⟩
  · simp only [Oper.upon_value]
    rw [put_eq, hd]
    exact hK _ X' w' σ' _ h3 (setD_cs (Cs.ext h4 _ _ hc) dst hu) h
  · simp only [Oper.upon_skip]
    rw [put_eq, hd]
    exact hK _ X' w' σ' _ h3 (setD_cs (Cs.ext h4 _ _ hc) dst (C.any_ _)) h
theorem trK_m {op : Op} {mo : MO} (ht : trK P op = .m mo) : trM P op = some mo := by
  unfold trK at ht
  split at ht
  · rename_i m hm
    simp only [RK.m.injEq] at ht
    rw [hm, ht]
  · split at ht
    · split at ht
      · split at ht
        · split at ht <;> cases ht
        · cases ht
      · cases ht
    · cases ht
/-- a plain operation that changes no variable, under a guard -/
theorem jl_gm {mo : MO} {dst : Option Nat} {s : Nat} {b g : Bool} {d : D} {φ : Prop} (hg : geff ts s b = some g) (he : mo.ev ts lo = some (d, lo, φ)) (hφ : g = true → φ) (h : JL P B Q rs ⟨setD ts dst (.gd g d), lo, no⟩) :
    JL P B Q (⟨dst, some (s, b), .m mo⟩ :: rs) ⟨ts, lo, no⟩ := by
  intro ops rest hm X w σ us hi hc
  cases rest with
  | nil => simp at hm
  | cons o rest =>
    simp only [List.map_cons, List.cons.injEq] at hm
    obtain ⟨e1, e4⟩ := hm
    obtain ⟨⟨j, ho, hs⟩, hd, ht⟩ := trR_some e1
    have hw := guard_wanted hg hc ho hs
    cases g with
    | true =>
      simp only [wpList, hw, if_true]
      left
      obtain ⟨r, w', X', σ', h1, h2, h3, h4⟩ := mev_sound o (trK_m ht) he (hφ rfl) hi hc
      unfold Oper.wp
      rw [h1]
      rcases h2 with ⟨u, rfl, hu⟩ | ⟨rfl, rfl⟩
      · simp only [Oper.upon_value]
        rw [put_eq, hd]
        exact h ops rest e4 X' w' σ' _ h3 (setD_cs (Cs.ext h4 _ _ hc) dst (by simp only [C]; exact ⟨fun _ => hu, fun h => by cases h⟩))
      · simp only [Oper.upon_skip]
        rw [put_eq, hd]
        exact h ops rest e4 X' w' σ' _ h3 (setD_cs (Cs.ext h4 _ _ hc) dst (by simp only [C]; exact ⟨fun _ => trivial, fun h => by cases h⟩))
    | false =>
      simp only [wpList, hw, Bool.false_eq_true, if_false]
      rw [put_eq, hd]
      exact h ops rest e4 X w σ _ hi (setD_cs hc dst (by simp [C]))

def MO.reads : MO → Bool
  | .pu _ | .ld _ _ _ => true
  | _ => false
theorem reads_lo {mo : MO} {d : D} {lo' : List LO} {φ : Prop} (hr : mo.reads = true) (he : mo.ev ts lo = some (d, lo', φ)) : lo' = lo := by
  cases mo with
  | pu ao =>
    simp only [MO.ev] at he
    split at he
    · simp only [Option.some.injEq, Prod.mk.injEq] at he
      exact he.2.1.symm
    · cases he
  | ld agg n x =>
    simp only [MO.ev] at he
    split at he
    · split at he
      · split at he
        · simp only [Option.some.injEq, Prod.mk.injEq] at he
          exact he.2.1.symm
        · split at he
          · simp only [Option.some.injEq, Prod.mk.injEq] at he
            exact he.2.1.symm
          · cases he
      · cases he
    · split at he
      · simp only [Option.some.injEq, Prod.mk.injEq] at he
        exact he.2.1.symm
      · split at he
        · simp only [Option.some.injEq, Prod.mk.injEq] at he
          exact he.2.1.symm
        · cases he
    · cases he
  | _ => cases hr

/-- the plain operations of a region, one after the other, as far as they go, at most n; φ: what is still to be shown -/
def arun : Nat → List RO → List D → List LO → Prop → List D × List LO × Prop × List RO
  | 0, rs, ts, lo, φ => (ts, lo, φ, rs)
  | _ + 1, [], ts, lo, φ => (ts, lo, φ, [])
  | n + 1, r :: rs, ts, lo, φ => match r with
    | ⟨dst, none, .m mo⟩ => match mo.ev ts lo with
      | some (d, lo', ψ) => arun n rs (setD ts dst d) lo' (φ ∧ ψ)
      | none => (ts, lo, φ, r :: rs)
    | ⟨dst, some (s, b), .m mo⟩ => match mo.reads, geff ts s b, mo.ev ts lo with
      | true, some g, some (d, _, ψ) => arun n rs (setD ts dst (.gd g d)) lo (φ ∧ (g = true → ψ))
      | _, _, _ => (ts, lo, φ, r :: rs)
    | _ => (ts, lo, φ, r :: rs)

theorem arun_le : ∀ {n : Nat} {rs : List RO} {ts ts' : List D} {lo lo' : List LO} {φ φ' : Prop} {rest : List RO}, arun n rs ts lo φ = (ts', lo', φ', rest) → φ' → φ := by
  intro n
  induction n with
  | zero =>
    intro rs ts ts' lo lo' φ φ' rest h hφ
    simp only [arun, Prod.mk.injEq] at h
    obtain ⟨_, _, rfl, _⟩ := h
    exact hφ
  | succ n ih =>
    intro rs ts ts' lo lo' φ φ' rest h hφ
    cases rs with
    | nil =>
      simp only [arun, Prod.mk.injEq] at h
      obtain ⟨_, _, rfl, _⟩ := h
      exact hφ
    | cons r rs =>
      obtain ⟨dst, g, k⟩ := r
      cases k with
      | m mo =>
        cases g with
        | none =>
          simp only [arun] at h
          split at h
          · exact (ih h hφ).1
          · simp only [Prod.mk.injEq] at h
            obtain ⟨_, _, rfl, _⟩ := h
            exact hφ
        | some sb =>
          obtain ⟨s, b⟩ := sb
          simp only [arun] at h
          split at h
          · exact (ih h hφ).1
          · simp only [Prod.mk.injEq] at h
            obtain ⟨_, _, rfl, _⟩ := h
            exact hφ
      | call f l =>
        cases g <;> (simp only [arun, Prod.mk.injEq] at h; obtain ⟨_, _, rfl, _⟩ := h; exact hφ)
      | o op =>
        cases g <;> (simp only [arun, Prod.mk.injEq] at h; obtain ⟨_, _, rfl, _⟩ := h; exact hφ)
      | bad =>
        cases g <;> (simp only [arun, Prod.mk.injEq] at h; obtain ⟨_, _, rfl, _⟩ := h; exact hφ)

theorem jl_run' : ∀ {n : Nat} {rs : List RO} {ts ts' : List D} {lo lo' : List LO} {φ φ' : Prop} {rest : List RO}, arun n rs ts lo φ = (ts', lo', φ', rest) → φ' → JL P B Q rest ⟨ts', lo', no⟩ → JL P B Q rs ⟨ts, lo, no⟩ := by
  intro n
  induction n with
  | zero =>
    intro rs ts ts' lo lo' φ φ' rest h hφ hj
    simp only [arun, Prod.mk.injEq] at h
    obtain ⟨rfl, rfl, rfl, rfl⟩ := h
    exact hj
  | succ n ih =>
    intro rs ts ts' lo lo' φ φ' rest h hφ hj
    cases rs with
    | nil =>
      simp only [arun, Prod.mk.injEq] at h
      obtain ⟨rfl, rfl, rfl, rfl⟩ := h
      exact hj
    | cons r rs =>
      obtain ⟨dst, g, k⟩ := r
      have stay : (ts, lo, φ, (⟨dst, g, k⟩ : RO) :: rs) = (ts', lo', φ', rest) → JL P B Q (⟨dst, g, k⟩ :: rs) ⟨ts, lo, no⟩ := by
        intro h
        simp only [Prod.mk.injEq] at h
        obtain ⟨rfl, rfl, rfl, rfl⟩ := h
        exact hj
      cases k with
      | m mo =>
        cases g with
        | none =>
          simp only [arun] at h
          split at h
          · rename_i d lo1 φ1 he
            exact jl_runs (by simp) (runs_m he (arun_le h hφ).2 (ih h hφ hj))
          · exact stay h
        | some sb =>
          obtain ⟨s, b⟩ := sb
          simp only [arun] at h
          split at h
          · rename_i hr g d lo1 φ1 h1 h2 he
            have hlo := reads_lo h1 he
            subst hlo
            exact jl_gm h2 he (arun_le h hφ).2 (ih h hφ hj)
          · exact stay h
      | call f l => cases g <;> exact stay (by simpa only [arun] using h)
      | o op => cases g <;> exact stay (by simpa only [arun] using h)
      | bad => cases g <;> exact stay (by simpa only [arun] using h)
theorem jl_run (n : Nat) {rs : List RO} {ts' : List D} {lo' : List LO} {φ' : Prop} {rest : List RO} (h : arun n rs ts lo True = (ts', lo', φ', rest)) (hφ : φ') (hj : JL P B Q rest ⟨ts', lo', no⟩) : JL P B Q rs ⟨ts, lo, no⟩ := jl_run' h hφ hj
end

/-- the arguments of a call -/
def vals (ts : List D) : List AX → Option (List D × Prop)
  | [] => some ([], True)
  | x :: r => match x.val ts, vals ts r with
    | some (d, φ), some (ds, ψ) => some (d.bare1 :: ds, φ ∧ ψ)
    | _, _ => none
section
variable {P : Program} {B : Base} {Q : Exit → St → Prop} {rs : List RO} {ts : List D} {lo : List LO} {no : List NO} {X : Nat → Nat → Prop} {w : World} {σ : List SC} {us : List Value}
theorem vals_sound : ∀ {l : List Operand} {xs : List AX} {ds : List D} {φ : Prop}, trA l = some xs → vals ts xs = some (ds, φ) → Cs X w σ ts us → φ → ds.all D.cl1 = true → Cs X w [] ds (l.map (Act.eval ⟨us.toArray, []⟩))
  | [], xs, ds, φ, h1, h2, hc, hφ, hcl => by
    simp only [trA, Option.some.injEq] at h1
    subst h1
    simp only [vals, Option.some.injEq, Prod.mk.injEq] at h2
    obtain ⟨rfl, _⟩ := h2
    simp [Cs]
  | o :: l, xs, ds, φ, h1, h2, hc, hφ, hcl => by
    simp only [trA] at h1
    split at h1
    · rename_i a r ha hr
      simp only [Option.some.injEq] at h1
      subst h1
      simp only [vals] at h2
      split at h2
      · rename_i d φ1 ds' φ2 hd hds
        simp only [Option.some.injEq, Prod.mk.injEq] at h2
        obtain ⟨rfl, rfl⟩ := h2
        simp only [List.all_cons, Bool.and_eq_true] at hcl
        simp only [List.map_cons, Cs]
        exact ⟨_, _, rfl, (val_sound ha hd hc hφ.1).bare1.cl1 hcl.1, vals_sound hr hds hc hφ.2 hcl.2⟩
      · cases h2
    · cases h1

theorem names_perm {a b : List NO} (h : a.Perm b) : (names a).Perm (names b) := h.map _
/-- after a call: what the caller knew still holds -/
theorem names_app {a b : List NO} : names (a ++ b) = names a ++ names b := List.map_append
theorem Inv.left {nl fr nl' : List NO} {X' : Nat → Nat → Prop} {w' : World} (h : Inv B X w σ lo no) (hp : no.Perm (nl ++ fr)) (k : Left X w nl X' w' nl') :
    NInv X w nl ∧ Inv B X' w' σ lo (nl' ++ fr) ∧ Ext X w σ X' w' σ := by
  have hn := names_perm hp
  rw [names_app] at hn
  have hsn := List.nodup_append.1 h.nod
  have hnn : (names nl ++ names fr).Nodup := hn.nodup_iff.1 hsn.2.1
  have hnd := List.nodup_append.1 hnn
  have hmem : ∀ b, b ∈ names nl ∨ b ∈ names fr → b ∈ names no := fun b hb => hn.mem_iff.2 (List.mem_append.2 hb)
  have hlt : ∀ b, b ∈ owned σ no → b < w.heap.size := h.lt
  have hX : ∀ b, b ∈ names nl → ∀ o, X b o := by
    intro b hb o
    obtain ⟨q, hq, rfl⟩ := List.mem_map.1 (hmem b (.inl hb))
    cases q with
    | box b cs => exact (h.nos _ hq).2 o
  have hcell : ∀ b o, b < w.heap.size → ¬ X b o → w'.cell? ⟨b, o, none⟩ = w.cell? ⟨b, o, none⟩ := fun b o hb hx =>
    World.cell?_of_block (w := w) (a := ⟨b, o, none⟩) (k.fr.keep b hb (fun hm => hx (hX b hm o)))
  have e : Ext X w σ X' w' σ := ⟨k.fr.size, fun b o hb hx => ⟨fun hx' => hx ((k.old b o hb).1 hx'), hcell b o hb hx⟩, fun _ _ hh => hh, fun _ g u hh => ⟨g, u, hh, Nat.le_refl _, fun _ => rfl⟩⟩
  have hkeep1 : ∀ (i b : Nat) (s : SC), σ[i]? = some s → s.block? = some b → w'.heap[b]? = w.heap[b]? := by
    intro i b s hi hs
    refine k.fr.keep b (hlt b (mem_owned hi hs)) (fun hm => ?_)
    exact hsn.2.2 b (List.mem_filterMap.2 ⟨s, List.mem_of_getElem? hi, hs⟩) b (hmem b (.inl hm)) rfl
  have hkeep2 : ∀ b ∈ names fr, w'.heap[b]? = w.heap[b]? := fun b hb =>
    k.fr.keep b (hlt b (List.mem_append_right _ (hmem b (.inr hb)))) (fun hm => hnd.2.2 b hm b hb rfl)
  refine ⟨⟨fun o ho => h.nos o (hp.mem_iff.2 (List.mem_append_left _ ho)), hnd.1⟩, ⟨k.fin, h.len, ?_, ?_, ?_, h.own, h.ownT, ?_, ?_, ?_, ?_⟩, e⟩
  · intro i s l hi hl
    exact LO.at_ext (h.los i s l hi hl) e (fun b hb o hx => (k.old b o (hlt b (mem_owned hi hb))).2 hx) (fun b hb => hkeep1 i b s hi hb)
  · intro o ho
    rcases List.mem_append.1 ho with ho | ho
    · exact k.nin.at_ o ho
    · have hb : o.block ∈ names fr := List.mem_map.2 ⟨o, ho, rfl⟩
      exact NO.at_ext (h.nos o (hp.mem_iff.2 (List.mem_append_right _ ho))) e (fun q hx => (k.old _ q (hlt _ (List.mem_append_right _ (hmem _ (.inr hb))))).2 hx) (hkeep2 _ hb)
  · unfold owned
    rw [names_app, List.nodup_append, List.nodup_append]
    refine ⟨hsn.1, ⟨k.nin.nod, hnd.2.1, fun a ha b hb => ?_⟩, fun a ha b hb => ?_⟩
    · rcases k.new a ha with h1 | h1
      · exact hnd.2.2 a h1 b hb
      · have := hlt b (List.mem_append_right _ (hmem b (.inr hb)))
        omega
    · rcases List.mem_append.1 hb with hb | hb
      · rcases k.new b hb with h1 | h1
        · exact hsn.2.2 a ha b (hmem b (.inl h1))
        · have := hlt a (List.mem_append_left _ ha)
          omega
      · exact hsn.2.2 a ha b (hmem b (.inr hb))
  · intro b hb
    rw [names_app] at hb
    rcases List.mem_append.1 hb with hb | hb
    · rcases k.new b hb with h1 | h1
      · exact h.lnt b (hmem b (.inl h1))
      · exact .inr (Nat.le_trans h.fr.size h1)
    · exact h.lnt b (hmem b (.inr hb))
  · intro b hb
    unfold owned at hb
    rw [names_app] at hb
    rcases List.mem_append.1 hb with hb | hb
    · exact Nat.lt_of_lt_of_le (hlt b (List.mem_append_left _ hb)) k.fr.size
    · rcases List.mem_append.1 hb with hb | hb
      · obtain ⟨q, hq, rfl⟩ := List.mem_map.1 hb
        cases q with
        | box b cs => exact k.fin b 0 ((k.nin.at_ _ hq).2 0)
      · exact Nat.lt_of_lt_of_le (hlt b (List.mem_append_right _ (hmem b (.inr hb)))) k.fr.size
  · exact h.fr.step k.fr (fun b hb => h.lnt b (hmem b (.inl hb)))
  · intro b o hb
    exact (k.old b o (Nat.lt_of_lt_of_le hb h.fr.size)).trans (h.old b o hb)
theorem trK_call {op : Op} {f : Nat} {xs : List AX} (h : trK P op = .call f xs) : ∃ c fn, op = .call c ∧ c.callee = .value (.func f) ∧ trA c.args.toList = some xs ∧ P.funcs[f]? = some fn ∧ fn.body.isSome = true ∧ (fn.name == "runtime.NumGoroutine") = false := by
  unfold trK at h
  split at h
  · cases h
  · split at h
    · rename_i c _
      split at h
      · rename_i f' l hcal hl
        split at h
        · rename_i fn hfn
          split at h
          · rename_i hb
            simp only [RK.call.injEq] at h
            obtain ⟨rfl, rfl⟩ := h
            simp only [Bool.and_eq_true, Bool.not_eq_true'] at hb
            exact ⟨c, fn, rfl, hcal, hl, hfn, hb.1, hb.2⟩
          · cases h
        · cases h
      · cases h
    · cases h
theorem call_wp {o : Oper} {c : Call} {f : Nat} {fn : Func} {vs : List Value} {a : Act} {K : Act → World → Prop} {Q' : Exit → Act → World → Prop} (ho : o.op = .call c) (hc : c.callee = .value (.func f)) (hf : P.funcs[f]? = some fn) (hb : fn.body.isSome = true) (hn : (fn.name == "runtime.NumGoroutine") = false)
    (hv : c.args.toList.map a.eval = vs) (h : Calls P f vs.toArray w fun e w' => ∃ u, e = .returned u ∧ K (a.put o.dst u) w') : o.wp P a w K Q' := by
  have hb' : ¬ fn.body = none := by
    intro hq
    rw [hq] at hb
    cases hb
  have hn' : ¬ fn.name = "runtime.NumGoroutine" := by simpa using hn
  have hr : (execOp a.eval o).run P w = .ok (.enter f vs.toArray) w := by
    have hargs : c.args.map a.eval = vs.toArray := by rw [← hv]; apply Array.ext'; simp
    simp [execOp, ho, resolve, hc, Act.eval, Deferred.ofValue, invoke, callFunc, hf, hn', hb', hargs]
  unfold Oper.wp
  rw [hr, Oper.upon_enter]
  refine h.mono ?_
  rintro e w' ⟨u, rfl, hk⟩
  exact hk
/-- THE RULE of a call -/
theorem runs_call {f : Nat} {xs : List AX} {dst : Option Nat} {ds : List D} {φ : Prop} {K : St → Prop} {nl fr : List NO} {R : D → List NO → Prop} (hv : vals ts xs = some (ds, φ)) (hφ : φ) (hcl : ds.all D.cl1 = true) (hp : no.Perm (nl ++ fr)) (hcall : ACalls P f nl ds R)
    (h : ∀ d nl', R d nl' → K ⟨setD ts dst d, lo, nl' ++ fr⟩) : Runs P B (.call f xs) dst ts lo no K := by
  intro o ht hd X w σ us hi hc K' Q' hK
  obtain ⟨c, fn, h1, h2, h3, h4, h5, h6⟩ := trK_call ht
  have hvs := vals_sound h3 hv hc hφ hcl
  refine call_wp h1 h2 h4 h5 h6 rfl ?_
  have hnin : NInv X w nl := by
    have hn := names_perm hp
    rw [names_app] at hn
    have hnn := List.nodup_append.1 (hn.nodup_iff.1 (List.nodup_append.1 hi.nod).2.1)
    exact ⟨fun o ho => hi.nos o (hp.mem_iff.2 (List.mem_append_left _ ho)), hnn.1⟩
  refine (hcall X w _ hi.fin hnin hvs).mono ?_
  rintro e w' ⟨d, u, X', nl', rfl, hR, hu, hl⟩
  obtain ⟨_, q1, q2⟩ := hi.left hp hl
  refine ⟨u, rfl, ?_⟩
  rw [put_eq, hd]
  exact hK _ X' w' σ _ q1 (setD_cs (Cs.ext q2 _ _ hc) dst hu.up) (h d nl' hR)

/-- the address of a thing of the call's own, seen from the function that it is lent to -/
def lendD (k g : Nat) : D → D
  | .bx i o => if i = k then .v (.pointer (some ⟨g, o, none⟩)) else .bx i o
  | d => d
def D.clk (k : Nat) : D → Bool
  | .bx i _ => i == k
  | d => d.cl1
theorem C.lend {k b : Nat} {d : D} {u : Value} (h : C X w σ d u) (hk : σ[k]? = some (.box b)) (h1 : d.clk k = true) : C X w [] (lendD k b d) u := by
  cases d with
  | bx i o =>
    simp only [D.clk, beq_iff_eq] at h1
    subst h1
    simp only [C] at h
    obtain ⟨b', hb, rfl⟩ := h
    rw [hk] at hb
    injection hb with hb
    injection hb with hb
    subst hb
    simp only [lendD, if_true]
    exact C.mkv rfl
  | _ => exact h.cl1 h1
theorem lend_sound {k b : Nat} : ∀ {l : List Operand} {xs : List AX} {ds : List D} {φ : Prop}, trA l = some xs → vals ts xs = some (ds, φ) → Cs X w σ ts us → φ → ds.all (D.clk k) = true → σ[k]? = some (.box b) → Cs X w [] (ds.map (lendD k b)) (l.map (Act.eval ⟨us.toArray, []⟩))
  | [], xs, ds, φ, h1, h2, hc, hφ, hcl, hk => by
    simp only [trA, Option.some.injEq] at h1
    subst h1
    simp only [vals, Option.some.injEq, Prod.mk.injEq] at h2
    obtain ⟨rfl, _⟩ := h2
    simp [Cs]
  | o :: l, xs, ds, φ, h1, h2, hc, hφ, hcl, hk => by
    simp only [trA] at h1
    split at h1
    · rename_i a r ha hr
      simp only [Option.some.injEq] at h1
      subst h1
      simp only [vals] at h2
      split at h2
      · rename_i d φ1 ds' φ2 hd hds
        simp only [Option.some.injEq, Prod.mk.injEq] at h2
        obtain ⟨rfl, rfl⟩ := h2
        simp only [List.all_cons, Bool.and_eq_true] at hcl
        simp only [List.map_cons, Cs]
        exact ⟨_, _, rfl, (val_sound ha hd hc hφ.1).bare1.lend hk hcl.1, lend_sound hr hds hc hφ.2 hcl.2 hk⟩
      · cases h2
    · cases h1
theorem Inv.lend {k b : Nat} {cs cs' : List D} {X' : Nat → Nat → Prop} {w' : World} (h : Inv B X w σ lo no) (hk : σ[k]? = some (.box b)) (hl : lo[k]? = some (.hid cs)) (kk : Left X w [.box b cs] X' w' [.box b cs']) :
    Inv B X' w' σ (lo.set k (.hid cs')) no ∧ Ext X w σ X' w' σ := by
  have hat := h.los k _ _ hk hl
  have hne : ∀ c, c ≠ b → c < w.heap.size → w'.heap[c]? = w.heap[c]? := fun c hc hlt => kk.fr.keep c hlt (by simpa [names, NO.block] using hc)
  have hb : b < w.heap.size := h.fin b 0 (hat.2 0)
  have e : Ext X w σ X' w' σ := ⟨kk.fr.size, fun c o hc hx => ⟨fun hx' => hx ((kk.old c o hc).1 hx'), World.cell?_of_block (w := w) (a := ⟨c, o, none⟩) (hne c (fun he => hx (he ▸ hat.2 o)) hc)⟩, fun _ _ hh => hh, fun _ g u hh => ⟨g, u, hh, Nat.le_refl _, fun _ => rfl⟩⟩
  refine ⟨⟨kk.fin, by simp [h.len], ?_, ?_, h.nod, h.own, h.ownT, h.lnt, ?_, ?_, ?_⟩, e⟩
  · intro i s l hi hl'
    by_cases hik : i = k
    · subst hik
      rw [hk] at hi
      injection hi with hi
      subst hi
      rw [List.getElem?_set_self (List.getElem?_eq_some_iff.1 hl).1, Option.some.injEq] at hl'
      subst hl'
      exact kk.nin.at_ _ (List.mem_singleton.2 rfl)
    · rw [List.getElem?_set_ne (fun q => hik q.symm)] at hl'
      have hn : ∀ c, s.block? = some c → c ≠ b := fun c hc he => apart_of h.nod hk hi (fun q => hik q.symm) rfl (he ▸ hc)
      exact LO.at_ext (h.los i s l hi hl') e (fun c hc o hx => (kk.old c o (h.lt c (mem_owned hi hc))).2 hx) (fun c hc => hne c (hn c hc) (h.lt c (mem_owned hi hc)))
  · intro o ho
    have hlt := h.lt _ (mem_named ho)
    exact NO.at_ext (h.nos o ho) e (fun q hx => (kk.old _ q hlt).2 hx) (hne _ (apart_no h.nod hk rfl ho) hlt)
  · exact fun c hc => Nat.lt_of_lt_of_le (h.lt c hc) kk.fr.size
  · refine h.fr.step (m := [b]) kk.fr (fun c hc => ?_)
    simp only [List.mem_singleton] at hc
    subst hc
    exact h.own k c _ hk rfl
  · intro c o hc
    exact (kk.old c o (Nat.lt_of_lt_of_le hc h.fr.size)).trans (h.old c o hc)
/-- THE RULE of a call that a thing of the call's own is lent to -/
theorem runs_lend {f k : Nat} {xs : List AX} {dst : Option Nat} {ds : List D} {φ : Prop} {K : St → Prop} {cs : List D} {R : Nat → D → List NO → Prop} (hl : lo[k]? = some (.hid cs)) (hv : vals ts xs = some (ds, φ)) (hφ : φ) (hcl : ds.all (D.clk k) = true) (hcall : ∀ g, ACalls P f [.box g cs] (ds.map (lendD k g)) (R g))
    (h : ∀ g d nl', R g d nl' → ∃ cs', nl' = [.box g cs'] ∧ K ⟨setD ts dst d, lo.set k (.hid cs'), no⟩) : Runs P B (.call f xs) dst ts lo no K := by
  intro o ht hd X w σ us hi hc K' Q' hK
  obtain ⟨c, fn, h1, h2, h3, h4, h5, h6⟩ := trK_call ht
  obtain ⟨s, hs⟩ : ∃ s, σ[k]? = some s := ⟨_, List.getElem?_eq_getElem (by rw [hi.len]; exact (List.getElem?_eq_some_iff.1 hl).1)⟩
  have hat := hi.los k s _ hs hl
  cases s with
  | tok g u => exact hat.elim
  | box b =>
    have hvs := lend_sound h3 hv hc hφ hcl hs
    refine call_wp h1 h2 h4 h5 h6 rfl ?_
    refine (hcall b X w _ hi.fin ⟨fun o ho => by simp only [List.mem_singleton] at ho; subst ho; exact hat, by simp [names]⟩ hvs).mono ?_
    rintro e w' ⟨d, u, X', nl', rfl, hR, hu, hle⟩
    obtain ⟨cs', rfl, hk⟩ := h b d nl' hR
    obtain ⟨q1, q2⟩ := hi.lend hs hl hle
    refine ⟨u, rfl, ?_⟩
    rw [put_eq, hd]
    exact hK _ X' w' σ _ q1 (setD_cs (Cs.ext q2 _ _ hc) dst hu.up) hk
/-- a thing that was handed over becomes one of the call's own -/
theorem Inv.adopt {g : Nat} {cs : List D} (h : Inv B X w σ lo (.box g cs :: no)) : Inv B X w (σ ++ [.box g]) (lo ++ [.hid cs]) no ∧ Ext X w σ X w (σ ++ [.box g]) := by
  have e : Ext X w σ X w (σ ++ [.box g]) := ⟨Nat.le_refl _, fun _ _ _ hx => ⟨hx, rfl⟩, fun k b hk => by rw [List.getElem?_append_left (List.getElem?_eq_some_iff.1 hk).1]; exact hk, fun k g' u hk => ⟨g', u, by rw [List.getElem?_append_left (List.getElem?_eq_some_iff.1 hk).1]; exact hk, Nat.le_refl _, fun _ => rfl⟩⟩
  have ho : owned (σ ++ [.box g]) no = owned σ (.box g cs :: no) := by simp [owned, names, SC.block?, NO.block]
  refine ⟨⟨h.fin, by simp [h.len], ?_, fun o ho => h.nos o (List.mem_cons_of_mem _ ho), by rw [ho]; exact h.nod, ?_, ?_, fun b hb => h.lnt b (List.mem_cons_of_mem _ hb), by rw [ho]; exact h.lt, h.fr, h.old⟩, e⟩
  · intro k s l hk hl
    rcases getElem?_snoc hk with hk' | ⟨rfl, rfl⟩
    · rw [List.getElem?_append_left (by rw [← h.len]; exact (List.getElem?_eq_some_iff.1 hk').1)] at hl
      exact LO.at_ext (h.los k s l hk' hl) e (fun _ _ _ hx => hx) (fun _ _ => rfl)
    · rw [h.len] at hl
      simp only [List.getElem?_concat_length, Option.some.injEq] at hl
      subst hl
      exact h.nos _ List.mem_cons_self
  · intro k b s hk hs
    rcases getElem?_snoc hk with hk' | ⟨_, rfl⟩
    · exact h.own k b s hk' hs
    · simp only [SC.block?, Option.some.injEq] at hs
      subst hs
      exact h.lnt g (by simp [names, NO.block])
  · intro k g' u b hk hs
    rcases getElem?_snoc hk with hk' | ⟨_, q⟩
    · exact h.ownT k g' u b hk' hs
    · cases q
theorem jl_adopt {g s : Nat} {cs : List D} (hs : ts[s]? = some (.v (.pointer (some ⟨g, 0, none⟩)))) (h : JL P B Q rs ⟨ts.set s (.bx lo.length 0), lo ++ [.hid cs], no⟩) : JL P B Q rs ⟨ts, lo, .box g cs :: no⟩ := by
  intro ops rest hm X w σ us hi hc
  obtain ⟨q1, q2⟩ := Inv.adopt hi
  have hc' := Cs.ext q2 _ _ hc
  obtain ⟨u, hu, hcu⟩ := hc'.at_ hs
  have hset : us.set s u = us := by
    apply List.ext_getElem?
    intro m
    rw [List.getElem?_set]
    split
    · rename_i he
      subst he
      split
      · exact hu.symm
      · rename_i hl
        rw [List.getElem?_eq_none (by omega)] at hu
        cases hu
    · rfl
  have := hc'.set_ s (d := .bx lo.length 0) (u := u) (by
    have hlen := Inv.len hi
    simp only [C]
    exact ⟨g, by rw [← hlen]; simp, hcu.v.1⟩)
  rw [hset] at this
  exact h ops rest hm X w _ us q1 this
theorem jl_lend {f k : Nat} {xs : List AX} {dst : Option Nat} {ds : List D} {φ : Prop} {cs : List D} {R : Nat → D → List NO → Prop} (hl : lo[k]? = some (.hid cs)) (hv : vals ts xs = some (ds, φ)) (hφ : φ) (hcl : ds.all (D.clk k) = true) (hcall : ∀ g, ACalls P f [.box g cs] (ds.map (lendD k g)) (R g))
    (h : ∀ g d nl', R g d nl' → ∃ cs', nl' = [.box g cs'] ∧ JL P B Q rs ⟨setD ts dst d, lo.set k (.hid cs'), no⟩) : JL P B Q (⟨dst, none, .call f xs⟩ :: rs) ⟨ts, lo, no⟩ :=
  jl_runs (by simp) (runs_lend hl hv hφ hcl hcall h)
end
end Go.Proofs.Ytnimpcffagidoaa
