/-
  Walks by values: statements, loops, functions.
-/
import Derived.Test.YtnimpcffagidoaaD4
namespace Go.Proofs.Ytnimpcffagidoaa
open Go.RowKit
set_option linter.unusedSimpArgs false
set_option linter.unusedVariables false

inductive AC where
  | sk
  | reg (rs : List RO)
  | dr (ds : List DO)
  | sq (a b : AC)
  | cd (x : AX) (a b : AC)
  | bk (id : Nat) (a : AC)
  | lp (a : AC)
  | ex (id : Nat)
  | rt
  | ot (c : Code)

def trC (P : Program) : Code → AC
  | .skip => .sk
  | .region _ ops false => .reg (ops.toList.map (trR P ops))
  | .region _ ops true => .dr (ops.toList.map (trD P ops))
  | .seq a b => .sq (trC P a) (trC P b)
  | .cond c a b => match trX c with
    | some x => .cd x (trC P a) (trC P b)
    | none => .ot (.cond c a b)
  | .block id c => .bk id (trC P c)
  | .loop c => .lp (trC P c)
  | .exit id => .ex id
  | .ret => .rt
  | c => .ot c

def JV (P : Program) (B : Base) (Q : Exit → St → Prop) (ac : AC) (S : St) : Prop :=
  ∀ c, trC P c = ac → ∀ X w σ us, Inv B X w σ S.lo S.no → Cs X w σ S.ts us → c.wp P (lift B Q) ⟨us.toArray, []⟩ w

/-- what follows a part that ends in the usual way -/
def thenQ (next : St → Prop) (Q : Exit → St → Prop) : Exit → St → Prop
  | .normal, S => next S
  | e, S => Q e S
def inQ (id : Nat) (Q : Exit → St → Prop) : Exit → St → Prop
  | .exit i, S => if i = id then Q .normal S else Q (.exit i) S
  | e, S => Q e S

section
variable {P : Program} {B : Base} {Q Q' : Exit → St → Prop} {S : St}
theorem jv_mono {ac : AC} (h : JV P B Q ac S) (hq : ∀ e S, Q e S → Q' e S) : JV P B Q' ac S :=
  fun c hc X w σ us hi hs => wp_mono (h c hc X w σ us hi hs) fun e a w' ⟨S', X', σ', us', h1, h2, h3, h4⟩ => ⟨S', X', σ', us', h1, h2, h3, hq _ _ h4⟩
theorem jv_sk (h : Q .normal S) : JV P B Q .sk S := by
  intro c hc X w σ us hi hs
  cases c with
  | skip => exact wp_skip ⟨S, X, σ, us, hi, hs, rfl, h⟩
  | region id ops d => cases d <;> simp [trC] at hc
  | cond x a b => simp only [trC] at hc; split at hc <;> cases hc
  | _ => simp [trC] at hc
theorem jv_rt (h : Q .ret S) : JV P B Q .rt S := by
  intro c hc X w σ us hi hs
  cases c with
  | ret => exact wp_ret ⟨S, X, σ, us, hi, hs, rfl, h⟩
  | region id ops d => cases d <;> simp [trC] at hc
  | cond x a b => simp only [trC] at hc; split at hc <;> cases hc
  | _ => simp [trC] at hc
theorem jv_ex {id : Nat} (h : Q (.exit id) S) : JV P B Q (.ex id) S := by
  intro c hc X w σ us hi hs
  cases c with
  | exit i =>
    simp only [trC, AC.ex.injEq] at hc
    subst hc
    exact wp_exit ⟨S, X, σ, us, hi, hs, rfl, h⟩
  | region id ops d => cases d <;> simp [trC] at hc
  | cond x a b => simp only [trC] at hc; split at hc <;> cases hc
  | _ => simp [trC] at hc
theorem jv_reg {rs : List RO} (h : JL P B Q rs S) : JV P B Q (.reg rs) S := by
  intro c hc X w σ us hi hs
  cases c with
  | region id ops d =>
    cases d with
    | true => simp [trC] at hc
    | false =>
      simp only [trC, AC.reg.injEq] at hc
      exact wp_region_list (h ops ops.toList hc X w σ us hi hs)
  | cond x a b => simp only [trC] at hc; split at hc <;> cases hc
  | _ => simp [trC] at hc
theorem jv_sq {a b : AC} (h : JV P B (thenQ (fun S => JV P B Q b S) Q) a S) : JV P B Q (.sq a b) S := by
  intro c hc X w σ us hi hs
  cases c with
  | seq x y =>
    simp only [trC, AC.sq.injEq] at hc
    refine wp_seq (wp_mono (h x hc.1 X w σ us hi hs) ?_)
    rintro e a' w' ⟨S', X', σ', us', h1, h2, rfl, h4⟩
    cases e with
    | normal => exact h4 y hc.2 X' w' σ' us' h1 h2
    | _ => exact ⟨S', X', σ', us', h1, h2, rfl, h4⟩
  | region id ops d => cases d <;> simp [trC] at hc
  | cond x a b => simp only [trC] at hc; split at hc <;> cases hc
  | _ => simp [trC] at hc
theorem jv_bk {id : Nat} {a : AC} (h : JV P B (inQ id Q) a S) : JV P B Q (.bk id a) S := by
  intro c hc X w σ us hi hs
  cases c with
  | block i x =>
    simp only [trC, AC.bk.injEq] at hc
    obtain ⟨rfl, hc⟩ := hc
    refine wp_block (wp_mono (h x hc X w σ us hi hs) ?_)
    rintro e a' w' ⟨S', X', σ', us', h1, h2, rfl, h4⟩
    cases e with
    | exit j =>
      simp only [inQ] at h4
      simp only [Exit.inBlock]
      split at h4
      · rename_i hj
        rw [if_pos hj]
        exact ⟨S', X', σ', us', h1, h2, rfl, h4⟩
      · rename_i hj
        rw [if_neg hj]
        exact ⟨S', X', σ', us', h1, h2, rfl, h4⟩
    | _ => exact ⟨S', X', σ', us', h1, h2, rfl, h4⟩
  | region id ops d => cases d <;> simp [trC] at hc
  | cond x a b => simp only [trC] at hc; split at hc <;> cases hc
  | _ => simp [trC] at hc
theorem jv_cd {x : AX} {a b : AC} {t : Bool} {φ : Prop} (hv : x.val S.ts = some (.v (.bool t), φ)) (hφ : φ) (h1 : t = true → JV P B Q a S) (h0 : t = false → JV P B Q b S) : JV P B Q (.cd x a b) S := by
  intro c hc X w σ us hi hs
  cases c with
  | cond o p q =>
    simp only [trC] at hc
    split at hc
    · rename_i x' hx
      simp only [AC.cd.injEq] at hc
      obtain ⟨rfl, h2, h3⟩ := hc
      have hu := (val_sound hx hv hs hφ).v.1
      cases t with
      | true => exact wp_cond_true hu (h1 rfl p h2 X w σ us hi hs)
      | false => exact wp_cond_false hu (h0 rfl q h3 X w σ us hi hs)
    · cases hc
  | region id ops d => cases d <;> simp [trC] at hc
  | _ => simp [trC] at hc

theorem jl_nx {next : St → Prop} (h : next S) : JL P B (thenQ next Q) [] S := jl_nil h
theorem jv_skn {next : St → Prop} (h : next S) : JV P B (thenQ next Q) .sk S := jv_sk h
theorem jl_m_ {dst : Option Nat} {g : Option (Nat × Bool)} {mo : MO} {rs : List RO} (h : JL P B Q (⟨dst, g, .m mo⟩ :: rs) S) : JL P B Q (⟨dst, g, .m mo⟩ :: rs) S := h
theorem jl_end {rs : List RO} (h : JL P B Q rs S) : JL P B Q rs S := h
theorem D.b_congr {p q : Bool} (h : p = true ↔ q = true) : D.b p = D.b q := by rw [Bool.eq_iff_iff.2 h]
/-- T knows less than S: slots of which nothing is known any more, variables that are forgotten -/
def leD : List D → List D → Prop
  | [], [] => True
  | a :: l, b :: r => (b = .any ∨ a = b) ∧ leD l r
  | _, _ => False
/-- no thing from n on is in it -/
def D.lo0 (n : Nat) : D → Bool
  | .bx k _ => k < n
  | .sl (some (k, _)) _ _ => k < n
  | .v _ | .sl none _ _ | .el _ | .any => true
  | _ => false
def D.lo1 (n : Nat) : D → Bool
  | .ag cs => cs.all (D.lo0 n)
  | .gd _ (.bx k _) => k < n
  | .gd _ (.v _) => true
  | d => d.lo0 n
def LO.low (n : Nat) : LO → Bool
  | .box cs => cs.all (D.lo0 n)
  | .hid _ => true
  | .tok _ _ _ => true
structure Less (S T : St) : Prop where
  ts : leD S.ts T.ts
  low : T.ts.all (D.lo1 T.lo.length) = true
  lo : T.lo = S.lo.take T.lo.length
  lol : T.lo.all (LO.low T.lo.length) = true
  no : T.no = S.no

section
variable {X : Nat → Nat → Prop} {w : World} {σ : List SC}
theorem C.lo0 {n : Nat} {d : D} {u : Value} (h : C X w σ d u) (h1 : d.lo0 n = true) : C X w (σ.take n) d u := by
  cases d with
  | v x => simpa only [C] using h
  | el cs => simpa only [C] using h
  | any => simp only [C]
  | bx k o =>
    simp only [C] at h ⊢
    obtain ⟨b, hb, e⟩ := h
    exact ⟨b, by rw [List.getElem?_take_of_lt (by simpa [D.lo0] using h1)]; exact hb, e⟩
  | sl tok m cs =>
    cases tok with
    | none =>
      simp only [C] at h ⊢
      exact ⟨h.1, fun k g hk => by cases hk⟩
    | some t =>
      obtain ⟨k, g⟩ := t
      simp only [C] at h ⊢
      refine ⟨h.1, fun k' g' hk => ?_⟩
      obtain ⟨g2, u2, a1, a2⟩ := h.2 k' g' hk
      simp only [Option.some.injEq, Prod.mk.injEq] at hk
      obtain ⟨rfl, rfl⟩ := hk
      exact ⟨g2, u2, by rw [List.getElem?_take_of_lt (by simpa [D.lo0] using h1)]; exact a1, a2⟩
  | _ => simp [D.lo0] at h1
theorem Cs.lo0 {n : Nat} {ds : List D} {us : List Value} (h : Cs X w σ ds us) (h1 : ds.all (D.lo0 n) = true) : Cs X w (σ.take n) ds us := by
  induction ds generalizing us with
  | nil => simpa only [Cs] using h
  | cons d ds ih =>
    simp only [Cs] at h ⊢
    obtain ⟨u, us', rfl, h2, h3⟩ := h
    simp only [List.all_cons, Bool.and_eq_true] at h1
    exact ⟨u, us', rfl, h2.lo0 h1.1, ih h3 h1.2⟩
theorem C.lo1 {n : Nat} {d : D} {u : Value} (h : C X w σ d u) (h1 : d.lo1 n = true) : C X w (σ.take n) d u := by
  cases d with
  | ag cs =>
    simp only [C] at h ⊢
    obtain ⟨vs, e, h2⟩ := h
    exact ⟨vs, e, h2.lo0 h1⟩
  | gd p d =>
    cases d with
    | bx k o =>
      have := fun hu : C X w σ (.bx k o) u => hu.lo0 (n := n) h1
      simp only [C] at h this ⊢
      exact ⟨fun hp => this (h.1 hp), h.2⟩
    | v x => simpa only [C] using h
    | _ => simp [D.lo1, D.lo0] at h1
  | _ => exact h.lo0 h1
theorem leD_cs {n : Nat} : ∀ {a b : List D} {us : List Value}, leD a b → b.all (D.lo1 n) = true → Cs X w σ a us → Cs X w (σ.take n) b us
  | [], [], us, _, _, h => by simpa only [Cs] using h
  | a :: l, b :: r, us, h, h1, hc => by
    simp only [leD] at h
    simp only [Cs] at hc ⊢
    obtain ⟨u, us', rfl, h2, h3⟩ := hc
    simp only [List.all_cons, Bool.and_eq_true] at h1
    refine ⟨u, us', rfl, ?_, leD_cs h.2 h1.2 h3⟩
    rcases h.1 with rfl | rfl
    · exact C.any_ _
    · exact h2.lo1 h1.1
  | [], _ :: _, us, h, _, _ => by simp only [leD] at h
  | _ :: _, [], us, h, _, _ => by simp only [leD] at h
end
theorem Less.inv {S T : St} {X : Nat → Nat → Prop} {w : World} {σ : List SC} {us : List Value} (h : Less S T) (hi : Inv B X w σ S.lo S.no) (hc : Cs X w σ S.ts us) : Inv B X w (σ.take T.lo.length) T.lo T.no ∧ Cs X w (σ.take T.lo.length) T.ts us := by
  have htk : ∀ (k : Nat) (s : SC), (σ.take T.lo.length)[k]? = some s → σ[k]? = some s ∧ k < T.lo.length := by
    intro k s hk
    rw [List.getElem?_take] at hk
    split at hk
    · rename_i hlt; exact ⟨hk, hlt⟩
    · cases hk
  have hsub : ∀ b, b ∈ owned (σ.take T.lo.length) T.no → b ∈ owned σ S.no := by
    intro b hb
    unfold owned at hb ⊢
    rw [h.no] at hb
    rcases List.mem_append.1 hb with hb | hb
    · obtain ⟨s, hs, hsb⟩ := List.mem_filterMap.1 hb
      exact List.mem_append_left _ (List.mem_filterMap.2 ⟨s, List.mem_of_mem_take hs, hsb⟩)
    · exact List.mem_append_right _ hb
  refine ⟨⟨hi.fin, ?_, ?_, ?_, ?_, ?_, ?_, ?_, ?_, hi.fr, hi.old⟩, leD_cs h.ts h.low hc⟩
  · have h1 := congrArg List.length h.lo
    rw [List.length_take] at h1
    rw [List.length_take, hi.len]
    omega
  · intro k s l hk hl
    obtain ⟨hk', hlt⟩ := htk k s hk
    have hl' : S.lo[k]? = some l := by
      rw [h.lo, List.getElem?_take_of_lt hlt] at hl
      exact hl
    have hat := hi.los k s l hk' hl'
    cases s with
    | box b =>
      cases l with
      | box cs =>
        obtain ⟨⟨t, vs, e1, e2⟩, e3⟩ := hat
        refine ⟨⟨t, vs, e1, e2.lo0 ?_⟩, e3⟩
        have := (List.all_eq_true.1 h.lol) _ (List.mem_of_getElem? hl)
        exact this
      | hid cs => exact hat
      | tok e sz g => exact hat
    | tok g u =>
      cases l with
      | box cs => exact hat
      | hid cs => exact hat
      | tok e sz g' => exact hat
  · rw [h.no]; exact hi.nos
  · have h1 := List.nodup_append.1 hi.nod
    unfold owned
    rw [h.no]
    refine List.nodup_append.2 ⟨h1.1.sublist ((List.take_sublist _ _).filterMap _), h1.2.1, fun a ha b hb => h1.2.2 a ?_ b hb⟩
    obtain ⟨s, hs, hsb⟩ := List.mem_filterMap.1 ha
    exact List.mem_filterMap.2 ⟨s, List.mem_of_mem_take hs, hsb⟩
  · intro k b s hk hs
    exact hi.own k b s (htk k s hk).1 hs
  · intro k g u b hk hs
    exact hi.ownT k g u b (htk k _ hk).1 hs
  · rw [h.no]; exact hi.lnt
  · exact fun b hb => hi.lt b (hsub b hb)
theorem jv_less {T : St} {ac : AC} (h : Less S T) (k : JV P B Q ac T) : JV P B Q ac S := by
  intro c hc X w σ us hi hs
  obtain ⟨h1, h2⟩ := h.inv hi hs
  exact k c hc X w _ us h1 h2
theorem jl_less {T : St} {rs : List RO} (h : Less S T) (k : JL P B Q rs T) : JL P B Q rs S := by
  intro ops rest hm X w σ us hi hs
  obtain ⟨h1, h2⟩ := h.inv hi hs
  exact k ops rest hm X w _ us h1 h2

/-- a loop whose invariant carries its own measure -/
theorem wp_loop_by {c : Code} {Q : Exit → Act → World → Prop} (I : Nat → Act → World → Prop) (round : ∀ n a w, I n a w → c.wp P (Exit.then (fun a' w' => ∃ m, m < n ∧ I m a' w') Q) a w) :
    ∀ n a w, I n a w → (Code.loop c).wp P Q a w := by
  intro n0 a0 w0 h0 b k cs
  have key : ∀ n a w, I n a w → ∃ e a' w', Q e a' w' ∧ Arrives P (lone (b.at a (.code c :: .inLoop c :: k)) cs w) b k cs e a' w' := by
    intro n
    induction n using Nat.strongRecOn with
    | _ n ih =>
      intro a w hI
      obtain ⟨e, a1, w1, hq, harr⟩ := round n a w hI b (.inLoop c :: k) cs
      cases e with
      | normal =>
        obtain ⟨m, hm, hI1⟩ := hq
        obtain ⟨e2, a2, w2, hq2, harr2⟩ := ih m hm a1 w1 hI1
        exact ⟨e2, a2, w2, hq2, .of_steps (Steps.trans harr (.one step_inLoop)) harr2⟩
      | exit id => exact ⟨_, a1, w1, hq, .pass (x := .inLoop c) rfl (fun _ _ => .inl (by simp)) harr⟩
      | goto l => exact ⟨_, a1, w1, hq, .pass (x := .inLoop c) rfl (fun _ _ => .inl (by simp)) harr⟩
      | ret => exact ⟨_, a1, w1, hq, .pass (x := .inLoop c) rfl (fun _ _ => .inl (by simp)) harr⟩
      | panic ch => exact ⟨_, a1, w1, hq, .pass (x := .inLoop c) rfl (fun _ _ => .inl (by simp)) harr⟩
      | outgrown => exact ⟨_, a1, w1, hq, .pass (x := .inLoop c) rfl (fun _ _ => .inl (by simp)) harr⟩
  obtain ⟨e, a', w', hq, harr⟩ := key n0 a0 w0 h0
  exact ⟨e, a', w', hq, .of_steps (.one step_loop) harr⟩

/-- THE RULE of a loop: a family of states at its head -/
theorem jv_lp {ι : Type} (T : ι → St) (μ : ι → Nat) (i0 : ι) (h0 : Less S (T i0)) {a : AC}
    (round : ∀ i, JV P B (thenQ (fun S' => ∃ j, μ j < μ i ∧ Less S' (T j)) Q) a (T i)) : JV P B Q (.lp a) S := by
  intro c hc X w σ us hi hs
  cases c with
  | loop x =>
    simp only [trC, AC.lp.injEq] at hc
    obtain ⟨h1, h2⟩ := h0.inv hi hs
    refine wp_loop_by (fun n a' w' => ∃ i X' σ' us', μ i = n ∧ a' = ⟨us'.toArray, []⟩ ∧ Inv B X' w' σ' (T i).lo (T i).no ∧ Cs X' w' σ' (T i).ts us') ?_ (μ i0) _ _ ⟨i0, X, _, us, rfl, rfl, h1, h2⟩
    rintro n a' w' ⟨i, X', σ', us', rfl, rfl, g1, g2⟩
    refine wp_mono (round i x hc X' w' σ' us' g1 g2) ?_
    rintro e a2 w2 ⟨S', X2, σ2, us2, k1, k2, rfl, k4⟩
    cases e with
    | normal =>
      obtain ⟨j, hj, hl⟩ := k4
      obtain ⟨m1, m2⟩ := hl.inv k1 k2
      exact ⟨μ j, hj, j, X2, _, us2, rfl, rfl, m1, m2⟩
    | _ => exact ⟨S', X2, σ2, us2, k1, k2, rfl, k4⟩
  | region id ops d => cases d <;> simp [trC] at hc
  | cond x a b => simp only [trC] at hc; split at hc <;> cases hc
  | _ => simp [trC] at hc

/-- a result of a function -/
inductive RV where
  | t (i : Nat)
  | c (i : Nat) (agg : Bool) (n : Nat)
def trV (P : Program) : ResultVar → Option RV
  | .tmp t => some (.t t)
  | .cell a t => match P.underlying t, P.info? t with
    | some d, some inf => some (.c a (isRow d) inf.size)
    | _, _ => none
def trVs (P : Program) : List ResultVar → Option (List RV)
  | [] => some []
  | r :: l => match trV P r, trVs P l with
    | some a, some b => some (a :: b)
    | _, _ => none
def RV.ev (ts : List D) (lo : List LO) : RV → Option (D × Prop)
  | .t i => (AX.t i).val ts
  | .c i agg n => match (MO.ld agg n (.t i)).ev ts lo with
    | some (d, _, φ) => some (d, φ)
    | none => none
def resV (ts : List D) (lo : List LO) : List RV → Option (List D × Prop)
  | [] => some ([], True)
  | r :: l => match r.ev ts lo, resV ts lo l with
    | some (d, φ), some (ds, ψ) => some (d.bare1 :: ds, φ ∧ ψ)
    | _, _ => none
/-- what a function returns -/
def resD : List D → D
  | [d] => d
  | ds => .tu ds
/-- the end of a function whose contract is R -/
def finQ (rv : List RV) (R : D → List NO → Prop) : Exit → St → Prop := fun e S =>
  (e = .ret ∨ e = .normal) ∧ ∃ ds φ, resV S.ts S.lo rv = some (ds, φ) ∧ φ ∧ ds.all D.cl1 = true ∧ R (resD ds) S.no

section
variable {X : Nat → Nat → Prop} {w : World} {σ : List SC} {lo : List LO} {no : List NO} {ts : List D} {us : List Value}
/-- one result of a function, as the model takes it -/
def rvRun (us : List Value) : ResultVar → Sem Value
  | .tmp t => pure (us.toArray.getD t undef)
  | .cell a t => do loadVar t (← asAddr (us.toArray.getD a undef))
theorem rv_sound {r : ResultVar} {rv : RV} {d : D} {φ : Prop} (ht : trV P r = some rv) (he : rv.ev ts lo = some (d, φ)) (hφ : φ) (hi : Inv B X w σ lo no) (hc : Cs X w σ ts us) :
    ∃ u, C X w σ d u ∧ (rvRun us r).run P w = .ok u w := by
  cases r with
  | tmp t =>
    simp only [trV, Option.some.injEq] at ht
    subst ht
    refine ⟨_, val_sound (o := .tmp t) rfl he hc hφ, ?_⟩
    simp [Act.eval, rvRun]
  | cell a t =>
    simp only [trV] at ht
    split at ht
    · rename_i dd inf hd hin
      simp only [Option.some.injEq] at ht
      subst ht
      simp only [RV.ev] at he
      split at he
      · rename_i d1 lo1 φ1 he1
        simp only [Option.some.injEq, Prod.mk.injEq] at he
        obtain ⟨rfl, rfl⟩ := he
        obtain ⟨b, off, u, q1, q2, q3, _⟩ := ld_sound (o := .tmp a) hd hin rfl rfl rfl he1 hφ hi hc
        refine ⟨u, q3, ?_⟩
        simp only [Act.eval] at q1
        simp only [rvRun, Sem.run_bind, q1, asAddr, Sem.run_pure, Result.andThen_ok, q2]
      · cases he
    · cases ht
theorem rvs_sound : ∀ {rs : List ResultVar} {rv : List RV} {ds : List D} {φ : Prop}, trVs P rs = some rv → resV ts lo rv = some (ds, φ) → φ → Inv B X w σ lo no → Cs X w σ ts us →
    ∃ vs, Cs X w σ ds vs ∧ (rs.mapM (rvRun us)).run P w = .ok vs w
  | [], rv, ds, φ, ht, he, hφ, hi, hc => by
    simp only [trVs, Option.some.injEq] at ht
    subst ht
    simp only [resV, Option.some.injEq, Prod.mk.injEq] at he
    obtain ⟨rfl, _⟩ := he
    exact ⟨[], by simp [Cs], by simp⟩
  | r :: rs, rv, ds, φ, ht, he, hφ, hi, hc => by
    simp only [trVs] at ht
    split at ht
    · rename_i a b ha hb
      simp only [Option.some.injEq] at ht
      subst ht
      simp only [resV] at he
      split at he
      · rename_i d φ1 ds' φ2 hd hds
        simp only [Option.some.injEq, Prod.mk.injEq] at he
        obtain ⟨rfl, rfl⟩ := he
        obtain ⟨u, h1, h2⟩ := rv_sound ha hd hφ.1 hi hc
        obtain ⟨vs, h3, h4⟩ := rvs_sound hb hds hφ.2 hi hc
        refine ⟨u :: vs, by simp only [Cs]; exact ⟨u, vs, rfl, h1.bare1, h3⟩, ?_⟩
        rw [List.mapM_cons]
        simp only [Sem.run_bind, h2, h4, Result.andThen_ok, Sem.run_pure]
      · cases he
    · cases ht
theorem results_sound {fn : Func} {rv : List RV} {ds : List D} {φ : Prop} (ht : trVs P fn.results.toList = some rv) (he : resV ts lo rv = some (ds, φ)) (hφ : φ) (hi : Inv B X w σ lo no) (hc : Cs X w σ ts us) :
    ∃ u, C X w σ (resD ds) u ∧ (results fn us.toArray).run P w = .ok u w := by
  obtain ⟨vs, h1, h2⟩ := rvs_sound ht he hφ hi hc
  have hm : (fn.results.mapM (rvRun us)).run P w = .ok vs.toArray w := by
    rw [Array.mapM_eq_mapM_toList]
    rw [map_eq_pure_bind, Sem.run_bind, h2]
    rfl
  have hf : results fn us.toArray = (do let vs ← fn.results.mapM (rvRun us); pure (if h : vs.size = 1 then vs[0] else .tuple vs)) := by
    unfold results
    congr 1
  rw [hf, Sem.run_bind, hm]
  have hlen := h1.len
  unfold resD
  split
  · rename_i d
    obtain ⟨u, rfl, hu⟩ := h1.one
    exact ⟨u, hu, by simp⟩
  · rename_i hne
    have h0 : vs.toArray.size ≠ 1 := by
      intro h
      rcases ds with _ | ⟨d, _ | ⟨d2, r⟩⟩
      · simp at hlen; simp [hlen] at h
      · exact hne d rfl
      · simp at hlen h; omega
    refine ⟨.tuple vs.toArray, by simp only [C]; exact ⟨vs, rfl, h1⟩, ?_⟩
    simp only [Result.andThen_ok, dif_neg h0, Sem.run_pure]
end

/-- A FUNCTION's contract out of the walk through its text -/
theorem acalls_of {f : FuncId} {fn : Func} {c : Code} {ac : AC} {rv : List RV} {n : Nat} {nl : List NO} {ds : List D} {R : D → List NO → Prop} (hf : P.funcs[f]? = some fn) (hb : fn.body = some c) (hc : trC P c = ac) (hn : fn.ntmps = n) (hr : trVs P fn.results.toList = some rv)
    (h : ∀ B, JV P B (finQ rv R) ac ⟨ds ++ List.replicate (n - ds.length) .any, [], nl⟩) : ACalls P f nl ds R := by
  intro X w vs hfin hnin hvs
  have hi : Inv ⟨X, w, names nl⟩ X w [] [] nl := ⟨hfin, rfl, fun k b cs hk => by simp at hk, hnin.at_, by simpa [owned] using hnin.nod, fun k b s hk => by simp at hk, fun k g u b hk => by simp at hk, fun b hb => .inl hb, fun b hb => by
    have hb' : b ∈ names nl := by simpa [owned] using hb
    obtain ⟨q, hq, rfl⟩ := List.mem_map.1 hb'
    cases q with
    | box b cs => exact hfin b 0 ((hnin.at_ _ hq).2 0), Fr.refl _ _, fun _ _ _ => Iff.rfl⟩
  have hlen := hvs.len
  have hcs : Cs X w [] (ds ++ List.replicate (n - ds.length) .any) (vs ++ List.replicate (n - ds.length) undef) := by
    refine hvs.app ?_
    generalize n - ds.length = m
    induction m with
    | zero => simp [Cs]
    | succ m ih =>
      simp only [List.replicate_succ, Cs]
      exact ⟨_, _, rfl, C.any_ _, ih⟩
  refine calls_of_wp hf hb ?_
  have hw := h ⟨X, w, names nl⟩ c hc X w [] _ hi hcs
  have he : (vs.toArray ++ Array.replicate (fn.ntmps - vs.toArray.size) undef) = (vs ++ List.replicate (n - ds.length) undef).toArray := by
    apply Array.ext'
    simp [hn, hlen]
  rw [he]
  refine wp_mono hw ?_
  rintro e a w' ⟨S, X', σ', us', h1, h2, rfl, h3, ds', φ, h4, h5, h6, h7⟩
  obtain ⟨u, q1, q2⟩ := results_sound hr h4 h5 h1 h2
  have q3 : C X' w' [] (resD ds') u := by
    refine C.cl q1 ?_
    unfold resD
    split
    · simp only [List.all_cons, List.all_nil, Bool.and_true] at h6
      rename_i d
      cases d <;> simp_all [D.cl, D.cl1, D.cl0]
    · exact h6
  have hend : (∃ d u1 X1 nl', Ending.returned u = .returned u1 ∧ R d nl' ∧ C X1 w' [] d u1 ∧ Left X w nl X1 w' nl') :=
    ⟨_, u, X', S.no, rfl, h7, q3, h1.fin, h1.old, ⟨h1.nos, (List.nodup_append.1 h1.nod).2.1⟩, h1.lnt, h1.fr⟩
  rcases h3 with rfl | rfl
  · exact ⟨rfl, u, q2, hend⟩
  · exact ⟨rfl, u, q2, hend⟩

end
end Go.Proofs.Ytnimpcffagidoaa
