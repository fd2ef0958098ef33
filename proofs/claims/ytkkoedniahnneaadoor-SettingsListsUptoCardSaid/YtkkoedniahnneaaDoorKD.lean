/-
 What is said of functions and loops; operations like calls; rows of laws.
-/
import Derived.Test.YtkkoedniahnneaaDoorKC
import Derived.WalkKit
import Derived.ProofKit
import Derived.OpenShut
import Derived.ShutString
import Derived.ChangeOld
import Derived.Below
import Derived.Deep.Slices
import Derived.Deep.Fields
import Derived.Laws.BytesString
import Derived.Sort.OwnSortedInts
import Derived.Lib.SlicesCompact
set_option linter.unusedSimpArgs false
set_option linter.unusedVariables false
/-
 A run through a function's text: what it makes, the program's function makes.
-/
namespace Go.Proofs.YtkkoedniahnneaaDoor.K
open Go.RowKit
section
variable {P : Program} {B : Base} {X X' : Nat → Nat → Prop} {w w' : World} {σ σ' : Pl} {n : Nat} {S : VS} {us : List Value}
theorem tc_sound {g : G} (hg : GOk P g) (hm : P.follows .mixedOrders = true) : ∀ (tc : TC) {B : Base} {ro : Option Nat} {β : Type} {S : VS} {K : Exit → VS → Option β} {r : β}, ro = none ∨ tc.nrf = true → tc.lok g → ev g tc S K = some r → JV P B g.n ro (fun e S' => K e S' = some r) tc.er S := by
 intro tc
 induction tc with
 | sk =>
  intro B ro β S K r hro lk h c hc nn X w σ us ms ha
  cases c with
  | skip => exact wpIn_skip ⟨S, X, σ, us, ms, ha, rfl, h⟩
  | region id ops d => cases d <;> simp [trC, TC.er] at hc
  | cond x a b => simp only [trC, TC.er] at hc; split at hc <;> cases hc
  | rangeFunc x p a b => simp only [trC, TC.er] at hc; split at hc <;> cases hc
  | _ => simp [trC, TC.er] at hc
 | rt =>
  intro B ro β S K r hro lk h c hc nn X w σ us ms ha
  cases c with
  | ret => exact wpIn_ret ⟨S, X, σ, us, ms, ha, rfl, h⟩
  | region id ops d => cases d <;> simp [trC, TC.er] at hc
  | cond x a b => simp only [trC, TC.er] at hc; split at hc <;> cases hc
  | rangeFunc x p a b => simp only [trC, TC.er] at hc; split at hc <;> cases hc
  | _ => simp [trC, TC.er] at hc
 | ex id =>
  intro B ro β S K r hro lk h c hc nn X w σ us ms ha
  cases c with
  | exit i =>
   simp only [trC, TC.er, AC.ex.injEq] at hc
   subst hc
   exact wpIn_exit ⟨S, X, σ, us, ms, ha, rfl, h⟩
  | region id ops d => cases d <;> simp [trC, TC.er] at hc
  | cond x a b => simp only [trC, TC.er] at hc; split at hc <;> cases hc
  | rangeFunc x p a b => simp only [trC, TC.er] at hc; split at hc <;> cases hc
  | _ => simp [trC, TC.er] at hc
 | reg rs =>
  intro B ro β S K r hro lk h c hc nn X w σ us ms ha
  cases c with
  | region id ops d =>
   cases d with
   | true => simp [trC, TC.er] at hc
   | false =>
    simp only [trC, TC.er, AC.reg.injEq] at hc
    refine wpIn_region_list ?_
    exact evL_sound hg h hc ha fun S' X' w' σ' us' ha' hk => ⟨S', X', σ', us', ms, ha', rfl, hk⟩
  | cond x a b => simp only [trC, TC.er] at hc; split at hc <;> cases hc
  | rangeFunc x p a b => simp only [trC, TC.er] at hc; split at hc <;> cases hc
  | _ => simp [trC, TC.er] at hc
 | dr ds os t =>
  intro B ro β S K r _ _ h
  exact evD_sound hg hm h fun S' hk => hk
 | sq a b iha ihb =>
  intro B ro β S K r hro lk h c hc nn X w σ us ms ha
  cases c with
  | seq x y =>
   simp only [trC, TC.er, AC.sq.injEq] at hc
   refine wpIn_seq (wpIn_mono (iha (hro.imp_right fun q => (Bool.and_eq_true_iff.1 q).1) lk.1 h x hc.1 nn X w σ us ms ha) ?_)
   rintro e a' w' ⟨S', X', σ', us', ms', h1, rfl, h4⟩
   cases e with
   | normal => exact ihb (hro.imp_right fun q => (Bool.and_eq_true_iff.1 q).2) lk.2 h4 y hc.2 nn X' w' σ' us' ms' h1
   | _ => exact ⟨S', X', σ', us', ms', h1, rfl, h4⟩
  | region id ops d => cases d <;> simp [trC, TC.er] at hc
  | cond x a b => simp only [trC, TC.er] at hc; split at hc <;> cases hc
  | rangeFunc x p a b => simp only [trC, TC.er] at hc; split at hc <;> cases hc
  | _ => simp [trC, TC.er] at hc
 | cd x a b iha ihb =>
  intro B ro β S K r hro lk h c hc nn X w σ us ms ha
  cases c with
  | cond o p q =>
   simp only [trC, TC.er] at hc
   split at hc
   ·rename_i x' hx
    simp only [AC.cd.injEq] at hc
    obtain ⟨rfl, h2, h3⟩ := hc
    simp only [ev] at h
    split at h
    ·rename_i t ht
     have hu := xv_sound hx (by rw [ht]; rfl) ha.rel
     rw [ht] at hu
     have hu := (C.v hu).1
     rcases br_some h with ⟨rfl, h⟩ | ⟨rfl, h⟩
     ·exact wpIn_cond_true hu (iha (hro.imp_right fun q => (Bool.and_eq_true_iff.1 q).1) lk.1 h p h2 nn X w σ us ms ha)
     ·exact wpIn_cond_false hu (ihb (hro.imp_right fun q => (Bool.and_eq_true_iff.1 q).2) lk.2 h q h3 nn X w σ us ms ha)
    ·cases h
   ·cases hc
  | region id ops d => cases d <;> simp [trC, TC.er] at hc
  | rangeFunc x p a b => simp only [trC, TC.er] at hc; split at hc <;> cases hc
  | _ => simp [trC, TC.er] at hc
 | bk id a iha =>
  intro B ro β S K r hro lk h c hc nn X w σ us ms ha
  cases c with
  | block i x =>
   simp only [trC, TC.er, AC.bk.injEq] at hc
   obtain ⟨rfl, hc⟩ := hc
   refine wpIn_block (wpIn_mono (iha hro lk h x hc nn X w σ us ms ha) ?_)
   rintro e a' w' ⟨S', X', σ', us', ms', h1, rfl, h4⟩
   cases e with
   | exit j =>
    simp only [Exit.inBlock]
    simp only at h4
    split at h4
    ·rename_i hj
     rw [if_pos hj]
     exact ⟨S', X', σ', us', ms', h1, rfl, h4⟩
    ·rename_i hj
     rw [if_neg hj]
     exact ⟨S', X', σ', us', ms', h1, rfl, h4⟩
   | _ => exact ⟨S', X', σ', us', ms', h1, rfl, h4⟩
  | region id ops d => cases d <;> simp [trC, TC.er] at hc
  | cond x a b => simp only [trC, TC.er] at hc; split at hc <;> cases hc
  | rangeFunc x p a b => simp only [trC, TC.er] at hc; split at hc <;> cases hc
  | _ => simp [trC, TC.er] at hc
 | lp j f a iha =>
  intro B ro β S K r hro lk h c hc nn X w σ us ms ha
  cases c with
  | loop x =>
   simp only [trC, TC.er, AC.lp.injEq] at hc
   simp only [ev] at h
   split at h
   ·rename_i q l hL
    obtain ⟨rfl, h⟩ := br_none h
    obtain ⟨e1, S1, hp, h⟩ := alts_some h
    have hl := lk.1 S l (e1, S1) hL hp
    obtain ⟨m, hn⟩ := loopF_some.1 hl
    refine wpIn_mono (Q := lift B g.n (fun e S' => (e, S') = (e1, S1))) ?_ ?_
    ·refine wpIn_loop_by (fun m a' w' => ∃ S X' σ' us' ms', a' = ⟨us'.toArray, mks ms'⟩ ∧ At (B.mk' ms') X' w' σ' g.n S us' ∧ loopN (roundF g f a) m S = some (e1, S1)) ?_ m _ _ ⟨S, X, σ, us, ms, rfl, ha, hn⟩
     rintro m a' w' ⟨S0, X', σ', us', ms', rfl, ha', hm'⟩
     cases m with
     | zero => cases hm'
     | succ m =>
      simp only [loopN] at hm'
      split at hm'
      ·rename_i S2 hb
       refine wpIn_mono (iha hro lk.2 hb x hc nn X' w' σ' us' ms' (ha'.fgt f)) ?_
       rintro e a2 w2 ⟨S3, X2, σ2, us2, ms2, k1, rfl, k3⟩
       cases e with
       | normal =>
        simp only [roundK, Option.some.injEq, Prod.mk.injEq, true_and] at k3
        subst k3
        exact ⟨m, by omega, _, X2, σ2, us2, ms2, rfl, k1.fgt f, hm'⟩
       | _ => simp [roundK] at k3
      ·rename_i hne
       refine wpIn_mono (iha hro lk.2 hm' x hc nn X' w' σ' us' ms' (ha'.fgt f)) ?_
       rintro e a2 w2 ⟨S3, X2, σ2, us2, ms2, k1, rfl, k3⟩
       cases e with
       | normal =>
        simp only [roundK, Option.some.injEq, Prod.mk.injEq] at k3
        obtain ⟨rfl, rfl⟩ := k3
        exact absurd hm' (hne _)
       | _ =>
        simp only [roundK, Option.some.injEq, Prod.mk.injEq] at k3
        obtain ⟨rfl, rfl⟩ := k3
        exact ⟨S3, X2, σ2, us2, ms2, k1, rfl, rfl⟩
    ·rintro e a' w' ⟨S', X', σ', us', ms', h1, rfl, h3⟩
     injection h3 with h4 h5
     subst h4 h5
     exact ⟨S', X', σ', us', ms', h1, rfl, h⟩
   ·cases h
  | region id ops d => cases d <;> simp [trC, TC.er] at hc
  | cond x a b => simp only [trC, TC.er] at hc; split at hc <;> cases hc
  | rangeFunc x p a b => simp only [trC, TC.er] at hc; split at hc <;> cases hc
  | _ => simp [trC, TC.er] at hc
 | fg f a iha =>
  intro B ro β S K r hro lk h c hc nn X w σ us ms ha
  exact iha hro lk h c hc nn X w σ us ms (ha.fgt f)
 | nw s e a iha =>
  intro B ro β S K r hro lk h c hc nn X w σ us ms ha
  obtain ⟨S', σ', h1, h2⟩ := nwR_sound h ha
  exact iha hro lk h1 c hc nn X w σ' us ms h2
 | nf j i e k a iha =>
  intro B ro β S K r hro lk h c hc nn X w σ us ms ha
  obtain ⟨S', σ', h1, h2⟩ := nfR_sound h ha
  exact iha hro lk h1 c hc nn X w σ' us ms h2
 | fz ks a iha =>
  intro B ro β S K r hro lk h c hc nn X w σ us ms ha
  obtain ⟨X', h1, _⟩ := ha.fzs ks
  exact iha hro lk h c hc nn X' w σ us ms h1
 | ad l a iha =>
  intro B ro β S K r hro lk h c hc nn X w σ us ms ha
  obtain ⟨σ', h1⟩ := ha.mvks l
  exact iha hro lk h c hc nn X w σ' us ms h1
 | mv l a iha =>
  intro B ro β S K r hro lk h c hc nn X w σ us ms ha
  refine wpIn_mono (iha hro lk h c hc nn X w σ us ms ha) ?_
  rintro e a' w' ⟨S', X', σ', us', ms', h1, rfl, h4⟩
  cases e with
  | normal =>
   obtain ⟨X2, S2, σ2, h4, h2⟩ := mvR_sound h4 h1
   exact ⟨S2, X2, σ2, us', ms', h2, rfl, h4⟩
  | _ => exact ⟨S', X', σ', us', ms', h1, rfl, h4⟩
 | rg j f f2 a iha =>
  intro B ro β S K r hro lk h c hc nn X w σ us ms ha
  simp only [ev] at h
  split at h
  ·rename_i q l hL
   obtain ⟨rfl, h⟩ := br_none h
   obtain ⟨e1, S1, hp, h⟩ := alts_some h
   have hl := lk.1 S l (e1, S1) hL hp
   refine wpIn_mono (iha hro lk.2 hl c hc nn X w σ us ms (ha.fgt f)) ?_
   rintro e a' w' ⟨S', X', σ', us', ms', h1, rfl, h3⟩
   simp only [Option.some.injEq, Prod.mk.injEq] at h3
   obtain ⟨rfl, rfl⟩ := h3
   exact ⟨_, X', σ', us', ms', h1.fgt f2, rfl, h⟩
  ·cases h
 | rf j f x yr ps pr a b iha ihb =>
  intro B ro β S K r hro lk h c hc nn X w σ us ms ha
  rcases hro with rfl | hro
  ·exact rf_sound hg iha ihb lk h c hc nn X w σ us ms ha
  ·cases hro
end
inductive RV where
 | t (i : Nat)
 | c (i : Nat) (agg : Bool) (n : Nat)
def trV (P : Program) : ResultVar → Option RV
 | .tmp t => some (.t t)
 | .cell a t => match P.underlying t, P.info? t with
  | some d, some inf => some (.c a (isRow d) inf.size)
  | _, _ => none
def trVs (P : Program) : List ResultVar → Option (List RV)
 | [] => some []
 | r :: l => match trV P r, trVs P l with
  | some a, some b => some (a :: b)
  | _, _ => none
section
variable {β : Type}
def RV.run (S : VS) (K : V → Option β) : RV → Option β
 | .t i => nz (S.ts i) K
 | .c i agg n => match S.ts i with
  | .ptr j o => match S.st j with
   | .box z => match z.sub true o n agg with
    | some v => nz v K
    | none => none
   | _ => none
  | _ => none
def castR (t : Option Ty) (v : V) (K : V → Option β) : Option β :=
 match t with
 | none => K v
 | some y => match v.as y with
  | some x => K (.t y x)
  | none => none
def resR (S : VS) : List (RV × Option Ty) → (List V → Option β) → Option β
 | [], K => K []
 | r :: l, K => r.1.run S fun v => castR r.2 v fun v => resR S l fun vs => K (v :: vs)
end
def resV : List V → V
 | [v] => v
 | vs => .tu vs
def exs (vs : List V) : List Nat := ((V.refss vs).filter fun k => decide (k < 50000)).eraseDups
def exr (es : List Nat) (m k : Nat) : Nat := if 50000 ≤ k then k else 50000 + m + es.idxOf k
def retOk (S : VS) (m : Nat) (es : List Nat) (vs : List V) : Bool :=
 decide es.Nodup && (((V.refss vs).all fun k => decide (50000 ≤ k ∧ k < 50000 + m) || es.contains k) && ((es.all fun k => decide (k < 50000) && ((match S.st k with | .no => false | _ => true) && (S.st k).refs.isEmpty)) &&
  (List.range m).all fun j => (S.st (50000 + j)).refs.all fun k => decide (50000 ≤ k ∧ k < 50000 + m)))
def retS (S : VS) (m : Nat) (es : List Nat) (vs : List V) : Option (V × List VO) :=
 if retOk S m es vs = true then some ((resV vs).ren (exr es m), ((List.range m).map fun j => S.st (50000 + j)) ++ es.map fun k => S.st k) else none
def retR (rv : List (RV × Option Ty)) (ro : Bool) (m : Nat) (S : VS) : Option (V × List VO) :=
 resR S (rv.map fun r => (r.1, none)) fun vs => if ro = true then retS S m (exs vs) vs else resR (S.fzs (V.msss vs)) rv fun vs' => retS (S.fzs (V.msss vs)) m (exs vs') vs'
def argL : Nat → List V → List (Nat × V)
 | _, [] => []
 | i, v :: r => (i, v) :: argL (i + 1) r
def objL : Nat → List VO → List (Nat × VO)
 | _, [] => []
 | i, v :: r => (i, v) :: objL (i + 1) r
def inS (args : List V) (objs : List VO) : VS := ⟨look (argL 0 args), lookO (objL 50000 objs), (objL 50000 objs).map Prod.fst⟩
noncomputable def runF (g : G) (tc : TC) (rv : List (RV × Option Ty)) (ro : Bool) : Fun := fun args objs =>
 if args.length ≤ g.n then ev g tc (inS args objs) fun e S => match e with
  | .ret => retR rv ro objs.length S
  | .normal => retR rv ro objs.length S
  | _ => none
 else none
section
variable {P : Program} {B : Base} {X X' : Nat → Nat → Prop} {w w' : World} {σ σ' : Pl} {n : Nat} {S : VS} {us : List Value}
def rvRun (us : List Value) : ResultVar → Sem Value
 | .tmp t => pure (us.toArray.getD t undef)
 | .cell a t => do loadVar t (← asAddr (us.toArray.getD a undef))
theorem rv_sound {β : Type} {K : V → Option β} {x : β} {r : ResultVar} {rv : RV} (ht : trV P r = some rv) (he : rv.run S K = some x) : ∃ v, K v = some x ∧ ∀ {B : Base} {X : Nat → Nat → Prop} {w : World} {σ : Pl} {n : Nat} {us : List Value}, At B X w σ n S us → ∃ u, C X w σ v.d u ∧ (rvRun us r).run P w = .ok u w := by
 cases r with
 | tmp t =>
  simp only [trV, Option.some.injEq] at ht
  subst ht
  obtain ⟨h1, h2⟩ := nz_some he
  refine ⟨_, h2, fun {B X w σ n us} ha => ⟨_, xv_sound (o := .tmp t) (x := .t t) rfl h1 ha.rel, ?_⟩⟩
  simp [Act.eval, rvRun]
 | cell a t =>
  simp only [trV] at ht
  split at ht
  ·rename_i dd inf hd hin
   simp only [Option.some.injEq] at ht
   subst ht
   simp only [RV.run] at he
   split at he
   ·rename_i j o hx
    split at he
    ·rename_i c hst
     split at he
     ·rename_i v hs
      obtain ⟨h1, h2⟩ := nz_some he
      refine ⟨v, h2, fun {B X w σ n us} ha => ?_⟩
      have k1 := xv_sound (o := .tmp a) (x := .t a) rfl (by simp only [AX.xv, hx]; rfl) ha.rel
      simp only [AX.xv, hx, V.d, C] at k1
      obtain ⟨b, e1, e2⟩ := k1
      have hat := ha.ti.obj j
      rw [hst] at hat
      obtain ⟨b', ty, vs, g1, g2, g3, g4⟩ := hat
      rw [g1] at e1
      injection e1 with e1
      subst e1
      obtain ⟨s1, s2⟩ := V.sub_spec hs
      have hl := g3.len
      obtain ⟨u, q1, q2⟩ := load_at (P := P) (b := b') (off := o) (vs := vs.drop o) (ds := c.d.cells.drop o) (d := v.d) hd hin (g3.drop_ _) (fun i u hu => by
       rw [List.getElem?_drop] at hu
       rw [cell_of_row w b' (o + i) vs.toArray ty (0, 0) g2]
       simpa using hu) (fun ha => by
        obtain ⟨t1, t2⟩ := s1 ha
        exact ⟨t1, by rw [List.length_drop]; omega⟩) (fun ha => by
        rw [List.getElem?_drop]
        exact s2 ha)
      refine ⟨u, q2, ?_⟩
      simp only [Act.eval] at e2
      simp only [rvRun, Sem.run_bind, e2, asAddr, Sem.run_pure, Result.andThen_ok, q1]
     ·cases he
    ·cases he
   ·cases he
  ·cases ht
theorem rvs_sound {β : Type} {x : β} : ∀ {rs : List ResultVar} {rv : List (RV × Option Ty)} {K : List V → Option β}, trVs P rs = some (rv.map Prod.fst) → resR S rv K = some x → ∃ vs, K vs = some x ∧ ∀ {B : Base} {X : Nat → Nat → Prop} {w : World} {σ : Pl} {n : Nat} {us : List Value}, At B X w σ n S us →
  ∃ xs, Cs X w σ (V.ds vs) xs ∧ (rs.mapM (rvRun us)).run P w = .ok xs w
 | [], rv, K, ht, he => by
  simp only [trVs, Option.some.injEq] at ht
  have : rv = [] := List.map_eq_nil_iff.1 ht.symm
  subst this
  exact ⟨[], he, fun _ => ⟨[], by simp [V.ds, Cs], by simp⟩⟩
 | r :: rs, rv, K, ht, he => by
  simp only [trVs] at ht
  split at ht
  ·rename_i a b ha hb
   simp only [Option.some.injEq] at ht
   cases rv with
   | nil => cases ht
   | cons q rv =>
    simp only [List.map_cons, List.cons.injEq] at ht
    obtain ⟨rfl, rfl⟩ := ht
    simp only [resR] at he
    obtain ⟨v0, h0, h2⟩ := rv_sound ha he
    have hcast : ∃ v, resR S rv (fun vs => K (v :: vs)) = some x ∧ ∀ {X : Nat → Nat → Prop} {w : World} {σ : Pl} {u : Value}, C X w σ v0.d u → C X w σ v.d u := by
     unfold castR at h0
     split at h0
     ·exact ⟨v0, h0, fun h => h⟩
     ·split at h0
      ·rename_i y z hz
       exact ⟨_, h0, fun h => C.up _ _ (V.as_spec hz h)⟩
      ·cases h0
    obtain ⟨v, h1, hcv⟩ := hcast
    obtain ⟨vs, h3, h4⟩ := rvs_sound hb h1
    refine ⟨v :: vs, h3, fun {B X w σ n us} hat => ?_⟩
    obtain ⟨u, q1, q2⟩ := h2 hat
    obtain ⟨xs, q3, q4⟩ := h4 hat
    refine ⟨u :: xs, by simp only [V.ds]; exact Cs.cons (hcv q1) q3, ?_⟩
    rw [List.mapM_cons]
    simp only [Sem.run_bind, q2, q4, Result.andThen_ok, Sem.run_pure]
  ·cases ht
theorem results_sound {fn : Func} {vs : List V} {xs : List Value} (hc : Cs X w σ (V.ds vs) xs) (h : (fn.results.toList.mapM (rvRun us)).run P w = .ok xs w) : ∃ u, C X w σ (resV vs).d u ∧ (results fn us.toArray).run P w = .ok u w := by
 have hm : (fn.results.mapM (rvRun us)).run P w = .ok xs.toArray w := by
  rw [Array.mapM_eq_mapM_toList]
  rw [map_eq_pure_bind, Sem.run_bind, h]
  rfl
 have hf : results fn us.toArray = (do let vs ← fn.results.mapM (rvRun us); pure (if h : vs.size = 1 then vs[0] else .tuple vs)) := by
  unfold results
  congr 1
 rw [hf, Sem.run_bind, hm]
 have hlen := hc.len
 rw [V.ds_eq, List.length_map] at hlen
 unfold resV
 split
 ·rename_i v
  simp only [V.ds] at hc
  obtain ⟨u, rfl, hu⟩ := hc.one
  exact ⟨u, hu, by simp⟩
 ·rename_i hne
  have h0 : xs.toArray.size ≠ 1 := by
   intro h
   rcases vs with _ | ⟨d, _ | ⟨d2, r⟩⟩
   ·simp at hlen; simp [hlen] at h
   ·exact hne d rfl
   ·simp at hlen h; omega
  refine ⟨.tuple xs.toArray, by simp only [V.d, C]; exact ⟨xs, rfl, hc⟩, ?_⟩
  simp only [Result.andThen_ok, dif_neg h0, Sem.run_pure]
theorem OAt.pl {k k' : Nat} {o : VO} (h : OAt X w σ k o) (hk : σ' k' = σ k) (hr : ∀ r ∈ o.refs, σ' r = σ r) : OAt X w σ' k' o := by
 cases o with
 | no => trivial
 | box v =>
  obtain ⟨b, ty, vs, h1, h2, h3, h4⟩ := h
  exact ⟨b, ty, vs, hk.trans h1, h2, Cs.ext (Ext.refl X w) _ _ (fun r hr' => hr r (by rw [V.refs_dcells] at hr'; exact hr')) h3, h4⟩
 | arr e y l =>
  obtain ⟨u, xs, h1, h2⟩ := h
  exact ⟨u, xs, hk.trans h1, h2⟩
theorem resV_refs (vs : List V) : (resV vs).refs = V.refss vs := by
 unfold resV
 split
 ·simp [V.refss]
 ·rfl
theorem retS_sound {σ0 : Pl} {m : Nat} {es : List Nat} {vs : List V} {rv : V} {os : List VO} {u : Value} {X0 X1 : Nat → Nat → Prop} {w0 w1 : World} (h : retS S m es vs = some (rv, os)) (ha : At ⟨X0, w0, lentB σ0 m, σ0, [], X1, w1⟩ X w σ n S us) (hu : C X w σ (resV vs).d u) :
  ∃ σ', C X w σ' rv.d u ∧ Ends X0 w0 σ0 m X w σ' os := by
 unfold retS at h
 split at h
 ·rename_i hok
  simp only [Option.some.injEq, Prod.mk.injEq] at h
  obtain ⟨rfl, rfl⟩ := h
  simp only [retOk, Bool.and_eq_true, decide_eq_true_eq, List.all_eq_true, Bool.or_eq_true, List.contains_iff_mem, List.isEmpty_iff, List.mem_range] at hok
  obtain ⟨k1, k2, k3, k4⟩ := hok
  let τ : Pl := fun k => if 50000 + m ≤ k ∧ k - 50000 - m < es.length then σ (es.getD (k - 50000 - m) 0) else σ k
  have τ0 : ∀ k, k < 50000 + m → τ k = σ k := fun k hk => if_neg (by omega)
  have τ1 : ∀ (i : Nat) k, es[i]? = some k → τ (50000 + m + i) = σ k := by
   intro i k hi
   have hlt := (List.getElem?_eq_some_iff.1 hi).1
   have e1 : 50000 + m + i - 50000 - m = i := by omega
   simp only [τ, e1]
   rw [if_pos ⟨by omega, hlt⟩, List.getD_eq_getElem?_getD, hi]
   rfl
  have live1 : ∀ k ∈ es, S.st k ≠ .no := fun k hk hn => by have := (k3 k hk).2.1; rw [hn] at this; cases this
  have hlen : (((List.range m).map fun j => S.st (50000 + j)) ++ es.map fun k => S.st k).length = m + es.length := by simp
  -- the number of a thing that is handed out
  have src : ∀ j, j < m + es.length → ∃ k, (((List.range m).map fun j => S.st (50000 + j)) ++ es.map fun k => S.st k)[j]? = some (S.st k) ∧ τ (50000 + j) = σ k ∧ (m ≤ j → S.st k ≠ .no) ∧ (j < m → k = 50000 + j) ∧ (m ≤ j → es[j - m]? = some k) := by
   intro j hj
   rcases Nat.lt_or_ge j m with hlt | hge
   ·exact ⟨50000 + j, by rw [List.getElem?_append_left (by simpa using hlt), List.getElem?_map, List.getElem?_range hlt]; rfl, τ0 _ (by omega), fun h => by omega, fun _ => rfl, fun h => by omega⟩
   ·have hl : j - m < es.length := by omega
    refine ⟨es[j - m], by rw [List.getElem?_append_right (by simpa using hge), List.getElem?_map]; simp [List.getElem?_eq_getElem hl], ?_, fun _ => live1 _ (List.getElem_mem hl), fun h => by omega, fun _ => List.getElem?_eq_getElem hl⟩
    have := τ1 (j - m) _ (List.getElem?_eq_getElem hl)
    rw [← this]
    congr 1
    omega
  refine ⟨τ, ren_c _ u (fun k hk => ?_) hu, ⟨ha.ti.fin, fun j o hj => ?_, fun i j b hij hi hj ni nj hb hb' => ?_, by rw [hlen]; omega, fun j hj => ?_, fun j b hj hj2 hb => ?_, ha.ti.fr, fun b q hb => (ha.ti.old b q hb).1, fun b q hb hu hx => ?_⟩⟩
  ·rw [resV_refs] at hk
   rcases k2 k hk with hk' | hk'
   ·rw [exr, if_pos hk'.1]
    exact τ0 k hk'.2
   ·have hlt := (k3 k hk').1
    rw [exr, if_neg (by omega)]
    obtain ⟨i, hi⟩ := List.mem_iff_getElem?.1 hk'
    rw [idxOf_nodup k1 hi]
    exact τ1 i k hi
  ·have hjl : j < m + es.length := by rw [← hlen]; exact (List.getElem?_eq_some_iff.1 hj).1
   obtain ⟨k, q1, q2, q3, q4, q5⟩ := src j hjl
   rw [q1] at hj
   injection hj with hj
   subst hj
   refine ⟨(ha.ti.obj k).pl q2 (fun r hr => ?_), q3⟩
   rcases Nat.lt_or_ge j m with hlt | hge
   ·have := k4 j hlt r (by rw [← q4 hlt]; exact hr)
    exact τ0 r this.2
   ·have := (k3 k (List.mem_of_getElem? (q5 hge))).2.2
    rw [this] at hr
    cases hr
  ·rw [hlen] at hi hj
   obtain ⟨k, q1, q2, _, q4, q5⟩ := src i hi
   obtain ⟨k', p1, p2, _, p4, p5⟩ := src j hj
   rw [q2] at hb
   rw [p2] at hb'
   have q3 : S.st k ≠ .no := fun he => ni (by rw [q1, he])
   have p3 : S.st k' ≠ .no := fun he => nj (by rw [p1, he])
   refine ha.ti.apart k k' b (fun he => ?_) q3 p3 hb hb'
   subst he
   rcases Nat.lt_or_ge i m with h1 | h1
   ·rcases Nat.lt_or_ge j m with h2 | h2
    ·have := q4 h1; have := p4 h2; omega
    ·have e1 := q4 h1
     have := (k3 k (List.mem_of_getElem? (p5 h2))).1
     omega
   ·rcases Nat.lt_or_ge j m with h2 | h2
    ·have e1 := p4 h2
     have := (k3 k (List.mem_of_getElem? (q5 h1))).1
     omega
    ·have e1 := idxOf_nodup k1 (q5 h1)
     have e2 := idxOf_nodup k1 (p5 h2)
     omega
  ·rw [τ0 _ (by omega)]
   exact ha.ti.lnt _ (by simp only [lentK]; omega)
  ·rw [hlen] at hj2
   obtain ⟨k, _, q2, q3, _, q5⟩ := src j hj2
   have q3 := q3 hj
   rw [q2] at hb
   rcases ha.ti.own k b q3 hb with h1 | h1
   ·right
    simp only [lentB, List.mem_filterMap, List.mem_range] at h1
    obtain ⟨i, hi, hib⟩ := h1
    refine ⟨i, hi, ?_, hib⟩
    obtain ⟨k', p1, p2, _, p4, _⟩ := src i (by omega)
    rw [p1]
    by_cases hn : S.st k' = .no
    ·rw [hn]
    ·refine absurd hb (ha.ti.apart k' k b (fun he => ?_) hn q3 ?_)
     ·have := (k3 k (List.mem_of_getElem? (q5 hj))).1
      have := p4 hi
      omega
     ·rw [p4 hi, ha.ti.lnt _ (by simp only [lentK]; omega)]
      exact hib
   ·exact .inl h1
  ·by_cases hl : b ∈ lentB σ0 m
   ·simp only [lentB, List.mem_filterMap, List.mem_range] at hl
    obtain ⟨i, hi, hib⟩ := hl
    obtain ⟨k', p1, p2, _, p4, _⟩ := src i (by omega)
    by_cases hn : S.st k' = .no
    ·exact absurd hib (hu i hi (by rw [p1, hn]))
    ·refine (ha.ti.obj k').all hn ?_ q
     rw [p4 hi, ha.ti.lnt _ (by simp only [lentK]; omega)]
     exact hib
   ·exact (ha.ti.old b q hb).2 hl hx
 ·cases h
theorem argL_look : ∀ (args : List V) (i j : Nat), look (argL i args) (i + j) = args.getD j .un
 | [], i, j => rfl
 | v :: r, i, 0 => by simp [argL, look]
 | v :: r, i, j + 1 => by
  simp only [argL, look]
  rw [if_neg (by omega)]
  have := argL_look r (i + 1) j
  rw [show i + (j + 1) = i + 1 + j from by omega, this]
  simp
theorem argL_out : ∀ (args : List V) (i k : Nat), i + args.length ≤ k → look (argL i args) k = .un
 | [], i, k, _ => rfl
 | v :: r, i, k, h => by
  simp only [List.length_cons] at h
  simp only [argL, look]
  rw [if_neg (by omega)]
  exact argL_out r (i + 1) k (by omega)
theorem objL_look : ∀ (objs : List VO) (i j : Nat), lookO (objL i objs) (i + j) = objs.getD j .no
 | [], i, j => rfl
 | v :: r, i, 0 => by simp [objL, lookO]
 | v :: r, i, j + 1 => by
  simp only [objL, lookO]
  rw [if_neg (by omega)]
  have := objL_look r (i + 1) j
  rw [show i + (j + 1) = i + 1 + j from by omega, this]
  simp
theorem objL_low : ∀ (objs : List VO) (i k : Nat), k < i → lookO (objL i objs) k = .no
 | [], i, k, _ => rfl
 | v :: r, i, k, h => by
  simp only [objL, lookO]
  rw [if_neg (by omega)]
  exact objL_low r (i + 1) k (by omega)
theorem objL_dom : ∀ (objs : List VO) (i k : Nat), lookO (objL i objs) k ≠ .no → k ∈ (objL i objs).map Prod.fst
 | [], i, k, h => absurd rfl h
 | v :: r, i, k, h => by
  simp only [objL, lookO] at h
  simp only [objL, List.map_cons]
  split at h
  ·rename_i hk; rw [hk]; exact List.mem_cons_self
  ·exact List.mem_cons_of_mem _ (objL_dom r (i + 1) k h)
theorem meets_of {g : G} {f : FuncId} {fn : Func} {c : Code} {tc : TC} {rv : List (RV × Option Ty)} {ro : Bool} (hlt : f < 1000000) (hf : P.funcs[f]? = some fn) (hb : fn.body = some c) (hc : trC P c = tc.er) (hn : fn.ntmps = g.n) (hr : trVs P fn.results.toList = some (rv.map Prod.fst)) (hg : GOk P g) (hl : tc.lok g) (hm : P.follows .mixedOrders = true) :
  Meets P f (runF g tc rv ro) := by
 intro args objs r os h X w σ vs hfin hlent hargs
 unfold runF at h
 split at h
 ·rename_i hle
  have hal := hargs.len
  rw [V.ds_eq, List.length_map] at hal
  have obj0 : ∀ k, lookO (objL 50000 objs) k = .no ∨ ∃ j, k = 50000 + j ∧ objs[j]? = some (lookO (objL 50000 objs) k) := by
   intro k
   rcases Nat.lt_or_ge k 50000 with hlt | hge
   ·exact .inl (objL_low objs 50000 k hlt)
   ·obtain ⟨j, rfl⟩ : ∃ j, k = 50000 + j := ⟨k - 50000, by omega⟩
    rw [objL_look]
    rcases Nat.lt_or_ge j objs.length with hj | hj
    ·exact .inr ⟨j, rfl, by rw [List.getD_eq_getElem?_getD, List.getElem?_eq_getElem hj]; rfl⟩
    ·left
     rw [List.getD_eq_getElem?_getD, List.getElem?_eq_none hj]
     rfl
  have hat : At ⟨X, w, lentB σ objs.length, σ, [], X, w⟩ X w σ g.n (inS args objs) (vs ++ List.replicate (g.n - vs.length) undef) := by
   refine ⟨⟨hfin, fun k => ?_, fun i j b hij hi hj hbi hbj => ?_, fun k b hk hbk => ?_, Fr.refl _ _, fun _ _ _ => ⟨fun h => h, fun _ h => h⟩, fun _ _ => rfl, (fun p hp => by cases hp), ⟨List.nodup_nil, fun p hp => by cases hp⟩, Ext0.refl X w⟩, ⟨by simp; omega, fun i u hu => ?_, fun i hi => ?_⟩, fun j hj => objL_dom objs 50000 j hj⟩
   ·simp only [inS]
    rcases obj0 k with h0 | ⟨j, rfl, h0⟩
    ·rw [h0]; trivial
    ·exact (hlent.at_ j _ h0).1
   ·simp only [inS] at hi hj
    rcases obj0 i with h0 | ⟨i', rfl, h0⟩
    ·exact absurd h0 hi
    ·rcases obj0 j with h1 | ⟨j', rfl, h1⟩
     ·exact absurd h1 hj
     ·exact hlent.apart i' j' b (by omega) (List.getElem?_eq_some_iff.1 h0).1 (List.getElem?_eq_some_iff.1 h1).1 hbi hbj
   ·simp only [inS] at hk
    rcases obj0 k with h0 | ⟨j, rfl, h0⟩
    ·exact absurd h0 hk
    ·refine .inl ?_
     simp only [lentB, List.mem_filterMap, List.mem_range]
     exact ⟨j, (List.getElem?_eq_some_iff.1 h0).1, hbk⟩
   ·simp only [inS]
    rcases Nat.lt_or_ge i vs.length with hi | hi
    ·rw [List.getElem?_append_left hi] at hu
     have ha : args[i]? = some args[i] := List.getElem?_eq_getElem (by omega)
     have hl := argL_look args 0 i
     rw [Nat.zero_add, List.getD_eq_getElem?_getD, ha] at hl
     rw [hl]
     obtain ⟨u', hu', hc'⟩ := hargs.at_ (i := i) (d := args[i].d) (by rw [V.ds_eq, List.getElem?_map, ha]; rfl)
     rw [hu] at hu'
     injection hu' with hu'
     subst hu'
     exact hc'
    ·rw [argL_out args 0 i (by omega)]
     exact C.any_ u
   ·simp only [inS]
    exact argL_out args 0 i (by omega)
  have hw := tc_sound (B := ⟨X, w, lentB σ objs.length, σ, [], X, w⟩) hg hm tc (.inl rfl) hl h c hc 9 X w σ _ [] hat
  refine does_of hlt (callsIn_wide.1 (callsIn_of_wp_marks (F := Fw none) (n := 9) hf hb trivial ?_))
  have he : (vs.toArray ++ Array.replicate (fn.ntmps - vs.toArray.size) undef) = (vs ++ List.replicate (g.n - vs.length) undef).toArray := by
   apply Array.ext'
   simp [hn]
  rw [he]
  refine wpIn_mono hw ?_
  rintro e a w1 ⟨S, X', σ', us', ms', h0, rfl, h3⟩
  obtain ⟨w', h1, hleave⟩ := marks_end h0
  have hret : retR rv ro objs.length S = some (r, os) → ∃ u, (results fn us'.toArray).run P w' = .ok u w' ∧ ∃ X1 σ1, C X1 w' σ1 r.d u ∧ Ends X w σ objs.length X1 w' σ1 os := by
   intro hret
   unfold retR at hret
   obtain ⟨vs1, q1, q2⟩ := rvs_sound (rv := rv.map fun r => (r.1, none)) (by rw [hr, List.map_map]; rfl) hret
   split at q1
   ·obtain ⟨xs, q3, q4⟩ := q2 h1
    obtain ⟨u, q5, q6⟩ := results_sound q3 q4
    obtain ⟨σ1, q7, q8⟩ := retS_sound q1 h1 q5
    exact ⟨u, q6, X', σ1, q7, q8⟩
   ·obtain ⟨X2, h2, _⟩ := h1.fzs (V.msss vs1)
    obtain ⟨vs2, q3, q4⟩ := rvs_sound hr q1
    obtain ⟨xs, q5, q6⟩ := q4 h2
    obtain ⟨u, q7, q8⟩ := results_sound q5 q6
    obtain ⟨σ1, q9, q10⟩ := retS_sound q3 h2 q7
    exact ⟨u, q8, X2, σ1, q9, q10⟩
  cases e with
  | ret =>
   obtain ⟨u, p1, X1, σ1, p2, p3⟩ := hret h3
   exact hleave ⟨u, p1, u, X1, σ1, rfl, p2, p3⟩
  | normal =>
   obtain ⟨u, p1, X1, σ1, p2, p3⟩ := hret h3
   exact hleave ⟨u, p1, u, X1, σ1, rfl, p2, p3⟩
  | _ => cases h3
 ·cases h
end
end Go.Proofs.YtkkoedniahnneaaDoor.K
/-
 What is said of functions and of loops in types, and how it serves in the runs of others.
-/
namespace Go.Proofs.YtkkoedniahnneaaDoor.K
open Go.RowKit
def Ty.args : (y : Ty) → List V → Option y.T
 | .pr f r, v :: vs => match v.as f, r.args vs with
  | some x, some z => some (x, z)
  | _, _ => none
 | .nil, [] => some ()
 | _, _ => none
abbrev Ent := List V → List VO → Option (Bool × V × List VO)
def spec (a : Ty) (ok : a.T → Bool) (F : a.T → V) : Ent := fun args objs =>
 match objs with
 | [] => match a.args args with
  | some x => some (ok x, F x, [])
  | none => none
 | _ => none
def specP (b a : Ty) (ok : b.T → a.T → Bool) (F : b.T → a.T → V) (H : b.T → a.T → b.T) : Ent := fun args objs =>
 match args, objs with
 | .ptr 50000 0 :: args, [.box c] => match c.as b, a.args args with
  | some d, some x => some (ok d x, F d x, [.box (.t b (H d x))])
  | _, _ => none
 | _, _ => none
def specN (b a : Ty) (ok : a.T → Bool) (H : a.T → b.T) : Ent := fun args objs =>
 match objs with
 | [] => match a.args args with
  | some x => some (ok x, .ptr 50000 0, [.box (.t b (H x))])
  | none => none
 | _ => none
class Fuel where
 n : Nat
abbrev fuel [f : Fuel] : Nat := f.n
def strip (F : Ent) : Fun := fun args objs =>
 match F args objs with
 | some (true, r, os) => some (r, os)
 | _ => none
def EL : List (Nat × Ent) → Nat → Ent
 | [], _ => fun _ _ => none
 |(g, F) :: r, f => if f = g then fun args objs => match F args objs with
   | some x => some x
   | none => EL r f args objs
  else EL r f
theorem EL_mem : ∀ {l : List (Nat × Ent)} {f : Nat} {args : List V} {objs : List VO} {x : Bool × V × List VO}, EL l f args objs = some x → ∃ F, (f, F) ∈ l ∧ F args objs = some x
 |(g, F) :: r, f, args, objs, x, h => by
  simp only [EL] at h
  split at h
  ·rename_i hfg
   subst hfg
   simp only at h
   split at h
   ·rename_i y hy
    simp only [Option.some.injEq] at h
    subst h
    exact ⟨F, List.mem_cons_self, hy⟩
   ·obtain ⟨F', h1, h2⟩ := EL_mem h
    exact ⟨F', List.mem_cons_of_mem _ h1, h2⟩
  ·obtain ⟨F', h1, h2⟩ := EL_mem h
   exact ⟨F', List.mem_cons_of_mem _ h1, h2⟩
def IL (li : List (Nat × Itr)) (f : Nat) : Itr := match li.lookup f with
 | some F => F
 | none => fun _ _ => none
def RL (l : List ((yr : Ty) × (VS → List yr.T → Option (Bool × List (Bool × Exit × VS))))) (j : Nat) (S : VS) (yr : Ty) (rows : List yr.T) : Option (Bool × List (Bool × Exit × VS)) :=
 match l[j]? with
 | some ⟨y, F⟩ => if h : yr = y then F S (h ▸ rows) else none
 | none => none
section
variable {P : Program} {X : Nat → Nat → Prop} {w : World} {σ : Pl}
theorem lookup_mem {α : Type} : ∀ {l : List (Nat × α)} {f : Nat} {x : α}, l.lookup f = some x → (f, x) ∈ l
 |(k, y) :: l, f, x, h => by
  rw [List.lookup_cons] at h
  split at h
  ·rename_i hk
   have hk : f = k := by simpa using hk
   simp only [Option.some.injEq] at h
   rw [hk, h]
   exact List.mem_cons_self
  ·exact List.mem_cons_of_mem _ (lookup_mem h)
theorem gok_of {TY : Nat → Option Ty} {own : List Nat} {n : Nat} {keep : List Nat} {L : Nat → VS → Option (Bool × List (Bool × Exit × VS))} {R : Nat → VS → (yr : Ty) → List yr.T → Option (Bool × List (Bool × Exit × VS))} (l : List (Nat × Ent)) (h : ∀ p ∈ l, Entered P p.1 ∧ Meets P p.1 (strip p.2)) (li : List (Nat × Itr) := []) (hi : ∀ p ∈ li, Iters P p.1 p.2 := by intro p hp; cases hp) : GOk P ⟨TY, own, n, EL l, keep, L, IL li, R⟩ := by
 refine ⟨?_, fun f caps objs x hx => ?_⟩
 rotate_left
 ·simp only [IL] at hx ⊢
  cases hl : li.lookup f with
  | none => rw [hl] at hx; cases hx
  | some F => exact hi _ (lookup_mem hl)
 intro f args objs x hx
 simp only at hx ⊢
 obtain ⟨F, hF, _⟩ := EL_mem hx
 refine ⟨(h _ hF).1, ?_⟩
 intro args' objs' r os hr
 simp only at hr
 split at hr
 ·rename_i r' os' hq
  simp only [Option.some.injEq, Prod.mk.injEq] at hr
  obtain ⟨rfl, rfl⟩ := hr
  obtain ⟨F2, h1, h2⟩ := EL_mem hq
  exact (h _ h1).2 args' objs' r' os' (by simp only [strip, h2])
 ·cases hr
theorem canon_cs : ∀ {a : Ty} {args : List V} {x : a.T} {vs : List Value}, a.args args = some x → Cs X w σ (V.ds args) vs → Cs X w σ (V.ds (a.canon x)) vs
 | .pr f r, v :: args, x, vs, h, hc => by
  simp only [Ty.args] at h
  split at h
  ·rename_i x1 z1 h1 h2
   simp only [Option.some.injEq] at h
   subst h
   simp only [V.ds, Cs] at hc
   obtain ⟨u, us, rfl, q1, q2⟩ := hc
   simp only [Ty.canon, V.ds]
   exact Cs.cons (C.up _ _ (V.as_spec h1 q1)) (canon_cs h2 q2)
  ·cases h
 | .nil, [], x, vs, h, hc => hc
 | .pr f r, [], _, _, h, _ => by cases h
 | .nil, _ :: _, _, _, h, _ => by cases h
 | .int _, _, _, _, h, _ => by simp only [Ty.args] at h; cases h
 | .bool, _, _, _, h, _ => by simp only [Ty.args] at h; cases h
 | .str, _, _, _, h, _ => by simp only [Ty.args] at h; cases h
 | .sl _, _, _, _, h, _ => by simp only [Ty.args] at h; cases h
 | .rv, _, _, _, h, _ => by simp only [Ty.args] at h; cases h
 | .rb, _, _, _, h, _ => by simp only [Ty.args] at h; cases h
theorem meets_spec {f : FuncId} {R : Fun} {a : Ty} {ok : a.T → Bool} {F : a.T → V} (hM : Meets P f R) (h : ∀ x, ok x = true → R (a.canon x) [] = some (F x, [])) : Meets P f (strip (spec a ok F)) := by
 intro args objs r os hF X w σ vs hfin hl hc
 unfold strip spec at hF
 cases objs with
 | cons o os' => simp at hF
 | nil =>
  simp only at hF
  cases ha : a.args args with
  | none => rw [ha] at hF; cases hF
  | some x =>
   rw [ha] at hF
   simp only at hF
   split at hF
   ·rename_i r' os' hq
    simp only [Option.some.injEq, Prod.mk.injEq] at hF hq
    obtain ⟨rfl, rfl⟩ := hF
    obtain ⟨h1, rfl, rfl⟩ := hq
    exact hM _ [] _ _ (h x h1) X w σ vs hfin hl (canon_cs ha hc)
   ·cases hF
theorem meets_specN {f : FuncId} {R : Fun} {b a : Ty} {ok : a.T → Bool} {H : a.T → b.T} (hM : Meets P f R) (hb : b.row = true) (h : ∀ x, ok x = true → ∃ c, R (a.canon x) [] = some (.ptr 50000 0, [.box c]) ∧ c.as b = some (H x)) : Meets P f (strip (specN b a ok H)) := by
 intro args objs r os hF X w σ vs hfin hl hc
 unfold strip specN at hF
 cases objs with
 | cons o os' => simp at hF
 | nil =>
  simp only at hF
  cases ha : a.args args with
  | none => rw [ha] at hF; cases hF
  | some x =>
   rw [ha] at hF
   simp only at hF
   split at hF
   ·rename_i r' os' hq
    simp only [Option.some.injEq, Prod.mk.injEq] at hF hq
    obtain ⟨rfl, rfl⟩ := hF
    obtain ⟨h1, rfl, rfl⟩ := hq
    obtain ⟨c, h2, h3⟩ := h x h1
    refine (hM _ [] _ _ h2 X w σ vs hfin hl (canon_cs ha hc)).mono ?_
    rintro e w' ⟨u, X', σ', e1, e2, e3⟩
    refine ⟨u, X', σ', e1, e2, e3.fin, fun j o hj => ?_, fun i j bb hij hi hj => by simp at hi hj; omega, e3.le, e3.same, fun j bb hj hl hb => .inl ((e3.new j bb hj hl hb).resolve_right fun ⟨i, hi, _⟩ => absurd hi (Nat.not_lt_zero _)), e3.fr, e3.sub, fun b q hb _ hx => e3.old b q hb (fun i hi => absurd hi (Nat.not_lt_zero _)) hx⟩
    cases j with
    | zero =>
     simp only [List.getElem?_cons_zero, Option.some.injEq] at hj
     subst hj
     exact ⟨as_box hb h3 (e3.at_ 0 _ rfl).1, fun _ => by simp⟩
    | succ j => simp at hj
   ·cases hF
theorem meets_specP {f : FuncId} {R : Fun} {b a : Ty} {ok : b.T → a.T → Bool} {F : b.T → a.T → V} {H : b.T → a.T → b.T} (hM : Meets P f R) (hb : b.row = true)
  (h : ∀ d x, ok d x = true → R (.ptr 50000 0 :: a.canon x) [.box (.t b d)] = some (F d x, [.box (.t b (H d x))])) : Meets P f (strip (specP b a ok F H)) := by
 intro args objs r os hF X w σ vs hfin hl hc
 unfold strip specP at hF
 split at hF
 ·rename_i r0 os0 hq
  split at hq
  ·rename_i args' c
   split at hq
   ·rename_i d x hd hx
    simp only [Option.some.injEq, Prod.mk.injEq] at hF hq
    obtain ⟨h1, h2⟩ := hF
    obtain ⟨h3, h4, h5⟩ := hq
    subst h1 h2 h4 h5
    refine hM _ [.box (.t b d)] _ _ (h d x h3) X w σ vs hfin ⟨fun j o hj => ?_, fun i j bb hij hi hj => hl.apart i j bb hij hi hj⟩ ?_
    ·cases j with
     | zero =>
      simp only [List.getElem?_cons_zero, Option.some.injEq] at hj
      subst hj
      exact ⟨as_box hb hd (hl.at_ 0 _ rfl).1, by simp⟩
     | succ j => simp at hj
    ·simp only [V.ds, Cs] at hc ⊢
     obtain ⟨u, us, rfl, q1, q2⟩ := hc
     exact ⟨u, us, rfl, q1, canon_cs hx q2⟩
   ·cases hq
  ·cases hq
 ·cases hF
end
inductive SV where
 | ty (t : Ty)
 | ptr (k o : Nat)
 | ms (k : Nat)
 | cf (f : Nat)
 | fn (f : Nat) (ks : List (Nat × Nat))
 | nl
 | ni
 | bf (f : Nat) (t : Ty)
inductive SO where
 | box (t : Ty)
 | bag (l : List SV)
 | arr (e : Nat) (t : Ty)
 | no
 | bc (f : Nat)
 | bm (k : Nat)
@[reducible] def SV.T : SV → Type
 | .ty t => t.T
 | .ptr _ _ => Unit
 | .ms _ => Unit
 | .cf _ => Unit
 | .fn _ _ => Unit
 | .nl => Unit
 | .ni => Unit
 | .bf _ t => t.T
@[reducible] def SVt : List SV → Type
 | [] => Unit
 | s :: r => s.T × SVt r
@[reducible] def SO.T : SO → Type
 | .box t => t.T
 | .bag l => SVt l
 | .arr _ t => List t.T
 | .no => Unit
 | .bc _ => Unit
 | .bm _ => Unit
def SV.mk : (s : SV) → s.T → V
 | .ty t, x => .t t x
 | .ptr k o, _ => .ptr k o
 | .ms k, _ => .ms k
 | .cf f, _ => .c (.func (.func f) ⟨[]⟩ ⟨[]⟩)
 | .fn f ks, _ => .fn f (ks.map fun p => .ptr p.1 p.2)
 | .nl, _ => .c (.slice none 0 0)
 | .ni, _ => .c .nilIface
 | .bf f t, x => .fn (f + 1000000) [.t t x]
def niOf : Value → Bool
 | .nilIface => true
 | _ => false
theorem niOf_mk {x : Value} (h : niOf x = true) : x = .nilIface := by
 unfold niOf at h
 split at h
 ·rfl
 ·cases h
def nlOf : Value → Bool
 | .slice none 0 0 => true
 | _ => false
theorem nlOf_mk {x : Value} (h : nlOf x = true) : x = .slice none 0 0 := by
 unfold nlOf at h
 split at h
 ·rfl
 ·cases h
def cfOf : Value → Option Nat
 | .func (.func g) ⟨[]⟩ ⟨[]⟩ => some g
 | _ => none
theorem cfOf_mk {x : Value} {f : Nat} (h : cfOf x = some f) : x = .func (.func f) ⟨[]⟩ ⟨[]⟩ := by
 unfold cfOf at h
 split at h
 ·simp only [Option.some.injEq] at h
  rw [h]
 ·cases h
def ptrsOf : List V → Option (List (Nat × Nat))
 | [] => some []
 | .ptr k o :: r => match ptrsOf r with
  | some l => some ((k, o) :: l)
  | none => none
 | _ => none
theorem ptrsOf_mk : ∀ {vs : List V} {ks : List (Nat × Nat)}, ptrsOf vs = some ks → vs = ks.map fun p => .ptr p.1 p.2
 | [], ks, h => by
  simp only [ptrsOf, Option.some.injEq] at h
  subst h
  rfl
 | v :: r, ks, h => by
  cases v with
  | ptr k o =>
   simp only [ptrsOf] at h
   split at h
   ·rename_i l hl
    simp only [Option.some.injEq] at h
    subst h
    rw [ptrsOf_mk hl]
    rfl
   ·cases h
  | _ => simp only [ptrsOf] at h; cases h
def mkVt : (l : List SV) → SVt l → List V
 | [], _ => []
 | s :: r, x => s.mk x.1 :: mkVt r x.2
def SO.mk : (s : SO) → s.T → VO
 | .box t, x => .box (.t t x)
 | .bag l, x => .box (.ag (mkVt l x))
 | .arr e t, l => .arr e t l
 | .no, _ => .no
 | .bc f, _ => .box (.c (.func (.func f) ⟨[]⟩ ⟨[]⟩))
 | .bm k, _ => .box (.ms k)
def bfOf (t : Ty) : List V → Option t.T
 | [.t t' x] => if h : t' = t then some (h ▸ x) else none
 | _ => none
theorem bfOf_mk {t : Ty} {vs : List V} {x : t.T} (h : bfOf t vs = some x) : vs = [.t t x] := by
 unfold bfOf at h
 split at h
 ·split at h
  ·rename_i ht
   subst ht
   simp only [Option.some.injEq] at h
   rw [h]
  ·cases h
 ·cases h
def SV.rd : (s : SV) → V → Option s.T
 | .ty t, .t t' x => if h : t' = t then some (h ▸ x) else none
 | .ptr k o, .ptr k' o' => if k' = k ∧ o' = o then some () else none
 | .ms k, .ms k' => if k' = k then some () else none
 | .cf f, .c x => if cfOf x = some f then some () else none
 | .fn f ks, .fn g vs => if g = f ∧ ptrsOf vs = some ks then some () else none
 | .nl, .c x => if nlOf x = true then some () else none
 | .ni, .c x => if niOf x = true then some () else none
 | .bf f t, .fn g vs => if g = f + 1000000 then bfOf t vs else none
 | _, _ => none
def rdVt : (l : List SV) → List V → Option (SVt l)
 | [], [] => some ()
 | s :: r, v :: vs => match s.rd v, rdVt r vs with
  | some x, some y => some (x, y)
  | _, _ => none
 | _, _ => none
def SO.rd : (s : SO) → VO → Option s.T
 | .box t, .box v => (SV.ty t).rd v
 | .bag l, .box (.ag vs) => rdVt l vs
 | .arr e t, .arr e' t' l => if h : t' = t then (if e' = e then some (h ▸ l) else none) else none
 | .no, .no => some ()
 | .bc f, .box (.c x) => if cfOf x = some f then some () else none
 | .bm k, .box (.ms j) => if j = k then some () else none
 | _, _ => none
theorem SV.rd_mk {s : SV} {v : V} {x : s.T} (h : s.rd v = some x) : v = s.mk x := by
 cases s with
 | ty t =>
  cases v with
  | t t' y =>
   simp only [SV.rd] at h
   split at h
   ·rename_i ht
    subst ht
    simp only [Option.some.injEq] at h
    subst h
    rfl
   ·cases h
  | _ => simp only [SV.rd] at h; cases h
 | ptr k o =>
  cases v with
  | ptr k' o' =>
   simp only [SV.rd] at h
   split at h
   ·rename_i hk
    rw [hk.1, hk.2]
    rfl
   ·cases h
  | _ => simp only [SV.rd] at h; cases h
 | ms k =>
  cases v with
  | ms k' =>
   simp only [SV.rd] at h
   split at h
   ·rename_i hk
    rw [hk]
    rfl
   ·cases h
  | _ => simp only [SV.rd] at h; cases h
 | cf f =>
  cases v with
  | c x =>
   simp only [SV.rd] at h
   split at h
   ·rename_i hk
    rw [cfOf_mk hk]
    rfl
   ·cases h
  | _ => simp only [SV.rd] at h; cases h
 | fn f ks =>
  cases v with
  | fn g vs =>
   simp only [SV.rd] at h
   split at h
   ·rename_i hk
    rw [hk.1, ptrsOf_mk hk.2]
    rfl
   ·cases h
  | _ => simp only [SV.rd] at h; cases h
 | nl =>
  cases v with
  | c x =>
   simp only [SV.rd] at h
   split at h
   ·rename_i hk
    rw [nlOf_mk hk]
    rfl
   ·cases h
  | _ => simp only [SV.rd] at h; cases h
 | ni =>
  cases v with
  | c x =>
   simp only [SV.rd] at h
   split at h
   ·rename_i hk
    rw [niOf_mk hk]
    rfl
   ·cases h
  | _ => simp only [SV.rd] at h; cases h
 | bf f t =>
  cases v with
  | fn g vs =>
   simp only [SV.rd] at h
   split at h
   ·rename_i hk
    rw [hk, bfOf_mk h]
    rfl
   ·cases h
  | _ => simp only [SV.rd] at h; cases h
theorem rdVt_mk : ∀ {l : List SV} {vs : List V} {x : SVt l}, rdVt l vs = some x → vs = mkVt l x
 | [], [], _, _ => rfl
 | [], _ :: _, _, h => by cases h
 | _ :: _, [], _, h => by cases h
 | s :: r, v :: vs, x, h => by
  simp only [rdVt] at h
  split at h
  ·rename_i x1 y1 h1 h2
   simp only [Option.some.injEq] at h
   subst h
   rw [SV.rd_mk h1, rdVt_mk h2]
   rfl
  ·cases h
theorem SO.rd_mk {s : SO} {v : VO} {x : s.T} (h : s.rd v = some x) : v = s.mk x := by
 cases s with
 | box t =>
  cases v with
  | box v =>
   simp only [SO.rd] at h
   have := SV.rd_mk h
   rw [this]
   rfl
  | _ => simp only [SO.rd] at h; cases h
 | bag l =>
  cases v with
  | box v =>
   cases v with
   | ag vs =>
    simp only [SO.rd] at h
    rw [rdVt_mk h]
    rfl
   | _ => simp only [SO.rd] at h; cases h
  | _ => simp only [SO.rd] at h; cases h
 | arr e t =>
  cases v with
  | arr e' t' l =>
   simp only [SO.rd] at h
   split at h
   ·rename_i ht
    subst ht
    split at h
    ·rename_i he
     simp only [Option.some.injEq] at h
     subst h
     rw [he]
     rfl
    ·cases h
   ·cases h
  | _ => simp only [SO.rd] at h; cases h
 | no =>
  cases v with
  | no => rfl
  | _ => simp only [SO.rd] at h; cases h
 | bc f =>
  cases v with
  | box c =>
   cases c with
   | c x =>
    simp only [SO.rd] at h
    split at h
    ·rename_i hk
     rw [cfOf_mk hk]
     rfl
    ·cases h
   | _ => simp only [SO.rd] at h; cases h
  | _ => simp only [SO.rd] at h; cases h
 | bm k =>
  cases v with
  | box c =>
   cases c with
   | ms j =>
    simp only [SO.rd] at h
    split at h
    ·rename_i hk
     rw [hk]
     rfl
    ·cases h
   | _ => simp only [SO.rd] at h; cases h
  | _ => simp only [SO.rd] at h; cases h
@[reducible] def SVs : List (Nat × SV) → Type
 | [] => Unit
 |(_, s) :: r => s.T × SVs r
@[reducible] def SOs : List (Nat × SO) → Type
 | [] => Unit
 |(_, s) :: r => s.T × SOs r
def mkVs : (l : List (Nat × SV)) → SVs l → List (Nat × V)
 | [], _ => []
 |(i, s) :: r, x => (i, s.mk x.1) :: mkVs r x.2
def mkOs : (l : List (Nat × SO)) → SOs l → List (Nat × VO)
 | [], _ => []
 |(i, s) :: r, x => (i, s.mk x.1) :: mkOs r x.2
def rdVs (f : Nat → V) : (l : List (Nat × SV)) → Option (SVs l)
 | [] => some ()
 |(i, s) :: r => match s.rd (f i), rdVs f r with
  | some x, some y => some (x, y)
  | _, _ => none
def rdOs (f : Nat → VO) : (l : List (Nat × SO)) → Option (SOs l)
 | [] => some ()
 |(i, s) :: r => match s.rd (f i), rdOs f r with
  | some x, some y => some (x, y)
  | _, _ => none
structure Sh where
 vs : List (Nat × SV)
 os : List (Nat × SO)
def SV.t? : SV → Option Ty
 | .ty t => some t
 | _ => none
def SO.t? : SO → Option Ty
 | .box t => some t
 | _ => none
def Sh.f (s : Sh) : Fg := ⟨s.vs.map fun p => (p.1, p.2.t?), s.os.map fun p => (p.1, p.2.t?)⟩
def Sh.st (s : Sh) (x : SVs s.vs) (y : SOs s.os) : VS := ⟨look (mkVs s.vs x), lookO (mkOs s.os y), s.os.map Prod.fst⟩
theorem nrm_mk {s : SV} {x : s.T} : nrmV s.t? (s.mk x) = s.mk x := by
 cases s with
 | ty t => simp only [SV.t?, SV.mk, nrmV, V.as, dite_true]
 | _ => rfl
theorem nrmO_mk {s : SO} {x : s.T} : nrmO s.t? (s.mk x) = s.mk x := by
 cases s with
 | box t =>
  simp only [SO.t?, SO.mk, nrmO, nrmV, V.as, dite_true]
  split <;> rfl
 | _ => rfl
theorem rdVs_mk {f : Nat → V} : ∀ {l : List (Nat × SV)} {x : SVs l}, rdVs f l = some x → (l.map fun p => (p.1, p.2.t?)).map (fun p => (p.1, nrmV p.2 (f p.1))) = mkVs l x
 | [], _, _ => rfl
 |(i, s) :: r, x, h => by
  simp only [rdVs] at h
  split at h
  ·rename_i x1 y1 h1 h2
   simp only [Option.some.injEq] at h
   subst h
   simp only [List.map_cons, mkVs, SV.rd_mk h1, nrm_mk, rdVs_mk h2]
  ·cases h
theorem rdOs_mk {f : Nat → VO} : ∀ {l : List (Nat × SO)} {x : SOs l}, rdOs f l = some x → (l.map fun p => (p.1, p.2.t?)).map (fun p => (p.1, nrmO p.2 (f p.1))) = mkOs l x
 | [], _, _ => rfl
 |(i, s) :: r, x, h => by
  simp only [rdOs] at h
  split at h
  ·rename_i x1 y1 h1 h2
   simp only [Option.some.injEq] at h
   subst h
   simp only [List.map_cons, mkOs, SO.rd_mk h1, nrmO_mk, rdOs_mk h2]
  ·cases h
def mkL (s : Sh) (ok : SVs s.vs → SOs s.os → Bool) (alts : SVs s.vs → SOs s.os → List (Bool × Exit × VS)) (S : VS) : Option (Bool × List (Bool × Exit × VS)) :=
 match rdVs S.ts s.vs, rdOs S.st s.os with
 | some x, some y => some (ok x y, alts x y)
 | _, _ => none
theorem lok_of {g : G} {s : Sh} {f : Fg} {a : TC} {ok : SVs s.vs → SOs s.os → Bool} {alts : SVs s.vs → SOs s.os → List (Bool × Exit × VS)} (hok : f.ok) (hf : f = s.f) (h : ∀ x y, ok x y = true → ∀ p, pickA (alts x y) = some p → loopF (roundF g f a) (s.st x y) = some p) :
  ∀ S l p, mkL s ok alts (fgt f S) = some (true, l) → pickA l = some p → loopF (roundF g f a) S = some p := by
 intro S l p hL hp
 unfold mkL at hL
 split at hL
 ·rename_i x y hx hy
  simp only [Option.some.injEq, Prod.mk.injEq] at hL
  obtain ⟨h1, rfl⟩ := hL
  rw [loopF_fgt hok]
  have e1 := rdVs_mk hx
  have e2 := rdOs_mk hy
  have : fgt f S = s.st x y := by
   rw [← fgt_fgt hok S]
   have e3 : (fgt f S).ts = (fgt f S).ts := rfl
   generalize fgt f S = T at e1 e2
   subst hf
   unfold fgt Sh.st
   simp only [Sh.f]
   rw [e1, e2]
   simp only [List.map_map]
   rfl
  rw [this]
  exact h x y h1 p hp
 ·cases hL
def Ls (l : List (VS → Option (Bool × List (Bool × Exit × VS)))) (j : Nat) (S : VS) : Option (Bool × List (Bool × Exit × VS)) :=
 match l[j]? with
 | some F => F S
 | none => none
def nxt (f : VS → Option (Exit × VS)) : Option (Exit × VS) → Option (Exit × VS)
 | some (.normal, S) => f S
 | x => x
theorem loopF_nxt (b : VS → Option (Exit × VS)) (S : VS) : loopF b S = nxt (loopF b) (b S) := by
 rw [loopF_eq]
 cases b S with
 | none => rfl
 | some x =>
  obtain ⟨e, S'⟩ := x
  cases e <;> rfl
theorem nxt_br {f : VS → Option (Exit × VS)} {q : Bool} {a b : Option (Exit × VS)} : nxt f (br q a b) = br q (nxt f a) (nxt f b) := by cases q <;> rfl
theorem nxt_n {f : VS → Option (Exit × VS)} {S : VS} : nxt f (some (.normal, S)) = f S := rfl
theorem nxt_r {f : VS → Option (Exit × VS)} {S : VS} : nxt f (some (.ret, S)) = some (.ret, S) := rfl
theorem nxt_e {f : VS → Option (Exit × VS)} {S : VS} {i : Nat} : nxt f (some (.exit i, S)) = some (.exit i, S) := rfl
theorem nxt_0 {f : VS → Option (Exit × VS)} : nxt f none = none := rfl
theorem pickA_br {q q2 : Bool} {e e2 : Exit} {S S2 : VS} {l : List (Bool × Exit × VS)} : pickA ((q, e, S) :: (q2, e2, S2) :: l) = br q (some (e, S)) (pickA ((q2, e2, S2) :: l)) := by cases q <;> rfl
theorem pickA_one {q : Bool} {e : Exit} {S : VS} : pickA [(q, e, S)] = some (e, S) := rfl
theorem br_true {β : Type} {a b : Option β} : br true a b = a := rfl
theorem br_false {β : Type} {a b : Option β} : br false a b = b := rfl
abbrev iadd (k : IntKind) (a b : Int) : Int := k.wrap (a + b)
abbrev isub (k : IntKind) (a b : Int) : Int := k.wrap (a - b)
abbrev irem (a b : Int) : Int := a.tmod b
abbrev imx (a b : Int) : Int := if b > a then b else a
abbrev ieq (a b : Int) : Bool := a == b
abbrev ine (a b : Int) : Bool := a != b
abbrev ilt (a b : Int) : Bool := decide (a < b)
abbrev ile (a b : Int) : Bool := decide (a ≤ b)
abbrev igt (a b : Int) : Bool := decide (a > b)
abbrev ige (a b : Int) : Bool := decide (a ≥ b)
abbrev seq (a b : ByteArray) : Bool := a.toList == b.toList
abbrev sne (a b : ByteArray) : Bool := !(a.toList == b.toList)
abbrev bneq (a b : Bool) : Bool := !(a == b)
abbrev cNz (b : Int) : Bool := decide (b ≠ 0)
abbrev cIx {α : Type} (l : List α) (j : Int) : Bool := decide (0 ≤ j ∧ j < (l.length : Nat))
abbrev cSx (z : ByteArray) (j : Int) : Bool := decide (0 ≤ j ∧ j < (z.size : Nat))
abbrev cSl {α : Type} (l : List α) (a h m : Int) : Bool := decide (0 ≤ a ∧ a ≤ h ∧ h ≤ m ∧ m ≤ (l.length : Nat))
abbrev cSs (z : ByteArray) (a h : Int) : Bool := decide (0 ≤ a ∧ a ≤ h ∧ h ≤ (z.size : Nat))
abbrev cApp {α : Type} (l l2 : List α) (bytes : Nat) : Bool := decide ((l.length + l2.length) * (bytes + 1) ≤ 140737488355328)
abbrev cLd {α : Type} (l : List α) (i : Nat) : Bool := decide (i < l.length)
abbrev cCat (a b : ByteArray) : Bool := decide (a.size + b.size ≤ 9223372036854775807)
abbrev lgt (y : Ty) (l : List y.T) (j : Nat) : y.T := l.getD j y.zero
abbrev lsl {α : Type} (l : List α) (a h : Int) : List α := (l.drop a.toNat).take (h.toNat - a.toNat)
abbrev llen {α : Type} (l : List α) : Int := ((l.length : Nat) : Int)
abbrev slen (z : ByteArray) : Int := ((z.size : Nat) : Int)
abbrev sgt (z : ByteArray) (j : Int) : Int := (((z.data.toList.getD j.toNat 0).toNat : Nat) : Int)
abbrev ssl (z : ByteArray) (a h : Int) : ByteArray := z.extract a.toNat h.toNat
abbrev scat (a b : ByteArray) : ByteArray := a ++ b
section
variable {P : Program} {X : Nat → Nat → Prop} {w : World} {σ : Pl}
end
def oM (d : Nat) (m : MO) : RO := ⟨some d, none, .m m⟩
def oP (d : Nat) (a : AO) : RO := ⟨some d, none, .m (.pu a)⟩
def oV (d i : Nat) : RO := ⟨some d, none, .m (.pu (.mv (.t i)))⟩
def oL (d i : Nat) : RO := ⟨some d, none, .m (.ld false 1 (.t i))⟩
def oC (d f : Nat) (l : List AX) : RO := ⟨some d, none, .call f l⟩
def oG (d j : Nat) (b : Bool) (k : RK) : RO := ⟨some d, some (j, b), k⟩
def oQ (d j : Nat) (b : Bool) (a : AO) : RO := ⟨some d, some (j, b), .m (.pu a)⟩
def cI (n : Int) : AX := .c (.v (.int .i64 n))
def cB (b : Bool) : AX := .c (.v (.bool b))
end Go.Proofs.YtkkoedniahnneaaDoor.K
/-
 From a contract of calls to what is said in types, and from there to a law's row.
-/
namespace Go.Proofs.YtkkoedniahnneaaDoor.K
open Go.RowKit
section
variable {P : Program} {X : Nat → Nat → Prop} {w : World} {σ : Pl}
theorem fr_below {w w' : World} (h : Below w.heap.size w w') : Fr [] w w' := ⟨h.os, h.tape, h.output, h.size, fun b hb _ => h.block b hb⟩
theorem ends_none {w w' : World} {m : Nat} (hm : m = 0) (hfin : ∀ b q, X b q → b < w.heap.size) (h : Below w.heap.size w w') : Ends X w σ m X w' σ [] := by
 subst hm
 exact ⟨fun b q hq => Nat.lt_of_lt_of_le (hfin b q hq) h.size, fun j o hj => by simp at hj, fun i j b _ hi => by simp at hi, by simp, fun _ _ => rfl, fun j b _ hj => by simp at hj, fr_below h, fun _ _ _ h => h, fun _ _ _ _ h => h⟩
theorem meets_calls {f : FuncId} {a : Ty} {ok : a.T → Bool} {F : a.T → V} (h : ∀ x, ok x = true → ∀ X w σ vs, (∀ b q, X b q → b < w.heap.size) → Cs X w σ (V.ds (a.canon x)) vs →
  Calls P f vs.toArray w fun e w' => ∃ u, e = .returned u ∧ C X w' σ (F x).d u ∧ Below w.heap.size w w') (hlt : f < 1000000 := by decide) : Meets P f (strip (spec a ok F)) := by
 intro args objs r os hF X w σ vs hfin hl hc
 unfold strip spec at hF
 cases objs with
 | cons o os' => simp at hF
 | nil =>
  simp only at hF
  cases ha : a.args args with
  | none => rw [ha] at hF; cases hF
  | some x =>
   rw [ha] at hF
   simp only at hF
   split at hF
   ·rename_i r' os' hq
    simp only [Option.some.injEq, Prod.mk.injEq] at hF hq
    obtain ⟨rfl, rfl⟩ := hF
    obtain ⟨h1, rfl, rfl⟩ := hq
    refine (does_of hlt (h x h1 X w σ vs hfin (canon_cs ha hc))).mono ?_
    rintro e w' ⟨u, e1, e2, e3⟩
    exact ⟨u, X, σ, e1, e2, ends_none rfl hfin e3⟩
   ·cases hF
theorem calls_true {f : FuncId} {F : Fun} (hlt : f < 1000000) (h : Meets P f F) {args : List V} (hF : F args [] = some (.t .bool true, [])) {W : World} {vs : List Value} (hc : Cs (fun _ _ => False) W (fun _ => .no) (V.ds args) vs) :
  Calls P f vs.toArray W fun r w' => r = .returned (.bool true) ∧ Below W.heap.size W w' := by
 refine (of_does hlt (h args [] _ _ hF (fun _ _ => False) W (fun _ => .no) vs (fun _ _ h => h.elim) ⟨fun j o hj => by simp at hj, fun i j b _ hi => by simp at hi⟩ hc)).mono ?_
 rintro e w' ⟨u, X', σ', rfl, h1, h2⟩
 simp only [V.d, Ty.d, C] at h1
 rw [h1.1]
 exact ⟨rfl, h2.fr.os, h2.fr.tape, h2.fr.output, h2.fr.size, fun b hb => h2.fr.keep b hb (by simp [lentB])⟩
theorem ints_cs {k : IntKind} : ∀ (zs : List Int), Cs X w σ (zs.flatMap (Ty.int k).cells) (zs.map (Value.int k))
 | [] => by simp [Cs]
 | z :: zs => by
  simp only [List.flatMap_cons, Ty.cells, List.singleton_append, List.map_cons, Cs]
  exact ⟨_, _, rfl, ⟨rfl, rfl⟩, ints_cs zs⟩
theorem introw_c {k : IntKind} {W : World} {a : Option Addr} {len cap : Nat} {zs : List Int} (hr : IsRow k W a len cap zs) : C (fun _ _ => False) W σ (V.t (.sl (.int k)) (zs.take len)).d (.slice a len cap) := by
 rcases hr with ⟨rfl, rfl, rfl, rfl⟩ | ⟨x, rfl, h1, h2, h3, h4, h5⟩
 ·simp only [V.d, Ty.d, C, List.take_nil, List.length_nil]
  exact ⟨none, 0, rfl, Nat.le_refl _, by simp [maxLen], fun _ => rfl, fun h => absurd h (by omega)⟩
 ·have hlen : (zs.take len).length = len := by rw [List.length_take]; omega
  simp only [V.d, Ty.d, C, hlen]
  refine ⟨some x, cap, rfl, h1, h2, fun h => by subst h; simp, fun h => ?_⟩
  obtain ⟨b, off, sp⟩ := x
  have h0 := h4 0 (by omega)
  have hsp : sp = none := by
   simp only [World.cell?, Addr.add] at h0
   cases sp with
   | none => rfl
   | some s => split at h0 <;> simp at h0
  subst hsp
  refine ⟨b, off, _, rfl, ints_cs _, ?_, fun j _ h => h, fun j u hu => ?_, fun u hu => ?_⟩
  ·rcases Nat.lt_or_ge b W.heap.size with hlt | hge
   ·exact hlt
   ·simp [World.cell?, Addr.add, Array.getElem?_eq_none hge] at h0
  ·rw [List.getElem?_map] at hu
   have hj : j < len := by
    rcases Nat.lt_or_ge j len with hlt | hge
    ·exact hlt
    ·rw [List.getElem?_eq_none (by omega)] at hu; cases hu
   have := h4 j (by omega)
   rw [List.getElem?_take_of_lt hj, List.getElem?_eq_getElem (by omega)] at hu
   rw [List.getD_eq_getElem?_getD, List.getElem?_eq_getElem (by omega)] at this
   simp only [Option.map_some, Option.some.injEq] at hu
   subst hu
   have ha : (Addr.mk b off none).add j = ⟨b, off + j, none⟩ := by by_cases h0 : j = 0 <;> simp [Addr.add, h0]
   rw [ha] at this
   simpa using this
  ·simp only [List.mem_map] at hu
   obtain ⟨z, _, rfl⟩ := hu
   rfl
theorem strip_spec {a : Ty} {ok : a.T → Bool} {F : a.T → V} {args : List V} {x : a.T} (h : a.args args = some x) (hok : ok x = true) : strip (spec a ok F) args [] = some (F x, []) := by
 simp [strip, spec, h, hok]
end
end Go.Proofs.YtkkoedniahnneaaDoor.K
/-
 What is handed to a law, whatever its types of plain data: the datum that is read is a typed value.
-/
namespace Go.Proofs.YtkkoedniahnneaaDoor.K
open Go.RowKit Go.ChangeShapes Go.WideShapes Go.Deep
def Ty.wf : (y : Ty) → y.T → Prop
 | .int k, n => (Lit.int k n).wf = true
 | .bool, _ => True
 | .str, s => s.size ≤ maxLen
 | .sl e, l => List.length l ≤ maxLen ∧ ∀ x ∈ l, e.wf x
 | .nil, _ => True
 | .pr f r, x => f.wf x.1 ∧ r.wf x.2
 | .rv, _ => True
 | .rb, _ => True
def fieldsIs (P : Program) (T : TypeId → Ty → Bool) : List Field → Nat → Ty → Bool
 | [], _, .nil => true
 | f :: r, o, .pr a b => decide (f.offset = o) && decide (P.cellsOf f.type = a.sz) && T f.type a && fieldsIs P T r (o + a.sz) b
 | _, _, _ => false
def tyIs (P : Program) : Nat → TypeId → Ty → Bool
 | 0, _, _ => false
 | n + 1, t, y => match P.underlying t with
  | some (.int k) => decide (y = .int k)
  | some .bool => decide (y = .bool)
  | some .string => decide (y = .str)
  | some (.slice e) => match y with
   | .sl z => tyIs P n e z && decide (P.cellsOf e = z.sz) && decide (0 < z.sz)
   | _ => false
  | some (.struct fs) => y.row && decide (P.cellsOf t = y.sz) && fieldsIs P (tyIs P n) fs.toList 0 y
  | _ => false
abbrev noX : Nat → Nat → Prop := fun _ _ => False
section
variable {H : Type} {enc : TypeId × Value → H} {P : Program} {w : World} {base : Nat} {sp : Nat → Bool} {held : Bool} {σ : Pl}
theorem ycells_one {X : Nat → Nat → Prop} : ∀ (y : Ty) (x : y.T) (vs : List Value), Cs X w σ (y.cells x) vs → vs.length = y.sz ∧ ∀ v ∈ vs, v.oneCell' = true
 | .int k, n, vs, h => by
  simp only [Ty.cells, Cs] at h
  obtain ⟨u, us, rfl, h1, rfl⟩ := h
  simp only [C] at h1
  exact ⟨rfl, fun v hv => by simp at hv; subst hv; rw [h1.1]; exact h1.2⟩
 | .bool, n, vs, h => by
  simp only [Ty.cells, Cs] at h
  obtain ⟨u, us, rfl, h1, rfl⟩ := h
  simp only [C] at h1
  exact ⟨rfl, fun v hv => by simp at hv; subst hv; rw [h1.1]; exact h1.2⟩
 | .str, n, vs, h => by
  simp only [Ty.cells, Cs] at h
  obtain ⟨u, us, rfl, h1, rfl⟩ := h
  simp only [C] at h1
  exact ⟨rfl, fun v hv => by simp at hv; subst hv; rw [h1.1]; exact h1.2⟩
 | .sl e, l, vs, h => by
  simp only [Ty.cells, Cs] at h
  obtain ⟨u, us, rfl, h1, rfl⟩ := h
  simp only [C] at h1
  obtain ⟨A, c, rfl, _⟩ := h1
  exact ⟨rfl, fun v hv => by simp at hv; subst hv; rfl⟩
 | .rv, l, vs, h => by
  simp only [Ty.cells, Cs] at h
  obtain ⟨u, us, rfl, h1, rfl⟩ := h
  simp only [C] at h1
  obtain ⟨A, c, rfl, _⟩ := h1
  exact ⟨rfl, fun v hv => by simp at hv; subst hv; rfl⟩
 | .rb, l, vs, h => by
  simp only [Ty.cells, Cs] at h
  obtain ⟨u, us, rfl, h1, rfl⟩ := h
  simp only [C] at h1
  obtain ⟨A, c, rfl, _⟩ := h1
  exact ⟨rfl, fun v hv => by simp at hv; subst hv; rfl⟩
 | .nil, _, vs, h => by
  simp only [Ty.cells, Cs] at h
  subst h
  exact ⟨rfl, fun v hv => by cases hv⟩
 | .pr f r, x, vs, h => by
  simp only [Ty.cells] at h
  obtain ⟨v1, v2, rfl, h1, h2⟩ := Cs.split h
  obtain ⟨a1, a2⟩ := ycells_one f x.1 v1 h1
  obtain ⟨b1, b2⟩ := ycells_one r x.2 v2 h2
  refine ⟨by simp only [List.length_append, Ty.sz, a1, b1], fun v hv => ?_⟩
  rcases List.mem_append.1 hv with hv | hv
  ·exact a2 v hv
  ·exact b2 v hv
theorem rows_one {X : Nat → Nat → Prop} {z : Ty} : ∀ (l : List z.T) (vs : List Value), Cs X w σ (l.flatMap z.cells) vs → ∀ v ∈ vs, v.oneCell' = true
 | [], vs, h => by
  simp only [List.flatMap_nil, Cs] at h
  subst h
  intro v hv
  cases hv
 | x :: l, vs, h => by
  rw [List.flatMap_cons] at h
  obtain ⟨v1, v2, rfl, h1, h2⟩ := Cs.split h
  intro v hv
  rcases List.mem_append.1 hv with hv | hv
  ·exact (ycells_one z x v1 h1).2 v hv
  ·exact rows_one l v2 h2 v hv
end
end Go.Proofs.YtkkoedniahnneaaDoor.K
/-
 Operations that are taken like calls: what they make.
-/
namespace Go.Proofs.YtkkoedniahnneaaDoor.K
open Go.RowKit
section
variable {P : Program}
theorem bytes_cs {X : Nat → Nat → Prop} {w : World} {σ : Pl} : ∀ (l : List UInt8), Cs X w σ (List.flatMap (Ty.int .u8).cells (l.map fun b => (b.toNat : Int))) (l.map fun b => Value.int .u8 (b.toNat : Int))
 | [] => by simp [Cs]
 | b :: l => by
  simp only [List.map_cons, List.flatMap_cons, Ty.cells, List.singleton_append, Cs, C]
  exact ⟨_, _, rfl, ⟨rfl, rfl⟩, bytes_cs l⟩
def bytesOk (s : ByteArray) : Bool := decide (s.size ≤ 9223372036854775807)
theorem meets_bytes {a b e : Nat} (ha : P.underlying a = some .string) (hb : P.underlying b = some (.slice e)) (he : P.underlying e = some (.int .u8)) (hlt : a < 10000) :
  Meets P (bCode 0 a b) (strip (spec (.pr .str .nil) (fun x => bytesOk x.1) (fun x => .t (.sl (.int .u8)) (bytesL x.1)))) := by
 intro args objs r os hF X w σ vs hfin hl hc
 unfold strip spec at hF
 cases objs with
 | cons o os' => simp at hF
 | nil =>
  simp only at hF
  cases ha' : (Ty.pr .str .nil).args args with
  | none => rw [ha'] at hF; cases hF
  | some x =>
   rw [ha'] at hF
   simp only at hF
   split at hF
   ·rename_i r' os' hq
    simp only [Option.some.injEq, Prod.mk.injEq] at hF hq
    obtain ⟨rfl, rfl⟩ := hF
    obtain ⟨h1, rfl, rfl⟩ := hq
    have hc2 := canon_cs ha' hc
    obtain ⟨s, u0⟩ := x
    have h1 : s.size ≤ 9223372036854775807 := of_decide_eq_true h1
    simp only [Ty.canon, V.ds, V.d, Ty.d, Cs, C] at hc2
    obtain ⟨u, us, rfl, ⟨rfl, _⟩, rfl⟩ := hc2
    have hr := run_bytes_of_string (P := P) w a b e s ha hb he
    have hge := grownCap_ge w s.size 0 e
    have hle := grownCap_le_maxLen w s.size 0 e (by simp [maxLen]; omega)
    generalize grownCap w s.size 0 e = cap at hr hge hle
    have hbel : Below w.heap.size w (w.drew.alloc (.cells (bytesRow s cap) e ((bytesRow s cap).size, (bytesRow s cap).size + 1))) := ((Below.refl _ _).drew).alloc (Nat.le_refl _) _
    have hblk : (w.drew.alloc (.cells (bytesRow s cap) e ((bytesRow s cap).size, (bytesRow s cap).size + 1))).heap[w.heap.size]? = some (.cells (bytesRow s cap) e ((bytesRow s cap).size, (bytesRow s cap).size + 1)) := heap_alloc_new _ _
    have hlen : (bytesL s).length = s.size := by simp [bytesL]
    unfold Does
    rw [bCode_0 hlt]
    refine ⟨_, _, hr, _, X, σ, rfl, ?_, ends_none rfl hfin hbel⟩
    simp only [V.d, Ty.d, C]
    refine ⟨some ⟨w.heap.size, 0, none⟩, cap, by rw [hlen], by rw [hlen]; exact hge, hle, fun h0 => by rw [List.eq_nil_of_length_eq_zero h0]; rfl, fun _ => ⟨w.heap.size, 0, s.data.toList.map fun b => Value.int .u8 (b.toNat : Int), rfl, bytes_cs _, ?_, fun j _ hx => ?_, fun j v hj => ?_, fun v hv => ?_⟩⟩
    ·exact (Array.getElem?_eq_some_iff.1 hblk).1
    ·exact absurd (hfin _ _ hx) (Nat.lt_irrefl _)
    ·have hjl := (List.getElem?_eq_some_iff.1 hj).1
     rw [List.length_map] at hjl
     have : (bytesRow s cap)[j]? = some v := by
      unfold bytesRow
      rw [Array.getElem?_append_left (by simpa using hjl)]
      rw [List.getElem?_map] at hj
      simpa using hj
     simp only [World.cell?, hblk, Nat.zero_add]
     exact this
    ·simp only [List.mem_map] at hv
     obtain ⟨b, _, rfl⟩ := hv
     rfl
   ·cases hF
end
end Go.Proofs.YtkkoedniahnneaaDoor.K
/-
 Own slices that are handed to a function: it writes them, or uses them up.
-/
namespace Go.Proofs.YtkkoedniahnneaaDoor.K
open Go.RowKit Go.Sort
section
variable {P : Program}
variable {X : Nat → Nat → Prop} {w w' : World} {σ : Pl}
end
end Go.Proofs.YtkkoedniahnneaaDoor.K
/-
 Interfaces: values that are put into them, methods that are called through them; functions of which there is more than one word.
-/
namespace Go.Proofs.YtkkoedniahnneaaDoor.K
open Go.RowKit
section
variable {P : Program}
end
end Go.Proofs.YtkkoedniahnneaaDoor.K
