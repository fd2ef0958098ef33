/-
  A run through a function's text: what it makes, the program's function makes.
-/
import Derived.Test.YtnimpcffagidoaaK22
namespace Go.Proofs.Ytnimpcffagidoaa.K
open Go.RowKit
set_option linter.unusedSimpArgs false
set_option linter.unusedVariables false

section
variable {P : Program} {B : Base} {X X' : Nat → Nat → Prop} {w w' : World} {σ σ' : Pl} {n : Nat} {S : VS} {us : List Value}
theorem tc_sound {g : G} (hg : GOk P g) (hm : P.follows .mixedOrders = true) : ∀ (tc : TC) {β : Type} {S : VS} {K : Exit → VS → Option β} {r : β}, tc.lok g → ev g tc S K = some r → JV P B g.n (fun e S' => K e S' = some r) tc.er S := by
  intro tc
  induction tc with
  | sk =>
    intro β S K r lk h c hc X w σ us ha
    cases c with
    | skip => exact wp_skip ⟨S, X, σ, us, ha, rfl, h⟩
    | region id ops d => cases d <;> simp [trC, TC.er] at hc
    | cond x a b => simp only [trC, TC.er] at hc; split at hc <;> cases hc
    | _ => simp [trC, TC.er] at hc
  | rt =>
    intro β S K r lk h c hc X w σ us ha
    cases c with
    | ret => exact wp_ret ⟨S, X, σ, us, ha, rfl, h⟩
    | region id ops d => cases d <;> simp [trC, TC.er] at hc
    | cond x a b => simp only [trC, TC.er] at hc; split at hc <;> cases hc
    | _ => simp [trC, TC.er] at hc
  | ex id =>
    intro β S K r lk h c hc X w σ us ha
    cases c with
    | exit i =>
      simp only [trC, TC.er, AC.ex.injEq] at hc
      subst hc
      exact wp_exit ⟨S, X, σ, us, ha, rfl, h⟩
    | region id ops d => cases d <;> simp [trC, TC.er] at hc
    | cond x a b => simp only [trC, TC.er] at hc; split at hc <;> cases hc
    | _ => simp [trC, TC.er] at hc
  | reg rs =>
    intro β S K r lk h c hc X w σ us ha
    cases c with
    | region id ops d =>
      cases d with
      | true => simp [trC, TC.er] at hc
      | false =>
        simp only [trC, TC.er, AC.reg.injEq] at hc
        refine wp_region_list ?_
        exact evL_sound hg h hc ha fun S' X' w' σ' us' ha' hk => ⟨S', X', σ', us', ha', rfl, hk⟩
    | cond x a b => simp only [trC, TC.er] at hc; split at hc <;> cases hc
    | _ => simp [trC, TC.er] at hc
  | dr ds os t =>
    intro β S K r _ h
    exact evD_sound hg hm h fun S' hk => hk
  | sq a b iha ihb =>
    intro β S K r lk h c hc X w σ us ha
    cases c with
    | seq x y =>
      simp only [trC, TC.er, AC.sq.injEq] at hc
      refine wp_seq (wp_mono (iha lk.1 h x hc.1 X w σ us ha) ?_)
      rintro e a' w' ⟨S', X', σ', us', h1, rfl, h4⟩
      cases e with
      | normal => exact ihb lk.2 h4 y hc.2 X' w' σ' us' h1
      | _ => exact ⟨S', X', σ', us', h1, rfl, h4⟩
    | region id ops d => cases d <;> simp [trC, TC.er] at hc
    | cond x a b => simp only [trC, TC.er] at hc; split at hc <;> cases hc
    | _ => simp [trC, TC.er] at hc
  | cd x a b iha ihb =>
    intro β S K r lk h c hc X w σ us ha
    cases c with
    | cond o p q =>
      simp only [trC, TC.er] at hc
      split at hc
      · rename_i x' hx
        simp only [AC.cd.injEq] at hc
        obtain ⟨rfl, h2, h3⟩ := hc
        simp only [ev] at h
        split at h
        · rename_i t ht
          have hu := xv_sound hx (by rw [ht]; rfl) ha.rel
          rw [ht] at hu
          have hu := (C.v hu).1
          rcases br_some h with ⟨rfl, h⟩ | ⟨rfl, h⟩
          · exact wp_cond_true hu (iha lk.1 h p h2 X w σ us ha)
          · exact wp_cond_false hu (ihb lk.2 h q h3 X w σ us ha)
        · cases h
      · cases hc
    | region id ops d => cases d <;> simp [trC, TC.er] at hc
    | _ => simp [trC, TC.er] at hc
  | bk id a iha =>
    intro β S K r lk h c hc X w σ us ha
    cases c with
    | block i x =>
      simp only [trC, TC.er, AC.bk.injEq] at hc
      obtain ⟨rfl, hc⟩ := hc
      refine wp_block (wp_mono (iha lk h x hc X w σ us ha) ?_)
      rintro e a' w' ⟨S', X', σ', us', h1, rfl, h4⟩
      cases e with
      | exit j =>
        simp only [Exit.inBlock]
        simp only at h4
        split at h4
        · rename_i hj
          rw [if_pos hj]
          exact ⟨S', X', σ', us', h1, rfl, h4⟩
        · rename_i hj
          rw [if_neg hj]
          exact ⟨S', X', σ', us', h1, rfl, h4⟩
      | _ => exact ⟨S', X', σ', us', h1, rfl, h4⟩
    | region id ops d => cases d <;> simp [trC, TC.er] at hc
    | cond x a b => simp only [trC, TC.er] at hc; split at hc <;> cases hc
    | _ => simp [trC, TC.er] at hc
  | lp j f a iha =>
    intro β S K r lk h c hc X w σ us ha
    cases c with
    | loop x =>
      simp only [trC, TC.er, AC.lp.injEq] at hc
      simp only [ev] at h
      split at h
      · rename_i q l hL
        obtain ⟨rfl, h⟩ := br_none h
        obtain ⟨e1, S1, hp, h⟩ := alts_some h
        have hl := lk.1 S l (e1, S1) hL hp
        obtain ⟨m, hn⟩ := loopF_some.1 hl
        refine wp_mono (Q := lift B g.n (fun e S' => (e, S') = (e1, S1))) ?_ ?_
        · refine wp_loop_by (fun m a' w' => ∃ S X' σ' us', a' = ⟨us'.toArray, []⟩ ∧ At B X' w' σ' g.n S us' ∧ loopN (roundF g f a) m S = some (e1, S1)) ?_ m _ _ ⟨S, X, σ, us, rfl, ha, hn⟩
          rintro m a' w' ⟨S0, X', σ', us', rfl, ha', hm'⟩
          cases m with
          | zero => cases hm'
          | succ m =>
            simp only [loopN] at hm'
            split at hm'
            · rename_i S2 hb
              refine wp_mono (iha lk.2 hb x hc X' w' σ' us' (ha'.fgt f)) ?_
              rintro e a2 w2 ⟨S3, X2, σ2, us2, k1, rfl, k3⟩
              cases e with
              | normal =>
                simp only [roundK, Option.some.injEq, Prod.mk.injEq, true_and] at k3
                subst k3
                exact ⟨m, by omega, _, X2, σ2, us2, rfl, k1.fgt f, hm'⟩
              | _ => simp [roundK] at k3
            · rename_i hne
              refine wp_mono (iha lk.2 hm' x hc X' w' σ' us' (ha'.fgt f)) ?_
              rintro e a2 w2 ⟨S3, X2, σ2, us2, k1, rfl, k3⟩
              cases e with
              | normal =>
                simp only [roundK, Option.some.injEq, Prod.mk.injEq] at k3
                obtain ⟨rfl, rfl⟩ := k3
                exact absurd hm' (hne _)
              | _ =>
                simp only [roundK, Option.some.injEq, Prod.mk.injEq] at k3
                obtain ⟨rfl, rfl⟩ := k3
                exact ⟨S3, X2, σ2, us2, k1, rfl, rfl⟩
        · rintro e a' w' ⟨S', X', σ', us', h1, rfl, h3⟩
          injection h3 with h4 h5
          subst h4 h5
          exact ⟨S', X', σ', us', h1, rfl, h⟩
      · cases h
    | region id ops d => cases d <;> simp [trC, TC.er] at hc
    | cond x a b => simp only [trC, TC.er] at hc; split at hc <;> cases hc
    | _ => simp [trC, TC.er] at hc
  | fg f a iha =>
    intro β S K r lk h c hc X w σ us ha
    exact iha lk h c hc X w σ us (ha.fgt f)
  | nw s e a iha =>
    intro β S K r lk h c hc X w σ us ha
    obtain ⟨S', σ', h1, h2⟩ := nwR_sound h ha
    exact iha lk h1 c hc X w σ' us h2
  | nf j i e k a iha =>
    intro β S K r lk h c hc X w σ us ha
    obtain ⟨S', σ', h1, h2⟩ := nfR_sound h ha
    exact iha lk h1 c hc X w σ' us h2
end

/-- a result of a function -/
inductive RV where
  | t (i : Nat)
  | c (i : Nat) (agg : Bool) (n : Nat)
def trV (P : Program) : ResultVar → Option RV
  | .tmp t => some (.t t)
  | .cell a t => match P.underlying t, P.info? t with
    | some d, some inf => some (.c a (isRow d) inf.size)
    | _, _ => none
def trVs (P : Program) : List ResultVar → Option (List RV)
  | [] => some []
  | r :: l => match trV P r, trVs P l with
    | some a, some b => some (a :: b)
    | _, _ => none
section
variable {β : Type}
def RV.run (S : VS) (K : V → Option β) : RV → Option β
  | .t i => nz (S.ts i) K
  | .c i agg n => match S.ts i with
    | .ptr j o => match S.st j with
      | .box z => match z.sub true o n agg with
        | some v => nz v K
        | none => none
      | _ => none
    | _ => none
def castR (t : Option Ty) (v : V) (K : V → Option β) : Option β :=
  match t with
  | none => K v
  | some y => match v.as y with
    | some x => K (.t y x)
    | none => none
def resR (S : VS) : List (RV × Option Ty) → (List V → Option β) → Option β
  | [], K => K []
  | r :: l, K => r.1.run S fun v => castR r.2 v fun v => resR S l fun vs => K (v :: vs)
end
def resV : List V → V
  | [v] => v
  | vs => .tu vs
/-- the numbers of what a function hands out -/
def exs (vs : List V) : List Nat := ((V.refss vs).filter fun k => decide (k < 50000)).eraseDups
def exr (es : List Nat) (m k : Nat) : Nat := if 50000 ≤ k then k else 50000 + m + es.idxOf k
/-- may these be handed out? -/
def retOk (S : VS) (m : Nat) (es : List Nat) (vs : List V) : Bool :=
  decide es.Nodup && (((V.refss vs).all fun k => decide (50000 ≤ k ∧ k < 50000 + m) || es.contains k) && ((es.all fun k => decide (k < 50000) && ((match S.st k with | .no => false | _ => true) && (S.st k).refs.isEmpty)) &&
    (List.range m).all fun j => (match S.st (50000 + j) with | .no => false | _ => true) && (S.st (50000 + j)).refs.all fun k => decide (50000 ≤ k ∧ k < 50000 + m)))
def retS (S : VS) (m : Nat) (es : List Nat) (vs : List V) : Option (V × List VO) :=
  if retOk S m es vs = true then some ((resV vs).ren (exr es m), ((List.range m).map fun j => S.st (50000 + j)) ++ es.map fun k => S.st k) else none
/-- what a function hands back; ro: own slices stay own ones -/
def retR (rv : List (RV × Option Ty)) (ro : Bool) (m : Nat) (S : VS) : Option (V × List VO) :=
  resR S (rv.map fun r => (r.1, none)) fun vs => if ro = true then retS S m (exs vs) vs else resR (S.fzs (V.msss vs)) rv fun vs' => retS (S.fzs (V.msss vs)) m (exs vs') vs'
def argL : Nat → List V → List (Nat × V)
  | _, [] => []
  | i, v :: r => (i, v) :: argL (i + 1) r
def objL : Nat → List VO → List (Nat × VO)
  | _, [] => []
  | i, v :: r => (i, v) :: objL (i + 1) r
def inS (args : List V) (objs : List VO) : VS := ⟨look (argL 0 args), lookO (objL 50000 objs), (objL 50000 objs).map Prod.fst⟩
/-- what a function's text makes -/
noncomputable def runF (g : G) (tc : TC) (rv : List (RV × Option Ty)) (ro : Bool) : Fun := fun args objs =>
  if args.length ≤ g.n then ev g tc (inS args objs) fun e S => match e with
    | .ret => retR rv ro objs.length S
    | .normal => retR rv ro objs.length S
    | _ => none
  else none

section
variable {P : Program} {B : Base} {X X' : Nat → Nat → Prop} {w w' : World} {σ σ' : Pl} {n : Nat} {S : VS} {us : List Value}
/-- one result of a function, as the model takes it -/
def rvRun (us : List Value) : ResultVar → Sem Value
  | .tmp t => pure (us.toArray.getD t undef)
  | .cell a t => do loadVar t (← asAddr (us.toArray.getD a undef))
theorem rv_sound {β : Type} {K : V → Option β} {x : β} {r : ResultVar} {rv : RV} (ht : trV P r = some rv) (he : rv.run S K = some x) : ∃ v, K v = some x ∧ ∀ {B : Base} {X : Nat → Nat → Prop} {w : World} {σ : Pl} {n : Nat} {us : List Value}, At B X w σ n S us → ∃ u, C X w σ v.d u ∧ (rvRun us r).run P w = .ok u w := by
  cases r with
  | tmp t =>
    simp only [trV, Option.some.injEq] at ht
    subst ht
    obtain ⟨h1, h2⟩ := nz_some he
    refine ⟨_, h2, fun {B X w σ n us} ha => ⟨_, xv_sound (o := .tmp t) (x := .t t) rfl h1 ha.rel, ?_⟩⟩
    simp [Act.eval, rvRun]
  | cell a t =>
    simp only [trV] at ht
    split at ht
    · rename_i dd inf hd hin
      simp only [Option.some.injEq] at ht
      subst ht
      simp only [RV.run] at he
      split at he
      · rename_i j o hx
        split at he
        · rename_i c hst
          split at he
          · rename_i v hs
            obtain ⟨h1, h2⟩ := nz_some he
            refine ⟨v, h2, fun {B X w σ n us} ha => ?_⟩
            have k1 := xv_sound (o := .tmp a) (x := .t a) rfl (by simp only [AX.xv, hx]; rfl) ha.rel
            simp only [AX.xv, hx, V.d, C] at k1
            obtain ⟨b, e1, e2⟩ := k1
            have hat := ha.ti.obj j
            rw [hst] at hat
            obtain ⟨b', ty, vs, g1, g2, g3, g4⟩ := hat
            rw [g1] at e1
            injection e1 with e1
            subst e1
            obtain ⟨s1, s2⟩ := V.sub_spec hs
            have hl := g3.len
            obtain ⟨u, q1, q2⟩ := load_at (P := P) (b := b') (off := o) (vs := vs.drop o) (ds := c.d.cells.drop o) (d := v.d) hd hin (g3.drop_ _) (fun i u hu => by
              rw [List.getElem?_drop] at hu
              rw [cell_of_row w b' (o + i) vs.toArray ty (0, 0) g2]
              simpa using hu) (fun ha => by
                obtain ⟨t1, t2⟩ := s1 ha
                exact ⟨t1, by rw [List.length_drop]; omega⟩) (fun ha => by
                rw [List.getElem?_drop]
                exact s2 ha)
            refine ⟨u, q2, ?_⟩
            simp only [Act.eval] at e2
            simp only [rvRun, Sem.run_bind, e2, asAddr, Sem.run_pure, Result.andThen_ok, q1]
          · cases he
        · cases he
      · cases he
    · cases ht
theorem rvs_sound {β : Type} {x : β} : ∀ {rs : List ResultVar} {rv : List (RV × Option Ty)} {K : List V → Option β}, trVs P rs = some (rv.map Prod.fst) → resR S rv K = some x → ∃ vs, K vs = some x ∧ ∀ {B : Base} {X : Nat → Nat → Prop} {w : World} {σ : Pl} {n : Nat} {us : List Value}, At B X w σ n S us →
    ∃ xs, Cs X w σ (V.ds vs) xs ∧ (rs.mapM (rvRun us)).run P w = .ok xs w
  | [], rv, K, ht, he => by
    simp only [trVs, Option.some.injEq] at ht
    have : rv = [] := List.map_eq_nil_iff.1 ht.symm
    subst this
    exact ⟨[], he, fun _ => ⟨[], by simp [V.ds, Cs], by simp⟩⟩
  | r :: rs, rv, K, ht, he => by
    simp only [trVs] at ht
    split at ht
    · rename_i a b ha hb
      simp only [Option.some.injEq] at ht
      cases rv with
      | nil => cases ht
      | cons q rv =>
        simp only [List.map_cons, List.cons.injEq] at ht
        obtain ⟨rfl, rfl⟩ := ht
        simp only [resR] at he
        obtain ⟨v0, h0, h2⟩ := rv_sound ha he
        have hcast : ∃ v, resR S rv (fun vs => K (v :: vs)) = some x ∧ ∀ {X : Nat → Nat → Prop} {w : World} {σ : Pl} {u : Value}, C X w σ v0.d u → C X w σ v.d u := by
          unfold castR at h0
          split at h0
          · exact ⟨v0, h0, fun h => h⟩
          · split at h0
            · rename_i y z hz
              exact ⟨_, h0, fun h => C.up _ _ (V.as_spec hz h)⟩
            · cases h0
        obtain ⟨v, h1, hcv⟩ := hcast
        obtain ⟨vs, h3, h4⟩ := rvs_sound hb h1
        refine ⟨v :: vs, h3, fun {B X w σ n us} hat => ?_⟩
        obtain ⟨u, q1, q2⟩ := h2 hat
        obtain ⟨xs, q3, q4⟩ := h4 hat
        refine ⟨u :: xs, by simp only [V.ds]; exact Cs.cons (hcv q1) q3, ?_⟩
        rw [List.mapM_cons]
        simp only [Sem.run_bind, q2, q4, Result.andThen_ok, Sem.run_pure]
    · cases ht
theorem results_sound {fn : Func} {vs : List V} {xs : List Value} (hc : Cs X w σ (V.ds vs) xs) (h : (fn.results.toList.mapM (rvRun us)).run P w = .ok xs w) : ∃ u, C X w σ (resV vs).d u ∧ (results fn us.toArray).run P w = .ok u w := by
  have hm : (fn.results.mapM (rvRun us)).run P w = .ok xs.toArray w := by
    rw [Array.mapM_eq_mapM_toList]
    rw [map_eq_pure_bind, Sem.run_bind, h]
    rfl
  have hf : results fn us.toArray = (do let vs ← fn.results.mapM (rvRun us); pure (if h : vs.size = 1 then vs[0] else .tuple vs)) := by
    unfold results
    congr 1
  rw [hf, Sem.run_bind, hm]
  have hlen := hc.len
  rw [V.ds_eq, List.length_map] at hlen
  unfold resV
  split
  · rename_i v
    simp only [V.ds] at hc
    obtain ⟨u, rfl, hu⟩ := hc.one
    exact ⟨u, hu, by simp⟩
  · rename_i hne
    have h0 : xs.toArray.size ≠ 1 := by
      intro h
      rcases vs with _ | ⟨d, _ | ⟨d2, r⟩⟩
      · simp at hlen; simp [hlen] at h
      · exact hne d rfl
      · simp at hlen h; omega
    refine ⟨.tuple xs.toArray, by simp only [V.d, C]; exact ⟨xs, rfl, hc⟩, ?_⟩
    simp only [Result.andThen_ok, dif_neg h0, Sem.run_pure]
theorem OAt.pl {k k' : Nat} {o : VO} (h : OAt X w σ k o) (hk : σ' k' = σ k) (hr : ∀ r ∈ o.refs, σ' r = σ r) : OAt X w σ' k' o := by
  cases o with
  | no => trivial
  | box v =>
    obtain ⟨b, ty, vs, h1, h2, h3, h4⟩ := h
    exact ⟨b, ty, vs, hk.trans h1, h2, Cs.ext (Ext.refl X w) _ _ (fun r hr' => hr r (by rw [V.refs_dcells] at hr'; exact hr')) h3, h4⟩
  | arr e y l =>
    obtain ⟨u, xs, h1, h2⟩ := h
    exact ⟨u, xs, hk.trans h1, h2⟩
theorem resV_refs (vs : List V) : (resV vs).refs = V.refss vs := by
  unfold resV
  split
  · simp [V.refss]
  · rfl
/-- what is handed back ends a call -/
theorem retS_sound {σ0 : Pl} {m : Nat} {es : List Nat} {vs : List V} {rv : V} {os : List VO} {u : Value} {X0 : Nat → Nat → Prop} {w0 : World} (h : retS S m es vs = some (rv, os)) (ha : At ⟨X0, w0, lentB σ0 m, σ0⟩ X w σ n S us) (hu : C X w σ (resV vs).d u) :
    ∃ σ', C X w σ' rv.d u ∧ Ends X0 w0 σ0 m X w σ' os := by
  unfold retS at h
  split at h
  · rename_i hok
    simp only [Option.some.injEq, Prod.mk.injEq] at h
    obtain ⟨rfl, rfl⟩ := h
    simp only [retOk, Bool.and_eq_true, decide_eq_true_eq, List.all_eq_true, Bool.or_eq_true, List.contains_iff_mem, List.isEmpty_iff, List.mem_range] at hok
    obtain ⟨k1, k2, k3, k4⟩ := hok
    let τ : Pl := fun k => if 50000 + m ≤ k ∧ k - 50000 - m < es.length then σ (es.getD (k - 50000 - m) 0) else σ k
    have τ0 : ∀ k, k < 50000 + m → τ k = σ k := fun k hk => if_neg (by omega)
    have τ1 : ∀ (i : Nat) k, es[i]? = some k → τ (50000 + m + i) = σ k := by
      intro i k hi
      have hlt := (List.getElem?_eq_some_iff.1 hi).1
      have e1 : 50000 + m + i - 50000 - m = i := by omega
      simp only [τ, e1]
      rw [if_pos ⟨by omega, hlt⟩, List.getD_eq_getElem?_getD, hi]
      rfl
    have live1 : ∀ k ∈ es, S.st k ≠ .no := fun k hk hn => by have := (k3 k hk).2.1; rw [hn] at this; cases this
    have live2 : ∀ j, j < m → S.st (50000 + j) ≠ .no := fun j hj hn => by have := (k4 j hj).1; rw [hn] at this; cases this
    have hlen : (((List.range m).map fun j => S.st (50000 + j)) ++ es.map fun k => S.st k).length = m + es.length := by simp
    -- the number of a thing that is handed out
    have src : ∀ j, j < m + es.length → ∃ k, (((List.range m).map fun j => S.st (50000 + j)) ++ es.map fun k => S.st k)[j]? = some (S.st k) ∧ τ (50000 + j) = σ k ∧ S.st k ≠ .no ∧ (j < m → k = 50000 + j) ∧ (m ≤ j → es[j - m]? = some k) := by
      intro j hj
      rcases Nat.lt_or_ge j m with hlt | hge
      · exact ⟨50000 + j, by rw [List.getElem?_append_left (by simpa using hlt), List.getElem?_map, List.getElem?_range hlt]; rfl, τ0 _ (by omega), live2 j hlt, fun _ => rfl, fun h => by omega⟩
      · have hl : j - m < es.length := by omega
        refine ⟨es[j - m], by rw [List.getElem?_append_right (by simpa using hge), List.getElem?_map]; simp [List.getElem?_eq_getElem hl], ?_, live1 _ (List.getElem_mem hl), fun h => by omega, fun _ => List.getElem?_eq_getElem hl⟩
        have := τ1 (j - m) _ (List.getElem?_eq_getElem hl)
        rw [← this]
        congr 1
        omega
    refine ⟨τ, ren_c _ u (fun k hk => ?_) hu, ⟨ha.ti.fin, ⟨fun j o hj => ?_, fun i j b hij hi hj hb hb' => ?_⟩, by rw [hlen]; omega, fun j hj => ?_, fun j b hj hj2 hb => ?_, ha.ti.fr, ha.ti.old⟩⟩
    · rw [resV_refs] at hk
      rcases k2 k hk with hk' | hk'
      · rw [exr, if_pos hk'.1]
        exact τ0 k hk'.2
      · have hlt := (k3 k hk').1
        rw [exr, if_neg (by omega)]
        obtain ⟨i, hi⟩ := List.mem_iff_getElem?.1 hk'
        rw [idxOf_nodup k1 hi]
        exact τ1 i k hi
    · have hjl : j < m + es.length := by rw [← hlen]; exact (List.getElem?_eq_some_iff.1 hj).1
      obtain ⟨k, q1, q2, q3, q4, q5⟩ := src j hjl
      rw [q1] at hj
      injection hj with hj
      subst hj
      refine ⟨(ha.ti.obj k).pl q2 (fun r hr => ?_), q3⟩
      rcases Nat.lt_or_ge j m with hlt | hge
      · have := (k4 j hlt).2 r (by rw [← q4 hlt]; exact hr)
        exact τ0 r this.2
      · have := (k3 k (List.mem_of_getElem? (q5 hge))).2.2
        rw [this] at hr
        cases hr
    · rw [hlen] at hi hj
      obtain ⟨k, _, q2, q3, q4, q5⟩ := src i hi
      obtain ⟨k', _, p2, p3, p4, p5⟩ := src j hj
      rw [q2] at hb
      rw [p2] at hb'
      refine ha.ti.apart k k' b (fun he => ?_) q3 p3 hb hb'
      subst he
      rcases Nat.lt_or_ge i m with h1 | h1
      · rcases Nat.lt_or_ge j m with h2 | h2
        · have := q4 h1; have := p4 h2; omega
        · have e1 := q4 h1
          have := (k3 k (List.mem_of_getElem? (p5 h2))).1
          omega
      · rcases Nat.lt_or_ge j m with h2 | h2
        · have e1 := p4 h2
          have := (k3 k (List.mem_of_getElem? (q5 h1))).1
          omega
        · have e1 := idxOf_nodup k1 (q5 h1)
          have e2 := idxOf_nodup k1 (p5 h2)
          omega
    · rw [τ0 _ (by omega)]
      exact ha.ti.lnt _ (by simp only [lentK]; omega)
    · rw [hlen] at hj2
      obtain ⟨k, _, q2, q3, _, q5⟩ := src j hj2
      rw [q2] at hb
      rcases ha.ti.own k b q3 hb with h1 | h1
      · have := (k3 k (List.mem_of_getElem? (q5 hj))).1
        have := h1.1
        simp only [lentK] at this
        omega
      · exact h1
  · cases h
theorem argL_look : ∀ (args : List V) (i j : Nat), look (argL i args) (i + j) = args.getD j .un
  | [], i, j => rfl
  | v :: r, i, 0 => by simp [argL, look]
  | v :: r, i, j + 1 => by
    simp only [argL, look]
    rw [if_neg (by omega)]
    have := argL_look r (i + 1) j
    rw [show i + (j + 1) = i + 1 + j from by omega, this]
    simp
theorem argL_out : ∀ (args : List V) (i k : Nat), i + args.length ≤ k → look (argL i args) k = .un
  | [], i, k, _ => rfl
  | v :: r, i, k, h => by
    simp only [List.length_cons] at h
    simp only [argL, look]
    rw [if_neg (by omega)]
    exact argL_out r (i + 1) k (by omega)
theorem objL_look : ∀ (objs : List VO) (i j : Nat), lookO (objL i objs) (i + j) = objs.getD j .no
  | [], i, j => rfl
  | v :: r, i, 0 => by simp [objL, lookO]
  | v :: r, i, j + 1 => by
    simp only [objL, lookO]
    rw [if_neg (by omega)]
    have := objL_look r (i + 1) j
    rw [show i + (j + 1) = i + 1 + j from by omega, this]
    simp
theorem objL_low : ∀ (objs : List VO) (i k : Nat), k < i → lookO (objL i objs) k = .no
  | [], i, k, _ => rfl
  | v :: r, i, k, h => by
    simp only [objL, lookO]
    rw [if_neg (by omega)]
    exact objL_low r (i + 1) k (by omega)
theorem objL_dom : ∀ (objs : List VO) (i k : Nat), lookO (objL i objs) k ≠ .no → k ∈ (objL i objs).map Prod.fst
  | [], i, k, h => absurd rfl h
  | v :: r, i, k, h => by
    simp only [objL, lookO] at h
    simp only [objL, List.map_cons]
    split at h
    · rename_i hk; rw [hk]; exact List.mem_cons_self
    · exact List.mem_cons_of_mem _ (objL_dom r (i + 1) k h)
/-- A FUNCTION's contract out of the run through its text -/
theorem meets_of {g : G} {f : FuncId} {fn : Func} {c : Code} {tc : TC} {rv : List (RV × Option Ty)} {ro : Bool} (hf : P.funcs[f]? = some fn) (hb : fn.body = some c) (hc : trC P c = tc.er) (hn : fn.ntmps = g.n) (hr : trVs P fn.results.toList = some (rv.map Prod.fst)) (hg : GOk P g) (hl : tc.lok g) (hm : P.follows .mixedOrders = true) :
    Meets P f (runF g tc rv ro) := by
  intro args objs r os h X w σ vs hfin hlent hargs
  unfold runF at h
  split at h
  · rename_i hle
    have hal := hargs.len
    rw [V.ds_eq, List.length_map] at hal
    have obj0 : ∀ k, lookO (objL 50000 objs) k = .no ∨ ∃ j, k = 50000 + j ∧ objs[j]? = some (lookO (objL 50000 objs) k) := by
      intro k
      rcases Nat.lt_or_ge k 50000 with hlt | hge
      · exact .inl (objL_low objs 50000 k hlt)
      · obtain ⟨j, rfl⟩ : ∃ j, k = 50000 + j := ⟨k - 50000, by omega⟩
        rw [objL_look]
        rcases Nat.lt_or_ge j objs.length with hj | hj
        · exact .inr ⟨j, rfl, by rw [List.getD_eq_getElem?_getD, List.getElem?_eq_getElem hj]; rfl⟩
        · left
          rw [List.getD_eq_getElem?_getD, List.getElem?_eq_none hj]
          rfl
    have hat : At ⟨X, w, lentB σ objs.length, σ⟩ X w σ g.n (inS args objs) (vs ++ List.replicate (g.n - vs.length) undef) := by
      refine ⟨⟨hfin, fun k => ?_, fun i j b hij hi hj hbi hbj => ?_, fun k b hk hbk => ?_, Fr.refl _ _, fun _ _ _ => Iff.rfl, fun _ _ => rfl⟩, ⟨by simp; omega, fun i u hu => ?_, fun i hi => ?_⟩, fun j hj => objL_dom objs 50000 j hj⟩
      · simp only [inS]
        rcases obj0 k with h0 | ⟨j, rfl, h0⟩
        · rw [h0]; trivial
        · exact (hlent.at_ j _ h0).1
      · simp only [inS] at hi hj
        rcases obj0 i with h0 | ⟨i', rfl, h0⟩
        · exact absurd h0 hi
        · rcases obj0 j with h1 | ⟨j', rfl, h1⟩
          · exact absurd h1 hj
          · exact hlent.apart i' j' b (by omega) (List.getElem?_eq_some_iff.1 h0).1 (List.getElem?_eq_some_iff.1 h1).1 hbi hbj
      · simp only [inS] at hk
        rcases obj0 k with h0 | ⟨j, rfl, h0⟩
        · exact absurd h0 hk
        · refine .inl ⟨by simp only [lentK]; omega, ?_⟩
          simp only [lentB, List.mem_filterMap, List.mem_range]
          exact ⟨j, (List.getElem?_eq_some_iff.1 h0).1, hbk⟩
      · simp only [inS]
        rcases Nat.lt_or_ge i vs.length with hi | hi
        · rw [List.getElem?_append_left hi] at hu
          have ha : args[i]? = some args[i] := List.getElem?_eq_getElem (by omega)
          have hl := argL_look args 0 i
          rw [Nat.zero_add, List.getD_eq_getElem?_getD, ha] at hl
          rw [hl]
          obtain ⟨u', hu', hc'⟩ := hargs.at_ (i := i) (d := args[i].d) (by rw [V.ds_eq, List.getElem?_map, ha]; rfl)
          rw [hu] at hu'
          injection hu' with hu'
          subst hu'
          exact hc'
        · rw [argL_out args 0 i (by omega)]
          exact C.any_ u
      · simp only [inS]
        exact argL_out args 0 i (by omega)
    have hw := tc_sound (B := ⟨X, w, lentB σ objs.length, σ⟩) hg hm tc hl h c hc X w σ _ hat
    refine calls_of_wp hf hb ?_
    have he : (vs.toArray ++ Array.replicate (fn.ntmps - vs.toArray.size) undef) = (vs ++ List.replicate (g.n - vs.length) undef).toArray := by
      apply Array.ext'
      simp [hn]
    rw [he]
    refine wp_mono hw ?_
    rintro e a w' ⟨S, X', σ', us', h1, rfl, h3⟩
    have hret : retR rv ro objs.length S = some (r, os) → ∃ u, (results fn us'.toArray).run P w' = .ok u w' ∧ ∃ X1 σ1, C X1 w' σ1 r.d u ∧ Ends X w σ objs.length X1 w' σ1 os := by
      intro hret
      unfold retR at hret
      obtain ⟨vs1, q1, q2⟩ := rvs_sound (rv := rv.map fun r => (r.1, none)) (by rw [hr, List.map_map]; rfl) hret
      split at q1
      · obtain ⟨xs, q3, q4⟩ := q2 h1
        obtain ⟨u, q5, q6⟩ := results_sound q3 q4
        obtain ⟨σ1, q7, q8⟩ := retS_sound q1 h1 q5
        exact ⟨u, q6, X', σ1, q7, q8⟩
      · obtain ⟨X2, h2, _⟩ := h1.fzs (V.msss vs1)
        obtain ⟨vs2, q3, q4⟩ := rvs_sound hr q1
        obtain ⟨xs, q5, q6⟩ := q4 h2
        obtain ⟨u, q7, q8⟩ := results_sound q5 q6
        obtain ⟨σ1, q9, q10⟩ := retS_sound q3 h2 q7
        exact ⟨u, q8, X2, σ1, q9, q10⟩
    cases e with
    | ret =>
      obtain ⟨u, p1, X1, σ1, p2, p3⟩ := hret h3
      exact ⟨rfl, u, p1, u, X1, σ1, rfl, p2, p3⟩
    | normal =>
      obtain ⟨u, p1, X1, σ1, p2, p3⟩ := hret h3
      exact ⟨rfl, u, p1, u, X1, σ1, rfl, p2, p3⟩
    | _ => cases h3
  · cases h
end
end Go.Proofs.Ytnimpcffagidoaa.K
