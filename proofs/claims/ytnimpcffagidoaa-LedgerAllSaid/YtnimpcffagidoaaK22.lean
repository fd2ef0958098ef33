/-
  Regions whose order is open: the rule.
-/
import Derived.Test.YtnimpcffagidoaaK21
namespace Go.Proofs.Ytnimpcffagidoaa.K
open Go.RowKit
set_option linter.unusedSimpArgs false
set_option linter.unusedVariables false

section
variable {β : Type}
theorem putR_bind (n : Nat) (S : VS) (d : Option Nat) (v : V) (K : VS → Option β) : putR n S d v K = (putR n S d v some).bind K := by
  cases d with
  | none => rfl
  | some d => simp only [putR]; split <;> rfl
theorem mo_bind (TY : Nat → Option Ty) (own : Bool) (k : Nat) (S : VS) (K : VS → V → Option β) (mo : MO) : mo.run TY own k S K = (mo.run TY own k S fun S v => some (S, v)).bind fun p => K p.1 p.2 := by
  cases mo with
  | pu ao =>
    simp only [MO.run]
    rw [ao_bind S (K S), ao_bind S (fun v => some (S, v))]
    cases AO.run S some ao <;> rfl
  | new zs => simp only [MO.run]; split <;> (try split) <;> rfl
  | box x => simp only [MO.run]; split <;> (try split) <;> rfl
  | ld agg n x =>
    rw [ld_bind S K, ld_bind S (fun S v => some (S, v))]
    cases MO.run TY false 0 S (fun _ v => some v) (.ld agg n x) <;> rfl
  | st n x y =>
    simp only [MO.run]
    split
    · split
      · split
        · split <;> rfl
        · rfl
      · split
        · split
          · unfold stA
            rw [br_bind]
            congr 1
            split
            · split <;> rfl
            · rfl
          · rfl
        · rfl
      · rfl
    · rfl
  | bs e sz len init parts =>
    simp only [MO.run]
    split
    · split
      · split
        · split
          · split
            · split
              · unfold bsA
                split
                · split <;> rfl
                · rfl
              · rfl
            · rfl
          · rfl
        · rfl
      · rfl
    · rfl
  | app e sz bytes x y =>
    simp only [MO.run]
    split
    · split
      · split
        · split
          · unfold appA
            rw [br_bind]
            congr 1
            split <;> rfl
          · rfl
        · rfl
      · rfl
    · split
      · split
        · split
          · unfold appA
            rw [br_bind]
            congr 1
            split <;> rfl
          · rfl
        · rfl
      · rfl
    · rfl
theorem callR_bind (F : List V → List VO → Option (Bool × V × List VO)) (S : VS) (vs : List V) (d : Nat) (K : VS → V → Option β) : callR F S vs d K = (callR F S vs d fun S v => some (S, v)).bind fun p => K p.1 p.2 := by
  unfold callR
  split
  · split
    · rw [br_bind]
      congr 1
      split
      · split <;> rfl
      · rfl
    · rfl
  · rfl
theorem callA_bind (g : G) (f : Nat) (S S1 : VS) (vs : List V) (d : Option Nat) (K : VS → Option β) : callA g f S S1 vs d K = (callA g f S S1 vs d some).bind K := by
  unfold callA
  split
  · rw [callR_bind _ _ _ _ (fun S' v => putR g.n S' d v K), callR_bind _ _ _ _ (fun S' v => putR g.n S' d v some)]
    cases callR (g.E f) S1 vs (d.getD 0) fun S v => some (S, v) with
    | none => rfl
    | some p => exact putR_bind ..
  · rfl
theorem rk_bind (g : G) (S : VS) (d : Option Nat) (K : VS → Option β) (k : RK) : k.run g S d K = (k.run g S d some).bind K := by
  cases k with
  | m mo =>
    simp only [RK.run]
    rw [mo_bind _ _ _ _ (fun S' v => putR g.n S' d v K), mo_bind _ _ _ _ (fun S' v => putR g.n S' d v some)]
    cases MO.run g.TY (g.own.contains (d.getD 0)) (d.getD 0) S (fun S v => some (S, v)) mo with
    | none => rfl
    | some p => exact putR_bind ..
  | call f l => exact callA_bind g f S _ _ _ _
  | cv x l =>
    simp only [RK.run]
    split
    · exact callA_bind _ _ S _ _ _ _
    · split
      · exact callA_bind _ _ S _ _ _ _
      · rfl
    · rfl
  | mf f caps =>
    simp only [RK.run]
    split
    · exact putR_bind ..
    · rfl
  | o op => rfl
  | bad => rfl
theorem ro_bind (g : G) (S : VS) (K : VS → Option β) (r : RO) : r.run g S K = (r.run g S some).bind K := by
  unfold RO.run
  split
  · exact rk_bind ..
  · split
    · split
      · rw [br_bind, ← rk_bind, ← putR_bind]
      · rw [br_bind, ← rk_bind, ← putR_bind]
    · exact putR_bind ..
    · rfl
theorem stepD_bind (g : G) (S : VS) (K : VS → Option β) (r : RO) (ks : List Nat) : stepD g S K r ks = (stepD g S some r ks).bind K := by
  unfold stepD
  split
  · split
    · rw [roq_bind g S (fun v => if (v.refs.all ks.contains) = true then putR g.n S r.dst v K else none), roq_bind g S (fun v => if (v.refs.all ks.contains) = true then putR g.n S r.dst v some else none)]
      cases RO.q g S some r with
      | none => rfl
      | some v =>
        simp only [Option.bind_some]
        split
        · exact putR_bind ..
        · rfl
    · split
      · exact ro_bind ..
      · rfl
  · rfl
end

theorem within_ss {S : VS} {q : Nat} {v : V} {looks ks : List Nat} (h : q ∉ looks) : within (S.ss q v) looks ks = within S looks ks := by
  unfold within
  have key : ∀ l : List Nat, (∀ j ∈ l, j ∈ looks) → (l.all fun j => ((S.ss q v).ts j).refs.all fun k => ks.contains k && (S.ss q v).dom.contains k) = l.all fun j => (S.ts j).refs.all fun k => ks.contains k && S.dom.contains k := by
    intro l
    induction l with
    | nil => intro _; rfl
    | cons j l ih =>
      intro hl
      simp only [List.all_cons]
      rw [ih fun i hi => hl i (by simp [hi])]
      have : (S.ss q v).ts j = S.ts j := upd_ne _ _ fun e => h (e ▸ hl j (by simp))
      rw [this]
      rfl
  exact key looks fun _ h => h
/-- a step does not see a slot that it does not look at -/
theorem stepD_ss {g : G} {S : VS} {q : Nat} {v : V} {r : RO} {ks : List Nat} (hq : q ∉ r.looks) (hd : r.dst ≠ some q) (hv : r.k.quick g.own r.dst ks = false → ∀ x ∈ v.refs, x ∈ ks → 50000 ≤ x) :
    stepD g (S.ss q v) some r ks = (stepD g S some r ks).map (VS.ss · q v) := by
  unfold stepD
  rw [within_ss hq]
  split
  · rename_i hw
    split
    · rw [roq_like (ss_like hq), roq_bind g S (fun u => if (u.refs.all ks.contains) = true then putR g.n (S.ss q v) r.dst u some else none), roq_bind g S (fun u => if (u.refs.all ks.contains) = true then putR g.n S r.dst u some else none)]
      cases RO.q g S some r with
      | none => rfl
      | some u =>
        simp only [Option.bind_some]
        split
        · rw [ss_putR hd, putR_bind g.n S r.dst u (fun S' => some (S'.ss q v))]
          cases putR g.n S r.dst u some <;> rfl
        · rfl
    · rename_i hquick
      have hap : apartK (S.ss q v) r.k.isSt r.dst ks = apartK S r.k.isSt r.dst ks := id rfl
      rw [hap]
      split
      · rename_i ha
        simp only [within, List.all_eq_true, Bool.and_eq_true, List.contains_iff_mem] at hw
        simp only [apartK, Bool.and_eq_true, List.all_eq_true, List.contains_iff_mem, List.mem_range, Bool.or_eq_true] at ha
        rw [ro_ss hq hd (hv (by simpa using hquick)) ha.2 (fun j hj x hx => (hw j hj x hx).1), ro_bind g S (fun S' => some (S'.ss q v))]
        cases RO.run g S some r <;> rfl
      · rfl
  · rfl

theorem ao_ts {β : Type} {S T : VS} {K : V → Option β} {ao : AO} (h : (RK.m (.pu ao)).isTs = true) (ht : T.ts = S.ts) : ao.run T K = ao.run S K := by
  cases ao with
  | ix sz x i => cases h
  | len b x =>
    cases b with
    | false => cases h
    | true => simp only [AO.run, ht]
  | _ => simp only [AO.run, ht]
theorem roq_ts {β : Type} {g : G} {S T : VS} {K : V → Option β} {r : RO} (h : r.k.isTs = true) (ht : ∀ j ∈ r.looks, T.ts j = S.ts j) : r.q g T K = r.q g S K := by
  have e1 : r.q g ⟨T.ts, S.st, T.dom⟩ K = r.q g S K := roq_like ⟨ht, fun _ _ _ _ => rfl⟩
  rw [← e1]
  obtain ⟨d, gd, k⟩ := r
  cases k with
  | m mo =>
    cases mo with
    | pu ao =>
      have e : ∀ K : V → Option β, ao.run T K = ao.run (⟨T.ts, S.st, T.dom⟩ : VS) K := fun K => (ao_ts (S := T) (T := ⟨T.ts, S.st, T.dom⟩) h rfl).symm
      unfold RO.q RK.q
      simp only [e]
    | _ => cases h
  | _ => cases h
/-- whatever comes next, it goes on -/
def JAny (g : G) (ds : List DO) (os : List (Nat × List Nat)) (Q : VS → Prop) : Nat → List Bool → VS → Prop
  | 0, l, S => rdy ds l = [] ∧ Q S
  | n + 1, l, S => (rdy ds l = [] → Q S) ∧ ∀ i ∈ rdy ds l, ∀ d, ds[i]? = some d → ∃ S', stepD g S some d.r (keysOf os i) = some S' ∧ JAny g ds os Q n (l.set i true) S'
theorem rdy_mem {ds : List DO} {l : List Bool} {i : Nat} : i ∈ rdy ds l ↔ i < ds.length ∧ l.getD i true = false ∧ ∃ d, ds[i]? = some d ∧ d.pre.all (fun j => l.getD j false) = true := by
  simp only [rdy, List.mem_filter, List.mem_range, Bool.and_eq_true, Bool.not_eq_true']
  constructor
  · rintro ⟨h1, h2, h3⟩
    refine ⟨h1, h2, ds[i], List.getElem?_eq_getElem h1, ?_⟩
    rw [List.getElem?_eq_getElem h1] at h3
    simpa using h3
  · rintro ⟨h1, h2, d, h3, h4⟩
    refine ⟨h1, h2, ?_⟩
    rw [h3]
    simpa using h4
theorem getD_set_ne {l : List Bool} {i k : Nat} (h : i ≠ k) (b x : Bool) : (l.set k b).getD i x = l.getD i x := by
  simp only [List.getD_eq_getElem?_getD]
  rw [List.getElem?_set_ne (fun e => h e.symm)]
theorem getD_set_le {l : List Bool} {i k : Nat} {x : Bool} (h : l.getD i x = true) : (l.set k true).getD i x = true := by
  by_cases he : i = k
  · subst he
    simp only [List.getD_eq_getElem?_getD, List.getElem?_set]
    simp only [if_true]
    split
    · rfl
    · rename_i hl
      simp only [List.getD_eq_getElem?_getD] at h
      rw [List.getElem?_eq_none (by omega)] at h
      simpa using h
  · rw [getD_set_ne he]; exact h
theorem blk_rdy {ds : List DO} {l : List Bool} {i k n : Nat} (hi : i ∈ rdy ds l) (hk : l.getD k true = false) : blk ds l k n i = false := by
  cases n with
  | zero => rfl
  | succ n =>
    obtain ⟨_, _, d, h3, h4⟩ := rdy_mem.1 hi
    simp only [blk, h3]
    cases hq : d.pre.any fun j => j == k || (!l.getD j false && blk ds l k n j) with
    | false => rfl
    | true =>
      exfalso
      obtain ⟨j, hj, hq⟩ := List.any_eq_true.1 hq
      have hd := List.all_eq_true.1 h4 j hj
      rw [hd] at hq
      simp only [Bool.not_true, Bool.false_and, Bool.or_false, beq_iff_eq] at hq
      subst hq
      have hlt : j < l.length := by
        rcases Nat.lt_or_ge j l.length with h | h
        · exact h
        · rw [List.getD_eq_getElem?_getD, List.getElem?_eq_none h] at hk
          cases hk
      simp only [List.getD_eq_getElem?_getD, List.getElem?_eq_getElem hlt, Option.getD_some] at hd hk
      rw [hk] at hd
      cases hd
theorem blk_set {ds : List DO} {l : List Bool} {i k : Nat} (hi : i ∈ rdy ds l) (hk : l.getD k true = false) : ∀ {n j : Nat}, blk ds l k n j = true → blk ds (l.set i true) k n j = true
  | 0, j, h => by simp [blk] at h
  | n + 1, j, h => by
    simp only [blk] at h ⊢
    cases hd : ds[j]? with
    | none => rw [hd] at h; cases h
    | some d =>
      rw [hd] at h
      simp only at h ⊢
      obtain ⟨j', hj', hq⟩ := List.any_eq_true.1 h
      refine List.any_eq_true.2 ⟨j', hj', ?_⟩
      simp only [Bool.or_eq_true, Bool.and_eq_true] at hq ⊢
      rcases hq with hq | ⟨hq, hb⟩
      · exact .inl hq
      · refine .inr ⟨?_, blk_set hi hk hb⟩
        have hne : j' ≠ i := by
          intro e
          subst e
          rw [blk_rdy hi hk] at hb
          cases hb
        rw [getD_set_ne hne]
        exact hq
theorem free_set {own : List Nat} {ds : List DO} {os : List (Nat × List Nat)} {l : List Bool} {i k : Nat} (hi : i ∈ rdy ds l) (hkl : l.getD k true = false) (h : free own ds os l k = true) : free own ds os (l.set i true) k = true := by
  unfold free at h ⊢
  split
  · rename_i hk; rw [hk] at h; cases h
  · rename_i dk hk
    rw [hk] at h
    simp only [Bool.and_eq_true, List.all_eq_true] at h ⊢
    refine ⟨h.1, fun j hj => ?_⟩
    have hfj := h.2 j hj
    revert hfj
    cases ds[j]? with
    | none => exact fun _ => rfl
    | some dj =>
      intro hfj
      simp only [Bool.or_eq_true] at hfj ⊢
      rcases hfj with hfj | hfj | hfj | hfj
      · exact .inl (getD_set_le hfj)
      · exact .inr (.inl hfj)
      · exact .inr (.inr (.inl (blk_set hi hkl hfj)))
      · exact .inr (.inr (.inr hfj))
set_option maxHeartbeats 1000000 in
/-- THE RULE: a quiet operation may be taken first -/
theorem jany_take {g : G} {Q : VS → Prop} {ds : List DO} {os : List (Nat × List Nat)} : ∀ {n : Nat} {l : List Bool} {S S' : VS} {k : Nat} {dk : DO}, l.length = ds.length → ds[k]? = some dk → k ∈ rdy ds l → free g.own ds os l k = true → stepD g S some dk.r (keysOf os k) = some S' →
    JAny g ds os Q n (l.set k true) S' → JAny g ds os Q (n + 1) l S := by
  intro n
  induction n with
  | zero =>
    intro l S S' k dk hlen hk hr hf hs h
    refine ⟨(fun he => by rw [he] at hr; cases hr), fun i hi di hdi => ?_⟩
    obtain ⟨h1, h2, d', h3, h4⟩ := rdy_mem.1 hi
    by_cases hik : i = k
    · subst hik
      rw [hk] at hdi
      injection hdi with hdi
      subst hdi
      exact ⟨S', hs, h⟩
    · exfalso
      have : i ∈ rdy ds (l.set k true) := rdy_mem.2 ⟨h1, by rw [getD_set_ne hik]; exact h2, d', h3, List.all_eq_true.2 fun j hj => getD_set_le (List.all_eq_true.1 h4 j hj)⟩
      rw [h.1] at this
      cases this
  | succ n ih =>
    intro l S S' k dk hlen hk hr hf hs h
    refine ⟨(fun he => by rw [he] at hr; cases hr), fun i hi di hdi => ?_⟩
    obtain ⟨h1, h2, d', h3, h4⟩ := rdy_mem.1 hi
    by_cases hik : i = k
    · subst hik
      rw [hk] at hdi
      injection hdi with hdi
      subst hdi
      exact ⟨S', hs, h⟩
    · have hi' : i ∈ rdy ds (l.set k true) := rdy_mem.2 ⟨h1, by rw [getD_set_ne hik]; exact h2, d', h3, List.all_eq_true.2 fun j hj => getD_set_le (List.all_eq_true.1 h4 j hj)⟩
      obtain ⟨S2, hs2, hj2⟩ := h.2 i hi' di hdi
      rw [hdi] at h3
      injection h3 with h3
      subst h3
      obtain ⟨k1, k2, dk', k3, k4⟩ := rdy_mem.1 hr
      rw [hk] at k3
      injection k3 with k3
      subst k3
      have hfree := hf
      unfold free at hfree
      rw [hk] at hfree
      simp only [Bool.and_eq_true] at hfree
      have hfi := List.all_eq_true.1 hfree.2 i (List.mem_range.2 h1)
      rw [hdi] at hfi
      have hnp : blk ds l k 4 i = false := blk_rdy hi k2
      have hik' : (i == k) = false := by simpa using hik
      simp only [h2, hik', hnp, Bool.false_or, Bool.and_eq_true] at hfi
      obtain ⟨f1, f2, f3⟩ := hfi
      obtain ⟨hw, hcase⟩ := stepD_eff hs
      rcases hcase with ⟨_, v, hv, hvr, S'', hp, hS''⟩ | ⟨hnq, _⟩
      · injection hS'' with hS''
        subst hS''
        have hcomm : (l.set k true).set i true = (l.set i true).set k true := List.set_comm _ _ (fun e => hik e.symm)
        rw [hcomm] at hj2
        have hr' : k ∈ rdy ds (l.set i true) := rdy_mem.2 ⟨k1, by rw [getD_set_ne (fun e => hik e.symm)]; exact k2, dk, hk, List.all_eq_true.2 fun j hj => getD_set_le (List.all_eq_true.1 k4 j hj)⟩
        have hdisj : di.r.k.quick g.own di.r.dst (keysOf os i) = false → ∀ x ∈ keysOf os k, x ∈ keysOf os i → dk.r.k.isTs = true ∧ 50000 ≤ x := by
          intro hq x hx hxi
          rw [hq, Bool.false_or] at f3
          have := List.all_eq_true.1 f3 x hx
          simp only [Bool.or_eq_true, Bool.not_eq_true', Bool.and_eq_true, decide_eq_true_eq] at this
          rcases this with this | this
          · have : (keysOf os i).contains x = true := by simpa using hxi
            simp_all
          · exact this
        -- the other one first
        have other : ∃ S1, stepD g S some di.r (keysOf os i) = some S1 ∧ ∃ S3, stepD g S1 some dk.r (keysOf os k) = some S3 ∧ S3 = S2 := by
          have step1 : ∃ S1, stepD g S some di.r (keysOf os i) = some S1 ∧ (∀ qq, dk.r.dst = some qq → S2 = S1.ss qq v) ∧ (dk.r.dst = none → S2 = S1) := by
            cases hdst : dk.r.dst with
            | none =>
              rw [hdst] at hp
              simp only [putR, Option.some.injEq] at hp
              subst hp
              refine ⟨S2, hs2, ?_, ?_⟩
              · intro qq hq
                cases hq
              · intro _
                rfl
            | some qq =>
              rw [hdst] at hp f2 f1
              simp only [putR] at hp
              split at hp
              · simp only [Option.some.injEq] at hp
                subst hp
                have e1 : S.set (some qq) v = S.ss qq v := rfl
                rw [e1, stepD_ss (by simpa using f2) (fun e => by rw [e] at f1; simp at f1) (fun hq x hx hxi => (hdisj hq x (hvr x hx) hxi).2)] at hs2
                cases hx : stepD g S some di.r (keysOf os i) with
                | none => rw [hx] at hs2; cases hs2
                | some S1 =>
                  rw [hx] at hs2
                  simp only [Option.map_some, Option.some.injEq] at hs2
                  exact ⟨S1, rfl, fun q' hq' => by injection hq' with hq'; rw [← hq', hs2], fun h => by cases h⟩
              · cases hp
          obtain ⟨S1, hs1, hS2, hS2'⟩ := step1
          refine ⟨S1, hs1, ?_⟩
          -- the quiet one behind it
          simp only [within, List.all_eq_true, Bool.and_eq_true, List.contains_iff_mem] at hw
          have hdi1 : ∀ j ∈ dk.r.looks, ∀ q, di.r.dst = some q → j ≠ q := by
            intro j hj q hq e
            rw [hq] at f1
            simp only [Bool.and_eq_true, Bool.not_eq_true'] at f1
            have := f1.1
            rw [← e] at this
            simp [hj] at this
          have alike : ((∀ j ∈ dk.r.looks, S1.ts j = S.ts j) ∧ (dk.r.k.isTs = false → Alike S S1 dk.r.looks)) ∧ ∀ x ∈ S.dom, x ∈ S1.dom := by
            obtain ⟨hwi, hci⟩ := stepD_eff hs1
            rcases hci with ⟨_, u, _, _, S5, hp5, hS5⟩ | ⟨hnq, hap, S5, hS5, he⟩
            · injection hS5 with hS5
              subst hS5
              cases hdd : di.r.dst with
              | none =>
                rw [hdd] at hp5
                simp only [putR, Option.some.injEq] at hp5
                subst hp5
                exact ⟨⟨fun _ _ => rfl, fun _ => ⟨fun _ _ => rfl, fun _ _ _ _ => rfl⟩⟩, fun _ h => h⟩
              | some dd =>
                rw [hdd] at hp5
                simp only [putR] at hp5
                split at hp5
                · simp only [Option.some.injEq] at hp5
                  subst hp5
                  exact ⟨⟨fun j hj => upd_ne _ _ (hdi1 j hj dd hdd), fun _ => ⟨fun j hj => upd_ne _ _ (hdi1 j hj dd hdd), fun _ _ _ _ => rfl⟩⟩, fun _ h => h⟩
                · cases hp5
            · injection hS5 with hS5
              subst hS5
              simp only [apartK, Bool.and_eq_true, List.all_eq_true, List.contains_iff_mem, List.mem_range] at hap
              have hts := fun (j : Nat) (hj : j ∈ dk.r.looks) => he.ts j (hdi1 j hj) fun x hx hxi => (hdisj hnq x (hw j hj x hx).1 hxi).2
              refine ⟨⟨hts, fun hnt => ⟨hts, fun j hj x hx => ?_⟩⟩, he.dom⟩
              have hxn : x ∉ keysOf os i := fun hxi => by
                have := (hdisj hnq x (hw j hj x hx).1 hxi).1
                rw [hnt] at this
                cases this
              refine he.st x hxn fun y hy => ?_
              have := hap.1.1 x (hw j hj x hx).2
              rw [if_neg hxn] at this
              have := List.all_eq_true.1 this y hy
              simpa using this
          have hw1 : within S1 dk.r.looks (keysOf os k) = true := by
            simp only [within, List.all_eq_true, Bool.and_eq_true, List.contains_iff_mem]
            intro j hj x hx
            rw [alike.1.1 j hj] at hx
            exact ⟨(hw j hj x hx).1, alike.2 x (hw j hj x hx).2⟩
          have hq1 : dk.r.q g S1 some = some v := by
            cases hts : dk.r.k.isTs with
            | true => rw [roq_ts hts alike.1.1]; exact hv
            | false => rw [roq_like (alike.1.2 hts)]; exact hv
          have hvr' : (v.refs.all (keysOf os k).contains) = true := by
            simp only [List.all_eq_true, List.contains_iff_mem]
            exact hvr
          refine ⟨S2, ?_, rfl⟩
          unfold stepD
          rw [if_pos hw1, if_pos hfree.1, roq_bind, hq1]
          simp only [Option.bind_some]
          rw [if_pos hvr']
          cases hdst : dk.r.dst with
          | none => rw [hS2' hdst]; rfl
          | some qq =>
            rw [hdst] at hp
            simp only [putR] at hp ⊢
            split at hp
            · rename_i hlt
              rw [if_pos hlt, hS2 qq hdst]
              rfl
            · cases hp
        obtain ⟨S1, o1, S3, o2, rfl⟩ := other
        exact ⟨S1, o1, ih (by simp [hlen]) hk hr' (free_set hi k2 hf) o2 hj2⟩
      · rw [hfree.1] at hnq
        cases hnq
theorem jany_more {g : G} {ds : List DO} {os : List (Nat × List Nat)} {Q : VS → Prop} : ∀ {m : Nat} {l : List Bool} {S : VS} (m' : Nat), JAny g ds os Q m l S → m ≤ m' → JAny g ds os Q m' l S
  | 0, l, S, 0, h, _ => h
  | 0, l, S, m' + 1, h, _ => ⟨fun _ => h.2, fun i hi => by rw [h.1] at hi; cases hi⟩
  | m + 1, l, S, 0, h, hm => by omega
  | m + 1, l, S, m' + 1, h, hm => ⟨h.1, fun i hi d hd => by
    obtain ⟨S', h1, h2⟩ := h.2 i hi d hd
    exact ⟨S', h1, jany_more m' h2 (by omega)⟩⟩
/-- whatever comes next, but for some of which it is known -/
def PAny (g : G) (ds : List DO) (os : List (Nat × List Nat)) (Q : VS → Prop) (seen : List Nat) (n : Nat) (l : List Bool) (S : VS) : Prop :=
  (rdy ds l = [] → Q S) ∧ ∀ i ∈ rdy ds l, i ∉ seen → ∀ d, ds[i]? = some d → ∃ S', stepD g S some d.r (keysOf os i) = some S' ∧ ∃ m, m + 1 ≤ n ∧ JAny g ds os Q m (l.set i true) S'
theorem jany_of_p {g : G} {ds : List DO} {os : List (Nat × List Nat)} {Q : VS → Prop} {n : Nat} {l : List Bool} {S : VS} (h : PAny g ds os Q [] n l S) : JAny g ds os Q n l S := by
  cases n with
  | zero =>
    have he : rdy ds l = [] := List.eq_nil_iff_forall_not_mem.2 fun i hi => by
      obtain ⟨_, _, d, hd, _⟩ := rdy_mem.1 hi
      obtain ⟨_, _, m, hm, _⟩ := h.2 i hi (by simp) d hd
      omega
    exact ⟨he, h.1 he⟩
  | succ n => exact ⟨h.1, fun i hi d hd => by
      obtain ⟨S', h1, m, hm, h2⟩ := h.2 i hi (by simp) d hd
      exact ⟨S', h1, jany_more n h2 (by omega)⟩⟩
/-- the plan goes in each order -/
theorem plan_any {β : Type} {g : G} {ds : List DO} {os : List (Nat × List Nat)} {K : VS → Option β} {r : β} {Q : VS → Prop} (hQ : ∀ S', K S' = some r → Q S') : ∀ {t : PT} {l : List Bool} {seen : List Nat} {S : VS}, l.length = ds.length → planOk g.own ds os t l seen = true → evT g ds os t S K = some r → PAny g ds os Q seen t.depth l S
  | .nil, l, seen, S, hl, hp, h => by
    simp only [planOk, List.isEmpty_iff] at hp
    exact ⟨fun _ => hQ S h, fun i hi => by rw [hp] at hi; cases hi⟩
  | .one i t, l, seen, S, hl, hp, h => by
    simp only [planOk, Bool.and_eq_true, Bool.or_eq_true, List.contains_iff_mem, List.isEmpty_iff] at hp
    obtain ⟨⟨p1, p2⟩, p4⟩ := hp
    simp only [evT] at h
    split at h
    · rename_i d hd
      have h := learn_some h
      rw [stepD_bind] at h
      obtain ⟨S', h1, h2⟩ := Option.bind_eq_some_iff.1 h
      have hrec := jany_of_p (plan_any hQ (t := t) (l := l.set i true) (seen := []) (S := S') (by simp [hl]) p4 h2)
      rcases p2 with ⟨p2, p3⟩ | p2
      · subst p2
        have hj := jany_take hl hd p1 p3 h1 hrec
        exact ⟨hj.1, fun j hj' _ dj hdj => by
          obtain ⟨S2, k1, k2⟩ := hj.2 j hj' dj hdj
          exact ⟨S2, k1, t.depth, Nat.le_refl _, k2⟩⟩
      · refine ⟨(fun he => by rw [he] at p1; cases p1), fun j hj hns dj hdj => ?_⟩
        have := List.all_eq_true.1 p2 j hj
        simp only [Bool.or_eq_true, beq_iff_eq, List.contains_iff_mem] at this
        rcases this with rfl | this
        · rw [hd] at hdj
          injection hdj with hdj
          subst hdj
          exact ⟨S', h1, t.depth, Nat.le_refl _, hrec⟩
        · exact absurd this hns
    · cases h
  | .alt i t u, l, seen, S, hl, hp, h => by
    simp only [planOk, Bool.and_eq_true, List.contains_iff_mem] at hp
    obtain ⟨p1, p2, p3⟩ := hp
    simp only [evT] at h
    obtain ⟨ha, hb⟩ := frk_some h
    have hu := plan_any hQ (t := u) (l := l) (seen := i :: seen) (S := S) hl p3 hb
    split at ha
    · rename_i d hd
      have ha := learn_some ha
      rw [stepD_bind] at ha
      obtain ⟨S', h1, h2⟩ := Option.bind_eq_some_iff.1 ha
      have hrec := jany_of_p (plan_any hQ (t := t) (l := l.set i true) (seen := []) (S := S') (by simp [hl]) p2 h2)
      refine ⟨hu.1, fun j hj hns dj hdj => ?_⟩
      by_cases hji : j = i
      · subst hji
        rw [hd] at hdj
        injection hdj with hdj
        subst hdj
        exact ⟨S', h1, t.depth, Nat.le_max_left _ _, hrec⟩
      · obtain ⟨S2, k1, m, hm, k2⟩ := hu.2 j hj (by simp [hji, hns]) dj hdj
        exact ⟨S2, k1, m, Nat.le_trans hm (Nat.le_max_right _ _), k2⟩
    · cases ha

section
variable {P : Program} {B : Base} {X X' : Nat → Nat → Prop} {w w' : World} {σ σ' : Pl} {n : Nat} {S : VS} {us : List Value}
theorem rdy_eq {ops : Array Oper} {l : List Bool} : rdy (ops.toList.map (trD P ops)) l = Region.ready .any ops l.toArray := by
  unfold rdy Region.ready
  simp only [List.length_map, Array.length_toList]
  refine List.filter_congr fun i hi => ?_
  simp only [List.getElem?_map, Array.getElem?_toList, Option.map_map]
  have hl : ∀ j x, l.getD j x = l.toArray.getD j x := fun j x => by simp
  rw [hl]
  congr 1
  cases ops[i]? with
  | none => rfl
  | some o =>
    simp only [Option.map_some, Option.getD_some, Function.comp, trD]
    rw [List.all_map, List.all_filter, ← Array.all_toList]
    congr 1
    funext e
    simp [Function.comp]
theorem jany_sound {g : G} {Q : Exit → VS → Prop} {ops : Array Oper} {os : List (Nat × List Nat)} (hg : GOk P g) : ∀ (m : Nat) {l : List Bool} {S : VS} {X : Nat → Nat → Prop} {w : World} {σ : Pl} {us : List Value}, JAny g (ops.toList.map (trD P ops)) os (Q .normal) m l S → At B X w σ g.n S us → wpAny P .any ops (lift B g.n Q) m l.toArray ⟨us.toArray, []⟩ w := by
  intro m
  induction m with
  | zero =>
    intro l S X w σ us h ha
    simp only [JAny, rdy_eq] at h
    exact ⟨h.1, S, X, σ, us, ha, rfl, h.2⟩
  | succ m ih =>
    intro l S X w σ us h ha
    simp only [JAny, rdy_eq] at h
    refine ⟨fun he => ⟨S, X, σ, us, ha, rfl, h.1 he⟩, fun i hir => ?_⟩
    have hlt : i < ops.size := by
      simp only [Region.ready, List.mem_filter, List.mem_range] at hir
      exact hir.1
    have ho : ops[i]? = some ops[i] := Array.getElem?_eq_getElem hlt
    obtain ⟨S', h1, h2⟩ := h.2 i hir (trD P ops ops[i]) (by simp [ho])
    have h3 := stepD_run h1
    unfold wpOp
    rw [ho]
    simp only
    rcases ro_sound hg h3 (ops := ops) (o := ops[i]) rfl ha with ⟨hw, hrun⟩ | ⟨hw, S2, e1, e2⟩
    · rw [if_pos hw]
      left
      refine hrun fun S2 X' w' σ' us' ha' hk => ?_
      injection hk with hk
      subst hk
      have := ih h2 ha'
      simpa using this
    · rw [if_neg (by rw [hw]; simp), put_eq]
      injection e1 with e1
      subst e1
      have := ih h2 e2
      simpa using this
theorem At.drew (h : At B X w σ n S us) : At B X w.drew σ n S us := by
  have ex : Ext X w X w.drew := ⟨Nat.le_refl _, fun _ _ _ h => ⟨h, rfl⟩⟩
  refine ⟨⟨h.ti.fin, fun k => ?_, h.ti.apart, h.ti.own, h.ti.fr.step (Fr.drew [] w) (by simp), h.ti.old, h.ti.lnt⟩, h.rel.step ex fun i => .inl ⟨rfl, fun _ _ => rfl⟩, h.dom⟩
  exact (h.ti.obj k).ext ex rfl (fun _ _ => rfl) fun b _ => ⟨rfl, fun _ hq => hq⟩
theorem evD_sound {β : Type} {g : G} {ds : List DO} {os : List (Nat × List Nat)} {t : PT} {K : VS → Option β} {r : β} {Q : Exit → VS → Prop} (hg : GOk P g) (hm : P.follows .mixedOrders = true) (h : evD g ds os t S K = some r) (hQ : ∀ S', K S' = some r → Q .normal S') : JV P B g.n Q (.dr ds) S := by
  unfold evD at h
  split at h
  · rename_i hp
    simp only [Bool.and_eq_true, decide_eq_true_eq] at hp
    have hj := jany_more ds.length (jany_of_p (plan_any (Q := Q .normal) hQ (by simp) hp.1 h)) hp.2
    intro c hc X w σ us ha
    cases c with
    | region id ops d =>
      cases d with
      | false => simp [trC] at hc
      | true =>
        simp only [trC, AC.dr.injEq] at hc
        subst hc
        refine wp_region_any hm ?_
        have := jany_sound (B := B) hg _ hj ha.drew
        simpa using this
    | cond x a b => simp only [trC] at hc; split at hc <;> cases hc
    | _ => simp [trC] at hc
  · cases h
end
end Go.Proofs.Ytnimpcffagidoaa.K
