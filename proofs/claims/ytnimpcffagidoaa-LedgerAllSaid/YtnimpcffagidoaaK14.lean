/-
  Regions: their operations, one after the other.
-/
import Derived.Test.YtnimpcffagidoaaK13
namespace Go.Proofs.Ytnimpcffagidoaa.K
open Go.RowKit
set_option linter.unusedSimpArgs false
set_option linter.unusedVariables false

def trA : List Operand → Option (List AX)
  | [] => some []
  | x :: r => match trX x, trA r with
    | some a, some l => some (a :: l)
    | _, _ => none
/-- an operation of a region, in short: a plain one; a call of a function, of a function value; a function value that is made -/
inductive RK where
  | m (mo : MO)
  | call (f : Nat) (args : List AX)
  | cv (x : AX) (args : List AX)
  | mf (f : Nat) (caps : List AX)
  | o (op : Op)
  | bad
structure RO where
  dst : Option Nat
  g : Option (Nat × Bool)
  k : RK
def trK (P : Program) (o : Op) : RK :=
  match trM P o with
  | some mo => .m mo
  | none => match o with
    | .makeFunc (.func f) ⟨[]⟩ caps => match trA caps.toList with
      | some l => .mf f l
      | none => .o o
    | .call c => match c.callee, trA c.args.toList with
      | .value (.func f), some l => match P.funcs[f]? with
        | some fn => if fn.body.isSome && !(fn.name == "runtime.NumGoroutine") then .call f l else .o o
        | none => .o o
      | .value (.tmp x), some l => .cv (.t x) l
      | _, _ => .o o
    | _ => .o o
def trR (P : Program) (ops : Array Oper) (o : Oper) : RO :=
  match o.guard with
  | none => ⟨o.dst, none, trK P o.op⟩
  | some (j, b) => match (ops[j]?).bind (·.dst) with
    | some s => ⟨o.dst, some (s, b), trK P o.op⟩
    | none => ⟨o.dst, none, .bad⟩
/-- a region whose order is open: each operation with those that come before it -/
structure DO where
  r : RO
  pre : List Nat
def trD (P : Program) (ops : Array Oper) (o : Oper) : DO := ⟨trR P ops o, (o.after.toList.filter (Region.binds .any)).map (·.on)⟩

/-- what a run knows of the program: the types of elements; the slots whose new slices are own ones; how many slots there are; what the functions make; who takes own slices as they are; what the loops make (under a condition; the ways out, each with its condition) -/
structure G where
  TY : Nat → Option Ty
  own : List Nat
  n : Nat
  E : Nat → List V → List VO → Option (Bool × V × List VO)
  keep : List Nat
  L : Nat → VS → Option (Bool × List (Bool × Exit × VS))
def Entered (P : Program) (f : FuncId) : Prop := ∃ fn, P.funcs[f]? = some fn ∧ fn.body.isSome = true ∧ (fn.name == "runtime.NumGoroutine") = false
def GOk (P : Program) (g : G) : Prop := ∀ f args objs x, g.E f args objs = some x → Entered P f ∧ Meets P f fun args objs => match g.E f args objs with | some (true, r, os) => some (r, os) | _ => none

section
variable {β : Type}
def putR (n : Nat) (S : VS) (dst : Option Nat) (v : V) (K : VS → Option β) : Option β :=
  match dst with
  | none => K S
  | some d => if d < n then K (S.set (some d) v) else none
def callA (g : G) (f : Nat) (S S1 : VS) (vs : List V) (dst : Option Nat) (K : VS → Option β) : Option β :=
  if (vs.all V.good) = true then callR (g.E f) S1 vs (dst.getD 0) fun S' v => putR g.n S' dst v K else none
def frz (g : G) (f : Nat) (S : VS) (vs : List V) : VS := if g.keep.contains f = true then S else S.fzs (V.msss vs)
def vals (e : Env) (l : List AX) : List V := l.map (AX.xv e)
def RK.run (g : G) (S : VS) (dst : Option Nat) (K : VS → Option β) : RK → Option β
  | .m mo => mo.run g.TY (g.own.contains (dst.getD 0)) (dst.getD 0) S fun S' v => putR g.n S' dst v K
  | .call f l => callA g f S (frz g f S (vals S.ts l)) (vals (frz g f S (vals S.ts l)).ts l) dst K
  | .cv x l => match x.xv S.ts with
    | .c (.func (.func f) ⟨[]⟩ ⟨[]⟩) => callA g f S (frz g f S (vals S.ts l)) (vals (frz g f S (vals S.ts l)).ts l) dst K
    | .fn f caps => if V.msss caps = [] then callA g f S (frz g f S (vals S.ts l)) (vals (frz g f S (vals S.ts l)).ts l ++ caps) dst K else none
    | _ => none
  | .mf f caps => if ((vals S.ts caps).all fun v => v.good && v.one) = true then putR g.n S dst (.fn f (vals S.ts caps)) K else none
  | .o _ => none
  | .bad => none
def RO.run (g : G) (S : VS) (K : VS → Option β) (r : RO) : Option β :=
  match r.g with
  | none => r.k.run g S r.dst K
  | some (s, b) => match S.ts s with
    | .t .bool q => match b with
      | true => br q (r.k.run g S r.dst K) (putR g.n S r.dst .ud K)
      | false => br q (putR g.n S r.dst .ud K) (r.k.run g S r.dst K)
    | .ud => putR g.n S r.dst .ud K
    | _ => none
def VS.know (S : VS) (s : Nat) (b : Bool) : VS := ⟨upd S.ts s (.t .bool b), S.st, S.dom⟩
/-- which way a guard goes -/
def learn (S : VS) (g : Option (Nat × Bool)) (K : VS → Option β) : Option β :=
  match g with
  | none => K S
  | some (s, _) => match S.ts s with
    | .t .bool q => br q (K (S.know s true)) (K (S.know s false))
    | _ => K S
theorem know_eq {S : VS} {s : Nat} {b : Bool} (h : S.ts s = .t .bool b) : S.know s b = S := by
  unfold VS.know
  have : upd S.ts s (.t .bool b) = S.ts := by
    funext i
    by_cases hi : i = s
    · subst hi; rw [upd_self, h]
    · rw [upd_ne _ _ hi]
  rw [this]
theorem learn_some {S : VS} {g : Option (Nat × Bool)} {K : VS → Option β} {r : β} (h : learn S g K = some r) : K S = some r := by
  unfold learn at h
  split at h
  · exact h
  · split at h
    · rename_i s _ q hq
      rcases br_some h with ⟨rfl, h⟩ | ⟨rfl, h⟩
      · rwa [know_eq hq] at h
      · rwa [know_eq hq] at h
    · exact h
def evL (g : G) : List RO → VS → (VS → Option β) → Option β
  | [], S, K => K S
  | r :: rs, S, K => learn S r.g fun S => r.run g S fun S' => evL g rs S' K
end

def uput (us : List Value) (dst : Option Nat) (u : Value) : List Value :=
  match dst with
  | some k => us.set k u
  | none => us
section
variable {P : Program} {B : Base} {X : Nat → Nat → Prop} {w : World} {σ : Pl} {n : Nat} {S : VS} {us : List Value}
theorem put_eq (us : List Value) (dst : Option Nat) (u : Value) : Act.put ⟨us.toArray, []⟩ dst u = ⟨(uput us dst u).toArray, []⟩ := by
  cases dst <;> simp [Act.put, uput]
theorem At.put (h : At B X w σ n S us) {d : Nat} (hd : d < n) {v : V} {u : Value} (hc : C X w σ v.d u) : At B X w σ n (S.set (some d) v) (us.set d u) := by
  refine ⟨h.ti, ⟨by simp [h.rel.len], fun i x hx => ?_, fun i hi => ?_⟩, h.dom⟩
  · simp only [VS.set]
    by_cases hid : i = d
    · subst hid
      rw [upd_self]
      rw [List.getElem?_set_self (by rw [h.rel.len]; exact hd)] at hx
      injection hx with hx
      subst hx
      exact hc
    · rw [upd_ne _ _ hid]
      rw [List.getElem?_set_ne (fun q => hid q.symm)] at hx
      exact h.rel.at_ i x hx
  · simp only [VS.set]
    rw [upd_ne _ _ (by omega)]
    exact h.rel.out i hi
theorem putR_sound {β : Type} {K : VS → Option β} {r : β} {dst : Option Nat} {v : V} (h : putR n S dst v K = some r) (ha : At B X w σ n S us) {u : Value} (hc : C X w σ v.d u) :
    ∃ S', K S' = some r ∧ At B X w σ n S' (uput us dst u) := by
  cases dst with
  | none => exact ⟨S, h, ha⟩
  | some d =>
    simp only [putR] at h
    split at h
    · rename_i hd
      exact ⟨_, h, ha.put hd hc⟩
    · cases h
theorem trK_m {op : Op} {mo : MO} (ht : trK P op = .m mo) : trM P op = some mo := by
  unfold trK at ht
  split at ht
  · rename_i m hm
    simp only [RK.m.injEq] at ht
    rw [hm, ht]
  · repeat' split at ht
    all_goals cases ht
theorem trK_call {op : Op} {f : Nat} {xs : List AX} (h : trK P op = .call f xs) : ∃ c, op = .call c ∧ c.callee = .value (.func f) ∧ trA c.args.toList = some xs ∧ Entered P f := by
  unfold trK at h
  split at h
  · cases h
  · split at h
    · split at h <;> cases h
    · rename_i c _
      split at h
      · rename_i f' l hcal hl
        split at h
        · rename_i fn hfn
          split at h
          · rename_i hb
            simp only [RK.call.injEq] at h
            obtain ⟨rfl, rfl⟩ := h
            simp only [Bool.and_eq_true, Bool.not_eq_true'] at hb
            exact ⟨c, rfl, hcal, hl, fn, hfn, hb.1, hb.2⟩
          · cases h
        · cases h
      · cases h
      · cases h
    · cases h
theorem trK_cv {op : Op} {x : AX} {xs : List AX} (h : trK P op = .cv x xs) : ∃ c t, op = .call c ∧ c.callee = .value (.tmp t) ∧ x = .t t ∧ trA c.args.toList = some xs := by
  unfold trK at h
  split at h
  · cases h
  · split at h
    · split at h <;> cases h
    · rename_i c _
      split at h
      · split at h
        · split at h <;> cases h
        · cases h
      · rename_i t l hcal hl
        simp only [RK.cv.injEq] at h
        obtain ⟨rfl, rfl⟩ := h
        exact ⟨c, t, rfl, hcal, rfl, hl⟩
      · cases h
    · cases h
theorem trK_mf {op : Op} {f : Nat} {xs : List AX} (h : trK P op = .mf f xs) : ∃ caps, op = .makeFunc (.func f) #[] caps ∧ trA caps.toList = some xs := by
  unfold trK at h
  split at h
  · cases h
  · split at h
    · rename_i f' caps _
      split at h
      · rename_i l hl
        simp only [RK.mf.injEq] at h
        obtain ⟨rfl, rfl⟩ := h
        exact ⟨caps, rfl, hl⟩
      · cases h
    · repeat' split at h
      all_goals cases h
    · cases h
theorem vals_sound : ∀ {l : List Operand} {xs : List AX}, trA l = some xs → (vals S.ts xs).all V.good = true → Rel X w σ n S.ts us → Cs X w σ (V.ds (vals S.ts xs)) (l.map (Act.eval ⟨us.toArray, []⟩))
  | [], xs, h1, _, _ => by
    simp only [trA, Option.some.injEq] at h1
    subst h1
    simp [vals, V.ds, Cs]
  | o :: l, xs, h1, h2, hr => by
    simp only [trA] at h1
    split at h1
    · rename_i a r ha hrr
      simp only [Option.some.injEq] at h1
      subst h1
      simp only [vals, List.map_cons, List.all_cons, Bool.and_eq_true] at h2
      simp only [vals, List.map_cons, V.ds]
      exact Cs.cons (xv_sound ha h2.1 hr) (vals_sound hrr h2.2 hr)
    · cases h1
theorem call_wp {o : Oper} {c : Call} {f : Nat} {vs : List Value} {caps : List Value} {a : Act} {x : Operand} {K : Act → World → Prop} {Q' : Exit → Act → World → Prop} (ho : o.op = .call c) (hc : c.callee = .value x) (hx : a.eval x = .func (.func f) #[] caps.toArray) (he : Entered P f)
    (hv : c.args.toList.map a.eval = vs) (h : Calls P f (vs ++ caps).toArray w fun e w' => ∃ u, e = .returned u ∧ K (a.put o.dst u) w') : o.wp P a w K Q' := by
  obtain ⟨fn, hf, hb, hn⟩ := he
  have hb' : ¬ fn.body = none := by
    intro hq
    rw [hq] at hb
    cases hb
  have hn' : ¬ fn.name = "runtime.NumGoroutine" := by simpa using hn
  have hr : (execOp a.eval o).run P w = .ok (.enter f (vs ++ caps).toArray) w := by
    have hargs : c.args.map a.eval = vs.toArray := by rw [← hv]; apply Array.ext'; simp
    simp [execOp, ho, resolve, hc, hx, Deferred.ofValue, invoke, callFunc, hf, hn', hb', hargs]
  unfold Oper.wp
  rw [hr, Oper.upon_enter]
  refine h.mono ?_
  rintro e w' ⟨u, rfl, hk⟩
  exact hk
theorem callA_sound {β : Type} {g : G} {f : Nat} {S1 : VS} {vs : List V} {dst : Option Nat} {K : VS → Option β} {r : β} (hg : GOk P g) (h : callA g f S S1 vs dst K = some r) :
    Entered P f ∧ vs.all V.good = true ∧ ∀ {B : Base} {X : Nat → Nat → Prop} {w : World} {σ : Pl} {us uvs : List Value}, At B X w σ g.n S1 us → Cs X w σ (V.ds vs) uvs →
      Calls P f uvs.toArray w fun e w' => ∃ u, e = .returned u ∧ ∃ S' X' σ', K S' = some r ∧ At B X' w' σ' g.n S' (uput us dst u) := by
  unfold callA at h
  split at h
  · rename_i hgood
    have hE : ∃ args objs x, g.E f args objs = some x := by
      unfold callR at h
      split at h
      · split at h
        · rename_i q rv os hF
          exact ⟨_, _, _, hF⟩
        · cases h
      · cases h
    obtain ⟨args, objs, x, hE⟩ := hE
    obtain ⟨he, hM⟩ := hg f args objs x hE
    obtain ⟨v, S', h1, h2⟩ := call_sound hM h
    refine ⟨he, hgood, fun {B X w σ us uvs} ha hc => (h2 ha hc).mono ?_⟩
    rintro e w' ⟨u, X', σ', rfl, hu, ha'⟩
    obtain ⟨S2, h3, h4⟩ := putR_sound h1 ha' hu
    exact ⟨u, rfl, S2, X', σ', h3, h4⟩
  · cases h
theorem frz_at {g : G} {f : Nat} {vs : List V} (ha : At B X w σ n S us) : ∃ X', At B X' w σ n (frz g f S vs) us ∧ Ext X w X' w := by
  unfold frz
  split
  · exact ⟨X, ha, Ext.refl X w⟩
  · exact ha.fzs _
theorem rk_sound {β : Type} {g : G} {k : RK} {dst : Option Nat} {K : VS → Option β} {r : β} (hg : GOk P g) (h : k.run g S dst K = some r) (o : Oper) (ht : trK P o.op = k) (hd : o.dst = dst) (ha : At B X w σ g.n S us)
    {K' : Act → World → Prop} {Q' : Exit → Act → World → Prop} (hK : ∀ S' X' w' σ' us', At B X' w' σ' g.n S' us' → K S' = some r → K' ⟨us'.toArray, []⟩ w') : o.wp P ⟨us.toArray, []⟩ w K' Q' := by
  subst hd
  cases k with
  | m mo =>
    simp only [RK.run] at h
    obtain ⟨v, S', h1, h2⟩ := mo_sound h
    obtain ⟨nx, w', X', σ', q1, q2, q3⟩ := h2 o (trK_m ht) ha
    unfold Oper.wp
    rw [q1]
    rcases q2 with ⟨u, rfl, hu⟩ | ⟨rfl, hv⟩
    · obtain ⟨S2, h3, h4⟩ := putR_sound h1 q3 hu
      simp only [Oper.upon_value]
      rw [put_eq]
      exact hK S2 X' w' σ' _ h4 h3
    · subst hv
      obtain ⟨S2, h3, h4⟩ := putR_sound h1 q3 (u := undef) (C.any_ _)
      simp only [Oper.upon_skip]
      rw [put_eq]
      exact hK S2 X' w' σ' _ h4 h3
  | call f l =>
    obtain ⟨c, h1, h2, h3, h4⟩ := trK_call ht
    simp only [RK.run] at h
    obtain ⟨h5, h6, h7⟩ := callA_sound hg h
    obtain ⟨X1, ha1, _⟩ := frz_at (g := g) (f := f) (vs := vals S.ts l) ha
    have hvs := vals_sound h3 h6 ha1.rel
    refine call_wp (caps := []) h1 h2 (by simp [Act.eval]) h4 rfl ?_
    rw [List.append_nil]
    refine (h7 ha1 hvs).mono ?_
    rintro e w' ⟨u, rfl, S', X', σ', q1, q2⟩
    refine ⟨u, rfl, ?_⟩
    rw [put_eq]
    exact hK S' X' w' σ' _ q2 q1
  | cv x l =>
    obtain ⟨c, t, h1, h2, rfl, h3⟩ := trK_cv ht
    simp only [RK.run] at h
    split at h
    · rename_i f hx
      obtain ⟨h5, h6, h7⟩ := callA_sound hg h
      obtain ⟨X1, ha1, _⟩ := frz_at (g := g) (f := f) (vs := vals S.ts l) ha
      have hvs := vals_sound h3 h6 ha1.rel
      have kx := xv_sound (o := .tmp t) (x := .t t) rfl (by rw [hx]; rfl) ha.rel
      rw [hx] at kx
      refine call_wp (caps := []) h1 h2 (C.v kx).1 h5 rfl ?_
      rw [List.append_nil]
      refine (h7 ha1 hvs).mono ?_
      rintro e w' ⟨u, rfl, S', X', σ', q1, q2⟩
      refine ⟨u, rfl, ?_⟩
      rw [put_eq]
      exact hK S' X' w' σ' _ q2 q1
    · rename_i f caps hx
      split at h
      · rename_i hms
        obtain ⟨h5, h6, h7⟩ := callA_sound hg h
        obtain ⟨X1, ha1, ex⟩ := frz_at (g := g) (f := f) (vs := vals S.ts l) ha
        rw [List.all_append, Bool.and_eq_true] at h6
        have hvs := vals_sound h3 h6.1 ha1.rel
        have kx := xv_sound (o := .tmp t) (x := .t t) rfl (by rw [hx]; rfl) ha.rel
        rw [hx] at kx
        simp only [V.d, C] at kx
        obtain ⟨cs, e1, e2⟩ := kx
        refine call_wp (caps := cs) h1 h2 e1 h5 rfl ?_
        refine (h7 ha1 ?_).mono ?_
        · rw [V.ds_app]
          exact hvs.app (Cs.ext ex _ _ (fun _ _ => rfl) e2)
        rintro e w' ⟨u, rfl, S', X', σ', q1, q2⟩
        refine ⟨u, rfl, ?_⟩
        rw [put_eq]
        exact hK S' X' w' σ' _ q2 q1
      · cases h
    · cases h
  | mf f caps =>
    obtain ⟨cs, h1, h2⟩ := trK_mf ht
    simp only [RK.run] at h
    split at h
    · rename_i hgood
      have hg1 : (vals S.ts caps).all V.good = true := List.all_eq_true.2 fun v hv => by
        have := List.all_eq_true.1 hgood v hv
        simp only [Bool.and_eq_true] at this
        exact this.1
      have hvs := vals_sound h2 hg1 ha.rel
      obtain ⟨S2, h3, h4⟩ := putR_sound (u := .func (.func f) #[] ((cs.toList.map (Act.eval ⟨us.toArray, []⟩)).toArray)) h ha (by
        simp only [V.d, C]
        exact ⟨_, rfl, hvs⟩)
      have hrun : (execOp (Act.eval ⟨us.toArray, []⟩) o).run P w = .ok (.value (.func (.func f) #[] ((cs.toList.map (Act.eval ⟨us.toArray, []⟩)).toArray))) w := by
        have : cs.map (Act.eval ⟨us.toArray, []⟩) = (cs.toList.map (Act.eval ⟨us.toArray, []⟩)).toArray := by apply Array.ext'; simp
        simp [execOp, h1, Instr.makeFunc, this]
      unfold Oper.wp
      rw [hrun]
      simp only [Oper.upon_value]
      rw [put_eq]
      exact hK S2 X w σ _ h4 h3
    · cases h
  | o op => cases h
  | bad => cases h
end
end Go.Proofs.Ytnimpcffagidoaa.K
