/-
  Statements, loops and functions of typed values.
-/
import Derived.Test.YtnimpcffagidoaaK14
namespace Go.Proofs.Ytnimpcffagidoaa.K
open Go.RowKit
set_option linter.unusedSimpArgs false
set_option linter.unusedVariables false

inductive AC where
  | sk
  | reg (rs : List RO)
  | dr (ds : List DO)
  | sq (a b : AC)
  | cd (x : AX) (a b : AC)
  | bk (id : Nat) (a : AC)
  | lp (a : AC)
  | ex (id : Nat)
  | rt
  | ot (c : Code)
def trC (P : Program) : Code → AC
  | .skip => .sk
  | .region _ ops false => .reg (ops.toList.map (trR P ops))
  | .region _ ops true => .dr (ops.toList.map (trD P ops))
  | .seq a b => .sq (trC P a) (trC P b)
  | .cond c a b => match trX c with
    | some x => .cd x (trC P a) (trC P b)
    | none => .ot (.cond c a b)
  | .block id c => .bk id (trC P c)
  | .loop c => .lp (trC P c)
  | .exit id => .ex id
  | .ret => .rt
  | c => .ot c
/-- what a run keeps at a place: slots, own things; with the types in which they are to be -/
structure Fg where
  ks : List (Nat × Option Ty)
  os : List (Nat × Option Ty)
/-- in which order a region's operations are taken; where more than one may come next: each of them -/
inductive PT where
  | nil
  | one (i : Nat) (t : PT)
  | alt (i : Nat) (t u : PT)
def PT.depth : PT → Nat
  | .nil => 0
  | .one _ t => t.depth + 1
  | .alt _ t u => max (t.depth + 1) u.depth
/-- the order of a list -/
def PT.of : List Nat → PT
  | [] => .nil
  | i :: r => .one i (PT.of r)
/-- a text with what a run forgets at its places, and where nil becomes an own slice (slot, element's type; variable, cell, element's type, number) -/
inductive TC where
  | sk
  | reg (rs : List RO)
  | dr (ds : List DO) (ord : List (Nat × List Nat)) (t : PT)
  | sq (a b : TC)
  | cd (x : AX) (a b : TC)
  | bk (id : Nat) (a : TC)
  | lp (j : Nat) (f : Fg) (a : TC)
  | ex (id : Nat)
  | rt
  | fg (f : Fg) (a : TC)
  | nw (s e : Nat) (a : TC)
  | nf (j i e k : Nat) (a : TC)
def TC.er : TC → AC
  | .sk => .sk
  | .reg rs => .reg rs
  | .dr ds _ _ => .dr ds
  | .sq a b => .sq a.er b.er
  | .cd x a b => .cd x a.er b.er
  | .bk id a => .bk id a.er
  | .lp _ _ a => .lp a.er
  | .ex id => .ex id
  | .rt => .rt
  | .fg _ a => a.er
  | .nw _ _ a => a.er
  | .nf _ _ _ _ a => a.er

def look : List (Nat × V) → Nat → V
  | [], _ => .un
  | (j, v) :: r, i => if i = j then v else look r i
def lookO : List (Nat × VO) → Nat → VO
  | [], _ => .no
  | (j, v) :: r, i => if i = j then v else lookO r i
/-- a value in a type, where it is one -/
def nrmV : Option Ty → V → V
  | none, v => v
  | some y, v => match v.as y with
    | some x => .t y x
    | none => v
def nrmO : Option Ty → VO → VO
  | some y, .box v => if y.row = true then .box (nrmV (some y) v) else .box v
  | _, o => o
/-- only some things are known any more -/
def fgt (f : Fg) (S : VS) : VS := ⟨look (f.ks.map fun p => (p.1, nrmV p.2 (S.ts p.1))), lookO (f.os.map fun p => (p.1, nrmO p.2 (S.st p.1))), f.os.map Prod.fst⟩

def loopN (b : VS → Option (Exit × VS)) : Nat → VS → Option (Exit × VS)
  | 0, _ => none
  | n + 1, S => match b S with
    | some (.normal, S') => loopN b n S'
    | x => x
open Classical in
/-- a loop -/
noncomputable def loopF (b : VS → Option (Exit × VS)) (S : VS) : Option (Exit × VS) :=
  if h : ∃ n x, loopN b n S = some x then loopN b (Classical.choose h) S else none
theorem loopN_mono {b : VS → Option (Exit × VS)} : ∀ {n : Nat} {S : VS} {x : Exit × VS}, loopN b n S = some x → ∀ m, n ≤ m → loopN b m S = some x
  | 0, S, x, h, m, _ => by cases h
  | n + 1, S, x, h, 0, hm => by omega
  | n + 1, S, x, h, m + 1, hm => by
    simp only [loopN] at h ⊢
    split at h
    · rename_i S' hb
      exact loopN_mono h m (by omega)
    · rename_i hb
      exact h
theorem loopF_some {b : VS → Option (Exit × VS)} {S : VS} {x : Exit × VS} : loopF b S = some x ↔ ∃ n, loopN b n S = some x := by
  unfold loopF
  constructor
  · intro h
    split at h
    · exact ⟨_, h⟩
    · cases h
  · rintro ⟨n, h⟩
    have hex : ∃ n x, loopN b n S = some x := ⟨n, x, h⟩
    rw [dif_pos hex]
    obtain ⟨y, hy⟩ := Classical.choose_spec hex
    rw [hy]
    have h1 := loopN_mono h (max n (Classical.choose hex)) (by omega)
    have h2 := loopN_mono hy (max n (Classical.choose hex)) (by omega)
    rw [h1] at h2
    exact h2.symm
theorem loopF_next {b : VS → Option (Exit × VS)} {S S' : VS} {r : Option (Exit × VS)} (h : b S = some (.normal, S')) (hr : loopF b S' = r) : loopF b S = r := by
  subst hr
  cases hx : loopF b S' with
  | some x =>
    obtain ⟨n, hn⟩ := loopF_some.1 hx
    exact loopF_some.2 ⟨n + 1, by simp only [loopN, h, hn]⟩
  | none =>
    cases hy : loopF b S with
    | none => rfl
    | some y =>
      obtain ⟨n, hn⟩ := loopF_some.1 hy
      cases n with
      | zero => cases hn
      | succ n =>
        simp only [loopN, h] at hn
        rw [loopF_some.2 ⟨n, hn⟩] at hx
        cases hx
theorem loopF_end {b : VS → Option (Exit × VS)} {S S' : VS} {e : Exit} (h : b S = some (e, S')) (he : e ≠ .normal) : loopF b S = some (e, S') := by
  refine loopF_some.2 ⟨1, ?_⟩
  simp only [loopN, h]
  cases e <;> first | rfl | exact absurd rfl he

section
/-- a nil slice in a slot becomes an own one -/
def nwR {β : Type} (g : G) (s e : Nat) (S : VS) (K : VS → Option β) : Option β :=
  match S.ts s with
  | .c (.slice none 0 0) => match g.TY e with
    | some y => if (S.free s && decide (s < g.n)) = true then K ((S.alloc s (.arr e y [])).set (some s) (.ms s)) else none
    | none => none
  | _ => K S
def nfR {β : Type} (g : G) (j i e k : Nat) (S : VS) (K : VS → Option β) : Option β :=
  match S.st j with
  | .box (.ag vs) => match vs[i]? with
    | some (.c (.slice none 0 0)) => match g.TY e with
      | some y => if (S.free k && !(j == k)) = true then K ((S.alloc k (.arr e y [])).setO j (.box (.ag (vs.set i (.ms k))))) else none
      | none => none
    | _ => K S
  | _ => K S
def AX.looks : AX → List Nat
  | .t i => [i]
  | .c _ => []
def optL : Option AX → List Nat
  | none => []
  | some x => x.looks
def AO.looks : AO → List Nat
  | .mv x | .fa _ x | .fd _ _ _ x | .nc x | .nt x | .ng x | .cv _ x | .ext _ x | .len _ x | .lde _ _ x => x.looks
  | .pick c a b => c.looks ++ (a.looks ++ b.looks)
  | .slc _ x a b c => x.looks ++ (optL a ++ (optL b ++ optL c))
  | .sls x a b => x.looks ++ (optL a ++ optL b)
  | .eqs _ _ x y | .ix _ x y | .sx x y | .bin _ _ x y | .mx x y | .mn x y => x.looks ++ y.looks
  | .bd _ l => l.flatMap fun p => p.2.2.looks
def MO.looks : MO → List Nat
  | .pu ao => ao.looks
  | .new _ => []
  | .box x | .ld _ _ x => x.looks
  | .st _ x y => x.looks ++ y.looks
  | .bs _ _ _ _ l => l.flatMap fun p => p.2.2.looks
  | .app _ _ _ x y => x.looks ++ y.looks
def RK.looks : RK → List Nat
  | .m mo => mo.looks
  | .call _ l => l.flatMap AX.looks
  | .cv x l => x.looks ++ l.flatMap AX.looks
  | .mf _ l => l.flatMap AX.looks
  | _ => []
def RO.looks (r : RO) : List Nat := (match r.g with | some (s, _) => [s] | none => []) ++ r.k.looks
/-- which operations may be quiet ones: they only yield a value -/
def RK.quick (own : List Nat) (dst : Option Nat) (ks : List Nat) : RK → Bool
  | .m (.pu _) | .m (.ld _ _ _) | .mf _ _ => true
  | .m (.bs _ _ _ _ _) => !own.contains (dst.getD 0)
  | .call _ _ => ks.isEmpty
  | _ => false
/-- a quiet operation: its value -/
def RK.q {β : Type} (g : G) (S : VS) (K : V → Option β) : RK → Option β
  | .m (.pu ao) => ao.run S K
  | .m (.ld a n x) => MO.run g.TY false 0 S (fun _ v => K v) (.ld a n x)
  | .m (.bs e sz len init parts) => if partMs S.ts parts = [] then MO.run g.TY false 0 S (fun _ v => K v) (.bs e sz len init parts) else none
  | .mf f caps => if ((vals S.ts caps).all fun v => v.good && v.one) = true then K (.fn f (vals S.ts caps)) else none
  | .call f l => if ((vals S.ts l).all fun v => v.good && v.refs.isEmpty) = true then match g.E f (vals S.ts l) [] with
    | some (q, r, []) => br q (if r.refs.isEmpty = true then K r else none) none
    | _ => none
    else none
  | _ => none
def RO.q {β : Type} (g : G) (S : VS) (K : V → Option β) (r : RO) : Option β :=
  match r.g with
  | none => r.k.q g S K
  | some (s, b) => match S.ts s with
    | .t .bool q => match b with
      | true => br q (r.k.q g S K) (K .ud)
      | false => br q (K .ud) (r.k.q g S K)
    | .ud => K .ud
    | _ => none
/-- the keys of which an operation speaks are said ahead -/
def within (S : VS) (looks : List Nat) (ks : List Nat) : Bool := looks.all fun q => (S.ts q).refs.all fun k => ks.contains k && S.dom.contains k
def RK.isSt : RK → Bool
  | .m (.st _ _ _) => true
  | _ => false
/-- an operation that turns own things keeps to its keys -/
def apartK (S : VS) (t : Bool) (d : Option Nat) (ks : List Nat) : Bool :=
  ((S.dom.all fun j => if ks.contains j = true then (S.st j).refs.all ks.contains else (S.st j).refs.all fun r => !ks.contains r) && ks.all fun k => S.dom.contains k || (match S.st k with | .no => true | _ => false)) && (t || (List.range 4).all fun i => ks.contains (d.getD 0 + 5000 * i))
def stepD {β : Type} (g : G) (S : VS) (K : VS → Option β) (r : RO) (ks : List Nat) : Option β :=
  if within S r.looks ks = true then
    if r.k.quick g.own r.dst ks = true then r.q g S fun v => if (v.refs.all ks.contains) = true then putR g.n S r.dst v K else none
    else if apartK S r.k.isSt r.dst ks = true then r.run g S K else none
  else none
/-- what may come next -/
def rdy (ds : List DO) (l : List Bool) : List Nat :=
  (List.range ds.length).filter fun i => !l.getD i true && ((ds[i]?).map (fun d => d.pre.all fun j => l.getD j false)).getD false
def keysOf (os : List (Nat × List Nat)) (i : Nat) : List Nat := (os.lookup i).getD []
/-- does it look at slots alone, at no own thing? -/
def RK.isTs : RK → Bool
  | .m (.pu (.ix _ _ _)) => false
  | .m (.pu (.len false _)) => false
  | .m (.pu _) => true
  | _ => false
/-- must the operation i wait for k? (n: over how many steps this is looked for) -/
def blk (ds : List DO) (l : List Bool) (k : Nat) : Nat → Nat → Bool
  | 0, _ => false
  | n + 1, i => match ds[i]? with
    | none => false
    | some d => d.pre.any fun j => j == k || (!l.getD j false && blk ds l k n j)
/-- may the quiet operation k be taken first? nobody who may come before it writes what it looks at, looks at what it writes, or turns what it speaks of -/
def free (own : List Nat) (ds : List DO) (os : List (Nat × List Nat)) (l : List Bool) (k : Nat) : Bool :=
  match ds[k]? with
  | none => false
  | some dk => dk.r.k.quick own dk.r.dst (keysOf os k) && (List.range ds.length).all fun i => match ds[i]? with
    | none => true
    | some d => l.getD i true || (i == k || (blk ds l k 4 i ||
      ((match d.r.dst with | some q => !dk.r.looks.contains q && dk.r.dst != some q | none => true) &&
       ((match dk.r.dst with | some q => !d.r.looks.contains q | none => true) &&
       (d.r.k.quick own d.r.dst (keysOf os i) || (keysOf os k).all fun x => !(keysOf os i).contains x || (dk.r.k.isTs && decide (50000 ≤ x)))))))
def planOk (own : List Nat) (ds : List DO) (os : List (Nat × List Nat)) : PT → List Bool → List Nat → Bool
  | .nil, l, _ => (rdy ds l).isEmpty
  | .one i t, l, seen => ((rdy ds l).contains i && ((seen.isEmpty && free own ds os l i) || (rdy ds l).all fun j => j == i || seen.contains j)) && planOk own ds os t (l.set i true) []
  | .alt i t u, l, seen => (rdy ds l).contains i && (planOk own ds os t (l.set i true) [] && planOk own ds os u l (i :: seen))
open Classical in
/-- two ways that lead to the same -/
noncomputable def frk {β : Type} (a b : Option β) : Option β := if a = b then a else none
theorem frk_some {β : Type} {a b : Option β} {r : β} (h : frk a b = some r) : a = some r ∧ b = some r := by
  unfold frk at h
  split at h
  · rename_i e
    exact ⟨h, e ▸ h⟩
  · cases h
theorem frk_self {β : Type} (a : Option β) : frk a a = a := if_pos rfl
theorem frk_eq {β : Type} {a b r : Option β} (h1 : a = r) (h2 : b = r) : frk a b = r := by rw [h1, h2, frk_self]
noncomputable def evT {β : Type} (g : G) (ds : List DO) (os : List (Nat × List Nat)) : PT → VS → (VS → Option β) → Option β
  | .nil, S, K => K S
  | .one i t, S, K => match ds[i]? with
    | some d => learn S d.r.g fun S => stepD g S (fun S' => evT g ds os t S' K) d.r (keysOf os i)
    | none => none
  | .alt i t u, S, K => frk (match ds[i]? with
    | some d => learn S d.r.g fun S => stepD g S (fun S' => evT g ds os t S' K) d.r (keysOf os i)
    | none => none) (evT g ds os u S K)
noncomputable def evD {β : Type} (g : G) (ds : List DO) (os : List (Nat × List Nat)) (t : PT) (S : VS) (K : VS → Option β) : Option β :=
  if (planOk g.own ds os t (List.replicate ds.length false) [] && decide (t.depth ≤ ds.length)) = true then evT g ds os t S K else none
/-- the ways out of a loop -/
def alts {β : Type} (K : Exit → VS → Option β) : List (Bool × Exit × VS) → Option β
  | [] => none
  | [(_, e, S)] => K e S
  | (q, e, S) :: r => br q (K e S) (alts K r)
def pickA : List (Bool × Exit × VS) → Option (Exit × VS)
  | [] => none
  | [(_, e, S)] => some (e, S)
  | (q, e, S) :: r => if q = true then some (e, S) else pickA r
noncomputable def ev (g : G) : TC → {β : Type} → VS → (Exit → VS → Option β) → Option β
  | .sk, _, S, K => K .normal S
  | .reg rs, _, S, K => evL g rs S (K .normal)
  | .dr ds os t, _, S, K => evD g ds os t S (K .normal)
  | .sq a b, _, S, K => ev g a S fun e S' => match e with
    | .normal => ev g b S' K
    | e => K e S'
  | .cd x a b, _, S, K => match x.xv S.ts with
    | .t .bool q => br q (ev g a S K) (ev g b S K)
    | _ => none
  | .bk id a, _, S, K => ev g a S fun e S' => match e with
    | .exit i => if i = id then K .normal S' else K (.exit i) S'
    | e => K e S'
  | .lp j f _, _, S, K => match g.L j (fgt f S) with
    | some (q, l) => br q (alts K l) none
    | none => none
  | .ex id, _, S, K => K (.exit id) S
  | .rt, _, S, K => K .ret S
  | .fg f a, _, S, K => ev g a (fgt f S) K
  | .nw s e a, _, S, K => nwR g s e S fun S' => ev g a S' K
  | .nf j i e k a, _, S, K => nfR g j i e k S fun S' => ev g a S' K
/-- one round of a loop -/
def roundK (f : Fg) (e : Exit) (S : VS) : Option (Exit × VS) :=
  match e with
  | .normal => some (.normal, fgt f S)
  | e => some (e, S)
noncomputable def roundF (g : G) (f : Fg) (a : TC) (S : VS) : Option (Exit × VS) := ev g a (fgt f S) (roundK f)
theorem loopF_eq {b : VS → Option (Exit × VS)} {S : VS} : loopF b S = match b S with | some (.normal, S') => loopF b S' | x => x := by
  cases hb : b S with
  | none =>
    cases hx : loopF b S with
    | none => rfl
    | some x =>
      obtain ⟨n, hn⟩ := loopF_some.1 hx
      cases n with
      | zero => cases hn
      | succ n => simp only [loopN, hb] at hn; cases hn
  | some x =>
    obtain ⟨e, S'⟩ := x
    by_cases he : e = .normal
    · subst he
      exact loopF_next hb rfl
    · rw [loopF_end hb he]
      cases e <;> first | rfl | exact absurd rfl he
/-- the loops of a text make what is said of them -/
def TC.lok (g : G) : TC → Prop
  | .lp j f a => (∀ S l x, g.L j (fgt f S) = some (true, l) → pickA l = some x → loopF (roundF g f a) S = some x) ∧ a.lok g
  | .sq a b => a.lok g ∧ b.lok g
  | .cd _ a b => a.lok g ∧ b.lok g
  | .bk _ a => a.lok g
  | .fg _ a => a.lok g
  | .nw _ _ a => a.lok g
  | .nf _ _ _ _ a => a.lok g
  | _ => True
theorem alts_some {β : Type} {K : Exit → VS → Option β} {r : β} : ∀ {l : List (Bool × Exit × VS)}, alts K l = some r → ∃ e S, pickA l = some (e, S) ∧ K e S = some r
  | [], h => by cases h
  | [(_, e, S)], h => ⟨e, S, rfl, h⟩
  | (q, e, S) :: y :: l, h => by
    simp only [alts] at h
    rcases br_some h with ⟨rfl, h⟩ | ⟨rfl, h⟩
    · exact ⟨e, S, rfl, h⟩
    · exact alts_some (l := y :: l) h
theorem as_t (y : Ty) (x : y.T) : V.as y (.t y x) = some x := by simp only [V.as, dite_true]
theorem nrmV_nrmV (t : Option Ty) (v : V) : nrmV t (nrmV t v) = nrmV t v := by
  cases t with
  | none => rfl
  | some y =>
    cases h : v.as y with
    | some x =>
      have h1 : nrmV (some y) v = .t y x := by simp only [nrmV, h]
      rw [h1]
      simp only [nrmV, as_t]
    | none =>
      have h1 : nrmV (some y) v = v := by simp only [nrmV, h]
      rw [h1, h1]
theorem nrmO_nrmO (t : Option Ty) (o : VO) : nrmO t (nrmO t o) = nrmO t o := by
  cases t with
  | none => cases o <;> rfl
  | some y =>
    cases o with
    | box v =>
      by_cases h : y.row = true
      · have h1 : ∀ v, nrmO (some y) (.box v) = .box (nrmV (some y) v) := fun v => by simp only [nrmO, h, if_true]
        rw [h1, h1, nrmV_nrmV]
      · have h1 : nrmO (some y) (.box v) = .box v := by simp only [nrmO]; rw [if_neg h]
        rw [h1, h1]
    | no => rfl
    | arr e t l => rfl
theorem look_idem (f : Nat → V) : ∀ (l l2 : List (Nat × Option Ty)), (∀ p ∈ l2, p ∈ l) → (l.map Prod.fst).Nodup → l2.map (fun p => (p.1, nrmV p.2 (look (l.map fun p => (p.1, nrmV p.2 (f p.1))) p.1))) = l2.map fun p => (p.1, nrmV p.2 (f p.1)) := by
  intro l l2 h hn
  refine List.map_congr_left fun p hp => ?_
  have key : ∀ (l : List (Nat × Option Ty)), (l.map Prod.fst).Nodup → p ∈ l → look (l.map fun p => (p.1, nrmV p.2 (f p.1))) p.1 = nrmV p.2 (f p.1) := by
    intro l
    induction l with
    | nil => intro _ h; cases h
    | cons q l ih =>
      intro hn hq
      simp only [List.map_cons, List.nodup_cons] at hn
      simp only [List.map_cons, look]
      rcases List.mem_cons.1 hq with rfl | hq
      · rw [if_pos rfl]
      · have hne : p.1 ≠ q.1 := fun e => hn.1 (e ▸ List.mem_map.2 ⟨p, hq, rfl⟩)
        rw [if_neg hne]
        exact ih hn.2 hq
  rw [key l hn (h p hp), nrmV_nrmV]
theorem lookO_idem (f : Nat → VO) : ∀ (l l2 : List (Nat × Option Ty)), (∀ p ∈ l2, p ∈ l) → (l.map Prod.fst).Nodup → l2.map (fun p => (p.1, nrmO p.2 (lookO (l.map fun p => (p.1, nrmO p.2 (f p.1))) p.1))) = l2.map fun p => (p.1, nrmO p.2 (f p.1)) := by
  intro l l2 h hn
  refine List.map_congr_left fun p hp => ?_
  have key : ∀ (l : List (Nat × Option Ty)), (l.map Prod.fst).Nodup → p ∈ l → lookO (l.map fun p => (p.1, nrmO p.2 (f p.1))) p.1 = nrmO p.2 (f p.1) := by
    intro l
    induction l with
    | nil => intro _ h; cases h
    | cons q l ih =>
      intro hn hq
      simp only [List.map_cons, List.nodup_cons] at hn
      simp only [List.map_cons, lookO]
      rcases List.mem_cons.1 hq with rfl | hq
      · rw [if_pos rfl]
      · have hne : p.1 ≠ q.1 := fun e => hn.1 (e ▸ List.mem_map.2 ⟨p, hq, rfl⟩)
        rw [if_neg hne]
        exact ih hn.2 hq
  rw [key l hn (h p hp), nrmO_nrmO]
/-- each slot, each thing is named once -/
def Fg.ok (f : Fg) : Prop := (f.ks.map Prod.fst).Nodup ∧ (f.os.map Prod.fst).Nodup
theorem fgt_fgt {f : Fg} (hf : f.ok) (S : VS) : fgt f (fgt f S) = fgt f S := by
  unfold fgt
  simp only
  congr 1
  · rw [look_idem S.ts f.ks f.ks (fun _ h => h) hf.1]
  · rw [lookO_idem S.st f.os f.os (fun _ h => h) hf.2]
theorem loopF_fgt {g : G} {f : Fg} {a : TC} (hf : f.ok) (S : VS) : loopF (roundF g f a) S = loopF (roundF g f a) (fgt f S) := by
  have h : roundF g f a (fgt f S) = roundF g f a S := by unfold roundF; rw [fgt_fgt hf]
  cases hb : roundF g f a S with
  | none =>
    have e : ∀ S', roundF g f a S' = none → loopF (roundF g f a) S' = none := by
      intro S' hS'
      cases hx : loopF (roundF g f a) S' with
      | none => rfl
      | some x =>
        obtain ⟨n, hn⟩ := loopF_some.1 hx
        cases n with
        | zero => cases hn
        | succ n => simp only [loopN, hS'] at hn; cases hn
    rw [e S hb, e _ (h.trans hb)]
  | some x =>
    obtain ⟨e, S'⟩ := x
    by_cases he : e = .normal
    · subst he
      rw [loopF_next hb rfl, loopF_next (h.trans hb) rfl]
    · rw [loopF_end hb he, loopF_end (h.trans hb) he]
end
end Go.Proofs.Ytnimpcffagidoaa.K
