/-
  What is said of functions and of loops in types, and how it serves in the runs of others.
-/
import Derived.Test.YtnimpcffagidoaaK17
namespace Go.Proofs.Ytnimpcffagidoaa.K
open Go.RowKit
set_option linter.unusedSimpArgs false
set_option linter.unusedVariables false

def Ty.args : (y : Ty) → List V → Option y.T
  | .pr f r, v :: vs => match v.as f, r.args vs with
    | some x, some z => some (x, z)
    | _, _ => none
  | .nil, [] => some ()
  | _, _ => none
def Ty.canon : (y : Ty) → y.T → List V
  | .pr f r, x => .t f x.1 :: r.canon x.2
  | _, _ => []
abbrev Ent := List V → List VO → Option (Bool × V × List VO)
/-- a function without lent things: under the condition ok it makes F -/
def spec (a : Ty) (ok : a.T → Bool) (F : a.T → V) : Ent := fun args objs =>
  match objs with
  | [] => match a.args args with
    | some x => some (ok x, F x, [])
    | none => none
  | _ => none
/-- a function whose first argument is a variable of type b -/
def specP (b a : Ty) (ok : b.T → a.T → Bool) (F : b.T → a.T → V) (H : b.T → a.T → b.T) : Ent := fun args objs =>
  match args, objs with
  | .ptr 50000 0 :: args, [.box c] => match c.as b, a.args args with
    | some d, some x => some (ok d x, F d x, [.box (.t b (H d x))])
    | _, _ => none
  | _, _ => none
/-- a function that makes a variable of type b and hands out its address -/
def specN (b a : Ty) (ok : a.T → Bool) (H : a.T → b.T) : Ent := fun args objs =>
  match objs with
  | [] => match a.args args with
    | some x => some (ok x, .ptr 50000 0, [.box (.t b (H x))])
    | none => none
  | _ => none
/-- a function that hands out own things -/
def specO (a : Ty) (ok : a.T → Bool) (F : a.T → V) (O : a.T → List VO) : Ent := fun args objs =>
  match objs with
  | [] => match a.args args with
    | some x => some (ok x, F x, O x)
    | none => none
  | _ => none
def strip (F : Ent) : Fun := fun args objs =>
  match F args objs with
  | some (true, r, os) => some (r, os)
  | _ => none
def EL (l : List (Nat × Ent)) (f : Nat) : Ent :=
  match l.lookup f with
  | some F => F
  | none => fun _ _ => none
section
variable {P : Program} {X : Nat → Nat → Prop} {w : World} {σ : Pl}
theorem lookup_mem {α : Type} : ∀ {l : List (Nat × α)} {f : Nat} {x : α}, l.lookup f = some x → (f, x) ∈ l
  | (k, y) :: l, f, x, h => by
    rw [List.lookup_cons] at h
    split at h
    · rename_i hk
      have hk : f = k := by simpa using hk
      simp only [Option.some.injEq] at h
      rw [hk, h]
      exact List.mem_cons_self
    · exact List.mem_cons_of_mem _ (lookup_mem h)
theorem gok_of {TY : Nat → Option Ty} {own : List Nat} {n : Nat} {keep : List Nat} {L : Nat → VS → Option (Bool × List (Bool × Exit × VS))} (l : List (Nat × Ent)) (h : ∀ p ∈ l, Entered P p.1 ∧ Meets P p.1 (strip p.2)) : GOk P ⟨TY, own, n, EL l, keep, L⟩ := by
  intro f args objs x hx
  simp only at hx ⊢
  cases hl : l.lookup f with
  | none =>
    have : EL l f = fun _ _ => none := by unfold EL; rw [hl]
    rw [this] at hx
    cases hx
  | some F =>
    have : EL l f = F := by unfold EL; rw [hl]
    obtain ⟨h1, h2⟩ := h _ (lookup_mem hl)
    rw [this]
    exact ⟨h1, h2⟩
theorem canon_cs : ∀ {a : Ty} {args : List V} {x : a.T} {vs : List Value}, a.args args = some x → Cs X w σ (V.ds args) vs → Cs X w σ (V.ds (a.canon x)) vs
  | .pr f r, v :: args, x, vs, h, hc => by
    simp only [Ty.args] at h
    split at h
    · rename_i x1 z1 h1 h2
      simp only [Option.some.injEq] at h
      subst h
      simp only [V.ds, Cs] at hc
      obtain ⟨u, us, rfl, q1, q2⟩ := hc
      simp only [Ty.canon, V.ds]
      exact Cs.cons (C.up _ _ (V.as_spec h1 q1)) (canon_cs h2 q2)
    · cases h
  | .nil, [], x, vs, h, hc => hc
  | .pr f r, [], _, _, h, _ => by cases h
  | .nil, _ :: _, _, _, h, _ => by cases h
  | .int _, _, _, _, h, _ => by simp only [Ty.args] at h; cases h
  | .bool, _, _, _, h, _ => by simp only [Ty.args] at h; cases h
  | .str, _, _, _, h, _ => by simp only [Ty.args] at h; cases h
  | .sl _, _, _, _, h, _ => by simp only [Ty.args] at h; cases h
theorem meets_spec {f : FuncId} {R : Fun} {a : Ty} {ok : a.T → Bool} {F : a.T → V} (hM : Meets P f R) (h : ∀ x, ok x = true → R (a.canon x) [] = some (F x, [])) : Meets P f (strip (spec a ok F)) := by
  intro args objs r os hF X w σ vs hfin hl hc
  unfold strip spec at hF
  cases objs with
  | cons o os' => simp at hF
  | nil =>
    simp only at hF
    cases ha : a.args args with
    | none => rw [ha] at hF; cases hF
    | some x =>
      rw [ha] at hF
      simp only at hF
      split at hF
      · rename_i r' os' hq
        simp only [Option.some.injEq, Prod.mk.injEq] at hF hq
        obtain ⟨rfl, rfl⟩ := hF
        obtain ⟨h1, rfl, rfl⟩ := hq
        exact hM _ [] _ _ (h x h1) X w σ vs hfin hl (canon_cs ha hc)
      · cases hF
theorem meets_specO {f : FuncId} {R : Fun} {a : Ty} {ok : a.T → Bool} {F : a.T → V} {O : a.T → List VO} (hM : Meets P f R) (h : ∀ x, ok x = true → R (a.canon x) [] = some (F x, O x)) : Meets P f (strip (specO a ok F O)) := by
  intro args objs r os hF X w σ vs hfin hl hc
  unfold strip specO at hF
  cases objs with
  | cons o os' => simp at hF
  | nil =>
    simp only at hF
    cases ha : a.args args with
    | none => rw [ha] at hF; cases hF
    | some x =>
      rw [ha] at hF
      simp only at hF
      split at hF
      · rename_i r' os' hq
        simp only [Option.some.injEq, Prod.mk.injEq] at hF hq
        obtain ⟨rfl, rfl⟩ := hF
        obtain ⟨h1, rfl, rfl⟩ := hq
        exact hM _ [] _ _ (h x h1) X w σ vs hfin hl (canon_cs ha hc)
      · cases hF
theorem meets_specN {f : FuncId} {R : Fun} {b a : Ty} {ok : a.T → Bool} {H : a.T → b.T} (hM : Meets P f R) (hb : b.row = true) (h : ∀ x, ok x = true → ∃ c, R (a.canon x) [] = some (.ptr 50000 0, [.box c]) ∧ c.as b = some (H x)) : Meets P f (strip (specN b a ok H)) := by
  intro args objs r os hF X w σ vs hfin hl hc
  unfold strip specN at hF
  cases objs with
  | cons o os' => simp at hF
  | nil =>
    simp only at hF
    cases ha : a.args args with
    | none => rw [ha] at hF; cases hF
    | some x =>
      rw [ha] at hF
      simp only at hF
      split at hF
      · rename_i r' os' hq
        simp only [Option.some.injEq, Prod.mk.injEq] at hF hq
        obtain ⟨rfl, rfl⟩ := hF
        obtain ⟨h1, rfl, rfl⟩ := hq
        obtain ⟨c, h2, h3⟩ := h x h1
        refine (hM _ [] _ _ h2 X w σ vs hfin hl (canon_cs ha hc)).mono ?_
        rintro e w' ⟨u, X', σ', e1, e2, e3⟩
        refine ⟨u, X', σ', e1, e2, e3.fin, ⟨fun j o hj => ?_, fun i j bb hij hi hj => e3.lent.apart i j bb hij hi hj⟩, e3.le, e3.same, e3.new, e3.fr, e3.old⟩
        cases j with
        | zero =>
          simp only [List.getElem?_cons_zero, Option.some.injEq] at hj
          subst hj
          exact ⟨as_box hb h3 (e3.lent.at_ 0 _ rfl).1, by simp⟩
        | succ j => simp at hj
      · cases hF
theorem meets_specP {f : FuncId} {R : Fun} {b a : Ty} {ok : b.T → a.T → Bool} {F : b.T → a.T → V} {H : b.T → a.T → b.T} (hM : Meets P f R) (hb : b.row = true)
    (h : ∀ d x, ok d x = true → R (.ptr 50000 0 :: a.canon x) [.box (.t b d)] = some (F d x, [.box (.t b (H d x))])) : Meets P f (strip (specP b a ok F H)) := by
  intro args objs r os hF X w σ vs hfin hl hc
  unfold strip specP at hF
  split at hF
  · rename_i r0 os0 hq
    split at hq
    · rename_i args' c
      split at hq
      · rename_i d x hd hx
        simp only [Option.some.injEq, Prod.mk.injEq] at hF hq
        obtain ⟨h1, h2⟩ := hF
        obtain ⟨h3, h4, h5⟩ := hq
        subst h1 h2 h4 h5
        refine hM _ [.box (.t b d)] _ _ (h d x h3) X w σ vs hfin ⟨fun j o hj => ?_, fun i j bb hij hi hj => hl.apart i j bb hij hi hj⟩ ?_
        · cases j with
          | zero =>
            simp only [List.getElem?_cons_zero, Option.some.injEq] at hj
            subst hj
            exact ⟨as_box hb hd (hl.at_ 0 _ rfl).1, by simp⟩
          | succ j => simp at hj
        · simp only [V.ds, Cs] at hc ⊢
          obtain ⟨u, us, rfl, q1, q2⟩ := hc
          exact ⟨u, us, rfl, q1, canon_cs hx q2⟩
      · cases hq
    · cases hq
  · cases hF
end

/-! ### The shape of a state at a loop -/
inductive SV where
  | ty (t : Ty)
  | ptr (k o : Nat)
  | ms (k : Nat)
inductive SO where
  | box (t : Ty)
  | bag (l : List SV)
  | arr (e : Nat) (t : Ty)
  | no
@[reducible] def SV.T : SV → Type
  | .ty t => t.T
  | .ptr _ _ => Unit
  | .ms _ => Unit
@[reducible] def SVt : List SV → Type
  | [] => Unit
  | s :: r => s.T × SVt r
@[reducible] def SO.T : SO → Type
  | .box t => t.T
  | .bag l => SVt l
  | .arr _ t => List t.T
  | .no => Unit
def SV.mk : (s : SV) → s.T → V
  | .ty t, x => .t t x
  | .ptr k o, _ => .ptr k o
  | .ms k, _ => .ms k
def mkVt : (l : List SV) → SVt l → List V
  | [], _ => []
  | s :: r, x => s.mk x.1 :: mkVt r x.2
def SO.mk : (s : SO) → s.T → VO
  | .box t, x => .box (.t t x)
  | .bag l, x => .box (.ag (mkVt l x))
  | .arr e t, l => .arr e t l
  | .no, _ => .no
def SV.rd : (s : SV) → V → Option s.T
  | .ty t, .t t' x => if h : t' = t then some (h ▸ x) else none
  | .ptr k o, .ptr k' o' => if k' = k ∧ o' = o then some () else none
  | .ms k, .ms k' => if k' = k then some () else none
  | _, _ => none
def rdVt : (l : List SV) → List V → Option (SVt l)
  | [], [] => some ()
  | s :: r, v :: vs => match s.rd v, rdVt r vs with
    | some x, some y => some (x, y)
    | _, _ => none
  | _, _ => none
def SO.rd : (s : SO) → VO → Option s.T
  | .box t, .box v => (SV.ty t).rd v
  | .bag l, .box (.ag vs) => rdVt l vs
  | .arr e t, .arr e' t' l => if h : t' = t then (if e' = e then some (h ▸ l) else none) else none
  | .no, .no => some ()
  | _, _ => none
theorem SV.rd_mk {s : SV} {v : V} {x : s.T} (h : s.rd v = some x) : v = s.mk x := by
  cases s with
  | ty t =>
    cases v with
    | t t' y =>
      simp only [SV.rd] at h
      split at h
      · rename_i ht
        subst ht
        simp only [Option.some.injEq] at h
        subst h
        rfl
      · cases h
    | _ => simp only [SV.rd] at h; cases h
  | ptr k o =>
    cases v with
    | ptr k' o' =>
      simp only [SV.rd] at h
      split at h
      · rename_i hk
        rw [hk.1, hk.2]
        rfl
      · cases h
    | _ => simp only [SV.rd] at h; cases h
  | ms k =>
    cases v with
    | ms k' =>
      simp only [SV.rd] at h
      split at h
      · rename_i hk
        rw [hk]
        rfl
      · cases h
    | _ => simp only [SV.rd] at h; cases h
theorem rdVt_mk : ∀ {l : List SV} {vs : List V} {x : SVt l}, rdVt l vs = some x → vs = mkVt l x
  | [], [], _, _ => rfl
  | [], _ :: _, _, h => by cases h
  | _ :: _, [], _, h => by cases h
  | s :: r, v :: vs, x, h => by
    simp only [rdVt] at h
    split at h
    · rename_i x1 y1 h1 h2
      simp only [Option.some.injEq] at h
      subst h
      rw [SV.rd_mk h1, rdVt_mk h2]
      rfl
    · cases h
theorem SO.rd_mk {s : SO} {v : VO} {x : s.T} (h : s.rd v = some x) : v = s.mk x := by
  cases s with
  | box t =>
    cases v with
    | box v =>
      simp only [SO.rd] at h
      have := SV.rd_mk h
      rw [this]
      rfl
    | _ => simp only [SO.rd] at h; cases h
  | bag l =>
    cases v with
    | box v =>
      cases v with
      | ag vs =>
        simp only [SO.rd] at h
        rw [rdVt_mk h]
        rfl
      | _ => simp only [SO.rd] at h; cases h
    | _ => simp only [SO.rd] at h; cases h
  | arr e t =>
    cases v with
    | arr e' t' l =>
      simp only [SO.rd] at h
      split at h
      · rename_i ht
        subst ht
        split at h
        · rename_i he
          simp only [Option.some.injEq] at h
          subst h
          rw [he]
          rfl
        · cases h
      · cases h
    | _ => simp only [SO.rd] at h; cases h
  | no =>
    cases v with
    | no => rfl
    | _ => simp only [SO.rd] at h; cases h
@[reducible] def SVs : List (Nat × SV) → Type
  | [] => Unit
  | (_, s) :: r => s.T × SVs r
@[reducible] def SOs : List (Nat × SO) → Type
  | [] => Unit
  | (_, s) :: r => s.T × SOs r
def mkVs : (l : List (Nat × SV)) → SVs l → List (Nat × V)
  | [], _ => []
  | (i, s) :: r, x => (i, s.mk x.1) :: mkVs r x.2
def mkOs : (l : List (Nat × SO)) → SOs l → List (Nat × VO)
  | [], _ => []
  | (i, s) :: r, x => (i, s.mk x.1) :: mkOs r x.2
def rdVs (f : Nat → V) : (l : List (Nat × SV)) → Option (SVs l)
  | [] => some ()
  | (i, s) :: r => match s.rd (f i), rdVs f r with
    | some x, some y => some (x, y)
    | _, _ => none
def rdOs (f : Nat → VO) : (l : List (Nat × SO)) → Option (SOs l)
  | [] => some ()
  | (i, s) :: r => match s.rd (f i), rdOs f r with
    | some x, some y => some (x, y)
    | _, _ => none
structure Sh where
  vs : List (Nat × SV)
  os : List (Nat × SO)
def SV.t? : SV → Option Ty
  | .ty t => some t
  | _ => none
def SO.t? : SO → Option Ty
  | .box t => some t
  | _ => none
def Sh.f (s : Sh) : Fg := ⟨s.vs.map fun p => (p.1, p.2.t?), s.os.map fun p => (p.1, p.2.t?)⟩
/-- a state of a shape -/
def Sh.st (s : Sh) (x : SVs s.vs) (y : SOs s.os) : VS := ⟨look (mkVs s.vs x), lookO (mkOs s.os y), s.os.map Prod.fst⟩
theorem nrm_mk {s : SV} {x : s.T} : nrmV s.t? (s.mk x) = s.mk x := by
  cases s with
  | ty t => simp only [SV.t?, SV.mk, nrmV, V.as, dite_true]
  | _ => rfl
theorem nrmO_mk {s : SO} {x : s.T} : nrmO s.t? (s.mk x) = s.mk x := by
  cases s with
  | box t =>
    simp only [SO.t?, SO.mk, nrmO, nrmV, V.as, dite_true]
    split <;> rfl
  | _ => rfl
theorem rdVs_mk {f : Nat → V} : ∀ {l : List (Nat × SV)} {x : SVs l}, rdVs f l = some x → (l.map fun p => (p.1, p.2.t?)).map (fun p => (p.1, nrmV p.2 (f p.1))) = mkVs l x
  | [], _, _ => rfl
  | (i, s) :: r, x, h => by
    simp only [rdVs] at h
    split at h
    · rename_i x1 y1 h1 h2
      simp only [Option.some.injEq] at h
      subst h
      simp only [List.map_cons, mkVs, SV.rd_mk h1, nrm_mk, rdVs_mk h2]
    · cases h
theorem rdOs_mk {f : Nat → VO} : ∀ {l : List (Nat × SO)} {x : SOs l}, rdOs f l = some x → (l.map fun p => (p.1, p.2.t?)).map (fun p => (p.1, nrmO p.2 (f p.1))) = mkOs l x
  | [], _, _ => rfl
  | (i, s) :: r, x, h => by
    simp only [rdOs] at h
    split at h
    · rename_i x1 y1 h1 h2
      simp only [Option.some.injEq] at h
      subst h
      simp only [List.map_cons, mkOs, SO.rd_mk h1, nrmO_mk, rdOs_mk h2]
    · cases h
/-- what is said of a loop: under the condition ok, the ways out -/
def mkL (s : Sh) (ok : SVs s.vs → SOs s.os → Bool) (alts : SVs s.vs → SOs s.os → List (Bool × Exit × VS)) (S : VS) : Option (Bool × List (Bool × Exit × VS)) :=
  match rdVs S.ts s.vs, rdOs S.st s.os with
  | some x, some y => some (ok x y, alts x y)
  | _, _ => none
theorem lok_of {g : G} {s : Sh} {f : Fg} {a : TC} {ok : SVs s.vs → SOs s.os → Bool} {alts : SVs s.vs → SOs s.os → List (Bool × Exit × VS)} (hok : f.ok) (hf : f = s.f) (h : ∀ x y, ok x y = true → ∀ p, pickA (alts x y) = some p → loopF (roundF g f a) (s.st x y) = some p) :
    ∀ S l p, mkL s ok alts (fgt f S) = some (true, l) → pickA l = some p → loopF (roundF g f a) S = some p := by
  intro S l p hL hp
  unfold mkL at hL
  split at hL
  · rename_i x y hx hy
    simp only [Option.some.injEq, Prod.mk.injEq] at hL
    obtain ⟨h1, rfl⟩ := hL
    rw [loopF_fgt hok]
    have e1 := rdVs_mk hx
    have e2 := rdOs_mk hy
    have : fgt f S = s.st x y := by
      rw [← fgt_fgt hok S]
      have e3 : (fgt f S).ts = (fgt f S).ts := rfl
      generalize fgt f S = T at e1 e2
      subst hf
      unfold fgt Sh.st
      simp only [Sh.f]
      rw [e1, e2]
      simp only [List.map_map]
      rfl
    rw [this]
    exact h x y h1 p hp
  · cases hL
def Ls (l : List (VS → Option (Bool × List (Bool × Exit × VS)))) (j : Nat) (S : VS) : Option (Bool × List (Bool × Exit × VS)) :=
  match l[j]? with
  | some F => F S
  | none => none

/-- behind a round: the next one, or the way out -/
def nxt (f : VS → Option (Exit × VS)) : Option (Exit × VS) → Option (Exit × VS)
  | some (.normal, S) => f S
  | x => x
theorem loopF_nxt (b : VS → Option (Exit × VS)) (S : VS) : loopF b S = nxt (loopF b) (b S) := by
  rw [loopF_eq]
  cases b S with
  | none => rfl
  | some x =>
    obtain ⟨e, S'⟩ := x
    cases e <;> rfl
theorem nxt_br {f : VS → Option (Exit × VS)} {q : Bool} {a b : Option (Exit × VS)} : nxt f (br q a b) = br q (nxt f a) (nxt f b) := by cases q <;> rfl
theorem nxt_n {f : VS → Option (Exit × VS)} {S : VS} : nxt f (some (.normal, S)) = f S := rfl
theorem nxt_r {f : VS → Option (Exit × VS)} {S : VS} : nxt f (some (.ret, S)) = some (.ret, S) := rfl
theorem nxt_e {f : VS → Option (Exit × VS)} {S : VS} {i : Nat} : nxt f (some (.exit i, S)) = some (.exit i, S) := rfl
theorem nxt_0 {f : VS → Option (Exit × VS)} : nxt f none = none := rfl
theorem pickA_br {q q2 : Bool} {e e2 : Exit} {S S2 : VS} {l : List (Bool × Exit × VS)} : pickA ((q, e, S) :: (q2, e2, S2) :: l) = br q (some (e, S)) (pickA ((q2, e2, S2) :: l)) := by cases q <;> rfl
theorem pickA_one {q : Bool} {e : Exit} {S : VS} : pickA [(q, e, S)] = some (e, S) := rfl
theorem br_true {β : Type} {a b : Option β} : br true a b = a := rfl
theorem br_false {β : Type} {a b : Option β} : br false a b = b := rfl

/-! ### Words of the short texts -/
abbrev iadd (k : IntKind) (a b : Int) : Int := k.wrap (a + b)
abbrev isub (k : IntKind) (a b : Int) : Int := k.wrap (a - b)
abbrev imul (k : IntKind) (a b : Int) : Int := k.wrap (a * b)
abbrev iquo (k : IntKind) (a b : Int) : Int := k.wrap (a.tdiv b)
abbrev irem (a b : Int) : Int := a.tmod b
abbrev ineg (k : IntKind) (a : Int) : Int := k.wrap (0 - a)
abbrev icv (k : IntKind) (a : Int) : Int := k.wrap a
abbrev imx (a b : Int) : Int := if b > a then b else a
abbrev imn (a b : Int) : Int := if b < a then b else a
abbrev ieq (a b : Int) : Bool := a == b
abbrev ine (a b : Int) : Bool := a != b
abbrev ilt (a b : Int) : Bool := decide (a < b)
abbrev ile (a b : Int) : Bool := decide (a ≤ b)
abbrev igt (a b : Int) : Bool := decide (a > b)
abbrev ige (a b : Int) : Bool := decide (a ≥ b)
abbrev seq (a b : ByteArray) : Bool := a.toList == b.toList
abbrev sne (a b : ByteArray) : Bool := !(a.toList == b.toList)
abbrev beqq (a b : Bool) : Bool := a == b
abbrev bneq (a b : Bool) : Bool := !(a == b)
abbrev cNz (b : Int) : Bool := decide (b ≠ 0)
abbrev cIx {α : Type} (l : List α) (j : Int) : Bool := decide (0 ≤ j ∧ j < (l.length : Nat))
abbrev cSx (z : ByteArray) (j : Int) : Bool := decide (0 ≤ j ∧ j < (z.size : Nat))
abbrev cSl {α : Type} (l : List α) (a h m : Int) : Bool := decide (0 ≤ a ∧ a ≤ h ∧ h ≤ m ∧ m ≤ (l.length : Nat))
abbrev cSs (z : ByteArray) (a h : Int) : Bool := decide (0 ≤ a ∧ a ≤ h ∧ h ≤ (z.size : Nat))
abbrev cApp {α : Type} (l l2 : List α) (bytes : Nat) : Bool := decide ((l.length + l2.length) * (bytes + 1) ≤ 140737488355328)
abbrev cLd {α : Type} (l : List α) (i : Nat) : Bool := decide (i < l.length)
abbrev cCat (a b : ByteArray) : Bool := decide (((a.size + b.size : Nat) : Int) ≤ 9223372036854775807)
abbrev lgt (y : Ty) (l : List y.T) (j : Nat) : y.T := l.getD j y.zero
abbrev lsl {α : Type} (l : List α) (a h : Int) : List α := (l.drop a.toNat).take (h.toNat - a.toNat)
abbrev llen {α : Type} (l : List α) : Int := ((l.length : Nat) : Int)
abbrev slen (z : ByteArray) : Int := ((z.size : Nat) : Int)
abbrev sgt (z : ByteArray) (j : Int) : Int := (((z.data.toList.getD j.toNat 0).toNat : Nat) : Int)
abbrev ssl (z : ByteArray) (a h : Int) : ByteArray := z.extract a.toNat h.toNat
abbrev scat (a b : ByteArray) : ByteArray := a ++ b
end Go.Proofs.Ytnimpcffagidoaa.K
