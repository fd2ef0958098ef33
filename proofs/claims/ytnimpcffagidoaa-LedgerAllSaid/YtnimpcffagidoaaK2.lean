/-
  The operations of a function in short ('AO'), what they do to values without addresses, and that they do so.
-/
import Derived.Test.YtnimpcffagidoaaK1
namespace Go.Proofs.Ytnimpcffagidoaa.K
open Go.RowKit
set_option linter.unusedSimpArgs false
set_option linter.unusedVariables false

/-- an operand: a slot, or a constant -/
inductive AX where
  | t (i : Nat)
  | c (d : D)
  deriving Inhabited

/-- an operand's value, and what must hold for it to be known -/
def AX.val (ts : List D) : AX → Option (D × Prop)
  | .t i => match ts[i]? with
    | some (.gd p d) => some (d, p = true)
    | some .any => none
    | some d => some (d, True)
    | none => none
  | .c d => some (d, True)

inductive AO where
  | mv (x : AX)
  | pick (c a b : AX)
  | fa (off : Nat) (x : AX)
  | fd (agg : Bool) (off n : Nat) (x : AX)
  | ix (sz : Nat) (x i : AX)
  | sx (x i : AX)
  | bin (bl : Bool) (op : BinOp) (x y : AX)
  | nc (x : AX)
  | nt (x : AX)
  | ng (x : AX)
  | cv (k : IntKind) (x : AX)
  | ext (i : Nat) (x : AX)
  | len (str : Bool) (x : AX)
  | mx (x y : AX)
  | mn (x y : AX)
  | eqs (neg : Bool) (ks : List Nat) (x y : AX)
  | slc (sz : Nat) (x : AX) (lo hi mx : Option AX)
  | sls (x : AX) (lo hi : Option AX)
  | bd (init : List D) (parts : List (Nat × Nat × AX))
  | lde (agg : Bool) (n : Nat) (x : AX)

def trX : Operand → Option AX
  | .tmp t => some (.t t)
  | .const v => if v.oneCell' then some (.c (.v v)) else none
  | .global g => some (.c (.v (.pointer (some ⟨g, 0, none⟩))))
  | .func f => some (.c (.v (.func (.func f) #[] #[])))

section
variable {X : Nat → Nat → Prop} {w : World} {σ : Pl} {ts : List D} {us : List Value}
theorem C.notgd {d : D} {u : Value} (h : C X w σ d u) : ∀ p d', d = .gd p d' → p = true → C X w σ d' u := by
  rintro p d' rfl
  simp only [C] at h
  exact h.1
theorem val_sound {o : Operand} {x : AX} {d : D} {φ : Prop} (hx : trX o = some x) (hv : x.val ts = some (d, φ)) (hc : Cs X w σ ts us) (hφ : φ) : C X w σ d (Act.eval ⟨us.toArray, []⟩ o) := by
  cases o with
  | tmp t =>
    simp only [trX, Option.some.injEq] at hx
    subst hx
    simp only [AX.val] at hv
    cases ht : ts[t]? with
    | none => simp [ht] at hv
    | some e =>
      obtain ⟨u, hu, hcu⟩ := hc.at_ ht
      have he : Act.eval ⟨us.toArray, []⟩ (.tmp t) = u := by simp [Act.eval, hu]
      rw [he]
      rw [ht] at hv
      cases e <;> simp at hv <;> obtain ⟨rfl, hq⟩ := hv <;> first | exact hcu | (simp only [C] at hcu; exact hcu.1 (by simpa [hq] using hφ))
  | const v =>
    simp only [trX] at hx
    split at hx
    · rename_i h1
      simp only [Option.some.injEq] at hx
      subst hx
      simp only [AX.val, Option.some.injEq, Prod.mk.injEq] at hv
      obtain ⟨rfl, _⟩ := hv
      simp only [C]
      exact ⟨rfl, h1⟩
    · simp at hx
  | global g =>
    simp only [trX, Option.some.injEq] at hx
    subst hx
    simp only [AX.val, Option.some.injEq, Prod.mk.injEq] at hv
    obtain ⟨rfl, _⟩ := hv
    simp only [C]
    exact ⟨rfl, rfl⟩
  | func f =>
    simp only [trX, Option.some.injEq] at hx
    subst hx
    simp only [AX.val, Option.some.injEq, Prod.mk.injEq] at hv
    obtain ⟨rfl, _⟩ := hv
    simp only [C]
    exact ⟨rfl, rfl⟩
end

def isRow : TypeDesc → Bool
  | .struct _ | .array _ _ => true
  | _ => false
def Program.rowed (P : Program) (t : TypeId) : Option Bool := (P.underlying t).map isRow

/-- the parts of a literal: place, size, operand -/
def trParts (place : Nat → Option (Nat × Nat)) : List (Nat × Operand) → Option (List (Nat × Nat × AX))
  | [] => some []
  | (i, x) :: r => match place i, trX x, trParts place r with
    | some (off, sz), some ax, some l => some ((off, sz, ax) :: l)
    | _, _, _ => none
def initD (z : Value) : Option (List D) := if z.cells.toList.all (·.oneCell') then some (z.cells.toList.map D.v) else none
/-- the places of a struct's fields, of an array's elements -/
def placesOf (P : Program) (t : TypeId) : Option (Nat → Option (Nat × Nat)) :=
  match P.underlying t with
  | some (.struct fs) => match fs.toList.mapM (fun f => (P.info? f.type).map fun i => (f.offset, i.size)) with
    | some places => some (places.toArray[·]?)
    | none => none
  | some (.array _ e) => match P.info? e with
    | some ie => some (fun i => some (i * ie.size, ie.size))
    | none => none
  | _ => none

/-- the kinds of the cells of a type that is compared cell by cell: 0 an integer, 1 a bool, 2 a string -/
def flatF (P : Program) (fl : TypeId → Option (List Nat)) : List Field → Nat → Option (List Nat)
  | [], _ => some []
  | f :: r, off => if f.name ≠ "_" ∧ f.offset = off then match fl f.type, P.info? f.type, flatF P fl r (off + ((P.info? f.type).map (·.size)).getD 0) with
    | some ks, some inf, some l => if inf.size = ks.length then some (ks ++ l) else none
    | _, _, _ => none
    else none
def flat (P : Program) : Nat → TypeId → Option (List Nat)
  | 0, _ => none
  | n + 1, t => match P.underlying t with
    | some (.int _) => some [0]
    | some .bool => some [1]
    | some .string => some [2]
    | some (.struct fs) => if P.stoodInHeld t then none else flatF P (flat P n) fs.toList 0
    | _ => none
/-- an operand that may be missing -/
def trO : Option Operand → Option (Option AX)
  | none => some none
  | some x => (trX x).map some

def trCall (P : Program) (c : Call) : Option AO :=
  match c.callee with
  | .builtin .len => match c.args.toList, c.argTypes.toList with
    | [x], [t] => match P.underlying t, trX x with
      | some .string, some x => some (.len true x)
      | some (.slice _), some x => some (.len false x)
      | _, _ => none
    | _, _ => none
  | .builtin .max => match c.args.toList with
    | [x, y] => match trX x, trX y with
      | some x, some y => some (.mx x y)
      | _, _ => none
    | _ => none
  | .builtin .min => match c.args.toList with
    | [x, y] => match trX x, trX y with
      | some x, some y => some (.mn x y)
      | _, _ => none
    | _ => none
  | _ => none

def tr (P : Program) (o : Op) : Option AO :=
  match o with
  | .move x | .assign x => (trX x).map .mv
  | .pick c a b => match trX c, trX a, trX b with
    | some c, some a, some b => some (.pick c a b)
    | _, _, _ => none
  | .fieldAddr s x f => match P.underlying s, trX x with
    | some (.struct fs), some x => match fs[f]? with
      | some fd => match P.info? fd.type with
        | some inf => if inf.size = 0 then none else some (.fa fd.offset x)
        | none => none
      | none => none
    | _, _ => none
  | .field s x f => match P.underlying s, trX x with
    | some (.struct fs), some x => match fs[f]? with
      | some fd => match P.info? fd.type, P.underlying fd.type with
        | some inf, some d => some (.fd (isRow d) fd.offset inf.size x)
        | _, _ => none
      | none => none
    | _, _ => none
  | .indexAddr t x i => match P.underlying t, trX x, trX i with
    | some (.slice e), some x, some i => (P.info? e).map fun inf => .ix inf.size x i
    | some (.array n e), some x, some (.c (.v (.int _ j))) => match P.info? e with
      | some inf => if inf.size = 0 then none else if 0 ≤ j ∧ j < n then some (.fa (j.toNat * inf.size) x) else none
      | none => none
    | _, _, _ => none
  | .index t x i => match P.underlying t, trX x, trX i with
    | some .string, some x, some i => some (.sx x i)
    | _, _, _ => none
  | .binOp op t x y _ => match P.underlying t, trX x, trX y with
    | some (.int _), some x, some y => some (.bin false op x y)
    | some .string, some x, some y => some (.bin false op x y)
    | some .bool, some x, some y => some (.bin true op x y)
    | some (.struct _), some x, some y => match op with
      | .eql => if P.eqGuardType P.depth t then none else (flat P 8 t).map fun ks => .eqs false ks x y
      | .neq => if P.eqGuardType P.depth t then none else (flat P 8 t).map fun ks => .eqs true ks x y
      | _ => none
    | _, _, _ => none
  | .nilCheck x => (trX x).map .nc
  | .unOp .not _ x => (trX x).map .nt
  | .unOp .neg _ x => (trX x).map .ng
  | .convert s d x => match P.underlying s, P.underlying d, trX x with
    | some _, some (.int k), some x => some (.cv k x)
    | _, _, _ => none
  | .extract x i => (trX x).map (.ext i)
  | .load t x => match P.underlying t, P.info? t, trX x with
    | some d, some inf, some x => some (.lde (isRow d) inf.size x)
    | _, _, _ => none
  | .slice t x lo hi mx => match P.underlying t, trX x, trO lo, trO hi, trO mx with
    | some (.slice e), some x, some lo, some hi, some mx => if mx.isSome && hi.isNone then none else (P.info? e).map fun i => .slc i.size x lo hi mx
    | some .string, some x, some lo, some hi, some none => some (.sls x lo hi)
    | _, _, _, _, _ => none
  | .build t parts => match placesOf P t, (P.info? t).bind (·.zero) with
    | some pl, some z => match trParts pl parts.toList, initD z with
      | some l, some i => some (.bd i l)
      | _, _ => none
    | _, _ => none
  | .call c => trCall P c
  | _ => none

/-- two plain values under an operator -/
def binI (k : IntKind) (a b : Int) : BinOp → Option (Value × Prop)
  | .add => some (.int k (k.wrap (a + b)), True)
  | .sub => some (.int k (k.wrap (a - b)), True)
  | .mul => some (.int k (k.wrap (a * b)), True)
  | .quo => some (.int k (k.wrap (a.tdiv b)), b ≠ 0)
  | .rem => some (.int k (a.tmod b), b ≠ 0)
  | .eql => some (.bool (a == b), True)
  | .neq => some (.bool (a != b), True)
  | .lss => some (.bool (decide (a < b)), True)
  | .leq => some (.bool (decide (a ≤ b)), True)
  | .gtr => some (.bool (decide (a > b)), True)
  | .geq => some (.bool (decide (a ≥ b)), True)
  | _ => none
def binS (a b : ByteArray) : BinOp → Option (Value × Prop)
  | .eql => some (.bool (a.toList == b.toList), True)
  | .neq => some (.bool (!(a.toList == b.toList)), True)
  | .add => some (.string (a ++ b), ((a.size + b.size : Nat) : Int) ≤ 9223372036854775807)
  | _ => none
def binB (a b : Bool) : BinOp → Option (Value × Prop)
  | .eql => some (.bool (a == b), True)
  | .neq => some (.bool (!(a == b)), True)
  | _ => none
def binV (bl : Bool) (op : BinOp) : Value → Value → Option (Value × Prop)
  | .int k a, .int k' b => if k = k' then binI k a b op else none
  | .string a, .string b => binS a b op
  | .bool a, .bool b => if bl then binB a b op else none
  | _, _ => none

/-- what a value that is one cell, or a struct, has for cells -/
def D.cells : D → List D
  | .ag cs => cs
  | d => [d]
/-- a value that is one cell -/
def D.cell1 : D → Bool
  | .v _ | .sl _ _ | .bx _ _ | .el _ | .ms _ | .ba _ _ | .fn _ _ | .ifc _ _ => true
  | _ => false
def D.cellable : D → Bool
  | .ag cs => cs.all D.cell1
  | d => d.cell1
/-- cells written into a list from a place on -/
def setFrom {α : Type} (cs : List α) : Nat → List α → List α
  | _, [] => cs
  | o, v :: r => setFrom (cs.set o v) (o + 1) r
/-- the parts of a literal are laid into its cells -/
def fillD (ts : List D) (cells : List D) : List (Nat × Nat × AX) → Option (List D × Prop)
  | [] => some (cells, True)
  | (off, sz, x) :: r => match x.val ts with
    | some (d, φ) => match fillD ts (setFrom cells off d.cells) r with
      | some (cs, ψ) => some (cs, (φ ∧ d.cellable = true ∧ d.cells.length = sz ∧ off + sz ≤ cells.length) ∧ ψ)
      | none => none
    | none => none

def eqK : Nat → D → D → Option Bool
  | 0, .v (.int k a), .v (.int k' b) => if k = k' then some (a == b) else none
  | 1, .v (.bool a), .v (.bool b) => some (a == b)
  | 2, .v (.string a), .v (.string b) => some (a.toList == b.toList)
  | _, _, _ => none
def eqKs : List Nat → List D → List D → Option Bool
  | [], [], [] => some true
  | k :: ks, x :: xs, y :: ys => match eqK k x y, eqKs ks xs ys with
    | some a, some b => some (a && b)
    | _, _ => none
  | _, _, _ => none
/-- a bound of a slice expression: its value, and that it lies between two others -/
def bndD (ts : List D) (dflt : Int) : Option AX → Option (Int × Prop)
  | none => some (dflt, True)
  | some x => match x.val ts with
    | some (.v (.int _ j), φ) => some (j, φ)
    | _ => none
def pickV (p : Bool) : Value → Value → Option Value
  | .bool a, .bool b => some (.bool (bif p then a else b))
  | _, _ => none


def AO.ev (ts : List D) : AO → Option (D × Prop)
  | .mv x => x.val ts
  | .pick c a b => match c.val ts with
    | some (.v (.bool p), φ) => match a.val ts, b.val ts with
      | some (.v a, α), some (.v b, β) => (pickV p a b).map fun r => (.v r, φ ∧ (p = true → α) ∧ (p = false → β))
      | _, _ => none
    | _ => none
  | .fa off x => match x.val ts with
    | some (.bx k o, φ) => some (.bx k (o + off), φ)
    | some (.ba k o, φ) => some (.ba k (o + off), φ)
    | some (.v (.pointer (some ⟨b, o, none⟩)), φ) => some (.v (.pointer (some ⟨b, o + off, none⟩)), φ)
    | some (.el cs, φ) => some (.el (cs.drop off), φ)
    | _ => none
  | .fd false off _ x => match x.val ts with
    | some (.ag cs, φ) => match cs[off]? with
      | some d => some (d, φ)
      | none => none
    | _ => none
  | .fd true off n x => match x.val ts with
    | some (.ag cs, φ) => some (.ag ((cs.drop off).take n), φ)
    | _ => none
  | .ix sz x i => match x.val ts, i.val ts with
    | some (.sl n cs, φ), some (.v (.int _ j), ψ) => some (.el (cs.drop (j.toNat * sz)), φ ∧ ψ ∧ 0 ≤ j ∧ j < n)
    | _, _ => none
  | .sx x i => match x.val ts, i.val ts with
    | some (.v (.string s), φ), some (.v (.int _ j), ψ) => some (.v (.int .u8 ((s.data.toList.getD j.toNat 0).toNat : Nat)), φ ∧ ψ ∧ 0 ≤ j ∧ j < s.size)
    | _, _ => none
  | .bin bl op x y => match x.val ts, y.val ts with
    | some (.v a, φ), some (.v b, ψ) => match binV bl op a b with
      | some (r, χ) => some (.v r, φ ∧ ψ ∧ χ)
      | none => none
    | _, _ => none
  | .nc x => match x.val ts with
    | some (.bx k o, φ) => some (.bx k o, φ)
    | some (.ba k o, φ) => some (.ba k o, φ)
    | some (.v (.pointer (some a)), φ) => some (.v (.pointer (some a)), φ)
    | _ => none
  | .nt x => match x.val ts with
    | some (.v (.bool b), φ) => some (.v (.bool !b), φ)
    | _ => none
  | .ng x => match x.val ts with
    | some (.v (.int k n), φ) => some (.v (.int k (k.wrap (0 - n))), φ)
    | _ => none
  | .cv k x => match x.val ts with
    | some (.v (.int _ n), φ) => some (.v (.int k (k.wrap n)), φ)
    | _ => none
  | .ext i x => match x.val ts with
    | some (.tu ds, φ) => match ds[i]? with
      | some d => some (d, φ)
      | none => none
    | _ => none
  | .len false x => match x.val ts with
    | some (.sl n _, φ) => some (.v (.int .i64 (n : Int)), φ)
    | some (.v (.slice _ n _), φ) => some (.v (.int .i64 (n : Int)), φ)
    | _ => none
  | .len true x => match x.val ts with
    | some (.v (.string s), φ) => some (.v (.int .i64 (s.size : Int)), φ)
    | _ => none
  | .mx x y => match x.val ts, y.val ts with
    | some (.v (.int k a), φ), some (.v (.int k' b), ψ) => if k = k' then some (.v (.int k (if b > a then b else a)), φ ∧ ψ) else none
    | _, _ => none
  | .mn x y => match x.val ts, y.val ts with
    | some (.v (.int k a), φ), some (.v (.int k' b), ψ) => if k = k' then some (.v (.int k (if b < a then b else a)), φ ∧ ψ) else none
    | _, _ => none
  | .eqs neg ks x y => match x.val ts, y.val ts with
    | some (.ag xs, φ), some (.ag ys, ψ) => match eqKs ks xs ys with
      | some b => some (.v (.bool (if neg then !b else b)), φ ∧ ψ)
      | none => none
    | _, _ => none
  | .slc sz x lo hi top => match x.val ts with
    | some (.sl n cs, φ) => match bndD ts 0 lo, bndD ts n hi, bndD ts n top with
      | some (l, ψ1), some (h, ψ2), some (m, ψ3) => some (.sl (h.toNat - l.toNat) ((cs.drop (l.toNat * sz)).take ((h.toNat - l.toNat) * sz)), φ ∧ ψ1 ∧ ψ2 ∧ ψ3 ∧ 0 ≤ l ∧ l ≤ h ∧ h ≤ m ∧ m ≤ n)
      | _, _, _ => none
    | some (.v (.slice none 0 0), φ) => match bndD ts 0 lo, bndD ts 0 hi, bndD ts 0 top with
      | some (l, ψ1), some (h, ψ2), some (m, ψ3) => some (.v (.slice none 0 0), φ ∧ ψ1 ∧ ψ2 ∧ ψ3 ∧ l = 0 ∧ h = 0 ∧ m = 0)
      | _, _, _ => none
    | _ => none
  | .sls x lo hi => match x.val ts with
    | some (.v (.string s), φ) => match bndD ts 0 lo, bndD ts s.size hi with
      | some (l, ψ1), some (h, ψ2) => some (.v (.string (s.extract l.toNat h.toNat)), φ ∧ ψ1 ∧ ψ2 ∧ 0 ≤ l ∧ l ≤ h ∧ h ≤ s.size)
      | _, _ => none
    | _ => none
  | .bd init parts => match fillD ts init parts with
    | some (cs, φ) => some (.ag cs, φ)
    | none => none
  | .lde agg n x => match x.val ts with
    | some (.el cs, φ) => if agg then some (.ag (cs.take n), φ ∧ n ≤ cs.length) else match cs with
      | d :: _ => some (d, φ)
      | [] => none
    | _ => none

def D.val? : D → Option Value
  | .v x => some x
  | _ => none

section
variable {P : Program} {X : Nat → Nat → Prop} {w : World} {σ : Pl} {ts : List D} {us : List Value}
theorem C.v {x u : Value} (h : C X w σ (.v x) u) : u = x ∧ x.oneCell' = true := by simpa only [C] using h
theorem C.mkv {x : Value} (h : x.oneCell' = true) : C X w σ (.v x) x := by simp only [C]; exact ⟨trivial, h⟩

end
/-- the statement of soundness at one operation -/
def Sound (P : Program) (X : Nat → Nat → Prop) (w : World) (σ : Pl) (ts : List D) (us : List Value) (op : Op) : Prop :=
  ∀ (ao : AO) (d : D) (φ : Prop) (dst : Option Tmp) (ty : TypeId) (pos : String) (after : Array Edge) (guard : Option (Nat × Bool)), tr P op = some ao → ao.ev ts = some (d, φ) → φ → Cs X w σ ts us →
    ∃ u, (execOp (Act.eval ⟨us.toArray, []⟩) ⟨dst, op, ty, pos, after, guard⟩).run P w = .ok (.value u) w ∧ C X w σ d u
section
variable {P : Program} {X : Nat → Nat → Prop} {w : World} {σ : Pl} {ts : List D} {us : List Value}
theorem sound_move (x : Operand) : Sound P X w σ ts us (.move x) := by
  intro ao d φ dst ty pos after guard ht he hφ hc
  simp only [tr, Option.map_eq_some_iff] at ht
  obtain ⟨ax, hx, rfl⟩ := ht
  exact ⟨_, by simp [execOp], val_sound hx he hc hφ⟩
theorem sound_assign (x : Operand) : Sound P X w σ ts us (.assign x) := by
  intro ao d φ dst ty pos after guard ht he hφ hc
  simp only [tr, Option.map_eq_some_iff] at ht
  obtain ⟨ax, hx, rfl⟩ := ht
  exact ⟨_, by simp [execOp], val_sound hx he hc hφ⟩
theorem sound_pick (c a b : Operand) : Sound P X w σ ts us (.pick c a b) := by
  intro ao d φ dst ty pos after guard ht he hφ hc
  simp only [tr] at ht
  cases hc1 : trX c <;> cases hc2 : trX a <;> cases hc3 : trX b <;> simp only [hc1, hc2, hc3, reduceCtorEq, Option.some.injEq] at ht
  subst ht
  rename_i xc xa xb
  simp only [AO.ev] at he
  split at he
  · rename_i p α hp
    split at he
    · rename_i va β vb γ ha hb
      simp only [Option.map_eq_some_iff, Prod.mk.injEq] at he
      obtain ⟨r, hr, rfl, rfl⟩ := he
      have k1 := C.v (val_sound hc1 hp hc hφ.1)
      cases va <;> cases vb <;> simp only [pickV, reduceCtorEq, Option.some.injEq] at hr
      subst hr
      cases p
      · have k2 := C.v (val_sound hc3 hb hc (hφ.2.2 rfl))
        exact ⟨_, by simp [execOp, k1.1, k2.1, asBool], C.mkv rfl⟩
      · have k2 := C.v (val_sound hc2 ha hc (hφ.2.1 rfl))
        exact ⟨_, by simp [execOp, k1.1, k2.1, asBool], C.mkv rfl⟩
    · cases he
  · cases he
theorem sound_extract (x : Operand) (i : Nat) : Sound P X w σ ts us (.extract x i) := by
  intro ao d φ dst ty pos after guard ht he hφ hc
  simp only [tr, Option.map_eq_some_iff] at ht
  obtain ⟨ax, hx, rfl⟩ := ht
  simp only [AO.ev] at he
  split at he
  · rename_i ds ψ hv
    split at he
    · rename_i d' hd
      simp only [Option.some.injEq, Prod.mk.injEq] at he
      obtain ⟨rfl, rfl⟩ := he
      have k := val_sound hx hv hc hφ
      simp only [C] at k
      obtain ⟨vs, e1, e2⟩ := k
      obtain ⟨u, hu, hcu⟩ := e2.at_ hd
      exact ⟨u, by simp [execOp, e1, Instr.extract, hu], hcu⟩
    · cases he
  · cases he
theorem sound_nilCheck (x : Operand) : Sound P X w σ ts us (.nilCheck x) := by
  intro ao d φ dst ty pos after guard ht he hφ hc
  simp only [tr, Option.map_eq_some_iff] at ht
  obtain ⟨ax, hx, rfl⟩ := ht
  simp only [AO.ev] at he
  split at he
  · rename_i k o ψ hv
    simp only [Option.some.injEq, Prod.mk.injEq] at he
    obtain ⟨rfl, rfl⟩ := he
    have k1 := val_sound hx hv hc hφ
    have k2 := k1
    simp only [C] at k2
    obtain ⟨b, _, e⟩ := k2
    exact ⟨_, by simp [execOp, e], e ▸ k1⟩
  · rename_i k o ψ hv
    simp only [Option.some.injEq, Prod.mk.injEq] at he
    obtain ⟨rfl, rfl⟩ := he
    have k1 := val_sound hx hv hc hφ
    have k2 := k1
    simp only [C] at k2
    obtain ⟨s', b, _, _, e⟩ := k2
    exact ⟨_, by simp [execOp, e], e ▸ k1⟩
  · rename_i a ψ hv
    simp only [Option.some.injEq, Prod.mk.injEq] at he
    obtain ⟨rfl, rfl⟩ := he
    have k1 := val_sound hx hv hc hφ
    exact ⟨_, by simp [execOp, k1.v.1], C.mkv rfl⟩
  · cases he
theorem sound_un (op : UnOp) (t : TypeId) (x : Operand) : Sound P X w σ ts us (.unOp op t x) := by
  intro ao d φ dst ty pos after guard ht he hφ hc
  cases op <;> simp only [tr, Option.map_eq_some_iff, reduceCtorEq] at ht <;> obtain ⟨ax, hx, rfl⟩ := ht <;> simp only [AO.ev] at he <;> split at he
  · rename_i k n ψ hv
    simp only [Option.some.injEq, Prod.mk.injEq] at he
    obtain ⟨rfl, rfl⟩ := he
    have k1 := C.v (val_sound hx hv hc hφ)
    exact ⟨_, by simp [execOp, k1.1, Op.unary, Op.intArith], C.mkv rfl⟩
  · cases he
  · rename_i b ψ hv
    simp only [Option.some.injEq, Prod.mk.injEq] at he
    obtain ⟨rfl, rfl⟩ := he
    have k1 := C.v (val_sound hx hv hc hφ)
    exact ⟨_, by simp [execOp, k1.1, Op.unary], C.mkv rfl⟩
  · cases he
theorem sound_convert (s t : TypeId) (x : Operand) : Sound P X w σ ts us (.convert s t x) := by
  intro ao d φ dst ty pos after guard ht he hφ hc
  simp only [tr] at ht
  split at ht
  · rename_i d1 k ax h1 h2 hx
    simp only [Option.some.injEq] at ht
    subst ht
    simp only [AO.ev] at he
    split at he
    · rename_i k' n ψ hv
      simp only [Option.some.injEq, Prod.mk.injEq] at he
      obtain ⟨rfl, rfl⟩ := he
      have k1 := C.v (val_sound hx hv hc hφ)
      refine ⟨.int k (k.wrap n), ?_, C.mkv rfl⟩
      have hr : (convert s t (.int k' n)).run P w = .ok (.int k (k.wrap n)) w := by
        unfold convert
        simp only [Sem.run_bind, run_underlying h1, run_underlying h2, Result.andThen_ok, Conv.intToInt, Sem.run_pure]
      simp [execOp, k1.1, hr]
    · cases he
  · cases ht
theorem sound_fieldAddr (s : TypeId) (x : Operand) (f : Nat) : Sound P X w σ ts us (.fieldAddr s x f) := by
  intro ao d φ dst ty pos after guard ht he hφ hc
  simp only [tr] at ht
  split at ht
  · rename_i fs ax h1 hx
    split at ht
    · rename_i fd hf
      split at ht
      · rename_i inf hi
        split at ht
        · cases ht
        · rename_i hz
          simp only [Option.some.injEq] at ht
          subst ht
          have hadd : ∀ b o, (Addr.mk b o none).add fd.offset = ⟨b, o + fd.offset, none⟩ := fun b o => Addr.add_mid b o fd.offset
          have hr : ∀ b o, (Instr.fieldAt s (.pointer (some ⟨b, o, none⟩)) f).run P w = .ok (.pointer (some ⟨b, o + fd.offset, none⟩)) w := by
            intro b o
            simp [Instr.fieldAt, run_underlying h1, hf, Instr.sureAddr, fieldPlace, sizeOf, typeInfo, hi, hz, hadd]
          simp only [AO.ev] at he
          split at he
          · rename_i k o ψ hv
            simp only [Option.some.injEq, Prod.mk.injEq] at he
            obtain ⟨rfl, rfl⟩ := he
            have k1 := val_sound hx hv hc hφ
            simp only [C] at k1
            obtain ⟨b, e1, e2⟩ := k1
            refine ⟨_, by simp [execOp, e2, hr]; rfl, ?_⟩
            simp only [C]
            exact ⟨b, e1, rfl⟩
          · rename_i k o ψ hv
            simp only [Option.some.injEq, Prod.mk.injEq] at he
            obtain ⟨rfl, rfl⟩ := he
            have k1 := val_sound hx hv hc hφ
            simp only [C] at k1
            obtain ⟨s', b, e1, e0, e2⟩ := k1
            refine ⟨_, by simp [execOp, e2, hr]; rfl, ?_⟩
            simp only [C]
            exact ⟨s', b, e1, e0, rfl⟩
          · rename_i b o ψ hv
            simp only [Option.some.injEq, Prod.mk.injEq] at he
            obtain ⟨rfl, rfl⟩ := he
            have k1 := C.v (val_sound hx hv hc hφ)
            exact ⟨_, by simp [execOp, k1.1, hr], C.mkv rfl⟩
          · rename_i cs ψ hv
            simp only [Option.some.injEq, Prod.mk.injEq] at he
            obtain ⟨rfl, rfl⟩ := he
            have k1 := val_sound hx hv hc hφ
            simp only [C] at k1
            obtain ⟨b, o, vs, e1, e4, e5⟩ := k1
            refine ⟨_, by simp [execOp, e1, hr]; rfl, ?_⟩
            simp only [C]
            exact ⟨b, o + fd.offset, vs.drop fd.offset, rfl, e4.drop_ _, e5.drop_ _⟩
          · cases he
      · cases ht
    · cases ht
  · cases ht
theorem run_isAgg_of {t : TypeId} {dd : TypeDesc} (h : P.underlying t = some dd) : (isAgg t).run P w = .ok (isRow dd) w := by
  unfold isAgg
  rw [Sem.run_bind, run_underlying h]
  cases dd <;> simp [isRow]
theorem sound_field (s : TypeId) (x : Operand) (f : Nat) : Sound P X w σ ts us (.field s x f) := by
  intro ao d φ dst ty pos after guard ht he hφ hc
  simp only [tr] at ht
  split at ht
  · rename_i fs ax h1 hx
    split at ht
    · rename_i fd hf
      split at ht
      · rename_i inf dd hi hu
        simp only [Option.some.injEq] at ht
        subst ht
        cases hrow : isRow dd
        · rw [hrow] at he
          simp only [AO.ev] at he
          split at he
          · rename_i cs ψ hv
            split at he
            · rename_i d' hd
              simp only [Option.some.injEq, Prod.mk.injEq] at he
              obtain ⟨rfl, rfl⟩ := he
              have k1 := val_sound hx hv hc hφ
              simp only [C] at k1
              obtain ⟨vs, e1, e2⟩ := k1
              obtain ⟨u, hu', hcu⟩ := e2.at_ hd
              refine ⟨u, ?_, hcu⟩
              simp [execOp, e1, Instr.field, run_underlying h1, hf, asAgg, part, run_isAgg_of hu, hrow, hu']
            · cases he
          · cases he
        · rw [hrow] at he
          simp only [AO.ev] at he
          split at he
          · rename_i cs ψ hv
            simp only [Option.some.injEq, Prod.mk.injEq] at he
            obtain ⟨rfl, rfl⟩ := he
            have k1 := val_sound hx hv hc hφ
            simp only [C] at k1
            obtain ⟨vs, e1, e2⟩ := k1
            refine ⟨.agg ((vs.drop fd.offset).take inf.size).toArray, ?_, ?_⟩
            · simp [execOp, e1, Instr.field, run_underlying h1, hf, asAgg, part, run_isAgg_of hu, hrow, sizeOf, typeInfo, hi, List.take_drop]
            · simp only [C]
              exact ⟨_, rfl, (e2.drop_ _).take_ _⟩
          · cases he
      · cases ht
    · cases ht
  · cases ht
theorem sound_indexAddr (t : TypeId) (x i : Operand) : Sound P X w σ ts us (.indexAddr t x i) := by
  intro ao d φ dst ty pos after guard ht he hφ hc
  simp only [tr] at ht
  split at ht
  · rename_i e ax ai h1 hx hi
    simp only [Option.map_eq_some_iff] at ht
    obtain ⟨inf, hinf, rfl⟩ := ht
    simp only [AO.ev] at he
    split at he
    · rename_i n cs φ1 k j φ2 hv hj
      simp only [Option.some.injEq, Prod.mk.injEq] at he
      obtain ⟨rfl, rfl⟩ := he
      obtain ⟨p1, p2, p3, p4⟩ := hφ
      have k1 := val_sound hx hv hc p1
      have k2 := C.v (val_sound hi hj hc p2)
      simp only [C] at k1
      obtain ⟨A, c, e1, e2, e3, e4, e5⟩ := k1
      obtain ⟨b, o, vs, g1, g4, g5⟩ := e5 (by omega)
      subst g1
      refine ⟨.pointer (some ⟨b, o + j.toNat * inf.size, none⟩), ?_, ?_⟩
      · simp [execOp, e1, k2.1, Instr.indexAt, asIntOf, run_underlying h1, p3, p4, sizeOf, typeInfo, hinf, Addr.add_mid]
      · simp only [C]
        exact ⟨b, _, vs.drop (j.toNat * inf.size), rfl, g4.drop_ _, g5.drop_ _⟩
    · cases he
  · rename_i n e ax k j h1 hx hi
    split at ht
    · rename_i inf hinf
      split at ht
      · cases ht
      · split at ht
        · rename_i hz hj
          simp only [Option.some.injEq] at ht
          subst ht
          have hei : Act.eval ⟨us.toArray, []⟩ i = .int k j := by
            cases i <;> simp only [trX, Option.some.injEq, reduceCtorEq, AX.c.injEq, D.v.injEq] at hi
            · split at hi
              · simp only [Option.some.injEq, AX.c.injEq, D.v.injEq] at hi
                subst hi
                rfl
              · cases hi
          have hadd : ∀ b o, (Addr.mk b o none).add (j.toNat * inf.size) = ⟨b, o + j.toNat * inf.size, none⟩ := fun b o => Addr.add_mid b o _
          have hr : ∀ b o, (Instr.indexAt t (.pointer (some ⟨b, o, none⟩)) (.int k j)).run P w = .ok (.pointer (some ⟨b, o + j.toNat * inf.size, none⟩)) w := by
            intro b o
            simp [Instr.indexAt, asIntOf, run_underlying h1, Instr.sureAddr, hj.1, hj.2, sizeOf, typeInfo, hinf, hadd]
          simp only [AO.ev] at he
          split at he
          · rename_i k o ψ hv
            simp only [Option.some.injEq, Prod.mk.injEq] at he
            obtain ⟨rfl, rfl⟩ := he
            have k1 := val_sound hx hv hc hφ
            simp only [C] at k1
            obtain ⟨b, e1, e2⟩ := k1
            refine ⟨_, by simp [execOp, e2, hei, hr]; rfl, ?_⟩
            simp only [C]
            exact ⟨b, e1, rfl⟩
          · rename_i k o ψ hv
            simp only [Option.some.injEq, Prod.mk.injEq] at he
            obtain ⟨rfl, rfl⟩ := he
            have k1 := val_sound hx hv hc hφ
            simp only [C] at k1
            obtain ⟨s', b, e1, e0, e2⟩ := k1
            refine ⟨_, by simp [execOp, e2, hei, hr]; rfl, ?_⟩
            simp only [C]
            exact ⟨s', b, e1, e0, rfl⟩
          · rename_i b o ψ hv
            simp only [Option.some.injEq, Prod.mk.injEq] at he
            obtain ⟨rfl, rfl⟩ := he
            have k1 := C.v (val_sound hx hv hc hφ)
            exact ⟨_, by simp [execOp, k1.1, hei, hr], C.mkv rfl⟩
          · rename_i cs ψ hv
            simp only [Option.some.injEq, Prod.mk.injEq] at he
            obtain ⟨rfl, rfl⟩ := he
            have k1 := val_sound hx hv hc hφ
            simp only [C] at k1
            obtain ⟨b, o, vs, e1, e4, e5⟩ := k1
            refine ⟨_, by simp [execOp, e1, hei, hr]; rfl, ?_⟩
            simp only [C]
            exact ⟨b, o + j.toNat * inf.size, vs.drop (j.toNat * inf.size), rfl, e4.drop_ _, e5.drop_ _⟩
          · cases he
        · cases ht
    · cases ht
  · cases ht
theorem sound_index (t : TypeId) (x i : Operand) : Sound P X w σ ts us (.index t x i) := by
  intro ao d φ dst ty pos after guard ht he hφ hc
  simp only [tr] at ht
  split at ht
  · rename_i ax ai h1 hx hi
    simp only [Option.some.injEq] at ht
    subst ht
    simp only [AO.ev] at he
    split at he
    · rename_i s φ1 k j φ2 hv hj
      simp only [Option.some.injEq, Prod.mk.injEq] at he
      obtain ⟨rfl, rfl⟩ := he
      obtain ⟨p1, p2, p3, p4⟩ := hφ
      have k1 := C.v (val_sound hx hv hc p1)
      have k2 := C.v (val_sound hi hj hc p2)
      have hlt : j.toNat < s.size := by omega
      have hl2 : j.toNat < s.data.toList.length := by have : s.data.size = s.size := rfl; simpa using hlt
      have hg : s.data.toList.getD j.toNat 0 = s[j.toNat] := by
        rw [List.getD_eq_getElem?_getD, List.getElem?_eq_getElem hl2]
        rfl
      refine ⟨_, ?_, C.mkv rfl⟩
      rw [hg]
      simp [execOp, k1.1, k2.1, Instr.index, asIntOf, run_underlying h1, p3, hlt]
    · cases he
  · cases ht
theorem sound_load_el (t : TypeId) (x : Operand) : Sound P X w σ ts us (.load t x) := by
  intro ao d φ dst ty pos after guard ht he hφ hc
  simp only [tr] at ht
  split at ht
  · rename_i dd inf ax h1 hi hx
    simp only [Option.some.injEq] at ht
    subst ht
    simp only [AO.ev] at he
    split at he
    · rename_i cs ψ hv
      cases hrow : isRow dd
      · rw [hrow] at he
        simp only [Bool.false_eq_true, if_false] at he
        split at he
        · rename_i d' r hd
          simp only [Option.some.injEq, Prod.mk.injEq] at he
          obtain ⟨rfl, rfl⟩ := he
          have k1 := val_sound hx hv hc hφ
          simp only [C, Cs] at k1
          obtain ⟨b, o, vs, e1, ⟨u, us', rfl, h5, h6⟩, e5⟩ := k1
          refine ⟨u, ?_, C.up _ _ h5⟩
          have hc0 := e5.at_ 0 u (by simp)
          simp only [Nat.add_zero] at hc0
          simp [execOp, e1, Instr.loadAt, Instr.sureAddr, loadVar, run_isAgg_of h1, hrow, hc0]
        · cases he
      · rw [hrow] at he
        simp only [if_true, Option.some.injEq, Prod.mk.injEq] at he
        obtain ⟨rfl, rfl⟩ := he
        have k1 := val_sound hx hv hc hφ.1
        simp only [C] at k1
        obtain ⟨b, o, vs, e1, e4, e5⟩ := k1
        have hlen := e4.len
        have hrun := run_loadVar_mid (P := P) w b o t (vs.take inf.size) dd (e5.take_ _).at_ h1 (by cases dd <;> simp_all [isRow, TypeDesc.isRow]) (by simp [hi]; omega)
        refine ⟨_, by simp [execOp, e1, Instr.loadAt, Instr.sureAddr, hrun]; rfl, ?_⟩
        simp only [C]
        exact ⟨_, rfl, Cs.up _ _ (e4.take_ _)⟩
    · cases he
  · cases ht
theorem binV_one {bl : Bool} {op : BinOp} {a b r : Value} {χ : Prop} (h : binV bl op a b = some (r, χ)) : r.oneCell' = true := by
  unfold binV at h
  split at h
  · split at h
    · cases op <;> simp only [binI, Option.some.injEq, Prod.mk.injEq, reduceCtorEq] at h <;> (obtain ⟨rfl, _⟩ := h; rfl)
    · cases h
  · cases op <;> simp only [binS, Option.some.injEq, Prod.mk.injEq, reduceCtorEq] at h <;> (obtain ⟨rfl, _⟩ := h; rfl)
  · split at h
    · cases op <;> simp only [binB, Option.some.injEq, Prod.mk.injEq, reduceCtorEq] at h <;> (obtain ⟨rfl, _⟩ := h; rfl)
    · cases h
  · cases h
theorem equal_bool {t : TypeId} (a b : Bool) (ht : P.underlying t = some .bool) : (Op.equal t (.bool a) (.bool b)).run P w = .ok (a == b) w := run_equalIn_bool' w 9999 t a b ht
theorem binV_run {bl : Bool} {op : BinOp} {t : TypeId} {a b r : Value} {χ : Prop} (h : binV bl op a b = some (r, χ)) (hχ : χ) (hb : bl = true → P.underlying t = some .bool) : (binOp op t a b).run P w = .ok r w := by
  unfold binV at h
  split at h
  · split at h
    · rename_i k a k' b hk
      subst hk
      cases op <;> simp only [binI, Option.some.injEq, Prod.mk.injEq, reduceCtorEq] at h <;> (obtain ⟨rfl, rfl⟩ := h; first | (simp [binOp, Op.intArith, Op.intCmp]; done) | simp [binOp, Op.intDiv, hχ])
    · cases h
  · rename_i a b
    cases op <;> simp only [binS, Option.some.injEq, Prod.mk.injEq, reduceCtorEq] at h <;> (obtain ⟨rfl, rfl⟩ := h)
    · have h1 : ¬ IntKind.i64.max < ((a.size + b.size : Nat) : Int) := by
        have : IntKind.i64.max = 9223372036854775807 := by decide
        omega
      simp only [binOp, Op.stringOp]
      rw [if_neg (by exact h1)]
      rfl
    · simp [binOp, Op.stringOp]
    · simp [binOp, Op.stringOp]
  · rename_i a b
    split at h
    · rename_i hbl
      have ht := hb hbl
      cases op <;> simp only [binB, Option.some.injEq, Prod.mk.injEq, reduceCtorEq] at h <;> (obtain ⟨rfl, rfl⟩ := h; simp [binOp, equal_bool a b ht])
    · cases h
  · cases h
theorem bin_sound {bl : Bool} {op : BinOp} {t : TypeId} {x y : Operand} {ax ay : AX} {d : D} {φ : Prop} (hx : trX x = some ax) (hy : trX y = some ay) (he : (AO.bin bl op ax ay).ev ts = some (d, φ)) (hφ : φ) (hc : Cs X w σ ts us) (hb : bl = true → P.underlying t = some .bool)
    (dst : Option Tmp) (ty t2 : TypeId) (pos : String) (after : Array Edge) (guard : Option (Nat × Bool)) :
    ∃ u, (execOp (Act.eval ⟨us.toArray, []⟩) ⟨dst, .binOp op t x y t2, ty, pos, after, guard⟩).run P w = .ok (.value u) w ∧ C X w σ d u := by
  simp only [AO.ev] at he
  split at he
  · rename_i va φ1 vb φ2 hv hj
    split at he
    · rename_i r χ hbv
      simp only [Option.some.injEq, Prod.mk.injEq] at he
      obtain ⟨rfl, rfl⟩ := he
      obtain ⟨p1, p2, p3⟩ := hφ
      have k1 := C.v (val_sound hx hv hc p1)
      have k2 := C.v (val_sound hy hj hc p2)
      refine ⟨r, ?_, C.mkv (binV_one hbv)⟩
      have hg : (eqGuard op t x y va vb).run P w = .ok () w := by
        unfold eqGuard
        unfold binV at hbv
        split at hbv <;> first | (cases hbv; done) | (cases op <;> simp)
      simp only [execOp, k1.1, k2.1, Sem.run_bind, hg, Result.andThen_ok, binV_run hbv p3 hb, Sem.run_pure]
    · cases he
  · cases he

/-- cells compared, as values -/
def eqV : Nat → Value → Value → Option Bool
  | 0, .int k a, .int k' b => if k = k' then some (a == b) else none
  | 1, .bool a, .bool b => some (a == b)
  | 2, .string a, .string b => some (a.toList == b.toList)
  | _, _, _ => none
def eqVs : List Nat → List Value → List Value → Option Bool
  | [], [], [] => some true
  | k :: ks, x :: xs, y :: ys => match eqV k x y, eqVs ks xs ys with
    | some a, some b => some (a && b)
    | _, _ => none
  | _, _, _ => none
theorem eqVs_of : ∀ {ks : List Nat} {xs ys : List D} {us vs : List Value} {b : Bool}, eqKs ks xs ys = some b → Cs X w σ xs us → Cs X w σ ys vs → eqVs ks us vs = some b
  | [], [], [], us, vs, b, h, h1, h2 => by
    simp only [Cs] at h1 h2
    subst h1 h2
    simpa [eqKs, eqVs] using h
  | k :: ks, x :: xs, y :: ys, us, vs, b, h, h1, h2 => by
    simp only [Cs] at h1 h2
    obtain ⟨u, us', rfl, c1, c2⟩ := h1
    obtain ⟨v, vs', rfl, d1, d2⟩ := h2
    simp only [eqKs] at h
    split at h
    · rename_i a b' ha hb
      simp only [Option.some.injEq] at h
      subst h
      simp only [eqVs, eqVs_of hb c2 d2]
      have : eqV k u v = some a := by
        unfold eqK at ha
        split at ha
        · rw [c1.v.1, d1.v.1]; exact ha
        · rw [c1.v.1, d1.v.1]; exact ha
        · rw [c1.v.1, d1.v.1]; exact ha
        · cases ha
      rw [this]
    · cases h
  | [], _ :: _, _, _, _, _, h, _, _ => by simp [eqKs] at h
  | [], [], _ :: _, _, _, _, h, _, _ => by simp [eqKs] at h
  | _ :: _, [], _, _, _, _, h, _, _ => by simp [eqKs] at h
  | _ :: _, _ :: _, [], _, _, _, h, _, _ => by simp [eqKs] at h
theorem eqVs_split : ∀ {k1 k2 : List Nat} {us vs : List Value} {b : Bool}, eqVs (k1 ++ k2) us vs = some b → ∃ b1 b2, eqVs k1 (us.take k1.length) (vs.take k1.length) = some b1 ∧ eqVs k2 (us.drop k1.length) (vs.drop k1.length) = some b2 ∧ b = (b1 && b2)
  | [], k2, us, vs, b, h => ⟨true, b, by simp [eqVs], by simpa using h, by simp⟩
  | k :: k1, k2, u :: us, v :: vs, b, h => by
    simp only [List.cons_append, eqVs] at h
    split at h
    · rename_i a b' ha hb
      simp only [Option.some.injEq] at h
      subst h
      obtain ⟨b1, b2, h1, h2, rfl⟩ := eqVs_split hb
      exact ⟨a && b1, b2, by simp [eqVs, ha, h1], by simpa using h2, by rw [Bool.and_assoc]⟩
    · cases h
  | _ :: _, _, [], _, _, h => by simp [eqVs] at h
  | _ :: _, _, _ :: _, [], _, h => by simp [eqVs] at h
theorem eqVs_len : ∀ {ks : List Nat} {us vs : List Value} {b : Bool}, eqVs ks us vs = some b → us.length = ks.length ∧ vs.length = ks.length
  | [], [], [], _, _ => ⟨rfl, rfl⟩
  | k :: ks, u :: us, v :: vs, b, h => by
    simp only [eqVs] at h
    split at h
    · rename_i a b' _ hb
      have := eqVs_len hb
      simp only [List.length_cons]
      omega
    · cases h
  | [], _ :: _, _, _, h => by simp [eqVs] at h
  | [], [], _ :: _, _, h => by simp [eqVs] at h
  | _ :: _, [], _, _, h => by simp [eqVs] at h
  | _ :: _, _ :: _, [], _, h => by simp [eqVs] at h
/-- the value of a type that has these cells -/
def ofCells (row : Bool) (cs : List Value) : Value := if row then .agg cs.toArray else cs.getD 0 undef
theorem equal_flat : ∀ (n d : Nat) (t : TypeId) (dd : TypeDesc) (ks : List Nat) (us vs : List Value) (b : Bool), flat P n t = some ks → n ≤ d → P.underlying t = some dd → eqVs ks us vs = some b → (Op.equalIn d t (ofCells (isRow dd) us) (ofCells (isRow dd) vs)).run P w = .ok b w := by
  intro n
  induction n with
  | zero => intro d t dd ks us vs b h; simp [flat] at h
  | succ n ih =>
    intro d t dd ks us vs b h hd hu he
    obtain ⟨d, rfl⟩ : ∃ e, d = e + 1 := ⟨d - 1, by omega⟩
    simp only [flat, hu] at h
    have one : ∀ k, ks = [k] → ∃ u v, us = [u] ∧ vs = [v] ∧ eqV k u v = some b := by
      rintro k rfl
      have hl := eqVs_len he
      rcases us with _ | ⟨u, _ | _⟩ <;> rcases vs with _ | ⟨v, _ | _⟩ <;> simp at hl
      refine ⟨u, v, rfl, rfl, ?_⟩
      simp only [eqVs] at he
      split at he
      · rename_i a b' ha hb
        simp only [Option.some.injEq] at hb he
        rw [ha, ← he, ← hb, Bool.and_true]
      · cases he
    split at h
    · rename_i k hk
      simp only [Option.some.injEq] at hk h
      subst hk
      obtain ⟨u, v, rfl, rfl, hv⟩ := one 0 h.symm
      cases u <;> cases v <;> simp only [eqV, reduceCtorEq] at hv
      split at hv
      · rename_i hkk
        simp only [Option.some.injEq] at hv
        rw [← hv, hkk]
        exact run_equalIn_int w d t _ _ _ _ hu
      · cases hv
    · rename_i hk
      simp only [Option.some.injEq] at hk h
      subst hk
      obtain ⟨u, v, rfl, rfl, hv⟩ := one 1 h.symm
      cases u <;> cases v <;> simp only [eqV, reduceCtorEq, Option.some.injEq] at hv
      rw [← hv]
      exact run_equalIn_bool' w d t _ _ hu
    · rename_i hk
      simp only [Option.some.injEq] at hk h
      subst hk
      obtain ⟨u, v, rfl, rfl, hv⟩ := one 2 h.symm
      cases u <;> cases v <;> simp only [eqV, reduceCtorEq, Option.some.injEq] at hv
      rw [← hv]
      exact run_equalIn_string w d t _ _ hu
    · rename_i fs hk
      simp only [Option.some.injEq] at hk
      subst hk
      split at h
      · cases h
      · rename_i hp
        have hfs : P.fieldsOf t = fs := by simp [Program.fieldsOf, hu]
        have hrow : isRow (.struct fs) = true := rfl
        simp only [ofCells, hrow, if_true]
        rw [run_equalIn_agg w d t _ _ (by rw [hfs]; exact hu) (by simpa using hp), hfs]
        have key : ∀ (l : List Field) (off : Nat) (ks : List Nat) (b : Bool), flatF P (flat P n) l off = some ks → eqVs ks (us.drop off) (vs.drop off) = some b → (Op.eqFields d us.toArray vs.toArray l).run P w = .ok b w := by
          intro l
          induction l with
          | nil =>
            intro off ks b h1 h2
            simp only [flatF, Option.some.injEq] at h1
            subst h1
            have hl := eqVs_len h2
            have e1 : us.drop off = [] := List.eq_nil_of_length_eq_zero hl.1
            have e2 : vs.drop off = [] := List.eq_nil_of_length_eq_zero hl.2
            rw [e1, e2] at h2
            simp only [eqVs, Option.some.injEq] at h2
            subst h2
            simp [Op.eqFields]
          | cons f l ihl =>
            intro off ks b h1 h2
            simp only [flatF] at h1
            split at h1
            · rename_i hc
              split at h1
              · rename_i k1 inf k2 hf hi hr
                split at h1
                · rename_i hsz
                  simp only [Option.some.injEq] at h1
                  subst h1
                  obtain ⟨b1, b2, q1, q2, rfl⟩ := eqVs_split h2
                  rw [hi] at hr
                  simp only [Option.map_some, Option.getD_some, hsz] at hr
                  rw [List.drop_drop, List.drop_drop] at q2
                  have ihr := ihl (off + k1.length) k2 b2 hr q2
                  have hlen := eqVs_len h2
                  obtain ⟨fd, hfd⟩ : ∃ fd, P.underlying f.type = some fd := by
                    cases hfd : P.underlying f.type with
                    | none => cases n <;> simp [flat, hfd] at hf
                    | some fd => exact ⟨fd, rfl⟩
                  have hpart : ∀ zs : List Value, (zs.drop off).length = (k1 ++ k2).length → (part f.type zs.toArray off).run P w = .ok (ofCells (isRow fd) ((zs.drop off).take k1.length)) w := by
                    intro zs hz
                    unfold ofCells
                    cases hrw : isRow fd
                    · have h1 : k1.length = 1 := by
                        cases n with
                        | zero => simp [flat] at hf
                        | succ n =>
                          simp only [flat, hfd] at hf
                          cases fd <;> simp [isRow] at hrw hf <;> simp [← hf]
                      have hlt : off < zs.length := by simp only [List.length_drop, List.length_append, h1] at hz; omega
                      have : (zs.drop off).take k1.length = [zs[off]] := by rw [h1, List.drop_eq_getElem_cons hlt]; rfl
                      simp [part, run_isAgg_of hfd, hrw, this, hlt]
                    · simp [part, run_isAgg_of hfd, hrw, sizeOf, typeInfo, hi, hsz, List.take_drop]
                  have e1 := ih d f.type fd k1 _ _ b1 hf (by omega) hfd q1
                  simp only [Op.eqFields]
                  rw [if_pos hc.1]
                  simp only [hc.2, Sem.run_bind, hpart us hlen.1, hpart vs hlen.2, Result.andThen_ok, e1]
                  cases b1
                  · simp
                  · simp only [Bool.not_true, Bool.false_eq_true, if_false, Bool.true_and]
                    exact ihr
                · cases h1
              · cases h1
            · cases h1
        exact key fs.toList 0 ks b h (by simpa using he)
    · cases h
theorem bnd_sound {dflt j : Int} {o : Option Operand} {a : Option AX} {φ : Prop} (ht : trO o = some a) (he : bndD ts dflt a = some (j, φ)) (hφ : φ) (hc : Cs X w σ ts us) :
    (o = none ∧ j = dflt) ∨ ∃ x k, o = some x ∧ Act.eval ⟨us.toArray, []⟩ x = .int k j := by
  cases o with
  | none =>
    simp only [trO, Option.some.injEq] at ht
    subst ht
    simp only [bndD, Option.some.injEq, Prod.mk.injEq] at he
    exact .inl ⟨rfl, he.1.symm⟩
  | some x =>
    simp only [trO, Option.map_eq_some_iff] at ht
    obtain ⟨ax, hx, rfl⟩ := ht
    simp only [bndD] at he
    split at he
    · rename_i k j' ψ hv
      simp only [Option.some.injEq, Prod.mk.injEq] at he
      obtain ⟨rfl, rfl⟩ := he
      exact .inr ⟨x, k, rfl, (val_sound hx hv hc hφ).v.1⟩
    · cases he
theorem run_bound {k : IntKind} {i : Int} {y : Nat} {code : BoundsCode} (h0 : 0 ≤ i) (h1 : i ≤ y) : (Instr.sliceBound (.int k i) y code).run P w = .ok i.toNat w := by
  simp [Instr.sliceBound, asIntOf, h0, h1]
theorem sound_slice (t : TypeId) (x : Operand) (lo hi mx : Option Operand) : Sound P X w σ ts us (.slice t x lo hi mx) := by
  intro ao d φ dst ty pos after guard ht he hφ hc
  simp only [tr] at ht
  split at ht
  · rename_i e ax al ah am hu hx hl hh hm
    split at ht
    · cases ht
    · rename_i hmh
      simp only [Option.map_eq_some_iff] at ht
      obtain ⟨inf, hi0, rfl⟩ := ht
      have hgen : ∀ (A : Option Addr) (n c : Nat) (l h m : Int) (dl dh dm : Int), Act.eval ⟨us.toArray, []⟩ x = .slice A n c → ((lo = none ∧ l = 0) ∨ ∃ y k, lo = some y ∧ Act.eval ⟨us.toArray, []⟩ y = .int k l) → ((hi = none ∧ h = n) ∨ ∃ y k, hi = some y ∧ Act.eval ⟨us.toArray, []⟩ y = .int k h) →
          ((mx = none ∧ m = n) ∨ ∃ y k, mx = some y ∧ Act.eval ⟨us.toArray, []⟩ y = .int k m) → 0 ≤ l → l ≤ h → h ≤ m → m ≤ n → n ≤ c →
          ∃ m' : Nat, h ≤ m' ∧ m' ≤ c ∧ (execOp (Act.eval ⟨us.toArray, []⟩) ⟨dst, .slice t x lo hi mx, ty, pos, after, guard⟩).run P w = .ok (.value (.slice (if m' = l.toNat then A else A.map (·.add (l.toNat * inf.size))) (h.toNat - l.toNat) (m' - l.toNat))) w := by
        intro A n c l h m _ _ _ hx' hl' hh' hm' h0 h1 h2 h3 h4
        have hsz : (sizeOf e).run P w = .ok inf.size w := by simp [sizeOf, typeInfo, hi0]
        rcases hm' with ⟨rfl, rfl⟩ | ⟨ym, km, rfl, hym⟩
        · refine ⟨c, by omega, Nat.le_refl _, ?_⟩
          rcases hh' with ⟨rfl, rfl⟩ | ⟨yh, kh, rfl, hyh⟩
          · rcases hl' with ⟨rfl, rfl⟩ | ⟨yl, kl, rfl, hyl⟩
            · simp [execOp, hx', Instr.sliceAt, Instr.slice, run_underlying hu, Instr.sliceBounds, hsz]
            · simp [execOp, hx', hyl, Instr.sliceAt, Instr.slice, run_underlying hu, Instr.sliceBounds, hsz, run_bound h0 h1]
          · rcases hl' with ⟨rfl, rfl⟩ | ⟨yl, kl, rfl, hyl⟩
            · simp [execOp, hx', hyh, Instr.sliceAt, Instr.slice, run_underlying hu, Instr.sliceBounds, hsz, run_bound (P := P) (w := w) (k := kh) (i := h) (y := c) (code := .sliceAcap) (by omega) (by omega)]
            · simp [execOp, hx', hyh, hyl, Instr.sliceAt, Instr.slice, run_underlying hu, Instr.sliceBounds, hsz, run_bound (P := P) (w := w) (k := kh) (i := h) (y := c) (code := .sliceAcap) (by omega) (by omega), run_bound (P := P) (w := w) (k := kl) (i := l) (y := h.toNat) (code := .sliceB) h0 (by omega)]
        · refine ⟨m.toNat, by omega, by omega, ?_⟩
          rcases hh' with ⟨rfl, rfl⟩ | ⟨yh, kh, rfl, hyh⟩
          · exfalso
            simp only [trO, Option.some.injEq] at hh
            subst hh
            simp only [trO, Option.map_eq_some_iff] at hm
            obtain ⟨_, _, rfl⟩ := hm
            simp at hmh
          · rcases hl' with ⟨rfl, rfl⟩ | ⟨yl, kl, rfl, hyl⟩
            · simp [execOp, hx', hyh, hym, Instr.sliceAt, Instr.slice, run_underlying hu, Instr.sliceBounds, hsz, run_bound (P := P) (w := w) (k := km) (i := m) (y := c) (code := .slice3Acap) (by omega) (by omega), run_bound (P := P) (w := w) (k := kh) (i := h) (y := m.toNat) (code := .slice3B) (by omega) (by omega)]
            · simp [execOp, hx', hyh, hyl, hym, Instr.sliceAt, Instr.slice, run_underlying hu, Instr.sliceBounds, hsz, run_bound (P := P) (w := w) (k := km) (i := m) (y := c) (code := .slice3Acap) (by omega) (by omega), run_bound (P := P) (w := w) (k := kh) (i := h) (y := m.toNat) (code := .slice3B) (by omega) (by omega), run_bound (P := P) (w := w) (k := kl) (i := l) (y := h.toNat) (code := .slice3C) h0 (by omega)]
      simp only [AO.ev] at he
      split at he
      · rename_i n cs ψ hv
        split at he
        · rename_i l ψ1 h ψ2 m ψ3 e1 e2 e3
          simp only [Option.some.injEq, Prod.mk.injEq] at he
          obtain ⟨rfl, rfl⟩ := he
          obtain ⟨p0, p1, p2, p3, p4, p5, p6, p7⟩ := hφ
          have k0 := val_sound hx hv hc p0
          simp only [C] at k0
          obtain ⟨A, c, q1, q2, q3, q4, q5⟩ := k0
          obtain ⟨m', r1, r2, r3⟩ := hgen A n c l h m 0 0 0 q1 (bnd_sound hl e1 p1 hc) (bnd_sound hh e2 p2 hc) (bnd_sound hm e3 p3 hc) p4 p5 p6 p7 q2
          refine ⟨_, r3, ?_⟩
          simp only [C]
          refine ⟨_, _, rfl, by omega, by omega, fun h0 => by rw [h0]; simp, fun h0 => ?_⟩
          obtain ⟨b, off, vs, g1, g4, g5⟩ := q5 (by omega)
          rw [if_neg (by omega), g1]
          exact ⟨b, _, _, by rw [Option.map_some, Addr.add_mid], (g4.drop_ _).take_ _, (g5.drop_ _).take_ _⟩
        · cases he
      · rename_i ψ hv
        split at he
        · rename_i l ψ1 h ψ2 m ψ3 e1 e2 e3
          simp only [Option.some.injEq, Prod.mk.injEq] at he
          obtain ⟨rfl, rfl⟩ := he
          obtain ⟨p0, p1, p2, p3, rfl, rfl, rfl⟩ := hφ
          have k0 := (val_sound hx hv hc p0).v.1
          obtain ⟨m', r1, r2, r3⟩ := hgen none 0 0 0 0 0 0 0 0 k0 (bnd_sound hl e1 p1 hc) (bnd_sound hh e2 p2 hc) (bnd_sound hm e3 p3 hc) (by omega) (by omega) (by omega) (by omega) (by omega)
          have hm0 : m' = 0 := by omega
          subst hm0
          exact ⟨_, r3, C.mkv rfl⟩
        · cases he
      · cases he
  · rename_i ax al ah hu hx hl hh hm
    simp only [Option.some.injEq] at ht
    subst ht
    have hmx : mx = none := by
      cases mx with
      | none => rfl
      | some y => simp only [trO, Option.map_eq_some_iff] at hm; obtain ⟨_, _, q⟩ := hm; cases q
    subst hmx
    simp only [AO.ev] at he
    split at he
    · rename_i s ψ hv
      split at he
      · rename_i l ψ1 h ψ2 e1 e2
        simp only [Option.some.injEq, Prod.mk.injEq] at he
        obtain ⟨rfl, rfl⟩ := he
        obtain ⟨p0, p1, p2, p4, p5, p6⟩ := hφ
        have k0 := (val_sound hx hv hc p0).v.1
        refine ⟨_, ?_, C.mkv rfl⟩
        rcases bnd_sound hh e2 p2 hc with ⟨rfl, rfl⟩ | ⟨yh, kh, rfl, hyh⟩
        · rcases bnd_sound hl e1 p1 hc with ⟨rfl, rfl⟩ | ⟨yl, kl, rfl, hyl⟩
          · simp [execOp, k0, Instr.sliceAt, Instr.slice, run_underlying hu, Instr.sliceBounds]
          · simp [execOp, k0, hyl, Instr.sliceAt, Instr.slice, run_underlying hu, Instr.sliceBounds, run_bound p4 p5]
        · rcases bnd_sound hl e1 p1 hc with ⟨rfl, rfl⟩ | ⟨yl, kl, rfl, hyl⟩
          · simp [execOp, k0, hyh, Instr.sliceAt, Instr.slice, run_underlying hu, Instr.sliceBounds, run_bound (P := P) (w := w) (k := kh) (i := h) (y := s.size) (code := .sliceAlen) (by omega) (by omega)]
          · simp [execOp, k0, hyh, hyl, Instr.sliceAt, Instr.slice, run_underlying hu, Instr.sliceBounds, run_bound (P := P) (w := w) (k := kh) (i := h) (y := s.size) (code := .sliceAlen) (by omega) (by omega), run_bound (P := P) (w := w) (k := kl) (i := l) (y := h.toNat) (code := .sliceB) p4 (by omega)]
      · cases he
    · cases he
  · cases ht
theorem eqs_sound {neg : Bool} {t : TypeId} {x y : Operand} {ax ay : AX} {ks : List Nat} {fs : Array Field} {d : D} {φ : Prop} (hu : P.underlying t = some (.struct fs)) (hg : P.eqGuardType P.depth t = false) (hf : flat P 8 t = some ks) (hx : trX x = some ax) (hy : trX y = some ay) (he : (AO.eqs neg ks ax ay).ev ts = some (d, φ)) (hφ : φ) (hc : Cs X w σ ts us)
    (dst : Option Tmp) (ty t2 : TypeId) (pos : String) (after : Array Edge) (guard : Option (Nat × Bool)) :
    ∃ u, (execOp (Act.eval ⟨us.toArray, []⟩) ⟨dst, .binOp (if neg then .neq else .eql) t x y t2, ty, pos, after, guard⟩).run P w = .ok (.value u) w ∧ C X w σ d u := by
  simp only [AO.ev] at he
  split at he
  · rename_i xs φ1 ys φ2 hv hj
    split at he
    · rename_i b hb
      simp only [Option.some.injEq, Prod.mk.injEq] at he
      obtain ⟨rfl, rfl⟩ := he
      have k1 := val_sound hx hv hc hφ.1
      have k2 := val_sound hy hj hc hφ.2
      simp only [C] at k1 k2
      obtain ⟨us1, e1, c1⟩ := k1
      obtain ⟨us2, e2, c2⟩ := k2
      have h1 := equal_flat (w := w) 8 10000 t _ ks us1 us2 b hf (by omega) hu (eqVs_of hb c1 c2)
      simp only [ofCells, isRow, if_true] at h1
      refine ⟨_, ?_, C.mkv rfl⟩
      cases neg
      · simp only [Bool.false_eq_true, if_false, execOp, e1, e2, Sem.run_bind, run_eqGuard_agg w .eql t x y _ _ hg, Result.andThen_ok, run_eql_struct w t, h1, Sem.run_pure]
      · simp only [if_true, execOp, e1, e2, Sem.run_bind, run_eqGuard_agg w .neq t x y _ _ hg, Result.andThen_ok, run_neq_struct w t, h1, Sem.run_pure]
    · cases he
  · cases he
theorem sound_bin (op : BinOp) (t : TypeId) (x y : Operand) (t2 : TypeId) : Sound P X w σ ts us (.binOp op t x y t2) := by
  intro ao d φ dst ty pos after guard ht he hφ hc
  simp only [tr] at ht
  split at ht
  · rename_i ax ay hu hx hy
    simp only [Option.some.injEq] at ht
    subst ht
    exact bin_sound hx hy he hφ hc (fun h => by cases h) ..
  · rename_i ax ay hu hx hy
    simp only [Option.some.injEq] at ht
    subst ht
    exact bin_sound hx hy he hφ hc (fun h => by cases h) ..
  · rename_i ax ay hu hx hy
    simp only [Option.some.injEq] at ht
    subst ht
    exact bin_sound hx hy he hφ hc (fun _ => hu) ..
  · rename_i fs ax ay hu hx hy
    split at ht
    · split at ht
      · cases ht
      · rename_i hg
        simp only [Option.map_eq_some_iff] at ht
        obtain ⟨ks, hf, rfl⟩ := ht
        exact eqs_sound (neg := false) hu (by simpa using hg) hf hx hy he hφ hc ..
    · split at ht
      · cases ht
      · rename_i hg
        simp only [Option.map_eq_some_iff] at ht
        obtain ⟨ks, hf, rfl⟩ := ht
        exact eqs_sound (neg := true) hu (by simpa using hg) hf hx hy he hφ hc ..
    · cases ht
  · cases ht
theorem sound_call (c : Call) : Sound P X w σ ts us (.call c) := by
  intro ao d φ dst ty pos after guard ht he hφ hc
  obtain ⟨cal, args, tys⟩ := c
  obtain ⟨args⟩ := args
  obtain ⟨tys⟩ := tys
  simp only [tr, trCall] at ht
  split at ht
  · split at ht
    · rename_i x t
      split at ht
      · rename_i ax h1 hx
        simp only [Option.some.injEq] at ht
        subst ht
        simp only [AO.ev] at he
        split at he
        · rename_i s ψ hv
          simp only [Option.some.injEq, Prod.mk.injEq] at he
          obtain ⟨rfl, rfl⟩ := he
          have k1 := C.v (val_sound hx hv hc hφ)
          exact ⟨_, by simp [execOp, resolve, invoke, builtin, k1.1, Builtin.len_, run_underlying h1, goInt], C.mkv rfl⟩
        · cases he
      · rename_i e ax h1 hx
        simp only [Option.some.injEq] at ht
        subst ht
        simp only [AO.ev] at he
        split at he
        · rename_i n cs ψ hv
          simp only [Option.some.injEq, Prod.mk.injEq] at he
          obtain ⟨rfl, rfl⟩ := he
          have k1 := val_sound hx hv hc hφ
          simp only [C] at k1
          obtain ⟨A, c, e1, _⟩ := k1
          exact ⟨_, by simp [execOp, resolve, invoke, builtin, e1, Builtin.len_, run_underlying h1, goInt], C.mkv rfl⟩
        · rename_i A n c ψ hv
          simp only [Option.some.injEq, Prod.mk.injEq] at he
          obtain ⟨rfl, rfl⟩ := he
          have k1 := C.v (val_sound hx hv hc hφ)
          exact ⟨_, by simp [execOp, resolve, invoke, builtin, k1.1, Builtin.len_, run_underlying h1, goInt], C.mkv rfl⟩
        · cases he
      · cases ht
    · cases ht
  · split at ht
    · rename_i x y
      split at ht
      · rename_i ax ay hx hy
        simp only [Option.some.injEq] at ht
        subst ht
        simp only [AO.ev] at he
        split at he
        · rename_i k a φ1 k' b φ2 hv hj
          split at he
          · rename_i hk
            subst hk
            simp only [Option.some.injEq, Prod.mk.injEq] at he
            obtain ⟨rfl, rfl⟩ := he
            have k1 := C.v (val_sound hx hv hc hφ.1)
            have k2 := C.v (val_sound hy hj hc hφ.2)
            exact ⟨_, by simp [execOp, resolve, invoke, builtin, k1.1, k2.1, Builtin.max_, Builtin.max2], C.mkv rfl⟩
          · cases he
        · cases he
      · cases ht
    · cases ht
  · split at ht
    · rename_i x y
      split at ht
      · rename_i ax ay hx hy
        simp only [Option.some.injEq] at ht
        subst ht
        simp only [AO.ev] at he
        split at he
        · rename_i k a φ1 k' b φ2 hv hj
          split at he
          · rename_i hk
            subst hk
            simp only [Option.some.injEq, Prod.mk.injEq] at he
            obtain ⟨rfl, rfl⟩ := he
            have k1 := C.v (val_sound hx hv hc hφ.1)
            have k2 := C.v (val_sound hy hj hc hφ.2)
            exact ⟨_, by simp [execOp, resolve, invoke, builtin, k1.1, k2.1, Builtin.min_, Builtin.min2], C.mkv rfl⟩
          · cases he
        · cases he
      · cases ht
    · cases ht
  · cases ht
theorem C.cell1 {d : D} {u : Value} (h : C X w σ d u) (h1 : d.cell1 = true) : u.oneCell' = true := by
  cases d <;> simp only [D.cell1, Bool.false_eq_true] at h1 <;> simp only [C] at h
  · rw [h.1]; exact h.2
  · obtain ⟨A, c, rfl, _⟩ := h; rfl
  · obtain ⟨b, _, rfl⟩ := h; rfl
  · obtain ⟨b, o, vs, rfl, _⟩ := h; rfl
  · exact h.2
  · obtain ⟨s, b, _, _, rfl⟩ := h; rfl
  · obtain ⟨vs, rfl, _⟩ := h; rfl
  · obtain ⟨x, rfl, _⟩ := h; rfl
theorem Cs.cell1 {ds : List D} {us : List Value} (h : Cs X w σ ds us) (h1 : ds.all D.cell1 = true) : ∀ u ∈ us, u.oneCell' = true := by
  induction ds generalizing us with
  | nil => simp only [Cs] at h; subst h; simp
  | cons d ds ih =>
    simp only [Cs] at h
    obtain ⟨u, us', rfl, h2, h3⟩ := h
    simp only [List.all_cons, Bool.and_eq_true] at h1
    intro x hx
    rcases List.mem_cons.1 hx with rfl | hx
    · exact h2.cell1 h1.1
    · exact ih h3 h1.2 x hx
theorem cells_one {u : Value} (h : u.oneCell' = true) : u.cells.toList = [u] := by cases u <;> simp [Value.oneCell', Value.cells] at h ⊢
theorem C.cells {d : D} {u : Value} (h : C X w σ d u) (h1 : d.cellable = true) : Cs X w σ d.cells u.cells.toList ∧ ∀ x ∈ u.cells.toList, x.oneCell' = true := by
  have key : d.cell1 = true → d.cells = [d] → Cs X w σ d.cells u.cells.toList ∧ ∀ x ∈ u.cells.toList, x.oneCell' = true := by
    intro h2 h3
    have h4 := h.cell1 h2
    rw [h3, cells_one h4]
    exact ⟨by simp only [Cs]; exact ⟨u, [], rfl, h, rfl⟩, fun x hx => by simp at hx; rw [hx]; exact h4⟩
  cases d with
  | ag cs =>
    simp only [C] at h
    obtain ⟨vs, rfl, h2⟩ := h
    simp only [D.cells, Value.cells]
    exact ⟨h2, h2.cell1 h1⟩
  | v x => exact key h1 rfl
  | sl n cs => exact key h1 rfl
  | bx k o => exact key h1 rfl
  | el cs => exact key h1 rfl
  | ms k => exact key h1 rfl
  | ba k o => exact key h1 rfl
  | fn f cs => exact key h1 rfl
  | ifc t d => exact key h1 rfl
  | tu cs => simp [D.cellable, D.cell1] at h1
  | gd p d => simp [D.cellable, D.cell1] at h1
  | any => simp [D.cellable, D.cell1] at h1
theorem setFrom_len {α : Type} (vs : List α) : ∀ (cs : List α) (o : Nat), (setFrom cs o vs).length = cs.length := by
  induction vs with
  | nil => intro cs o; rfl
  | cons v r ih => intro cs o; simp [setFrom, ih]
theorem Cs.setFrom_ : ∀ {ds : List D} {us : List Value} (o : Nat) {cs : List D} {vs : List Value}, Cs X w σ ds us → Cs X w σ cs vs → Cs X w σ (setFrom cs o ds) (setFrom vs o us)
  | [], us, o, cs, vs, h, k => by simp only [Cs] at h; subst h; exact k
  | d :: ds, us, o, cs, vs, h, k => by
    simp only [Cs] at h
    obtain ⟨u, us', rfl, h2, h3⟩ := h
    exact Cs.setFrom_ (o + 1) h3 (k.set_ o h2)
theorem fold_setFrom (vs : List Value) : ∀ (cs : List Value) (off k : Nat), (vs.zipIdx k).foldl (fun (cs : Array Value) (p : Value × Nat) => cs.setIfInBounds (off + p.2) p.1) cs.toArray = (setFrom cs (off + k) vs).toArray := by
  induction vs with
  | nil => intro cs off k; rfl
  | cons v r ih =>
    intro cs off k
    rw [List.zipIdx_cons, List.foldl_cons, setFrom]
    have := ih (cs.set (off + k) v) off (k + 1)
    rw [Nat.add_assoc]
    simpa using this
theorem setFrom_one : ∀ (r cs : List Value) (o : Nat), (∀ v ∈ cs, v.oneCell' = true) → (∀ v ∈ r, v.oneCell' = true) → ∀ v ∈ setFrom cs o r, v.oneCell' = true := by
  intro r
  induction r with
  | nil => intro cs o h1 h2; exact h1
  | cons a r ih =>
    intro cs o h1 h2
    refine ih (cs.set o a) (o + 1) (fun v hv => ?_) (fun v hv => h2 v (List.mem_cons_of_mem _ hv))
    rcases List.mem_or_eq_of_mem_set hv with hv | rfl
    · exact h1 v hv
    · exact h2 v List.mem_cons_self
theorem fill_sound {place : Nat → Option (Nat × Nat)} : ∀ {parts : List (Nat × Operand)} {l : List (Nat × Nat × AX)} {cells cs : List D} {vs : List Value} {φ : Prop}, trParts place parts = some l → fillD ts cells l = some (cs, φ) → φ → Cs X w σ ts us → Cs X w σ cells vs → (∀ v ∈ vs, v.oneCell' = true) →
    ∃ xs : List Value, Instr.fill place vs.toArray (parts.map fun p => (p.1, Act.eval ⟨us.toArray, []⟩ p.2)) = some xs.toArray ∧ Cs X w σ cs xs ∧ (∀ v ∈ xs, v.oneCell' = true) ∧ xs.length = vs.length
  | [], l, cells, cs, vs, φ, h1, h2, hφ, hc, hv, ho => by
    simp only [trParts, Option.some.injEq] at h1
    subst h1
    simp only [fillD, Option.some.injEq, Prod.mk.injEq] at h2
    obtain ⟨rfl, _⟩ := h2
    exact ⟨vs, rfl, hv, ho, rfl⟩
  | (i, x) :: parts, l, cells, cs, vs, φ, h1, h2, hφ, hc, hv, ho => by
    simp only [trParts] at h1
    split at h1
    · rename_i off sz ax l' hp hx hr
      simp only [Option.some.injEq] at h1
      subst h1
      simp only [fillD] at h2
      split at h2
      · rename_i d ψ1 hd
        split at h2
        · rename_i cs' ψ hf
          simp only [Option.some.injEq, Prod.mk.injEq] at h2
          obtain ⟨rfl, rfl⟩ := h2
          obtain ⟨⟨p1, p2, p3, p4⟩, p5⟩ := hφ
          have k0 := val_sound hx hd hc p1
          obtain ⟨k1, k2⟩ := k0.cells p2
          have hlen := k1.len
          have hvl := hv.len
          obtain ⟨xs, q1, q2, q3, q4⟩ := fill_sound (vs := setFrom vs off (Act.eval ⟨us.toArray, []⟩ x).cells.toList) hr hf p5 hc (Cs.setFrom_ off k1 hv) (setFrom_one _ _ _ ho k2)
          refine ⟨xs, ?_, q2, q3, by rw [q4, setFrom_len]⟩
          simp only [List.map_cons, Instr.fill, hp]
          have hsz : (Act.eval ⟨us.toArray, []⟩ x).cells.size = sz := by rw [← p3, ← hlen]; simp
          have hcond : ((Act.eval ⟨us.toArray, []⟩ x).cells.size ≠ sz || off + (Act.eval ⟨us.toArray, []⟩ x).cells.size > vs.toArray.size) = false := by
            simp [hsz]; omega
          rw [if_neg (by rw [hcond]; simp)]
          rw [← q1]
          congr 1
          have := fold_setFrom (Act.eval ⟨us.toArray, []⟩ x).cells.toList vs off 0
          rw [Nat.add_zero] at this
          rw [← this, ← Array.foldl_toList, Array.toList_zipIdx]
        · cases h2
      · cases h2
    · cases h1
theorem initD_sound {z : Value} {i : List D} (h : initD z = some i) : Cs X w σ i z.cells.toList ∧ ∀ v ∈ z.cells.toList, v.oneCell' = true := by
  unfold initD at h
  split at h
  · rename_i hone
    simp only [Option.some.injEq] at h
    subst h
    have ho : ∀ v ∈ z.cells.toList, v.oneCell' = true := fun u hu => by simpa using (List.all_eq_true.1 hone) u hu
    exact ⟨Cs.plain ho, ho⟩
  · cases h
theorem sound_build (t : TypeId) (parts : Array (Nat × Operand)) : Sound P X w σ ts us (.build t parts) := by
  intro ao d φ dst ty pos after guard ht he hφ hc
  simp only [tr] at ht
  split at ht
  · rename_i pl z hpl hz
    split at ht
    · rename_i l i hl hi
      simp only [Option.some.injEq] at ht
      subst ht
      simp only [AO.ev] at he
      split at he
      · rename_i cs ψ hf
        simp only [Option.some.injEq, Prod.mk.injEq] at he
        obtain ⟨rfl, rfl⟩ := he
        obtain ⟨h1, h2⟩ := initD_sound (X := X) (w := w) (σ := σ) hi
        obtain ⟨xs, q1, q2, _⟩ := fill_sound hl hf hφ hc h1 h2
        refine ⟨.agg xs.toArray, ?_, by simp only [C]; exact ⟨xs, rfl, q2⟩⟩
        have hb : P.built t ((parts.map fun (i, x) => (i, Act.eval ⟨us.toArray, []⟩ x)).toList) = some xs.toArray := by
          rw [Array.toList_map]
          simp only [Array.toArray_toList] at q1
          simp only [Option.bind_eq_some_iff] at hz
          obtain ⟨it, hit, hz⟩ := hz
          unfold placesOf at hpl
          unfold Program.built
          rw [hit]
          split at hpl
          · rename_i fs hu
            split at hpl
            · rename_i places hm
              simp only [Option.some.injEq] at hpl
              subst hpl
              simp only [hu, hz, hm]
              exact q1
            · cases hpl
          · rename_i n e hu
            split at hpl
            · rename_i ie hie
              simp only [Option.some.injEq] at hpl
              subst hpl
              simp only [hu, hz, hie]
              exact q1
            · cases hpl
          · cases hpl
        simp only [execOp, Sem.run_bind, run_build w t _ _ hb, Result.andThen_ok, Sem.run_pure]
      · cases he
    · cases ht
  · cases ht
theorem ev_sound (o : Oper) {ao : AO} {d : D} {φ : Prop} (ht : tr P o.op = some ao) (he : ao.ev ts = some (d, φ)) (hφ : φ) (hc : Cs X w σ ts us) :
    ∃ u, (execOp (Act.eval ⟨us.toArray, []⟩) o).run P w = .ok (.value u) w ∧ C X w σ d u := by
  obtain ⟨dst, op, ty, pos, after, guard⟩ := o
  simp only at ht
  cases op with
  | move x => exact sound_move x ao d φ dst ty pos after guard ht he hφ hc
  | assign x => exact sound_assign x ao d φ dst ty pos after guard ht he hφ hc
  | pick c a b => exact sound_pick c a b ao d φ dst ty pos after guard ht he hφ hc
  | fieldAddr s x f => exact sound_fieldAddr s x f ao d φ dst ty pos after guard ht he hφ hc
  | field s x f => exact sound_field s x f ao d φ dst ty pos after guard ht he hφ hc
  | indexAddr s x f => exact sound_indexAddr s x f ao d φ dst ty pos after guard ht he hφ hc
  | index s x f => exact sound_index s x f ao d φ dst ty pos after guard ht he hφ hc
  | binOp op t x y t2 => exact sound_bin op t x y t2 ao d φ dst ty pos after guard ht he hφ hc
  | unOp op t x => exact sound_un op t x ao d φ dst ty pos after guard ht he hφ hc
  | convert s t x => exact sound_convert s t x ao d φ dst ty pos after guard ht he hφ hc
  | extract x i => exact sound_extract x i ao d φ dst ty pos after guard ht he hφ hc
  | build t parts => exact sound_build t parts ao d φ dst ty pos after guard ht he hφ hc
  | slice t x lo hi mx => exact sound_slice t x lo hi mx ao d φ dst ty pos after guard ht he hφ hc
  | nilCheck x => exact sound_nilCheck x ao d φ dst ty pos after guard ht he hφ hc
  | load t x => exact sound_load_el t x ao d φ dst ty pos after guard ht he hφ hc
  | call c => exact sound_call c ao d φ dst ty pos after guard ht he hφ hc
  | _ => simp [tr] at ht
end
end Go.Proofs.Ytnimpcffagidoaa.K
