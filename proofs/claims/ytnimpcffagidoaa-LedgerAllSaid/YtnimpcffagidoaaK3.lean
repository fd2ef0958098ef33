/-
  Typed values, and what an operation makes of them.
-/
import Derived.Test.YtnimpcffagidoaaK2
namespace Go.Proofs.Ytnimpcffagidoaa.K
open Go.RowKit
set_option linter.unusedSimpArgs false
set_option linter.unusedVariables false

/-- the types of plain data: an integer, a bool, a string, a slice, a struct's end, a field and the fields behind it -/
inductive Ty where
  | int (k : IntKind)
  | bool
  | str
  | sl (e : Ty)
  | nil
  | pr (f r : Ty)
  deriving DecidableEq
@[reducible] def Ty.T : Ty → Type
  | .int _ => Int
  | .bool => Bool
  | .str => ByteArray
  | .sl e => List e.T
  | .nil => Unit
  | .pr f r => f.T × r.T
/-- how many cells it has -/
def Ty.sz : Ty → Nat
  | .nil => 0
  | .pr f r => f.sz + r.sz
  | _ => 1
/-- is it a struct? -/
def Ty.row : Ty → Bool
  | .nil => true
  | .pr _ _ => true
  | _ => false
def Ty.zero : (y : Ty) → y.T
  | .int _ => (0 : Int)
  | .bool => false
  | .str => ByteArray.empty
  | .sl _ => []
  | .nil => ()
  | .pr f r => (f.zero, r.zero)
/-- its cells -/
def Ty.cells : (y : Ty) → y.T → List D
  | .int k, n => [.v (.int k n)]
  | .bool, x => [.v (.bool x)]
  | .str, x => [.v (.string x)]
  | .sl e, l => [.sl (List.length l) (List.flatMap e.cells l)]
  | .nil, _ => []
  | .pr f r, x => f.cells x.1 ++ r.cells x.2
def Ty.d : (y : Ty) → y.T → D
  | .int k, n => .v (.int k n)
  | .bool, x => .v (.bool x)
  | .str, x => .v (.string x)
  | .sl e, l => .sl (List.length l) (List.flatMap e.cells l)
  | .nil, _ => .ag []
  | .pr f r, x => .ag (f.cells x.1 ++ r.cells x.2)

/-- a value: of a type; a plain one without its type; the address of a cell of an own variable; of a cell of an own slice's element; of an element that nobody writes any more; an own slice; a struct that isn't plain data; a tuple; a function; a value in an interface; undefined; unknown -/
inductive V where
  | t (ty : Ty) (x : ty.T)
  | c (x : Value)
  | ptr (k off : Nat)
  | pa (sz k i off : Nat)
  | el (ty : Ty) (x : ty.T) (off : Nat)
  | ms (k : Nat)
  | ag (vs : List V)
  | tu (vs : List V)
  | fn (f : Nat) (vs : List V)
  | ifc (t : Nat) (v : V)
  | ud
  | un
mutual
def V.d : V → D
  | .t ty x => ty.d x
  | .c x => .v x
  | .ptr k o => .bx k o
  | .pa sz k i o => .ba k (i * sz + o)
  | .el ty x o => .el ((ty.cells x).drop o)
  | .ms k => .ms k
  | .ag vs => .ag (V.ds vs)
  | .tu vs => .tu (V.ds vs)
  | .fn f vs => .fn f (V.ds vs)
  | .ifc n x => .ifc n x.d
  | .ud => .gd false .any
  | .un => .any
def V.ds : List V → List D
  | [] => []
  | v :: vs => v.d :: V.ds vs
end
mutual
def V.refs : V → List Nat
  | .ptr k _ | .ms k => [k]
  | .pa _ k _ _ => [k]
  | .ag vs => V.refss vs
  | .tu vs => V.refss vs
  | .fn _ vs => V.refss vs
  | .ifc _ v => v.refs
  | .t _ _ | .c _ | .el _ _ _ | .ud | .un => []
def V.refss : List V → List Nat
  | [] => []
  | v :: vs => v.refs ++ V.refss vs
end
/-- an own thing: none; a variable; a slice: its element's type, in the program and here, and its elements -/
inductive VO where
  | no
  | box (v : V)
  | arr (e : Nat) (ty : Ty) (l : List ty.T)
def VO.refs : VO → List Nat
  | .box v => v.refs
  | _ => []
/-- is it a value of one cell? -/
def V.one : V → Bool
  | .t ty _ => !ty.row
  | .c x => x.oneCell'
  | .ptr _ _ | .pa _ _ _ _ | .el _ _ _ | .ms _ | .fn _ _ | .ifc _ _ => true
  | _ => false
def V.good : V → Bool
  | .un | .ud => false
  | _ => true

/-- a fork -/
def br {β : Type} : Bool → Option β → Option β → Option β
  | true, a, _ => a
  | false, _, b => b
theorem br_intro {β : Type} {q : Bool} {a b r : Option β} (h1 : q = true → a = r) (h0 : q = false → b = r) : br q a b = r := by
  cases q
  · exact h0 rfl
  · exact h1 rfl
theorem br_some {β : Type} {q : Bool} {a b : Option β} {r : β} (h : br q a b = some r) : (q = true ∧ a = some r) ∨ (q = false ∧ b = some r) := by
  cases q
  · exact .inr ⟨rfl, h⟩
  · exact .inl ⟨rfl, h⟩
theorem br_none {β : Type} {q : Bool} {a : Option β} {r : β} (h : br q a none = some r) : q = true ∧ a = some r := by
  cases q
  · cases h
  · exact ⟨rfl, h⟩

abbrev Env := Nat → V
/-- a state: what the slots hold, the own things, and the numbers under which one may be -/
structure VS where
  ts : Nat → V
  st : Nat → VO
  dom : List Nat

def ofV : Value → V
  | .int k n => .t (.int k) n
  | .bool q => .t .bool q
  | .string z => .t .str z
  | x => .c x
def ofD : D → V
  | .v x => ofV x
  | _ => .un
def AX.xv (e : Env) : AX → V
  | .t i => e i
  | .c d => ofD d

/-- the part of a struct from cell off on -/
def Ty.sub : (top : Bool) → (y : Ty) → y.T → (off n : Nat) → (agg : Bool) → Option V
  | top, .pr f r, x, off, n, agg =>
    if (top && (off == 0 && (n == (Ty.pr f r).sz && agg))) = true then some (.t (.pr f r) x)
    else if off < f.sz then f.sub true x.1 off n agg else r.sub false x.2 (off - f.sz) n agg
  | top, .nil, x, off, n, agg => if (top && (off == 0 && (n == 0 && agg))) = true then some (.t .nil x) else none
  | _, .int k, x, off, _, agg => if (off == 0 && !agg) = true then some (.t (.int k) x) else none
  | _, .bool, x, off, _, agg => if (off == 0 && !agg) = true then some (.t .bool x) else none
  | _, .str, x, off, _, agg => if (off == 0 && !agg) = true then some (.t .str x) else none
  | _, .sl e, x, off, _, agg => if (off == 0 && !agg) = true then some (.t (.sl e) x) else none

/-- a struct's cells, each with its type -/
def Ty.vs : (y : Ty) → y.T → List V
  | .int k, n => [.t (.int k) n]
  | .bool, x => [.t .bool x]
  | .str, x => [.t .str x]
  | .sl e, l => [.t (.sl e) l]
  | .nil, _ => []
  | .pr f r, x => f.vs x.1 ++ r.vs x.2
def V.cells : V → List V
  | .t y x => y.vs x
  | .ag vs => vs
  | v => [v]
def V.row : V → Bool
  | .t y _ => y.row
  | .ag _ => true
  | _ => false
def V.cellable : V → Bool
  | .ag vs => vs.all V.one
  | .t _ _ => true
  | v => v.one
def V.sub (top : Bool) (v : V) (off n : Nat) (agg : Bool) : Option V :=
  match v with
  | .t y x => y.sub top x off n agg
  | .ag vs => if agg = true then (if off + n ≤ vs.length then some (.ag ((vs.drop off).take n)) else none) else vs[off]?
  | v => if (top && (off == 0 && (!agg && v.one))) = true then some v else none

def Ty.nilOf : (y : Ty) → Option y.T
  | .sl _ => some []
  | _ => none
/-- a cell read as a value of a type -/
def Ty.rd1 (y : Ty) (v : V) : Option y.T :=
  match v with
  | .t y' x => if h : y' = y then some (h ▸ x) else none
  | .c (.slice none 0 0) => y.nilOf
  | _ => none
def Ty.rdS (y : Ty) : List V → Option (y.T × List V)
  | v :: vs => match y.rd1 v with
    | some x => some (x, vs)
    | none => none
  | [] => none
/-- cells read as a value of a type -/
def Ty.rd : (y : Ty) → List V → Option (y.T × List V)
  | .nil, vs => some ((), vs)
  | .pr f r, vs => match f.rd vs with
    | some (x, vs) => match r.rd vs with
      | some (z, vs) => some ((x, z), vs)
      | none => none
    | none => none
  | .int k, vs => (Ty.int k).rdS vs
  | .bool, vs => Ty.bool.rdS vs
  | .str, vs => Ty.str.rdS vs
  | .sl e, vs => (Ty.sl e).rdS vs
def Ty.full (y : Ty) (vs : List V) : Option y.T :=
  match y.rd vs with
  | some (x, []) => some x
  | _ => none
/-- a value as one of a type -/
def V.as (y : Ty) (v : V) : Option y.T :=
  match v with
  | .t y' x => if h : y' = y then some (h ▸ x) else if (y'.row && y.row) = true then y.full (y'.vs x) else none
  | .ag vs => if y.row = true then y.full vs else none
  | v => if y.row = true then none else y.rd1 v
/-- elements, one behind the other -/
def Ty.rds (y : Ty) : Nat → List V → Option (List y.T)
  | 0, [] => some []
  | 0, _ :: _ => none
  | n + 1, vs => match y.rd vs with
    | some (x, vs) => match y.rds n vs with
      | some l => some (x :: l)
      | none => none
    | none => none
/-- a value written into a struct -/
def Ty.put : (y : Ty) → y.T → Nat → V → Option y.T
  | .pr f r, x, o, v => if o < f.sz then
      match (if o = 0 then v.as f else none) with
      | some z => some (z, x.2)
      | none => match f.put x.1 o v with
        | some z => some (z, x.2)
        | none => none
    else match r.put x.2 (o - f.sz) v with
      | some z => some (x.1, z)
      | none => none
  | _, _, _, _ => none
def V.put (c : V) (o n : Nat) (v : V) : Option V :=
  if (v.cellable && (v.cells.length == n && decide (o + n ≤ c.cells.length))) = true then
    if (o == 0 && (n == c.cells.length && c.row == v.row)) = true then some v
    else match c with
      | .t y x => match y.put x o v with
        | some z => some (.t y z)
        | none => some (.ag (setFrom (y.vs x) o v.cells))
      | c => some (.ag (setFrom c.cells o v.cells))
  else none

def eqT : Nat → V → V → Option Bool
  | 0, .t (.int k) a, .t (.int k') b => if k = k' then some (a == b) else none
  | 1, .t .bool a, .t .bool b => some (a == b)
  | 2, .t .str a, .t .str b => some (a.toList == b.toList)
  | _, _, _ => none
def eqTs : List Nat → List V → List V → Option Bool
  | [], [], [] => some true
  | k :: ks, x :: xs, y :: ys => match eqT k x y, eqTs ks xs ys with
    | some a, some b => some (a && b)
    | _, _ => none
  | _, _, _ => none

section
variable {β : Type}
def binTI (k : IntKind) (a b : Int) (K : V → Option β) : BinOp → Option β
  | .add => K (.t (.int k) (k.wrap (a + b)))
  | .sub => K (.t (.int k) (k.wrap (a - b)))
  | .mul => K (.t (.int k) (k.wrap (a * b)))
  | .quo => br (decide (b ≠ 0)) (K (.t (.int k) (k.wrap (a.tdiv b)))) none
  | .rem => br (decide (b ≠ 0)) (K (.t (.int k) (a.tmod b))) none
  | .eql => K (.t .bool (a == b))
  | .neq => K (.t .bool (a != b))
  | .lss => K (.t .bool (decide (a < b)))
  | .leq => K (.t .bool (decide (a ≤ b)))
  | .gtr => K (.t .bool (decide (a > b)))
  | .geq => K (.t .bool (decide (a ≥ b)))
  | _ => none
def binTS (a b : ByteArray) (K : V → Option β) : BinOp → Option β
  | .eql => K (.t .bool (a.toList == b.toList))
  | .neq => K (.t .bool (!(a.toList == b.toList)))
  | .add => br (decide (((a.size + b.size : Nat) : Int) ≤ 9223372036854775807)) (K (.t .str (a ++ b))) none
  | _ => none
def binTB (a b : Bool) (K : V → Option β) : BinOp → Option β
  | .eql => K (.t .bool (a == b))
  | .neq => K (.t .bool (!(a == b)))
  | _ => none
def binT (bl : Bool) (op : BinOp) (x y : V) (K : V → Option β) : Option β :=
  match x, y with
  | .t (.int k) a, .t (.int k') b => if k = k' then binTI k a b K op else none
  | .t .str a, .t .str b => binTS a b K op
  | .t .bool a, .t .bool b => if bl = true then binTB a b K op else none
  | _, _ => none
def bndV (e : Env) (dflt : Int) : Option AX → Option Int
  | none => some dflt
  | some x => match x.xv e with
    | .t (.int _) j => some j
    | _ => none
/-- the parts of a literal are laid into its cells -/
def fillV (e : Env) (cells : List V) : List (Nat × Nat × AX) → Option (List V)
  | [] => some cells
  | (off, sz, x) :: r =>
    if ((x.xv e).good && ((x.xv e).cellable && ((x.xv e).cells.length == sz && decide (off + sz ≤ cells.length)))) = true then fillV e (setFrom cells off (x.xv e).cells) r else none
def nz (v : V) (K : V → Option β) : Option β := if v.good = true then K v else none

def ixT (sz : Nat) (y : Ty) (l : List y.T) (j : Int) (K : V → Option β) : Option β :=
  if y.sz = sz then br (decide (0 ≤ j ∧ j < (l.length : Nat))) (K (.el y (l.getD j.toNat y.zero) 0)) none else none
def ixM (sz k : Nat) (y : Ty) (l : List y.T) (j : Int) (K : V → Option β) : Option β :=
  if y.sz = sz then br (decide (0 ≤ j ∧ j < (l.length : Nat))) (K (.pa sz k j.toNat 0)) none else none
def sxT (z : ByteArray) (j : Int) (K : V → Option β) : Option β :=
  br (decide (0 ≤ j ∧ j < (z.size : Nat))) (K (.t (.int .u8) (((z.data.toList.getD j.toNat 0).toNat : Nat) : Int))) none
def lenT (n : Nat) (K : V → Option β) : Option β := K (.t (.int .i64) (n : Int))
def mxT (k : IntKind) (a b : Int) (K : V → Option β) : Option β := K (.t (.int k) (if b > a then b else a))
def mnT (k : IntKind) (a b : Int) (K : V → Option β) : Option β := K (.t (.int k) (if b < a then b else a))
def ngT (k : IntKind) (n : Int) (K : V → Option β) : Option β := K (.t (.int k) (k.wrap (0 - n)))
def cvT (k : IntKind) (n : Int) (K : V → Option β) : Option β := K (.t (.int k) (k.wrap n))
def slcT (y : Ty) (l : List y.T) (a h m : Int) (K : V → Option β) : Option β :=
  br (decide (0 ≤ a ∧ a ≤ h ∧ h ≤ m ∧ m ≤ (l.length : Nat))) (K (.t (.sl y) ((l.drop a.toNat).take (h.toNat - a.toNat)))) none
def slsT (z : ByteArray) (a h : Int) (K : V → Option β) : Option β :=
  br (decide (0 ≤ a ∧ a ≤ h ∧ h ≤ (z.size : Nat))) (K (.t .str (z.extract a.toNat h.toNat))) none
/-- what a plain operation makes -/
def AO.run (S : VS) (K : V → Option β) : AO → Option β
  | .mv x => nz (x.xv S.ts) K
  | .pick c a b => match c.xv S.ts with
    | .t .bool q => br q (nz (a.xv S.ts) K) (nz (b.xv S.ts) K)
    | _ => none
  | .fa off x => match x.xv S.ts with
    | .ptr k o => K (.ptr k (o + off))
    | .pa sz k i o => K (.pa sz k i (o + off))
    | .el y z o => K (.el y z (o + off))
    | _ => none
  | .fd agg off n x => if (x.xv S.ts).row = true then match (x.xv S.ts).sub false off n agg with
    | some v => nz v K
    | none => none
    else none
  | .ix sz x i => match i.xv S.ts with
    | .t (.int _) j => match x.xv S.ts with
      | .t (.sl y) l => ixT sz y l j K
      | .ms k => match S.st k with
        | .arr _ y l => ixM sz k y l j K
        | _ => none
      | _ => none
    | _ => none
  | .sx x i => match x.xv S.ts, i.xv S.ts with
    | .t .str z, .t (.int _) j => sxT z j K
    | _, _ => none
  | .bin bl op x y => binT bl op (x.xv S.ts) (y.xv S.ts) K
  | .nc x => match x.xv S.ts with
    | .ptr k o => K (.ptr k o)
    | .pa sz k i o => K (.pa sz k i o)
    | _ => none
  | .nt x => match x.xv S.ts with
    | .t .bool q => K (.t .bool !q)
    | _ => none
  | .ng x => match x.xv S.ts with
    | .t (.int k) n => ngT k n K
    | _ => none
  | .cv k x => match x.xv S.ts with
    | .t (.int _) n => cvT k n K
    | _ => none
  | .ext i x => match x.xv S.ts with
    | .tu vs => match vs[i]? with
      | some v => nz v K
      | none => none
    | _ => none
  | .len false x => match x.xv S.ts with
    | .t (.sl _) l => lenT (List.length l) K
    | .c (.slice _ n _) => lenT n K
    | .ms k => match S.st k with
      | .arr _ _ l => lenT (List.length l) K
      | _ => none
    | _ => none
  | .len true x => match x.xv S.ts with
    | .t .str z => lenT (ByteArray.size z) K
    | _ => none
  | .mx x y => match x.xv S.ts, y.xv S.ts with
    | .t (.int k) a, .t (.int k') b => if k = k' then mxT k a b K else none
    | _, _ => none
  | .mn x y => match x.xv S.ts, y.xv S.ts with
    | .t (.int k) a, .t (.int k') b => if k = k' then mnT k a b K else none
    | _, _ => none
  | .eqs neg ks x y => if ((x.xv S.ts).row && (y.xv S.ts).row) = true then match eqTs ks (x.xv S.ts).cells (y.xv S.ts).cells with
    | some q => K (.t .bool (if neg = true then !q else q))
    | none => none
    else none
  | .slc sz x lo hi top => match x.xv S.ts with
    | .t (.sl y) l => if y.sz = sz then match bndV S.ts 0 lo, bndV S.ts (List.length l : Nat) hi, bndV S.ts (List.length l : Nat) top with
      | some a, some h, some m => slcT y l a h m K
      | _, _, _ => none
      else none
    | .c (.slice none 0 0) => match bndV S.ts 0 lo, bndV S.ts 0 hi, bndV S.ts 0 top with
      | some a, some h, some m => br (decide (a = 0 ∧ h = 0 ∧ m = 0)) (K (.c (.slice none 0 0))) none
      | _, _, _ => none
    | _ => none
  | .sls x lo hi => match x.xv S.ts with
    | .t .str z => match bndV S.ts 0 lo, bndV S.ts (ByteArray.size z : Nat) hi with
      | some a, some h => slsT z a h K
      | _, _ => none
    | _ => none
  | .bd init parts => if (init.all fun d => (ofD d).one) = true then match fillV S.ts (init.map ofD) parts with
    | some vs => K (.ag vs)
    | none => none
    else none
  | .lde _ _ _ => none
end

def upd {α : Type} (f : Nat → α) (k : Nat) (x : α) : Nat → α := fun i => if i = k then x else f i
def V.mask (k : Nat) (v : V) : V := if v.refs.contains k = true then .un else v
/-- no own thing speaks of k -/
def VS.free (S : VS) (k : Nat) : Bool := decide (k < 50000) && S.dom.all fun j => !(S.st j).refs.contains k
/-- a new own thing; whoever spoke of an older one of its number forgets it -/
def VS.alloc (S : VS) (k : Nat) (o : VO) : VS := ⟨fun i => (S.ts i).mask k, upd S.st k o, k :: S.dom⟩
def VS.setO (S : VS) (k : Nat) (o : VO) : VS := ⟨S.ts, upd S.st k o, S.dom⟩
def VS.set (S : VS) (dst : Option Nat) (v : V) : VS :=
  match dst with
  | some d => ⟨upd S.ts d v, S.st, S.dom⟩
  | none => S
mutual
/-- the own slice k becomes one that nobody writes any more -/
def V.fz (k : Nat) (y : Ty) (l : List y.T) : V → V
  | .ms j => if j = k then .t (.sl y) l else .ms j
  | .pa sz j i o => if j = k then .un else .pa sz j i o
  | .ptr j o => if j = k then .un else .ptr j o
  | .ag vs => .ag (V.fzs k y l vs)
  | .tu vs => .tu (V.fzs k y l vs)
  | .fn f vs => .fn f (V.fzs k y l vs)
  | .ifc n x => .ifc n (x.fz k y l)
  | .t y' x => .t y' x
  | .c x => .c x
  | .el y' x o => .el y' x o
  | .ud => .ud
  | .un => .un
def V.fzs (k : Nat) (y : Ty) (l : List y.T) : List V → List V
  | [] => []
  | v :: vs => v.fz k y l :: V.fzs k y l vs
end
def VO.fz (k : Nat) (y : Ty) (l : List y.T) : VO → VO
  | .box v => .box (v.fz k y l)
  | o => o
/-- from this number on: things that were lent -/
def lentK : Nat := 50000
def VS.fz (S : VS) (k : Nat) : VS :=
  match S.st k with
  | .arr _ y l => if k < 50000 then ⟨fun i => (S.ts i).fz k y l, fun j => if j = k then .no else (S.st j).fz k y l, S.dom⟩ else S
  | _ => S
def VS.fzs (S : VS) (ks : List Nat) : VS := ks.foldl VS.fz S
mutual
/-- the own slices in a value -/
def V.mss : V → List Nat
  | .ms k => [k]
  | .ag vs => V.msss vs
  | .tu vs => V.msss vs
  | .fn _ vs => V.msss vs
  | .ifc _ x => x.mss
  | _ => []
def V.msss : List V → List Nat
  | [] => []
  | v :: vs => v.mss ++ V.msss vs
end
end Go.Proofs.Ytnimpcffagidoaa.K
