/-
  Calls: what a function makes of typed values and lent things.
-/
import Derived.Test.YtnimpcffagidoaaK11
namespace Go.Proofs.Ytnimpcffagidoaa.K
open Go.RowKit
set_option linter.unusedSimpArgs false
set_option linter.unusedVariables false

mutual
/-- the own things get other numbers -/
def V.ren (f : Nat → Nat) : V → V
  | .ms j => .ms (f j)
  | .pa sz j i o => .pa sz (f j) i o
  | .ptr j o => .ptr (f j) o
  | .ag vs => .ag (V.rens f vs)
  | .tu vs => .tu (V.rens f vs)
  | .fn g vs => .fn g (V.rens f vs)
  | .ifc n x => .ifc n (x.ren f)
  | .t y x => .t y x
  | .c x => .c x
  | .el y x o => .el y x o
  | .ud => .ud
  | .un => .un
def V.rens (f : Nat → Nat) : List V → List V
  | [] => []
  | v :: vs => v.ren f :: V.rens f vs
end
def VO.ren (f : Nat → Nat) : VO → VO
  | .box v => .box (v.ren f)
  | o => o
/-- things that are lent lie in the world -/
structure Lent (X : Nat → Nat → Prop) (w : World) (σ : Pl) (objs : List VO) : Prop where
  at_ : ∀ j o, objs[j]? = some o → OAt X w σ (50000 + j) o ∧ o ≠ .no
  apart : ∀ i j b, i ≠ j → i < objs.length → j < objs.length → (σ (50000 + i)).blk = some b → (σ (50000 + j)).blk ≠ some b
def lentB (σ : Pl) (m : Nat) : List Nat := (List.range m).filterMap fun j => (σ (50000 + j)).blk
abbrev Fun := List V → List VO → Option (V × List VO)
/-- what a call leaves -/
structure Ends (X : Nat → Nat → Prop) (w : World) (σ : Pl) (m : Nat) (X' : Nat → Nat → Prop) (w' : World) (σ' : Pl) (os : List VO) : Prop where
  fin : ∀ b q, X' b q → b < w'.heap.size
  lent : Lent X' w' σ' os
  le : m ≤ os.length
  same : ∀ j, j < m → σ' (50000 + j) = σ (50000 + j)
  new : ∀ j b, m ≤ j → j < os.length → (σ' (50000 + j)).blk = some b → w.heap.size ≤ b
  fr : Fr (lentB σ m) w w'
  old : ∀ b q, b < w.heap.size → (X' b q ↔ X b q)
/-- THE CONTRACT: the program's function f makes what F says -/
def Meets (P : Program) (f : FuncId) (F : Fun) : Prop :=
  ∀ args objs r os, F args objs = some (r, os) → ∀ X w σ vs, (∀ b q, X b q → b < w.heap.size) → Lent X w σ objs → Cs X w σ (V.ds args) vs →
    Calls P f vs.toArray w fun e w' => ∃ u X' σ', e = .returned u ∧ C X' w' σ' r.d u ∧ Ends X w σ objs.length X' w' σ' os
theorem Meets.mono {P : Program} {f : FuncId} {F F' : Fun} (h : Meets P f F) (hf : ∀ args objs r, F' args objs = some r → F args objs = some r) : Meets P f F' :=
  fun args objs r os h1 => h args objs r os (hf args objs _ h1)

section
variable {X X' : Nat → Nat → Prop} {w w' : World} {σ σ' : Pl}
mutual
theorem ren_c {f : Nat → Nat} : ∀ (v : V) (u : Value), (∀ k ∈ v.refs, σ' (f k) = σ k) → C X w σ v.d u → C X w σ' (v.ren f).d u
  | .ms j, u, h, hc => by
    simp only [V.ren, V.d, C] at hc ⊢
    exact ⟨(h j (by simp [V.refs])).trans hc.1, hc.2⟩
  | .pa sz j i o, u, h, hc => by
    simp only [V.ren, V.d, C] at hc ⊢
    obtain ⟨s, b, h1, h2⟩ := hc
    exact ⟨s, b, (h j (by simp [V.refs])).trans h1, h2⟩
  | .ptr j o, u, h, hc => by
    simp only [V.ren, V.d, C] at hc ⊢
    obtain ⟨b, h1, h2⟩ := hc
    exact ⟨b, (h j (by simp [V.refs])).trans h1, h2⟩
  | .ag vs, u, h, hc => by
    simp only [V.ren, V.d, C] at hc ⊢
    obtain ⟨us, h1, h2⟩ := hc
    exact ⟨us, h1, ren_cs vs us (fun k hk => h k (by simpa only [V.refs] using hk)) h2⟩
  | .tu vs, u, h, hc => by
    simp only [V.ren, V.d, C] at hc ⊢
    obtain ⟨us, h1, h2⟩ := hc
    exact ⟨us, h1, ren_cs vs us (fun k hk => h k (by simpa only [V.refs] using hk)) h2⟩
  | .fn g vs, u, h, hc => by
    simp only [V.ren, V.d, C] at hc ⊢
    obtain ⟨us, h1, h2⟩ := hc
    exact ⟨us, h1, ren_cs vs us (fun k hk => h k (by simpa only [V.refs] using hk)) h2⟩
  | .ifc n x, u, h, hc => by
    simp only [V.ren, V.d, C] at hc ⊢
    obtain ⟨z, h1, h2⟩ := hc
    exact ⟨z, h1, ren_c x z (fun k hk => h k (by simpa only [V.refs] using hk)) h2⟩
  | .t y x, u, h, hc => C.ext (Ext.refl X w) _ _ (fun k hk => by rw [V.refs_d] at hk; cases hk) hc
  | .c x, u, h, hc => C.ext (Ext.refl X w) _ _ (fun k hk => by rw [V.refs_d] at hk; cases hk) hc
  | .el y x o, u, h, hc => C.ext (Ext.refl X w) _ _ (fun k hk => by rw [V.refs_d] at hk; cases hk) hc
  | .ud, u, h, hc => C.ext (Ext.refl X w) _ _ (fun k hk => by rw [V.refs_d] at hk; cases hk) hc
  | .un, u, h, hc => C.any_ u
theorem ren_cs {f : Nat → Nat} : ∀ (vs : List V) (us : List Value), (∀ k ∈ V.refss vs, σ' (f k) = σ k) → Cs X w σ (V.ds vs) us → Cs X w σ' (V.ds (V.rens f vs)) us
  | [], us, _, hc => by simpa only [V.ds, V.rens, Cs] using hc
  | v :: vs, us, h, hc => by
    simp only [V.ds, V.rens, Cs] at hc ⊢
    obtain ⟨u, us', rfl, h1, h2⟩ := hc
    exact ⟨u, us', rfl, ren_c v u (fun k hk => h k (by simp only [V.refss, List.mem_append]; exact .inl hk)) h1, ren_cs vs us' (fun k hk => h k (by simp only [V.refss, List.mem_append]; exact .inr hk)) h2⟩
end
theorem ren_cells {f : Nat → Nat} (v : V) {us : List Value} (h : ∀ k ∈ v.refs, σ' (f k) = σ k) (hc : Cs X w σ v.d.cells us) : Cs X w σ' (v.ren f).d.cells us := by
  have key : v.d.cells = [v.d] → (v.ren f).d.cells = [(v.ren f).d] → Cs X w σ' (v.ren f).d.cells us := by
    intro h1 h2
    rw [h1] at hc
    rw [h2]
    obtain ⟨u, rfl, h3⟩ := hc.one
    exact Cs.mk1 (ren_c v u h h3)
  cases v with
  | ag vs => exact ren_cs vs us (fun k hk => h k (by simpa only [V.refs] using hk)) hc
  | t y x => exact Cs.ext (Ext.refl X w) _ _ (fun k hk => by rw [V.refs_dcells] at hk; cases hk) hc
  | _ => exact key rfl rfl
theorem ren_oat {f : Nat → Nat} {k : Nat} {o : VO} (h : OAt X w σ k o) (hk : σ' (f k) = σ k) (hr : ∀ r ∈ o.refs, σ' (f r) = σ r) : OAt X w σ' (f k) (o.ren f) := by
  cases o with
  | no => trivial
  | box v =>
    obtain ⟨b, ty, vs, h1, h2, h3, h4⟩ := h
    exact ⟨b, ty, vs, hk.trans h1, h2, ren_cells v hr h3, h4⟩
  | arr e y l =>
    obtain ⟨u, xs, h1, h2⟩ := h
    exact ⟨u, xs, hk.trans h1, h2⟩
theorem ren_no {f : Nat → Nat} {o : VO} (h : o ≠ .no) : o.ren f ≠ .no := by cases o <;> simp [VO.ren] at h ⊢
end

/-- what is reached from numbers on -/
def VS.reach (S : VS) : Nat → List Nat → List Nat → List Nat
  | 0, _, acc => acc
  | _ + 1, [], acc => acc
  | n + 1, k :: ks, acc => if acc.contains k = true then S.reach n ks acc else S.reach n ((S.st k).refs ++ ks) (acc ++ [k])
def rk (ks : List Nat) (k : Nat) : Nat := 50000 + ks.idxOf k
/-- the numbers of what a call hands out -/
def imps (d m : Nat) : List Nat := (List.range m).map fun i => d + 5000 * i
def kr (ks is : List Nat) (j : Nat) : Nat := (ks ++ is).getD (j - 50000) 0
/-- lent things come back -/
def VS.back (S : VS) (ks : List Nat) (os : List VO) (g : Nat → Nat) : VS := ⟨S.ts, fun k => if ks.contains k = true then (os.getD (ks.idxOf k) .no).ren g else S.st k, S.dom⟩
def VS.allocs (S : VS) : List (Nat × VO) → Option VS
  | [] => some S
  | (k, o) :: r => if (S.free k && o.refs.isEmpty) = true then (S.alloc k o).allocs r else none
/-- may these be lent? -/
def VS.lends (S : VS) (vs : List V) (ks : List Nat) : Bool :=
  decide ks.Nodup && ((V.refss vs).all ks.contains && ks.all fun k => (match S.st k with | .no => false | _ => true) && (S.st k).refs.all ks.contains)
def backOk (ks is : List Nat) (r : V) (os : List VO) : Bool :=
  (decide (ks ++ is).Nodup && decide (is.length ≤ 4)) && ((r.refs.all fun j => decide (50000 ≤ j ∧ j - 50000 < (ks ++ is).length)) && ((os.take ks.length).all fun o => o.refs.all fun j => decide (50000 ≤ j ∧ j - 50000 < ks.length)))

section
variable {β : Type}
/-- a call: F what the function makes; d the slot of the result -/
def callR (F : List V → List VO → Option (Bool × V × List VO)) (S : VS) (vs : List V) (d : Nat) (K : VS → V → Option β) : Option β :=
  if S.lends vs (S.reach 20 (V.refss vs) []) = true then
    match F (V.rens (rk (S.reach 20 (V.refss vs) [])) vs) ((S.reach 20 (V.refss vs) []).map fun k => (S.st k).ren (rk (S.reach 20 (V.refss vs) []))) with
    | some (q, r, os) => br q
      (if backOk (S.reach 20 (V.refss vs) []) (imps d (os.length - (S.reach 20 (V.refss vs) []).length)) r os = true then
        match (S.back (S.reach 20 (V.refss vs) []) os (kr (S.reach 20 (V.refss vs) []) (imps d (os.length - (S.reach 20 (V.refss vs) []).length)))).allocs ((imps d (os.length - (S.reach 20 (V.refss vs) []).length)).zip (os.drop (S.reach 20 (V.refss vs) []).length)) with
        | some S' => K S' (r.ren (kr (S.reach 20 (V.refss vs) []) (imps d (os.length - (S.reach 20 (V.refss vs) []).length))))
        | none => none
      else none) none
    | none => none
  else none
end
end Go.Proofs.Ytnimpcffagidoaa.K
