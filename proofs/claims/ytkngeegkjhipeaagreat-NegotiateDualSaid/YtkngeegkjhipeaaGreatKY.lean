import Derived.Test.YtkngeegkjhipeaaGreatKX
set_option linter.unusedSimpArgs false
set_option linter.unusedVariables false
namespace Go.Proofs.YtkngeegkjhipeaaGreat.K
open Go.RowKit
section
variable {P : Program}
theorem Qvl {f : FuncId} {e : Nat} {y : Ty} {N : Nat} {ok : (Ty.pr (.sl y) .nil).T → Bool} (hlt : f < 1000000)
  (hok : ∀ x, ok x = true → x.1.length ≤ N)
  (h : ∀ (A : Option Addr) (c n : Nat) (cells : List Value) (w : World), Sl w (.slice A n c) y.sz n cells → (∀ u ∈ cells, u.oneCell' = true) → n ≤ N →
   Calls P f #[.slice A n c] w fun r w' => ∃ sv, r = .returned sv ∧ w'.ownsRow w.heap.size e y.sz sv n cells ∧ Below w.heap.size w w') :
  Meets P f (strip (specO (.pr (.sl y) .nil) ok (fun _ => .ms 50000) (fun x => [.arr e y x.1]))) := by
 intro args objs r os hF X w σ vs hfin hl hc
 unfold strip specO at hF
 cases objs with
 | cons o os' => simp at hF
 | nil =>
  simp only at hF
  cases ha : (Ty.pr (.sl y) .nil).args args with
  | none => rw [ha] at hF; cases hF
  | some x =>
   rw [ha] at hF
   simp only at hF
   split at hF
   ·rename_i r' os' hq
    simp only [Option.some.injEq, Prod.mk.injEq] at hF hq
    obtain ⟨rfl, rfl⟩ := hF
    obtain ⟨h1, rfl, rfl⟩ := hq
    have hcc := QcI ha hc
    obtain ⟨l, u0⟩ := x
    have hlen := hok _ h1
    simp only [Ty.canon, V.ds, V.d, Ty.d, Cs, C] at hcc
    obtain ⟨u, us, rfl, ⟨A, c, rfl, hnc, hmx, hz, hp⟩, rfl⟩ := hcc
    have hsl : ∃ cells, Sl w (.slice A l.length c) y.sz l.length cells ∧ (∀ u ∈ cells, u.oneCell' = true) ∧ Cs X w nowhere (List.flatMap y.cells l) cells := by
     by_cases hq : l = []
     ·subst hq
      exact ⟨[], ⟨by simp, A, c, rfl, Nat.zero_le _, hmx, fun hn => absurd hn (by simp)⟩, fun u hu => (by cases hu), by simp [Cs]⟩
     ·have hn : 0 < l.length := List.length_pos_iff.2 hq
      obtain ⟨b, off, vs, rfl, g1, g2⟩ := hp hn
      have hvl := Cs.len g1
      rw [QdJ] at hvl
      exact ⟨vs, ⟨hvl, _, c, rfl, hnc, hmx, fun _ => ⟨b, off, rfl, g2.lt, fun j u hu => g2.at_ j u hu⟩⟩, g2.one, g1⟩
    obtain ⟨cells, s1, s2, s3⟩ := hsl
    refine (Qqw hlt (h A c l.length cells w s1 s2 hlen)).mono ?_
    rintro _ w' ⟨sv, rfl, ho, hb⟩
    let X' : Nat → Nat → Prop := fun b q => X b q ∨ some b = sv.ownBlock
    let σ' : Pl := fun k => if k = 50000 then .arr sv else σ k
    have hsv : sv.oneCell' = true := by
     rcases ho.2 with ⟨rfl, _⟩ | ⟨g, cap, cur, rfl, _⟩ <;> rfl
    have hlo : ∀ b, sv.ownBlock = some b → w.heap.size ≤ b ∧ b < w'.heap.size := fun b hbk => ho.lt b hbk
    have ex : Ext0 X w X' w' := ⟨hb.size, fun b q hbl hx => ⟨fun hx' => by
     rcases hx' with hx' | hx'
     ·exact hx hx'
     ·have := hlo b hx'.symm
      omega, World.cell?_of_block (w := w) (a := ⟨b, q, none⟩) (hb.block b hbl)⟩⟩
    have e0 : σ' 50000 = .arr sv := if_pos rfl
    refine ⟨sv, X', σ', rfl, ?_, ⟨fun b q hq => ?_, fun j o hj => ?_, fun i j b hij hi hj => by simp at hi hj; omega, by simp, fun j hj => by simp at hj, fun j b _ hj hl => ?_, Qxy hb, fun b q hbl hq => ?_, fun b q _ _ hq => .inl hq⟩⟩
    ·simp only [V.d, C]
     exact ⟨e0, hsv⟩
    ·rcases hq with hq | hq
     ·exact Nat.lt_of_lt_of_le (hfin b q hq) hb.size
     ·exact (hlo b hq.symm).2
    ·cases j with
     | zero =>
      simp only [List.getElem?_cons_zero, Option.some.injEq] at hj
      subst hj
      have ho0 : w'.ownsRow 0 e y.sz sv l.length cells := by
       refine ⟨ho.1, ?_⟩
       rcases ho.2 with hq | ⟨g, cap, cur, q1, q2, q3⟩
       ·exact .inl hq
       ·exact .inr ⟨g, cap, cur, q1, Nat.zero_le _, q3⟩
      exact ⟨⟨sv, cells, e0, .of ho0, Cs.ext0 ex _ _ (fun _ _ => rfl) s3, s2, fun b hbk o => .inr hbk.symm⟩, fun _ h => by cases h⟩
     | succ j => simp at hj
    ·simp only [List.length_cons, List.length_nil] at hj
     have : j = 0 := by omega
     subst this
     left
     rw [show 50000 + 0 = 50000 from rfl, e0] at hl
     exact (hlo b hl).1
    ·rcases hq with hq | hq
     ·exact hq
     ·have := hlo b hq.symm
      omega
   ·cases hF
theorem QHP {f : FuncId} {e : Nat} {y : Ty} {a : Ty} {ok : a.T → Bool} {L : a.T → List y.T} (h : Meets P f (strip (specO a ok (fun _ => .ms 50000) (fun x => [.arr e y (L x)])))) : Meets P f (strip (spec a ok (fun x => .t (.sl y) (L x)))) := by
 intro args objs r os hF X w σ vs hfin hl hc
 unfold strip spec at hF
 cases objs with
 | cons o os' => simp at hF
 | nil =>
  simp only at hF
  cases ha : a.args args with
  | none => rw [ha] at hF; cases hF
  | some x =>
   rw [ha] at hF
   simp only at hF
   split at hF
   ·rename_i r' os' hq
    simp only [Option.some.injEq, Prod.mk.injEq] at hF hq
    obtain ⟨rfl, rfl⟩ := hF
    obtain ⟨h1, rfl, rfl⟩ := hq
    have h2 := h args [] (.ms 50000) [.arr e y (L x)] (by unfold strip specO; simp only [ha, h1]) X w σ vs hfin hl hc
    refine h2.mono ?_
    rintro e0 w' ⟨u, X', σ', rfl, hu, hE⟩
    have hat := (hE.at_ 0 _ rfl).1
    let X'' : Nat → Nat → Prop := fun b q => X' b q ∧ (σ' 50000).blk ≠ some b
    have ex : Ext X' w' X'' w' := ⟨Nat.le_refl _, fun b q _ hx => ⟨fun hx' => hx hx'.1, rfl⟩, fun _ _ _ => rfl⟩
    have hX : ∀ u b, σ' 50000 = .arr u → u.ownBlock = some b → ∀ q, ¬ X'' b q := fun u b h1 h2 q hx => hx.2 (by rw [h1]; exact h2)
    have hz := fz_c (k := 50000) (y := y) (l := L x) (e := e) hat ex hX (.ms 50000) u hu
    simp only [V.fz, if_true] at hz
    refine ⟨u, X'', σ', rfl, hz, ⟨fun b q hq => hE.fin b q hq.1, fun j o hj => by simp at hj, fun i j b _ hi => absurd hi (by simp), by simp, fun j hj => absurd hj (by simp), fun j b _ hj => absurd hj (by simp), hE.fr, fun b q hb hq => hE.sub b q hb hq.1, fun b q hb hn hq => ⟨hE.old b q hb (fun i hi => absurd hi (by simp)) hq, fun hb2 => ?_⟩⟩⟩
    rcases hE.new 0 b (Nat.zero_le _) (by simp) hb2 with h3 | ⟨i, hi, _⟩
    ·omega
    ·exact absurd hi (by simp)
   ·cases hF
end
end Go.Proofs.YtkngeegkjhipeaaGreat.K
