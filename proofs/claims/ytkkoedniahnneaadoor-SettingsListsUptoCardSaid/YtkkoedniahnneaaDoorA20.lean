/-
 The walk of settings.Get; its word.
-/
import Derived.Test.YtkkoedniahnneaaDoorA19
set_option linter.unusedSimpArgs false
set_option linter.unusedVariables false
namespace Go.Proofs.YtkkoedniahnneaaDoor.K
open Go.RowKit
noncomputable section
theorem set_len : ∀ l : List Setting, (l.flatMap setCells).length = l.length * 4
 | [] => rfl
 | x :: l => by
  rw [List.flatMap_cons, List.length_append, set_len l, List.length_cons]
  simp [setCells]
  omega
theorem set_vals {X : Nat → Nat → Prop} {w : World} : ∀ (l : List Setting) (vs : List Value), Cs X w nowhere (l.flatMap tySetting.cells) vs → vs = l.flatMap setCells
 | [], vs, h => by simpa [Cs] using h
 | x :: l, vs, h0 => by
  have h : Cs X w nowhere (D.v (.string x.1) :: D.v (.string x.2.1) :: D.v (.string x.2.2.1) :: D.v (.int .i64 x.2.2.2.1) :: l.flatMap tySetting.cells) vs := h0
  clear h0
  simp only [Cs, C] at h
  obtain ⟨_, _, rfl, ⟨rfl, _⟩, _, _, rfl, ⟨rfl, _⟩, _, _, rfl, ⟨rfl, _⟩, _, r, rfl, ⟨rfl, _⟩, h9⟩ := h
  rw [set_vals l r h9]
  rfl
def getF (l : List Setting) (a b : ByteArray) : ByteArray × Bool := match (backs l l.length).find? fun p => isSN p.2 a b with
 | some p => (p.2.2.2.1, true)
 | none => (ByteArray.mk #[], false)
theorem backs_mem {l : List Setting} {p : Nat × Setting} (h : p ∈ backs l l.length) : l[p.1]? = some p.2 := by
 unfold backs at h
 obtain ⟨j, hj, rfl⟩ := List.mem_map.1 h
 have hj := List.mem_range.1 hj
 have : l.length - 1 - j < l.length := by omega
 simp [List.getElem?_eq_getElem this]
section
attribute [local go_sem ↓] Go.wp_at_zero Go.wp_at_succ
set_option maxHeartbeats 1000000 in
theorem get_any (A : Option Addr) (c : Nat) (l : List Setting) (a b : ByteArray) (w : World) (h : SetAt w (.slice A l.length c) l) (hn : l.length ≤ 100000) :
  Calls Tryd.prog 45 #[.slice A l.length c, .string a, .string b] w fun e w' => e = .returned (.tuple #[.string (getF l a b).1, .bool (getF l a b).2]) ∧ Below w.heap.size w w' := by
 have hB : Below w.heap.size w ((w.alloc (.cells #[.string a] 9)).alloc (.cells #[.string b] 9)) := ((Below.refl _ _).alloc (Nat.le_refl _) _).alloc (by simp) _
 have ha : ((w.alloc (.cells #[.string a] 9)).alloc (.cells #[.string b] 9)).cell? ⟨w.heap.size, 0, none⟩ = some (.string a) := h9_of _ _ _ _ _
 have hb : ((w.alloc (.cells #[.string a] 9)).alloc (.cells #[.string b] 9)).cell? ⟨w.heap.size + 1, 0, none⟩ = some (.string b) := by simp
 have hL := h.ext hB
 have H := Lib.hid h
 have HL := Lib.hid hL
 have HB := Lib.hid hB
 clear h hL hB
 cases hq : (backs l l.length).find? fun p => isSN p.2 a b with
 | none =>
  have e1 : lastX l a b = -1 := by unfold lastX; rw [hq]; rfl
  have e2 : getF l a b = (ByteArray.mk #[], false) := by unfold getF; rw [hq]
  rw [e2]
  clear hq e2
  go_enter Tryd.func45, Tryd.ntmps45
  go_wp2_with (go_at_call 82; refine (last_any A c l _ _ a b _ HL.out hn ha hb).mono ?_; rw [e1]; rintro e w1 ⟨rfl, hb1⟩)
  go_ret2
  exact ⟨rfl, HB.out.trans (hb1.mono (by simp; omega))⟩
 | some p =>
  have hm := backs_mem (List.mem_of_find?_eq_some hq)
  have e1 : lastX l a b = (p.1 : Int) := by unfold lastX; rw [hq]; rfl
  have e2 : getF l a b = (p.2.2.2.1, true) := by unfold getF; rw [hq]
  rw [e2]
  clear hq e2
  obtain ⟨i, x⟩ := p
  have hi : i < l.length := (List.getElem?_eq_some_iff.1 hm).1
  have hi2 : ((i : Nat) : Int) < ((l.length : Nat) : Int) := by omega
  have HM := Lib.hid hm
  clear hm
  obtain ⟨g, off, rfl, hgl, z0, z1, z2, z3⟩ := sl_set H.out HM.out
  have Z2 := Lib.hid z2
  clear z0 z1 z2 z3
  have hni : ¬ ((i : Nat) : Int) < 0 := by omega
  go_enter Tryd.func45, Tryd.ntmps45
  go_wp2_with (go_at_call 82; refine (last_any _ c l _ _ a b _ HL.out hn ha hb).mono ?_; rw [e1]; rintro e w1 ⟨rfl, hb1⟩; have zz := (hb1.cell (p := ⟨g, off + i * 4 + 2, none⟩) (by simp; omega)).trans ((HB.out.cell (p := ⟨g, off + i * 4 + 2, none⟩) hgl).trans Z2.out))
  go_ret2
  exact ⟨rfl, HB.out.trans (hb1.mono (by simp; omega))⟩
end
theorem set_at {X : Nat → Nat → Prop} {w : World} {σ : Pl} {l : List Setting} {v : Value} (h : C X w σ (V.t (.sl tySetting) l).d v) : ∃ A c, v = .slice A l.length c ∧ SetAt w (.slice A l.length c) l := by
 have h : C X w σ (.sl l.length (l.flatMap tySetting.cells)) v := h
 simp only [C] at h
 obtain ⟨A, c, rfl, h1, h2, h3, h4⟩ := h
 refine ⟨A, c, rfl, ?_, A, c, rfl, h1, h2, fun hn => ?_⟩
 ·exact set_len l
 ·obtain ⟨b, off, vs, rfl, hcs, hfx⟩ := h4 hn
  have e : vs = l.flatMap setCells := set_vals l vs hcs
  subst e
  exact ⟨b, off, rfl, hfx.lt, fun j u hu => hfx.at_ j u hu⟩
def getOk (l : List Setting) (_a _b : ByteArray) : Bool := decide (l.length ≤ 100000)
def sp_f45 : Ent := spec (.pr (.sl tySetting) (.pr .str (.pr .str .nil))) (fun x => (getOk x.1 x.2.1 x.2.2.1)) (fun x => (.tu [(.t .str ((getF x.1 x.2.1 x.2.2.1).1)), (.t .bool ((getF x.1 x.2.1 x.2.2.1).2))]))
theorem en_f45 : Entered Tryd.prog 45 := .inr ⟨by decide, _, Tryd.func45, by kernel_rfl, by kernel_rfl⟩
theorem ms_f45 : Meets Tryd.prog 45 (strip sp_f45) := by
 unfold sp_f45
 refine meets_calls (fun x hok X w σ vs hfin hc => ?_)
 obtain ⟨l, a, b, u⟩ := x
 have hc : Cs X w σ [(V.t (.sl tySetting) l).d, .v (.string a), .v (.string b)] vs := hc
 simp only [Cs] at hc
 obtain ⟨v1, r1, rfl, c1, v2, r2, rfl, c2, v3, r3, rfl, c3, rfl⟩ := hc
 simp only [C] at c2 c3
 obtain ⟨rfl, _⟩ := c2
 obtain ⟨rfl, _⟩ := c3
 obtain ⟨A, c, rfl, hL⟩ := set_at c1
 refine (get_any A c l a b w hL (of_decide_eq_true hok)).mono ?_
 rintro e w' ⟨rfl, hb⟩
 refine ⟨_, rfl, ?_, hb⟩
 show C X w' σ (.tu [.v (.string (getF l a b).1), .v (.bool (getF l a b).2)]) _
 simp only [C, Cs]
 exact ⟨_, rfl, _, _, rfl, ⟨rfl, rfl⟩, _, _, rfl, ⟨rfl, rfl⟩, rfl⟩
end
end Go.Proofs.YtkkoedniahnneaaDoor.K
