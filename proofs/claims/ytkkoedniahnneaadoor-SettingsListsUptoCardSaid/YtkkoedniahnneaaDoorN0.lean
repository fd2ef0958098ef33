/-
 Plain tools: ranges of any length, the first that is so; what a name is; words out of dice.
-/
import Derived.Test.YtkkoedniahnneaaDoorM1
import Derived.Test.YtkkoedniahnneaaDoorKD
set_option linter.unusedSimpArgs false
set_option linter.unusedVariables false
namespace Go.Proofs.YtkkoedniahnneaaDoor.K
open Go.RowKit
noncomputable section
def rngG {α : Type} (l : List α) (n i : Int) : Bool := decide (n = l.length ∧ 0 ≤ i ∧ i ≤ n ∧ l.length ≤ 9223372036854775807)
theorem rngG_k {α : Type} {l : List α} {n i : Int} (h : rngG l n i = true) : n = l.length ∧ l.length ≤ 9223372036854775807 ∧ ∃ k : Nat, i = k ∧ k ≤ l.length := by
 simp only [rngG, decide_eq_true_eq] at h
 obtain ⟨h1, h2, h3, h4⟩ := h
 exact ⟨h1, h4, i.toNat, by omega, by omega⟩
theorem rngG_0 {α : Type} {l : List α} (h : l.length ≤ 9223372036854775807) : rngG l (llen l) 0 = true := by
 simp only [rngG, decide_eq_true_eq, llen]
 exact ⟨trivial, by omega, by omega, h⟩
def lenG {α : Type} (l : List α) : Bool := decide (l.length ≤ 9223372036854775807)
theorem add1G {k : Nat} (h : k < 9223372036854775807) : iadd .i64 (k : Int) 1 = ((k + 1 : Nat) : Int) := by rw [iadd_in (by omega)]; omega
def fstG {α : Type} (m : α → Bool) : List α → Option Nat
 | [] => none
 | a :: l => if m a then some 0 else (fstG m l).map (· + 1)
theorem fstG_none {α : Type} {m : α → Bool} : ∀ {l : List α}, fstG m l = none ↔ l.any m = false
 | [] => by simp [fstG]
 | a :: l => by
  have ih := fstG_none (m := m) (l := l)
  unfold fstG
  cases h : m a with
  | true => simp [h]
  | false => simpa [h] using ih
theorem fstG_some {α : Type} {m : α → Bool} : ∀ {l : List α} {k : Nat}, fstG m l = some k → ∃ h : k < l.length, m l[k] = true
 | [], _, h => by cases h
 | a :: l, k, h => by
  unfold fstG at h
  split at h
  ·rename_i ha
   injection h with h
   subst h
   exact ⟨by simp, ha⟩
  ·obtain ⟨j, h1, h2⟩ := Option.map_eq_some_iff.1 h
   subst h2
   obtain ⟨q, h3⟩ := fstG_some h1
   exact ⟨by simp only [List.length_cons]; omega, h3⟩
theorem fstG_isSome {α : Type} {m : α → Bool} {l : List α} : (fstG m l).isSome = l.any m := by
 cases h : fstG m l with
 | none => rw [fstG_none.1 h]; rfl
 | some k =>
  obtain ⟨q, h1⟩ := fstG_some h
  exact (List.any_eq_true.2 ⟨l[k], List.getElem_mem q, h1⟩).symm
theorem bytesG_len (s : ByteArray) : (bytesL s).length = s.size := by simp [bytesL]
def idxS (l : List ByteArray) (v : ByteArray) : Int := match fstG (seq v) l with | some k => (k : Int) | none => -1
def idxSOk (l : List ByteArray) (_v : ByteArray) : Bool := lenG l
def fg_f122_0 : Fg := ⟨[(0, some (.sl .str)), (1, some .str), (7, some tI), (8, some tI)], []⟩
def tb_f122_0 : TC := (.sq (.reg [(oP 9 (.bin false .lss (.t 8) (.t 7)))]) (.sq (.cd (.t 9) .sk (.fg ⟨[], []⟩ (.ex 0))) (.sq (.bk 1 (.sq (.reg [(oV 10 8), (oV 5 10)]) (.sq (.reg [(oV 11 1), (oV 12 0), (oV 13 5), (oP 14 (.ix 1 (.t 12) (.t 13))), (oL 15 14), (oP 16 (.bin false .eql (.t 11) (.t 15)))]) (.cd (.t 16) (.sq (.reg [(oV 17 5), (oV 4 17)]) (.fg ⟨[(4, some tI)], []⟩ .rt)) .sk)))) (.reg [(oP 18 (.bin false .add (.t 8) (cI 1))), (oV 8 18)]))))
def tc_f122 : TC := (.sq (.reg [(oP 4 (.mv (cI 0)))]) (.sq (.sq (.reg [(oV 6 0), (oP 7 (.len false (.t 6))), (oP 8 (.mv (cI 0)))]) (.bk 0 (.lp 0 fg_f122_0 tb_f122_0))) (.sq (.reg [(oP 4 (.mv (cI (-1))))]) .rt)))
def rv_f122 : List (RV × Option Ty) := [((.t 4), some tI)]
abbrev sh_f122_0 : Sh := ⟨[(0, .ty (.sl .str)), (1, .ty .str), (7, .ty tI), (8, .ty tI)], []⟩
def st_f122_0 (x0 : (List ByteArray)) (x1 : ByteArray) (x7 : Int) (x8 : Int) : VS := sh_f122_0.st (x0, x1, x7, x8, ()) ()
abbrev sh_f122_0_ret : Sh := ⟨[(4, .ty tI)], []⟩
def st_f122_0_ret (x4 : Int) : VS := sh_f122_0_ret.st (x4, ()) ()
abbrev sh_f122_0_e0 : Sh := ⟨[], []⟩
def st_f122_0_e0  : VS := sh_f122_0_e0.st () ()
-- loop 0: (x0 : (List ByteArray)) (x1 : ByteArray) (x7 : Int) (x8 : Int); out: ('ret',) (x4 : Int); ('exit', 0)
def L_f122_0 : VS → Option (Bool × List (Bool × Exit × VS)) := mkL sh_f122_0 (fun x y => (rngG x.1 x.2.2.1 x.2.2.2.1)) (fun x y => [(((fstG (seq x.2.1) (x.1.drop x.2.2.2.1.toNat)).isSome), .ret, st_f122_0_ret (x.2.2.2.1 + ((fstG (seq x.2.1) (x.1.drop x.2.2.2.1.toNat)).getD 0 : Nat))), (true, .exit 0, st_f122_0_e0)])
def g_f122 : G := ⟨TYs, [], 19, EL [], keeps, (Ls [L_f122_0]), IL [], RL []⟩
def b_f122_0 (x0 : (List ByteArray)) (x1 : ByteArray) (x7 : Int) (x8 : Int) : Option (Exit × VS) :=
 br ((ilt x8 x7))
  (br (cIx x0 x8)
   (br ((seq x1 (lgt .str x0 (Int.toNat x8))))
    (some (.ret, st_f122_0_ret x8))
    (some (.normal, st_f122_0 x0 x1 x7 (iadd .i64 x8 1))))
   (none))
  (some (.exit 0, st_f122_0_e0))
noncomputable def lp_f122_0 (x0 : (List ByteArray)) (x1 : ByteArray) (x7 : Int) (x8 : Int) : Option (Exit × VS) := loopF (roundF g_f122 fg_f122_0 tb_f122_0) (st_f122_0 x0 x1 x7 x8)
noncomputable def n_f122_0 (x0 : (List ByteArray)) (x1 : ByteArray) (x7 : Int) (x8 : Int) : Option (Exit × VS) :=
 br ((ilt x8 x7))
  (br (cIx x0 x8)
   (br ((seq x1 (lgt .str x0 (Int.toNat x8))))
    (some (.ret, st_f122_0_ret x8))
    (lp_f122_0 x0 x1 x7 (iadd .i64 x8 1)))
   (none))
  (some (.exit 0, st_f122_0_e0))
def la_f122_0 (x0 : (List ByteArray)) (x1 : ByteArray) (x7 : Int) (x8 : Int) : Option (Exit × VS) := br ((fstG (seq x1) (x0.drop x8.toNat)).isSome) (some (.ret, st_f122_0_ret (x8 + ((fstG (seq x1) (x0.drop x8.toNat)).getD 0 : Nat)))) <| some (.exit 0, st_f122_0_e0)
theorem be_f122_0 (x0 : (List ByteArray)) (x1 : ByteArray) (x7 : Int) (x8 : Int) : roundF g_f122 fg_f122_0 tb_f122_0 (st_f122_0 x0 x1 x7 x8) = b_f122_0 x0 x1 x7 x8 := by kernel_rfl
theorem ln_f122_0 (x0 : (List ByteArray)) (x1 : ByteArray) (x7 : Int) (x8 : Int) : lp_f122_0 x0 x1 x7 x8 = n_f122_0 x0 x1 x7 x8 := (loopF_nxt _ _).trans (by
 rw [be_f122_0]
 simp only [b_f122_0, n_f122_0, nxt_br, nxt_n, nxt_r, nxt_e, nxt_0]
 rfl)
def r_f122 (p0 : (List ByteArray)) (p1 : ByteArray) : Option (V × List VO) :=
 br ((rngG p0 (llen p0) (0 : Int)))
  (br (((fstG (seq p1) (p0.drop (0 : Int).toNat)).isSome))
   (some (.t tI ((0 : Int) + ((fstG (seq p1) (p0.drop (0 : Int).toNat)).getD 0 : Nat)), []))
   (some (.t tI (-1), [])))
  (none)
theorem e_f122 (p0 : (List ByteArray)) (p1 : ByteArray) : runF g_f122 tc_f122 rv_f122 false [.t (.sl .str) p0, .t .str p1] [] = r_f122 p0 p1 := by kernel_rfl
theorem ok_f122 : Option.map (trC Tryd.prog) Tryd.f122.body = some tc_f122.er := by kernel_rfl
theorem rok_f122 : trVs Tryd.prog Tryd.f122.results.toList = some (rv_f122.map Prod.fst) := by kernel_rfl
theorem en_f122 : Entered Tryd.prog 122 := .inr ⟨by decide, _, Tryd.func122, by kernel_rfl, by kernel_rfl⟩
theorem gk_f122 : GOk Tryd.prog g_f122 := gok_of _ (fun p hp => by cases hp)
theorem l_f122_0 (x0 : (List ByteArray)) (x1 : ByteArray) (x7 : Int) (x8 : Int) (h : (rngG x0 x7 x8) = true) : lp_f122_0 x0 x1 x7 x8 = la_f122_0 x0 x1 x7 x8 := by
 obtain ⟨rfl, h3, k, rfl, hk⟩ := rngG_k h
 clear h
 refine range_ind x0 (fun k => lp_f122_0 x0 x1 (x0.length : Int) (k : Int) = la_f122_0 x0 x1 (x0.length : Int) (k : Int)) ?_ ?_ k hk
 ·rw [ln_f122_0]
  simp [n_f122_0, la_f122_0, ilt_nat, br_false, fstG]
 ·intro k hk ih
  rw [ln_f122_0]
  simp only [n_f122_0, ilt_nat, cIx_nat, hk, decide_true, br_true, Int.toNat_natCast, add1G (show k < 9223372036854775807 by omega), ih, lgt_get (y := .str) hk]
  simp only [la_f122_0, Int.toNat_natCast, List.drop_eq_getElem_cons hk, fstG]
  cases h : seq x1 x0[k] with
  | true => simp [br_true]
  | false =>
   simp only [br_false, Bool.false_eq_true, if_false]
   cases hq : fstG (seq x1) (x0.drop (k + 1)) with
   | none => rfl
   | some j =>
    simp only [Option.map_some, Option.isSome_some, Option.getD_some, br_true]
    congr 3
    omega
theorem lo_f122_0 : ∀ S l p, g_f122.L 0 (fgt fg_f122_0 S) = some (true, l) → pickA l = some p → loopF (roundF g_f122 fg_f122_0 tb_f122_0) S = some p :=
 lok_of (s := sh_f122_0) ⟨by decide, by decide⟩ (by kernel_rfl) fun x y hok p hp => by
 simp only [pickA_br, pickA_one] at hp
 exact (l_f122_0 x.1 x.2.1 x.2.2.1 x.2.2.2.1 (by simpa using hok)).trans hp
theorem lk_f122 : tc_f122.lok g_f122 := by
 repeat (first | exact trivial | exact lo_f122_0 | refine ⟨?_, ?_⟩)
theorem s_f122 (l : List ByteArray) (v : ByteArray) (h : idxSOk l v = true) : r_f122 l v = some (.t tI (idxS l v), []) := by
 simp only [idxSOk, lenG, decide_eq_true_eq] at h
 simp only [r_f122, rngG_0 h, br_true, Int.toNat_zero, List.drop_zero, idxS]
 cases fstG (seq v) l <;> simp [br_true, br_false]
def sp_f122 : Ent := spec (.pr (.sl .str) (.pr .str .nil)) (fun x => (idxSOk x.1 x.2.1)) (fun x => (.t tI (idxS x.1 x.2.1)))
theorem ms_f122 : Meets Tryd.prog 122 (strip sp_f122) := by
 obtain ⟨c, hc, hi⟩ := Option.map_eq_some_iff.1 ok_f122
 exact meets_spec (R := runF g_f122 tc_f122 rv_f122 false) (meets_of (by decide) Tryd.func122 hc hi Tryd.ntmps122 rok_f122 gk_f122 lk_f122 mixed) fun x hok => (e_f122 x.1 x.2.1).trans (s_f122 x.1 x.2.1 hok)
def hasS (l : List ByteArray) (v : ByteArray) : Bool := l.any (seq v)
def tc_f87 : TC := (.sq (.reg [(oP 4 (.mv (cB false)))]) (.sq (.reg [(oV 5 0), (oV 6 1), (oC 7 122 [(.t 5), (.t 6)]), (oP 8 (.bin false .geq (.t 7) (cI 0))), (oV 4 8)]) .rt))
def rv_f87 : List (RV × Option Ty) := [((.t 4), some .bool)]
def g_f87 : G := ⟨TYs, [], 9, EL [(122, sp_f122)], keeps, (fun _ _ => none), IL [], RL []⟩
def r_f87 (p0 : (List ByteArray)) (p1 : ByteArray) : Option (V × List VO) :=
 br ((idxSOk p0 p1))
  (some (.t .bool (ige (idxS p0 p1) 0), []))
  (none)
theorem e_f87 (p0 : (List ByteArray)) (p1 : ByteArray) : runF g_f87 tc_f87 rv_f87 false [.t (.sl .str) p0, .t .str p1] [] = r_f87 p0 p1 := by kernel_rfl
theorem ok_f87 : Option.map (trC Tryd.prog) Tryd.f87.body = some tc_f87.er := by kernel_rfl
theorem rok_f87 : trVs Tryd.prog Tryd.f87.results.toList = some (rv_f87.map Prod.fst) := by kernel_rfl
theorem en_f87 : Entered Tryd.prog 87 := .inr ⟨by decide, _, Tryd.func87, by kernel_rfl, by kernel_rfl⟩
theorem gk_f87 : GOk Tryd.prog g_f87 := gok_of _ (by
 intro p hp
 simp only [List.mem_cons, List.not_mem_nil, or_false] at hp
 rcases hp with rfl
 ·exact ⟨en_f122, ms_f122⟩)
theorem lk_f87 : tc_f87.lok g_f87 := by repeat (first | exact trivial | refine ⟨?_, ?_⟩)
theorem s_f87 (l : List ByteArray) (v : ByteArray) (h : idxSOk l v = true) : r_f87 l v = some (.t .bool (hasS l v), []) := by
 simp only [r_f87, h, br_true]
 apply some_b
 unfold idxS hasS
 cases hq : fstG (seq v) l with
 | none => rw [fstG_none.1 hq]; rfl
 | some k =>
  rw [← fstG_isSome, hq]
  simp only [ige, Option.isSome_some, decide_eq_true_eq]
  omega
def sp_f87 : Ent := spec (.pr (.sl .str) (.pr .str .nil)) (fun x => (idxSOk x.1 x.2.1)) (fun x => (.t .bool (hasS x.1 x.2.1)))
theorem ms_f87 : Meets Tryd.prog 87 (strip sp_f87) := by
 obtain ⟨c, hc, hi⟩ := Option.map_eq_some_iff.1 ok_f87
 exact meets_spec (R := runF g_f87 tc_f87 rv_f87 false) (meets_of (by decide) Tryd.func87 hc hi Tryd.ntmps87 rok_f87 gk_f87 lk_f87 mixed) fun x hok => (e_f87 x.1 x.2.1).trans (s_f87 x.1 x.2.1 hok)
def nameG (s : ByteArray) : Bool := decide (s.size ≤ 9223372036854775807)
theorem sgt_get {s : ByteArray} {k : Nat} (h : k < s.size) : sgt s (k : Int) = (bytesL s)[k]'(by rw [bytesG_len]; exact h) := by
 have hl : k < s.data.toList.length := by simpa using h
 simp only [sgt, bytesL, Int.toNat_natCast, List.getElem_map, List.getD_eq_getElem?_getD, List.getElem?_eq_getElem hl, Option.getD_some]
def dwdG (d : Dice) (l : List ByteArray) : ByteArray := l.getD (dval d l.length).toNat ByteArray.empty
def dwdGN (d : Dice) (l : List ByteArray) : Dice := dnext d l.length
def wdGOk (d : Dice) (l : List ByteArray) : Bool := dOk d && decide (0 < l.length ∧ l.length < 4611686018427387904)
def tc_f32 : TC := (.sq (.reg [(oP 4 (.mv (.c (.v (.string (ByteArray.mk #[]))))))]) (.sq (.reg [(oV 5 1), (oV 6 0), (oV 7 1), (oP 8 (.len false (.t 7))), (oC 9 18 [(.t 6), (.t 8)]), (oP 10 (.ix 1 (.t 5) (.t 9))), (oL 11 10), (oV 4 11)]) .rt))
def rv_f32 : List (RV × Option Ty) := [((.t 4), some .str)]
def g_f32 : G := ⟨TYs, [], 12, EL [(18, sp_f18)], keeps, (fun _ _ => none), IL [], RL []⟩
def r_f32 (d0 : Dice) (p1 : (List ByteArray)) : Option (V × List VO) :=
 br ((nextOk d0 (llen p1)))
  (br (cIx p1 (dval d0 (llen p1)))
   (some (.t .str (lgt .str p1 (Int.toNat (dval d0 (llen p1)))), [.box (.t tyDice (dnext d0 (llen p1)))]))
   (none))
  (none)
theorem e_f32 (d0 : Dice) (p1 : (List ByteArray)) : runF g_f32 tc_f32 rv_f32 false [.ptr 50000 0, .t (.sl .str) p1] [.box (.t tyDice d0)] = r_f32 d0 p1 := by kernel_rfl
theorem ok_f32 : Option.map (trC Tryd.prog) Tryd.f32.body = some tc_f32.er := by kernel_rfl
theorem rok_f32 : trVs Tryd.prog Tryd.f32.results.toList = some (rv_f32.map Prod.fst) := by kernel_rfl
theorem en_f32 : Entered Tryd.prog 32 := .inr ⟨by decide, _, Tryd.func32, by kernel_rfl, by kernel_rfl⟩
theorem gk_f32 : GOk Tryd.prog g_f32 := gok_of _ (by
 intro p hp
 simp only [List.mem_cons, List.not_mem_nil, or_false] at hp
 rcases hp with rfl
 ·exact ⟨en_f18, ms_f18⟩)
theorem lk_f32 : tc_f32.lok g_f32 := by repeat (first | exact trivial | refine ⟨?_, ?_⟩)
theorem s_f32 (d : Dice) (l : List ByteArray) (h : wdGOk d l = true) : r_f32 d l = some (.t .str (dwdG d l), [.box (.t tyDice (dwdGN d l))]) := by
 simp only [wdGOk, Bool.and_eq_true, decide_eq_true_eq] at h
 obtain ⟨h1, h2, h3⟩ := h
 simp only [r_f32]
 have e1 : nextOk d (llen l) = true := by simp only [nextOk, h1, llen, Bool.true_and, decide_eq_true_eq]; omega
 rw [e1, br_true]
 have h4 := dval_lt (d := d) (n := llen l) (by unfold llen; omega)
 have e2 : cIx l (dval d (llen l)) = true := by simp only [cIx, decide_eq_true_eq]; exact h4
 rw [e2, br_true]
 rfl
def sp_f32 : Ent := specP tyDice (.pr (.sl .str) .nil) (fun d x => (wdGOk d x.1)) (fun d x => (.t .str (dwdG d x.1))) (fun d x => (dwdGN d x.1))
theorem ms_f32 : Meets Tryd.prog 32 (strip sp_f32) := by
 obtain ⟨c, hc, hi⟩ := Option.map_eq_some_iff.1 ok_f32
 exact meets_specP (R := runF g_f32 tc_f32 rv_f32 false) (meets_of (by decide) Tryd.func32 hc hi Tryd.ntmps32 rok_f32 gk_f32 lk_f32 mixed) rfl fun d x hok => (e_f32 d x.1).trans (s_f32 d x.1 hok)
end
end Go.Proofs.YtkkoedniahnneaaDoor.K
