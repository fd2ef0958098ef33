/-
  Plain tools: ranges of any length, the first that is so; names of algorithms and what a name is.
-/
import Derived.Test.YthdichlainehpaaM1
import Derived.Test.YthdichlainehpaaKD
set_option linter.unusedSimpArgs false
set_option linter.unusedVariables false
namespace Go.Proofs.Ythdichlainehpaa.K
open Go.RowKit
noncomputable section
def rngG {α : Type} (l : List α) (n i : Int) : Bool := decide (n = l.length ∧ 0 ≤ i ∧ i ≤ n ∧ l.length ≤ 9223372036854775807)
theorem rngG_k {α : Type} {l : List α} {n i : Int} (h : rngG l n i = true) : n = l.length ∧ l.length ≤ 9223372036854775807 ∧ ∃ k : Nat, i = k ∧ k ≤ l.length := by
  simp only [rngG, decide_eq_true_eq] at h
  obtain ⟨h1, h2, h3, h4⟩ := h
  exact ⟨h1, h4, i.toNat, by omega, by omega⟩
theorem rngG_0 {α : Type} {l : List α} (h : l.length ≤ 9223372036854775807) : rngG l (llen l) 0 = true := by
  simp only [rngG, decide_eq_true_eq, llen]
  exact ⟨trivial, by omega, by omega, h⟩
def lenG {α : Type} (l : List α) : Bool := decide (l.length ≤ 9223372036854775807)
theorem add1G {k : Nat} (h : k < 9223372036854775807) : iadd .i64 (k : Int) 1 = ((k + 1 : Nat) : Int) := by rw [iadd_in (by omega)]; omega
def fstG {α : Type} (m : α → Bool) : List α → Option Nat
  | [] => none
  | a :: l => if m a then some 0 else (fstG m l).map (· + 1)
theorem fstG_none {α : Type} {m : α → Bool} : ∀ {l : List α}, fstG m l = none ↔ l.any m = false
  | [] => by simp [fstG]
  | a :: l => by
    have ih := fstG_none (m := m) (l := l)
    unfold fstG
    cases h : m a with
    | true => simp [h]
    | false => simpa [h] using ih
theorem fstG_some {α : Type} {m : α → Bool} : ∀ {l : List α} {k : Nat}, fstG m l = some k → ∃ h : k < l.length, m l[k] = true
  | [], _, h => by cases h
  | a :: l, k, h => by
    unfold fstG at h
    split at h
    · rename_i ha
      injection h with h
      subst h
      exact ⟨by simp, ha⟩
    · obtain ⟨j, h1, h2⟩ := Option.map_eq_some_iff.1 h
      subst h2
      obtain ⟨q, h3⟩ := fstG_some h1
      exact ⟨by simp only [List.length_cons]; omega, h3⟩
theorem fstG_isSome {α : Type} {m : α → Bool} {l : List α} : (fstG m l).isSome = l.any m := by
  cases h : fstG m l with
  | none => rw [fstG_none.1 h]; rfl
  | some k =>
    obtain ⟨q, h1⟩ := fstG_some h
    exact (List.any_eq_true.2 ⟨l[k], List.getElem_mem q, h1⟩).symm
theorem bytesG_len (s : ByteArray) : (bytesL s).length = s.size := by simp [bytesL]
theorem br_same {β : Type} (c : Bool) (a : Option β) : br c a a = a := by cases c <;> rfl
/-! slices.Index, slices.Contains at texts -/
def idxS (l : List ByteArray) (v : ByteArray) : Int := match fstG (seq v) l with | some k => (k : Int) | none => -1
def idxSOk (l : List ByteArray) (_v : ByteArray) : Bool := lenG l
def fg_f110_0 : Fg := ⟨[(0, some (.sl .str)), (1, some .str), (7, some tI), (8, some tI)], []⟩
def tb_f110_0 : TC := (.sq (.reg [(oP 9 (.bin false .lss (.t 8) (.t 7)))]) (.sq (.cd (.t 9) .sk (.fg ⟨[], []⟩ (.ex 0))) (.sq (.bk 1 (.sq (.reg [(oV 10 8), (oV 5 10)]) (.sq (.reg [(oV 11 1), (oV 12 0), (oV 13 5), (oP 14 (.ix 1 (.t 12) (.t 13))), (oL 15 14), (oP 16 (.bin false .eql (.t 11) (.t 15)))]) (.cd (.t 16) (.sq (.reg [(oV 17 5), (oV 4 17)]) (.fg ⟨[(4, some tI)], []⟩ .rt)) .sk)))) (.reg [(oP 18 (.bin false .add (.t 8) (cI 1))), (oV 8 18)]))))
/-- slices.Index[[]string,string] -/
def tc_f110 : TC := (.sq (.reg [(oP 4 (.mv (cI 0)))]) (.sq (.sq (.reg [(oV 6 0), (oP 7 (.len false (.t 6))), (oP 8 (.mv (cI 0)))]) (.bk 0 (.lp 0 fg_f110_0 tb_f110_0))) (.sq (.reg [(oP 4 (.mv (cI (-1))))]) .rt)))
def rv_f110 : List (RV × Option Ty) := [((.t 4), some tI)]
abbrev sh_f110_0 : Sh := ⟨[(0, .ty (.sl .str)), (1, .ty .str), (7, .ty tI), (8, .ty tI)], []⟩
def st_f110_0 (x0 : (List ByteArray)) (x1 : ByteArray) (x7 : Int) (x8 : Int) : VS := sh_f110_0.st (x0, x1, x7, x8, ()) ()
abbrev sh_f110_0_ret : Sh := ⟨[(4, .ty tI)], []⟩
def st_f110_0_ret (x4 : Int) : VS := sh_f110_0_ret.st (x4, ()) ()
abbrev sh_f110_0_e0 : Sh := ⟨[], []⟩
def st_f110_0_e0  : VS := sh_f110_0_e0.st () ()
-- loop 0: (x0 : (List ByteArray)) (x1 : ByteArray) (x7 : Int) (x8 : Int); out: ('ret',) (x4 : Int); ('exit', 0) 
def L_f110_0 : VS → Option (Bool × List (Bool × Exit × VS)) := mkL sh_f110_0 (fun x y => (rngG x.1 x.2.2.1 x.2.2.2.1)) (fun x y => [(((fstG (seq x.2.1) (x.1.drop x.2.2.2.1.toNat)).isSome), .ret, st_f110_0_ret (x.2.2.2.1 + ((fstG (seq x.2.1) (x.1.drop x.2.2.2.1.toNat)).getD 0 : Nat))), (true, .exit 0, st_f110_0_e0)])
def g_f110 : G := ⟨TYs, [], 19, EL [], keeps, (Ls [L_f110_0]), IL [], RL []⟩
def b_f110_0 (x0 : (List ByteArray)) (x1 : ByteArray) (x7 : Int) (x8 : Int) : Option (Exit × VS) :=
  br ((ilt x8 x7))
    (br (cIx x0 x8)
      (br ((seq x1 (lgt .str x0 (Int.toNat x8))))
        (some (.ret, st_f110_0_ret x8))
        (some (.normal, st_f110_0 x0 x1 x7 (iadd .i64 x8 1))))
      (none))
    (some (.exit 0, st_f110_0_e0))
noncomputable def lp_f110_0 (x0 : (List ByteArray)) (x1 : ByteArray) (x7 : Int) (x8 : Int) : Option (Exit × VS) := loopF (roundF g_f110 fg_f110_0 tb_f110_0) (st_f110_0 x0 x1 x7 x8)
noncomputable def n_f110_0 (x0 : (List ByteArray)) (x1 : ByteArray) (x7 : Int) (x8 : Int) : Option (Exit × VS) :=
  br ((ilt x8 x7))
    (br (cIx x0 x8)
      (br ((seq x1 (lgt .str x0 (Int.toNat x8))))
        (some (.ret, st_f110_0_ret x8))
        (lp_f110_0 x0 x1 x7 (iadd .i64 x8 1)))
      (none))
    (some (.exit 0, st_f110_0_e0))
def la_f110_0 (x0 : (List ByteArray)) (x1 : ByteArray) (x7 : Int) (x8 : Int) : Option (Exit × VS) := br ((fstG (seq x1) (x0.drop x8.toNat)).isSome) (some (.ret, st_f110_0_ret (x8 + ((fstG (seq x1) (x0.drop x8.toNat)).getD 0 : Nat)))) <| some (.exit 0, st_f110_0_e0)
theorem be_f110_0 (x0 : (List ByteArray)) (x1 : ByteArray) (x7 : Int) (x8 : Int) : roundF g_f110 fg_f110_0 tb_f110_0 (st_f110_0 x0 x1 x7 x8) = b_f110_0 x0 x1 x7 x8 := by kernel_rfl
theorem ln_f110_0 (x0 : (List ByteArray)) (x1 : ByteArray) (x7 : Int) (x8 : Int) : lp_f110_0 x0 x1 x7 x8 = n_f110_0 x0 x1 x7 x8 := (loopF_nxt _ _).trans (by
  rw [be_f110_0]
  simp only [b_f110_0, n_f110_0, nxt_br, nxt_n, nxt_r, nxt_e, nxt_0]
  rfl)
def r_f110 (p0 : (List ByteArray)) (p1 : ByteArray) : Option (V × List VO) :=
  br ((rngG p0 (llen p0) (0 : Int)))
    (br (((fstG (seq p1) (p0.drop (0 : Int).toNat)).isSome))
      (some (.t tI ((0 : Int) + ((fstG (seq p1) (p0.drop (0 : Int).toNat)).getD 0 : Nat)), []))
      (some (.t tI (-1), [])))
    (none)
theorem e_f110 (p0 : (List ByteArray)) (p1 : ByteArray) : runF g_f110 tc_f110 rv_f110 false [.t (.sl .str) p0, .t .str p1] [] = r_f110 p0 p1 := by kernel_rfl
theorem ok_f110 : Option.map (trC Try.prog) Try.f110.body = some tc_f110.er := by kernel_rfl
theorem rok_f110 : trVs Try.prog Try.f110.results.toList = some (rv_f110.map Prod.fst) := by kernel_rfl
theorem en_f110 : Entered Try.prog 110 := .inr ⟨by decide, _, Try.func110, by kernel_rfl, by kernel_rfl⟩
theorem gk_f110 : GOk Try.prog g_f110 := gok_of _ (fun p hp => by cases hp)
theorem l_f110_0 (x0 : (List ByteArray)) (x1 : ByteArray) (x7 : Int) (x8 : Int) (h : (rngG x0 x7 x8) = true) : lp_f110_0 x0 x1 x7 x8 = la_f110_0 x0 x1 x7 x8 := by
  obtain ⟨rfl, h3, k, rfl, hk⟩ := rngG_k h
  clear h
  refine range_ind x0 (fun k => lp_f110_0 x0 x1 (x0.length : Int) (k : Int) = la_f110_0 x0 x1 (x0.length : Int) (k : Int)) ?_ ?_ k hk
  · rw [ln_f110_0]
    simp [n_f110_0, la_f110_0, ilt_nat, br_false, fstG]
  · intro k hk ih
    rw [ln_f110_0]
    simp only [n_f110_0, ilt_nat, cIx_nat, hk, decide_true, br_true, Int.toNat_natCast, add1G (show k < 9223372036854775807 by omega), ih, lgt_get (y := .str) hk]
    simp only [la_f110_0, Int.toNat_natCast, List.drop_eq_getElem_cons hk, fstG]
    cases h : seq x1 x0[k] with
    | true => simp [br_true]
    | false =>
      simp only [br_false, Bool.false_eq_true, if_false]
      cases hq : fstG (seq x1) (x0.drop (k + 1)) with
      | none => rfl
      | some j =>
        simp only [Option.map_some, Option.isSome_some, Option.getD_some, br_true]
        congr 3
        omega
theorem lo_f110_0 : ∀ S l p, g_f110.L 0 (fgt fg_f110_0 S) = some (true, l) → pickA l = some p → loopF (roundF g_f110 fg_f110_0 tb_f110_0) S = some p :=
  lok_of (s := sh_f110_0) ⟨by decide, by decide⟩ (by kernel_rfl) fun x y hok p hp => by
  simp only [pickA_br, pickA_one] at hp
  exact (l_f110_0 x.1 x.2.1 x.2.2.1 x.2.2.2.1 (by simpa using hok)).trans hp
theorem lk_f110 : tc_f110.lok g_f110 := by
  repeat (first | exact trivial | exact lo_f110_0 | refine ⟨?_, ?_⟩)
theorem s_f110 (l : List ByteArray) (v : ByteArray) (h : idxSOk l v = true) : r_f110 l v = some (.t tI (idxS l v), []) := by
  simp only [idxSOk, lenG, decide_eq_true_eq] at h
  simp only [r_f110, rngG_0 h, br_true, Int.toNat_zero, List.drop_zero, idxS]
  cases fstG (seq v) l <;> simp [br_true, br_false]
def sp_f110 : Ent := spec (.pr (.sl .str) (.pr .str .nil)) (fun x => (idxSOk x.1 x.2.1)) (fun x => (.t tI (idxS x.1 x.2.1)))
theorem ms_f110 : Meets Try.prog 110 (strip sp_f110) := by
  obtain ⟨c, hc, hi⟩ := Option.map_eq_some_iff.1 ok_f110
  exact meets_spec (R := runF g_f110 tc_f110 rv_f110 false) (meets_of (by decide) Try.func110 hc hi Try.ntmps110 rok_f110 gk_f110 lk_f110 mixed) fun x hok => (e_f110 x.1 x.2.1).trans (s_f110 x.1 x.2.1 hok)
def hasS (l : List ByteArray) (v : ByteArray) : Bool := l.any (seq v)
/-- slices.Contains[[]string,string] -/
def tc_f96 : TC := (.sq (.reg [(oP 4 (.mv (cB false)))]) (.sq (.reg [(oV 5 0), (oV 6 1), (oC 7 110 [(.t 5), (.t 6)]), (oP 8 (.bin false .geq (.t 7) (cI 0))), (oV 4 8)]) .rt))
def rv_f96 : List (RV × Option Ty) := [((.t 4), some .bool)]
def g_f96 : G := ⟨TYs, [], 9, EL [(110, sp_f110)], keeps, (fun _ _ => none), IL [], RL []⟩
def r_f96 (p0 : (List ByteArray)) (p1 : ByteArray) : Option (V × List VO) :=
  br ((idxSOk p0 p1))
    (some (.t .bool (ige (idxS p0 p1) 0), []))
    (none)
theorem e_f96 (p0 : (List ByteArray)) (p1 : ByteArray) : runF g_f96 tc_f96 rv_f96 false [.t (.sl .str) p0, .t .str p1] [] = r_f96 p0 p1 := by kernel_rfl
theorem ok_f96 : Option.map (trC Try.prog) Try.f96.body = some tc_f96.er := by kernel_rfl
theorem rok_f96 : trVs Try.prog Try.f96.results.toList = some (rv_f96.map Prod.fst) := by kernel_rfl
theorem en_f96 : Entered Try.prog 96 := .inr ⟨by decide, _, Try.func96, by kernel_rfl, by kernel_rfl⟩
theorem gk_f96 : GOk Try.prog g_f96 := gok_of _ (by
  intro p hp
  simp only [List.mem_cons, List.not_mem_nil, or_false] at hp
  rcases hp with rfl
  · exact ⟨en_f110, ms_f110⟩)
theorem lk_f96 : tc_f96.lok g_f96 := by repeat (first | exact trivial | refine ⟨?_, ?_⟩)
theorem s_f96 (l : List ByteArray) (v : ByteArray) (h : idxSOk l v = true) : r_f96 l v = some (.t .bool (hasS l v), []) := by
  simp only [r_f96, h, br_true]
  apply some_b
  unfold idxS hasS
  cases hq : fstG (seq v) l with
  | none => rw [fstG_none.1 hq]; rfl
  | some k =>
    rw [← fstG_isSome, hq]
    simp only [ige, Option.isSome_some, decide_eq_true_eq]
    omega
def sp_f96 : Ent := spec (.pr (.sl .str) (.pr .str .nil)) (fun x => (idxSOk x.1 x.2.1)) (fun x => (.t .bool (hasS x.1 x.2.1)))
theorem ms_f96 : Meets Try.prog 96 (strip sp_f96) := by
  obtain ⟨c, hc, hi⟩ := Option.map_eq_some_iff.1 ok_f96
  exact meets_spec (R := runF g_f96 tc_f96 rv_f96 false) (meets_of (by decide) Try.func96 hc hi Try.ntmps96 rok_f96 gk_f96 lk_f96 mixed) fun x hok => (e_f96 x.1 x.2.1).trans (s_f96 x.1 x.2.1 hok)
/-! what a name is -/
def charG (c : Int) : Bool := decide (32 < c ∧ c ≤ 126)
def namedG (s : ByteArray) : Bool := (bytesL s).all charG && decide (1 ≤ s.size ∧ s.size ≤ 32)
def nameG (s : ByteArray) : Bool := decide (s.size ≤ 9223372036854775807)
def fg_f95_0 : Fg := ⟨[(0, some .str), (6, some (.sl (.int .u8))), (7, some tI), (8, some tI)], []⟩
def tb_f95_0 : TC := (.sq (.reg [(oP 9 (.bin false .lss (.t 8) (.t 7)))]) (.sq (.cd (.t 9) .sk (.fg ⟨[(0, some .str)], []⟩ (.ex 0))) (.sq (.bk 1 (.sq (.reg [(oP 10 (.ix 1 (.t 6) (.t 8))), (oL 11 10), (oV 4 11)]) (.sq (.reg [(oV 12 4), (oP 13 (.bin false .leq (.t 12) (.c (.v (.int .u8 32))))), (oV 14 13), (oQ 15 14 false (.mv (.t 4))), (oQ 16 14 false (.bin false .gtr (.t 15) (.c (.v (.int .u8 126))))), (oP 17 (.pick (.t 14) (cB true) (.t 16)))]) (.cd (.t 17) (.sq (.reg [(oP 2 (.mv (cB false)))]) (.fg ⟨[(2, some .bool)], []⟩ .rt)) .sk)))) (.reg [(oP 18 (.bin false .add (.t 8) (cI 1))), (oV 8 18)]))))
/-- cipherplan/catalog.Named -/
def tc_f95 : TC := (.sq (.reg [(oP 2 (.mv (cB false)))]) (.sq (.sq (.reg [(oV 5 0), (oC 6 7240144 [(.t 5)]), (oP 7 (.len false (.t 6))), (oP 8 (.mv (cI 0)))]) (.bk 0 (.lp 0 fg_f95_0 tb_f95_0))) (.sq (.reg [(oV 19 0), (oP 20 (.len true (.t 19))), (oP 21 (.bin false .geq (.t 20) (cI 1))), (oV 22 21), (oQ 23 22 true (.mv (.t 0))), (oQ 24 22 true (.len true (.t 23))), (oQ 25 22 true (.bin false .leq (.t 24) (cI 32))), (oP 26 (.pick (.t 22) (.t 25) (cB false))), (oV 2 26)]) .rt)))
def rv_f95 : List (RV × Option Ty) := [((.t 2), some .bool)]
abbrev sh_f95_0 : Sh := ⟨[(0, .ty .str), (6, .ty (.sl (.int .u8))), (7, .ty tI), (8, .ty tI)], []⟩
def st_f95_0 (x0 : ByteArray) (x6 : (List Int)) (x7 : Int) (x8 : Int) : VS := sh_f95_0.st (x0, x6, x7, x8, ()) ()
abbrev sh_f95_0_ret : Sh := ⟨[(2, .ty .bool)], []⟩
def st_f95_0_ret (x2 : Bool) : VS := sh_f95_0_ret.st (x2, ()) ()
abbrev sh_f95_0_e0 : Sh := ⟨[(0, .ty .str)], []⟩
def st_f95_0_e0 (x0 : ByteArray) : VS := sh_f95_0_e0.st (x0, ()) ()
-- loop 0: (x0 : ByteArray) (x6 : (List Int)) (x7 : Int) (x8 : Int); out: ('ret',) (x2 : Bool); ('exit', 0) (x0 : ByteArray)
def L_f95_0 : VS → Option (Bool × List (Bool × Exit × VS)) := mkL sh_f95_0 (fun x y => (rngG x.2.1 x.2.2.1 x.2.2.2.1)) (fun x y => [((!((x.2.1.drop x.2.2.2.1.toNat).all charG)), .ret, st_f95_0_ret (false)), (true, .exit 0, st_f95_0_e0 (x.1))])
def g_f95 : G := ⟨TYs, [], 27, EL [(7240144, sp_op_convert_9_39)], keeps, (Ls [L_f95_0]), IL [], RL []⟩
def b_f95_0 (x0 : ByteArray) (x6 : (List Int)) (x7 : Int) (x8 : Int) : Option (Exit × VS) :=
  br ((ilt x8 x7))
    (br (cIx x6 x8)
      (br ((ile (lgt (.int .u8) x6 (Int.toNat x8)) 32))
        (some (.ret, st_f95_0_ret false))
        (br ((igt (lgt (.int .u8) x6 (Int.toNat x8)) 126))
          (some (.ret, st_f95_0_ret false))
          (some (.normal, st_f95_0 x0 x6 x7 (iadd .i64 x8 1)))))
      (none))
    (some (.exit 0, st_f95_0_e0 x0))
noncomputable def lp_f95_0 (x0 : ByteArray) (x6 : (List Int)) (x7 : Int) (x8 : Int) : Option (Exit × VS) := loopF (roundF g_f95 fg_f95_0 tb_f95_0) (st_f95_0 x0 x6 x7 x8)
noncomputable def n_f95_0 (x0 : ByteArray) (x6 : (List Int)) (x7 : Int) (x8 : Int) : Option (Exit × VS) :=
  br ((ilt x8 x7))
    (br (cIx x6 x8)
      (br ((ile (lgt (.int .u8) x6 (Int.toNat x8)) 32))
        (some (.ret, st_f95_0_ret false))
        (br ((igt (lgt (.int .u8) x6 (Int.toNat x8)) 126))
          (some (.ret, st_f95_0_ret false))
          (lp_f95_0 x0 x6 x7 (iadd .i64 x8 1))))
      (none))
    (some (.exit 0, st_f95_0_e0 x0))
def la_f95_0 (x0 : ByteArray) (x6 : (List Int)) (x7 : Int) (x8 : Int) : Option (Exit × VS) := br (!((x6.drop x8.toNat).all charG)) (some (.ret, st_f95_0_ret (false))) <| some (.exit 0, st_f95_0_e0 (x0))
theorem be_f95_0 (x0 : ByteArray) (x6 : (List Int)) (x7 : Int) (x8 : Int) : roundF g_f95 fg_f95_0 tb_f95_0 (st_f95_0 x0 x6 x7 x8) = b_f95_0 x0 x6 x7 x8 := by kernel_rfl
theorem ln_f95_0 (x0 : ByteArray) (x6 : (List Int)) (x7 : Int) (x8 : Int) : lp_f95_0 x0 x6 x7 x8 = n_f95_0 x0 x6 x7 x8 := (loopF_nxt _ _).trans (by
  rw [be_f95_0]
  simp only [b_f95_0, n_f95_0, nxt_br, nxt_n, nxt_r, nxt_e, nxt_0]
  rfl)
def r_f95 (p0 : ByteArray) : Option (V × List VO) :=
  br ((bytesOk p0))
    (br ((rngG (bytesL p0) (llen (bytesL p0)) (0 : Int)))
      (br ((!(((bytesL p0).drop (0 : Int).toNat).all charG)))
        (some (.t .bool (false), []))
        (br ((ige (slen (p0)) 1))
          (some (.t .bool (ile (slen (p0)) 32), []))
          (some (.t .bool false, []))))
      (none))
    (none)
theorem e_f95 (p0 : ByteArray) : runF g_f95 tc_f95 rv_f95 false [.t .str p0] [] = r_f95 p0 := by kernel_rfl
theorem ok_f95 : Option.map (trC Try.prog) Try.f95.body = some tc_f95.er := by kernel_rfl
theorem rok_f95 : trVs Try.prog Try.f95.results.toList = some (rv_f95.map Prod.fst) := by kernel_rfl
theorem en_f95 : Entered Try.prog 95 := .inr ⟨by decide, _, Try.func95, by kernel_rfl, by kernel_rfl⟩
theorem gk_f95 : GOk Try.prog g_f95 := gok_of _ (by
  intro p hp
  simp only [List.mem_cons, List.not_mem_nil, or_false] at hp
  rcases hp with rfl
  · exact ⟨en_op_convert_9_39, ms_op_convert_9_39⟩)
theorem l_f95_0 (x0 : ByteArray) (x6 : (List Int)) (x7 : Int) (x8 : Int) (h : (rngG x6 x7 x8) = true) : lp_f95_0 x0 x6 x7 x8 = la_f95_0 x0 x6 x7 x8 := by
  obtain ⟨rfl, h3, k, rfl, hk⟩ := rngG_k h
  clear h
  refine range_ind x6 (fun k => lp_f95_0 x0 x6 (x6.length : Int) (k : Int) = la_f95_0 x0 x6 (x6.length : Int) (k : Int)) ?_ ?_ k hk
  · rw [ln_f95_0]
    simp [n_f95_0, la_f95_0, ilt_nat, br_false]
  · intro k hk ih
    rw [ln_f95_0]
    simp only [n_f95_0, ilt_nat, cIx_nat, hk, decide_true, br_true, Int.toNat_natCast, add1G (show k < 9223372036854775807 by omega), lgt_get (y := .int .u8) hk, ih]
    simp only [la_f95_0, Int.toNat_natCast, List.drop_eq_getElem_cons hk, List.all_cons, charG]
    by_cases c1 : x6[k] ≤ 32
    · rw [show ile x6[k] 32 = true from decide_eq_true c1, br_true, decide_eq_false (show ¬ (32 < x6[k] ∧ x6[k] ≤ 126) by omega)]
      rfl
    · rw [show ile x6[k] 32 = false from decide_eq_false c1, br_false]
      by_cases c2 : 126 < x6[k]
      · rw [show igt x6[k] 126 = true from decide_eq_true (by omega), br_true, decide_eq_false (show ¬ (32 < x6[k] ∧ x6[k] ≤ 126) by omega)]
        rfl
      · rw [show igt x6[k] 126 = false from decide_eq_false (by omega), br_false, decide_eq_true (show 32 < x6[k] ∧ x6[k] ≤ 126 by omega), Bool.true_and]
theorem lo_f95_0 : ∀ S l p, g_f95.L 0 (fgt fg_f95_0 S) = some (true, l) → pickA l = some p → loopF (roundF g_f95 fg_f95_0 tb_f95_0) S = some p :=
  lok_of (s := sh_f95_0) ⟨by decide, by decide⟩ (by kernel_rfl) fun x y hok p hp => by
  simp only [pickA_br, pickA_one] at hp
  exact (l_f95_0 x.1 x.2.1 x.2.2.1 x.2.2.2.1 (by simpa using hok)).trans hp
theorem lk_f95 : tc_f95.lok g_f95 := by
  repeat (first | exact trivial | exact lo_f95_0 | refine ⟨?_, ?_⟩)
theorem s_f95 (s : ByteArray) (h : nameG s = true) : r_f95 s = some (.t .bool (namedG s), []) := by
  simp only [nameG, decide_eq_true_eq] at h
  have hl := bytesG_len s
  simp only [r_f95, show bytesOk s = true from decide_eq_true (by omega), rngG_0 (show (bytesL s).length ≤ 9223372036854775807 by omega), br_true, Int.toNat_zero, List.drop_zero, namedG]
  cases (bytesL s).all charG with
  | false => rfl
  | true =>
    simp only [Bool.not_true, br_false, Bool.true_and]
    refine br_intro (fun g => ?_) (fun g => ?_)
    · simp only [ige, slen, decide_eq_true_eq] at g
      apply some_b
      rw [Bool.eq_iff_iff]
      simp only [ile, slen, decide_eq_true_eq]
      omega
    · simp only [ige, slen, decide_eq_false_iff_not] at g
      apply some_b
      rw [eq_comm, decide_eq_false_iff_not]
      omega
def sp_f95 : Ent := spec (.pr .str .nil) (fun x => (nameG x.1)) (fun x => (.t .bool (namedG x.1)))
theorem ms_f95 : Meets Try.prog 95 (strip sp_f95) := by
  obtain ⟨c, hc, hi⟩ := Option.map_eq_some_iff.1 ok_f95
  exact meets_spec (R := runF g_f95 tc_f95 rv_f95 false) (meets_of (by decide) Try.func95 hc hi Try.ntmps95 rok_f95 gk_f95 lk_f95 mixed) fun x hok => (e_f95 x.1).trans (s_f95 x.1 hok)
theorem sgt_get {s : ByteArray} {k : Nat} (h : k < s.size) : sgt s (k : Int) = (bytesL s)[k]'(by rw [bytesG_len]; exact h) := by
  have hl : k < s.data.toList.length := by simpa using h
  simp only [sgt, bytesL, Int.toNat_natCast, List.getElem_map, List.getD_eq_getElem?_getD, List.getElem?_eq_getElem hl, Option.getD_some]
def fg_f82_0 : Fg := ⟨[(0, some .str), (3, some tI)], []⟩
def tb_f82_0 : TC := (.sq (.sq (.reg [(oV 12 3), (oV 13 0), (oP 14 (.len true (.t 13))), (oP 15 (.bin false .lss (.t 12) (.t 14)))]) (.cd (.t 15) .sk (.fg ⟨[], []⟩ (.ex 0)))) (.sq (.bk 1 (.sq (.reg [(oV 18 0), (oV 19 3), (oP 20 (.sx (.t 18) (.t 19))), (oP 21 (.bin false .lss (.t 20) (.c (.v (.int .u8 33))))), (oV 22 21), (oQ 23 22 false (.mv (.t 0))), (oQ 24 22 false (.mv (.t 3))), (oQ 25 22 false (.sx (.t 23) (.t 24))), (oQ 26 22 false (.bin false .gtr (.t 25) (.c (.v (.int .u8 126))))), (oP 27 (.pick (.t 22) (cB true) (.t 26)))]) (.cd (.t 27) (.sq (.reg [(oP 2 (.mv (cB false)))]) (.fg ⟨[(2, some .bool)], []⟩ .rt)) .sk))) (.reg [(oV 16 3), (oP 17 (.bin false .add (.t 16) (cI 1))), (oV 3 17)])))
/-- cipherplan/cipherplanref03.Name -/
def tc_f82 : TC := (.sq (.reg [(oP 2 (.mv (cB false)))]) (.sq (.sq (.reg [(oV 4 0), (oP 5 (.len true (.t 4))), (oP 6 (.bin false .lss (.t 5) (cI 1))), (oV 7 6), (oQ 8 7 false (.mv (.t 0))), (oQ 9 7 false (.len true (.t 8))), (oQ 10 7 false (.bin false .gtr (.t 9) (cI 32))), (oP 11 (.pick (.t 7) (cB true) (.t 10)))]) (.cd (.t 11) (.sq (.reg [(oP 2 (.mv (cB false)))]) .rt) .sk)) (.sq (.sq (.reg [(oP 3 (.mv (cI 0)))]) (.bk 0 (.lp 0 fg_f82_0 tb_f82_0))) (.sq (.reg [(oP 2 (.mv (cB true)))]) .rt))))
def rv_f82 : List (RV × Option Ty) := [((.t 2), some .bool)]
abbrev sh_f82_0 : Sh := ⟨[(0, .ty .str), (3, .ty tI)], []⟩
def st_f82_0 (x0 : ByteArray) (x3 : Int) : VS := sh_f82_0.st (x0, x3, ()) ()
abbrev sh_f82_0_ret : Sh := ⟨[(2, .ty .bool)], []⟩
def st_f82_0_ret (x2 : Bool) : VS := sh_f82_0_ret.st (x2, ()) ()
abbrev sh_f82_0_e0 : Sh := ⟨[], []⟩
def st_f82_0_e0  : VS := sh_f82_0_e0.st () ()
-- loop 0: (x0 : ByteArray) (x3 : Int); out: ('ret',) (x2 : Bool); ('exit', 0) 
def L_f82_0 : VS → Option (Bool × List (Bool × Exit × VS)) := mkL sh_f82_0 (fun x y => (nameG x.1 && decide (0 ≤ x.2.1 ∧ x.2.1 ≤ x.1.size))) (fun x y => [((!(((bytesL x.1).drop x.2.1.toNat).all charG)), .ret, st_f82_0_ret (false)), (true, .exit 0, st_f82_0_e0)])
def g_f82 : G := ⟨TYs, [], 28, EL [], keeps, (Ls [L_f82_0]), IL [], RL []⟩
def b_f82_0 (x0 : ByteArray) (x3 : Int) : Option (Exit × VS) :=
  br ((ilt x3 (slen x0)))
    (br (cSx x0 x3)
      (br ((ilt (sgt x0 x3) 33))
        (some (.ret, st_f82_0_ret false))
        (br (cSx x0 x3)
          (br ((igt (sgt x0 x3) 126))
            (some (.ret, st_f82_0_ret false))
            (some (.normal, st_f82_0 x0 (iadd .i64 x3 1))))
          (none)))
      (none))
    (some (.exit 0, st_f82_0_e0))
noncomputable def lp_f82_0 (x0 : ByteArray) (x3 : Int) : Option (Exit × VS) := loopF (roundF g_f82 fg_f82_0 tb_f82_0) (st_f82_0 x0 x3)
noncomputable def n_f82_0 (x0 : ByteArray) (x3 : Int) : Option (Exit × VS) :=
  br ((ilt x3 (slen x0)))
    (br (cSx x0 x3)
      (br ((ilt (sgt x0 x3) 33))
        (some (.ret, st_f82_0_ret false))
        (br (cSx x0 x3)
          (br ((igt (sgt x0 x3) 126))
            (some (.ret, st_f82_0_ret false))
            (lp_f82_0 x0 (iadd .i64 x3 1)))
          (none)))
      (none))
    (some (.exit 0, st_f82_0_e0))
def la_f82_0 (x0 : ByteArray) (x3 : Int) : Option (Exit × VS) := br (!(((bytesL x0).drop x3.toNat).all charG)) (some (.ret, st_f82_0_ret (false))) <| some (.exit 0, st_f82_0_e0)
theorem be_f82_0 (x0 : ByteArray) (x3 : Int) : roundF g_f82 fg_f82_0 tb_f82_0 (st_f82_0 x0 x3) = b_f82_0 x0 x3 := by kernel_rfl
theorem ln_f82_0 (x0 : ByteArray) (x3 : Int) : lp_f82_0 x0 x3 = n_f82_0 x0 x3 := (loopF_nxt _ _).trans (by
  rw [be_f82_0]
  simp only [b_f82_0, n_f82_0, nxt_br, nxt_n, nxt_r, nxt_e, nxt_0]
  rfl)
def r_f82 (p0 : ByteArray) : Option (V × List VO) :=
  br ((ilt (slen p0) 1))
    (some (.t .bool false, []))
    (br ((igt (slen p0) 32))
      (some (.t .bool false, []))
      (br ((nameG p0 && decide (0 ≤ (0 : Int) ∧ (0 : Int) ≤ p0.size)))
        (br ((!(((bytesL p0).drop (0 : Int).toNat).all charG)))
          (some (.t .bool (false), []))
          (some (.t .bool true, [])))
        (none)))
theorem e_f82 (p0 : ByteArray) : runF g_f82 tc_f82 rv_f82 false [.t .str p0] [] = r_f82 p0 := by kernel_rfl
theorem ok_f82 : Option.map (trC Try.prog) Try.f82.body = some tc_f82.er := by kernel_rfl
theorem rok_f82 : trVs Try.prog Try.f82.results.toList = some (rv_f82.map Prod.fst) := by kernel_rfl
theorem en_f82 : Entered Try.prog 82 := .inr ⟨by decide, _, Try.func82, by kernel_rfl, by kernel_rfl⟩
theorem gk_f82 : GOk Try.prog g_f82 := gok_of _ (fun p hp => by cases hp)
theorem l_f82_0 (x0 : ByteArray) (x3 : Int) (h : (nameG x0 && decide (0 ≤ x3 ∧ x3 ≤ x0.size)) = true) : lp_f82_0 x0 x3 = la_f82_0 x0 x3 := by
  simp only [nameG, Bool.and_eq_true, decide_eq_true_eq] at h
  obtain ⟨h0, h1, h2⟩ := h
  obtain ⟨k, rfl⟩ := Int.eq_ofNat_of_zero_le h1
  have hl := bytesG_len x0
  refine range_ind (bytesL x0) (fun k => lp_f82_0 x0 (k : Int) = la_f82_0 x0 (k : Int)) ?_ ?_ k (by omega)
  · rw [ln_f82_0]
    simp [n_f82_0, la_f82_0, ilt, slen, hl, br_false, List.drop_eq_nil_of_le (show (bytesL x0).length ≤ x0.size by omega)]
  · intro k hk ih
    have hk2 : k < x0.size := by omega
    rw [ln_f82_0]
    simp only [n_f82_0, show ilt (k : Int) (slen x0) = true from by simp only [ilt, slen, decide_eq_true_eq]; omega, show cSx x0 (k : Int) = true from by simp only [cSx, decide_eq_true_eq]; omega, br_true, sgt_get hk2, add1G (show k < 9223372036854775807 by omega), ih]
    simp only [la_f82_0, Int.toNat_natCast, List.drop_eq_getElem_cons hk, List.all_cons, charG]
    by_cases c1 : (bytesL x0)[k] < 33
    · rw [show ilt (bytesL x0)[k] 33 = true from decide_eq_true c1, br_true, decide_eq_false (show ¬ (32 < (bytesL x0)[k] ∧ (bytesL x0)[k] ≤ 126) by omega)]
      rfl
    · rw [show ilt (bytesL x0)[k] 33 = false from decide_eq_false c1, br_false]
      by_cases c2 : 126 < (bytesL x0)[k]
      · rw [show igt (bytesL x0)[k] 126 = true from decide_eq_true c2, br_true, decide_eq_false (show ¬ (32 < (bytesL x0)[k] ∧ (bytesL x0)[k] ≤ 126) by omega)]
        rfl
      · rw [show igt (bytesL x0)[k] 126 = false from decide_eq_false c2, br_false, decide_eq_true (show 32 < (bytesL x0)[k] ∧ (bytesL x0)[k] ≤ 126 by omega), Bool.true_and]
theorem lo_f82_0 : ∀ S l p, g_f82.L 0 (fgt fg_f82_0 S) = some (true, l) → pickA l = some p → loopF (roundF g_f82 fg_f82_0 tb_f82_0) S = some p :=
  lok_of (s := sh_f82_0) ⟨by decide, by decide⟩ (by kernel_rfl) fun x y hok p hp => by
  simp only [pickA_br, pickA_one] at hp
  exact (l_f82_0 x.1 x.2.1 (by simpa using hok)).trans hp
theorem lk_f82 : tc_f82.lok g_f82 := by
  repeat (first | exact trivial | exact lo_f82_0 | refine ⟨?_, ?_⟩)
theorem s_f82 (s : ByteArray) (h : nameG s = true) : r_f82 s = some (.t .bool (namedG s), []) := by
  simp only [r_f82]
  unfold namedG
  refine br_intro (fun g => ?_) (fun g => br_intro (fun g2 => ?_) (fun g2 => ?_))
  · simp only [ilt, slen, decide_eq_true_eq] at g
    rw [decide_eq_false (show ¬ (1 ≤ s.size ∧ s.size ≤ 32) by omega), Bool.and_false]
  · simp only [igt, slen, decide_eq_true_eq] at g2
    rw [decide_eq_false (show ¬ (1 ≤ s.size ∧ s.size ≤ 32) by omega), Bool.and_false]
  · simp only [ilt, igt, slen, decide_eq_false_iff_not] at g g2
    rw [h, decide_eq_true (show (0 : Int) ≤ 0 ∧ (0 : Int) ≤ s.size by omega), decide_eq_true (show 1 ≤ s.size ∧ s.size ≤ 32 by omega), Bool.and_true, Bool.and_true, br_true, Int.toNat_zero, List.drop_zero]
    cases (bytesL s).all charG <;> rfl
def sp_f82 : Ent := spec (.pr .str .nil) (fun x => (nameG x.1)) (fun x => (.t .bool (namedG x.1)))
theorem ms_f82 : Meets Try.prog 82 (strip sp_f82) := by
  obtain ⟨c, hc, hi⟩ := Option.map_eq_some_iff.1 ok_f82
  exact meets_spec (R := runF g_f82 tc_f82 rv_f82 false) (meets_of (by decide) Try.func82 hc hi Try.ntmps82 rok_f82 gk_f82 lk_f82 mixed) fun x hok => (e_f82 x.1).trans (s_f82 x.1 hok)
/-! names of algorithms -/
/-- cipherplan/catalog.rows -/
def tc_f92 : TC := (.sq (.reg [(oM 0 (.new [(.v (.string (ByteArray.mk #[]))), (.v (.int .i64 0)), (.v (.int .i64 0)), (.v (.slice none 0 0)), (.v (.slice none 0 0)), (.v (.string (ByteArray.mk #[]))), (.v (.int .i64 0)), (.v (.int .i64 0)), (.v (.slice none 0 0)), (.v (.slice none 0 0)), (.v (.string (ByteArray.mk #[]))), (.v (.int .i64 0)), (.v (.int .i64 0)), (.v (.slice none 0 0)), (.v (.slice none 0 0)), (.v (.string (ByteArray.mk #[]))), (.v (.int .i64 0)), (.v (.int .i64 0)), (.v (.slice none 0 0)), (.v (.slice none 0 0)), (.v (.string (ByteArray.mk #[]))), (.v (.int .i64 0)), (.v (.int .i64 0)), (.v (.slice none 0 0)), (.v (.slice none 0 0)), (.v (.string (ByteArray.mk #[]))), (.v (.int .i64 0)), (.v (.int .i64 0)), (.v (.slice none 0 0)), (.v (.slice none 0 0)), (.v (.string (ByteArray.mk #[]))), (.v (.int .i64 0)), (.v (.int .i64 0)), (.v (.slice none 0 0)), (.v (.slice none 0 0)), (.v (.string (ByteArray.mk #[]))), (.v (.int .i64 0)), (.v (.int .i64 0)), (.v (.slice none 0 0)), (.v (.slice none 0 0)), (.v (.string (ByteArray.mk #[]))), (.v (.int .i64 0)), (.v (.int .i64 0)), (.v (.slice none 0 0)), (.v (.slice none 0 0)), (.v (.string (ByteArray.mk #[]))), (.v (.int .i64 0)), (.v (.int .i64 0)), (.v (.slice none 0 0)), (.v (.slice none 0 0)), (.v (.string (ByteArray.mk #[]))), (.v (.int .i64 0)), (.v (.int .i64 0)), (.v (.slice none 0 0)), (.v (.slice none 0 0)), (.v (.string (ByteArray.mk #[]))), (.v (.int .i64 0)), (.v (.int .i64 0)), (.v (.slice none 0 0)), (.v (.slice none 0 0)), (.v (.string (ByteArray.mk #[]))), (.v (.int .i64 0)), (.v (.int .i64 0)), (.v (.slice none 0 0)), (.v (.slice none 0 0)), (.v (.string (ByteArray.mk #[]))), (.v (.int .i64 0)), (.v (.int .i64 0)), (.v (.slice none 0 0)), (.v (.slice none 0 0)), (.v (.string (ByteArray.mk #[]))), (.v (.int .i64 0)), (.v (.int .i64 0)), (.v (.slice none 0 0)), (.v (.slice none 0 0)), (.v (.string (ByteArray.mk #[]))), (.v (.int .i64 0)), (.v (.int .i64 0)), (.v (.slice none 0 0)), (.v (.slice none 0 0)), (.v (.string (ByteArray.mk #[]))), (.v (.int .i64 0)), (.v (.int .i64 0)), (.v (.slice none 0 0)), (.v (.slice none 0 0)), (.v (.string (ByteArray.mk #[]))), (.v (.int .i64 0)), (.v (.int .i64 0)), (.v (.slice none 0 0)), (.v (.slice none 0 0)), (.v (.string (ByteArray.mk #[]))), (.v (.int .i64 0)), (.v (.int .i64 0)), (.v (.slice none 0 0)), (.v (.slice none 0 0)), (.v (.string (ByteArray.mk #[]))), (.v (.int .i64 0)), (.v (.int .i64 0)), (.v (.slice none 0 0)), (.v (.slice none 0 0)), (.v (.string (ByteArray.mk #[]))), (.v (.int .i64 0)), (.v (.int .i64 0)), (.v (.slice none 0 0)), (.v (.slice none 0 0)), (.v (.string (ByteArray.mk #[]))), (.v (.int .i64 0)), (.v (.int .i64 0)), (.v (.slice none 0 0)), (.v (.slice none 0 0)), (.v (.string (ByteArray.mk #[]))), (.v (.int .i64 0)), (.v (.int .i64 0)), (.v (.slice none 0 0)), (.v (.slice none 0 0))]))]) (.sq (.reg [(oM 1 (.bs 3 1 1 [(.v (.int .i64 0))] [(0, 1, (cI 18))])), (oP 2 (.bd [(.v (.string (ByteArray.mk #[]))), (.v (.int .i64 0)), (.v (.int .i64 0)), (.v (.slice none 0 0)), (.v (.slice none 0 0))] [(0, 1, (.c (.v (.string (ByteArray.mk #[109, 100, 53]))))), (1, 1, (cI 1)), (2, 1, (cI 0)), (3, 1, (.c (.v (.slice none 0 0)))), (4, 1, (.t 1))])), (oM 3 (.bs 3 1 1 [(.v (.int .i64 0))] [(0, 1, (cI 60))])), (oP 4 (.bd [(.v (.string (ByteArray.mk #[]))), (.v (.int .i64 0)), (.v (.int .i64 0)), (.v (.slice none 0 0)), (.v (.slice none 0 0))] [(0, 1, (.c (.v (.string (ByteArray.mk #[115, 104, 97, 49]))))), (1, 1, (cI 1)), (2, 1, (cI 0)), (3, 1, (.c (.v (.slice none 0 0)))), (4, 1, (.t 3))])), (oM 5 (.bs 3 1 1 [(.v (.int .i64 0))] [(0, 1, (cI 128))])), (oP 6 (.bd [(.v (.string (ByteArray.mk #[]))), (.v (.int .i64 0)), (.v (.int .i64 0)), (.v (.slice none 0 0)), (.v (.slice none 0 0))] [(0, 1, (.c (.v (.string (ByteArray.mk #[115, 104, 97, 50, 53, 54]))))), (1, 1, (cI 1)), (2, 1, (cI 0)), (3, 1, (.c (.v (.slice none 0 0)))), (4, 1, (.t 5))])), (oM 7 (.bs 3 1 1 [(.v (.int .i64 0))] [(0, 1, (cI 192))])), (oP 8 (.bd [(.v (.string (ByteArray.mk #[]))), (.v (.int .i64 0)), (.v (.int .i64 0)), (.v (.slice none 0 0)), (.v (.slice none 0 0))] [(0, 1, (.c (.v (.string (ByteArray.mk #[115, 104, 97, 51, 56, 52]))))), (1, 1, (cI 1)), (2, 1, (cI 0)), (3, 1, (.c (.v (.slice none 0 0)))), (4, 1, (.t 7))])), (oP 9 (.bd [(.v (.string (ByteArray.mk #[]))), (.v (.int .i64 0)), (.v (.int .i64 0)), (.v (.slice none 0 0)), (.v (.slice none 0 0))] [(0, 1, (.c (.v (.string (ByteArray.mk #[114, 115, 97]))))), (1, 1, (cI 2)), (2, 1, (cI 1)), (3, 1, (.c (.v (.slice none 0 0)))), (4, 1, (.c (.v (.slice none 0 0))))])), (oP 10 (.bd [(.v (.string (ByteArray.mk #[]))), (.v (.int .i64 0)), (.v (.int .i64 0)), (.v (.slice none 0 0)), (.v (.slice none 0 0))] [(0, 1, (.c (.v (.string (ByteArray.mk #[100, 115, 97]))))), (1, 1, (cI 2)), (2, 1, (cI 1)), (3, 1, (.c (.v (.slice none 0 0)))), (4, 1, (.c (.v (.slice none 0 0))))])), (oP 11 (.bd [(.v (.string (ByteArray.mk #[]))), (.v (.int .i64 0)), (.v (.int .i64 0)), (.v (.slice none 0 0)), (.v (.slice none 0 0))] [(0, 1, (.c (.v (.string (ByteArray.mk #[101, 99, 100, 115, 97]))))), (1, 1, (cI 2)), (2, 1, (cI 2)), (3, 1, (.c (.v (.slice none 0 0)))), (4, 1, (.c (.v (.slice none 0 0))))])), (oM 12 (.bs 3 1 1 [(.v (.int .i64 0))] [(0, 1, (cI 128))])), (oP 13 (.bd [(.v (.string (ByteArray.mk #[]))), (.v (.int .i64 0)), (.v (.int .i64 0)), (.v (.slice none 0 0)), (.v (.slice none 0 0))] [(0, 1, (.c (.v (.string (ByteArray.mk #[101, 100, 50, 53, 53, 49, 57]))))), (1, 1, (cI 2)), (2, 1, (cI 0)), (3, 1, (.c (.v (.slice none 0 0)))), (4, 1, (.t 12))])), (oM 14 (.bs 3 1 3 [(.v (.int .i64 0)), (.v (.int .i64 0)), (.v (.int .i64 0))] [(0, 1, (cI 44)), (1, 1, (cI 65)), (2, 1, (cI 87))])), (oM 15 (.bs 3 1 3 [(.v (.int .i64 0)), (.v (.int .i64 0)), (.v (.int .i64 0))] [(0, 1, (cI 128)), (1, 1, (cI 192)), (2, 1, (cI 256))])), (oP 16 (.bd [(.v (.string (ByteArray.mk #[]))), (.v (.int .i64 0)), (.v (.int .i64 0)), (.v (.slice none 0 0)), (.v (.slice none 0 0))] [(0, 1, (.c (.v (.string (ByteArray.mk #[109, 108, 100, 115, 97]))))), (1, 1, (cI 2)), (2, 1, (cI 3)), (3, 1, (.t 14)), (4, 1, (.t 15))])), (oP 17 (.bd [(.v (.string (ByteArray.mk #[]))), (.v (.int .i64 0)), (.v (.int .i64 0)), (.v (.slice none 0 0)), (.v (.slice none 0 0))] [(0, 1, (.c (.v (.string (ByteArray.mk #[114, 115, 97, 107, 120]))))), (1, 1, (cI 3)), (2, 1, (cI 1)), (3, 1, (.c (.v (.slice none 0 0)))), (4, 1, (.c (.v (.slice none 0 0))))])), (oP 18 (.bd [(.v (.string (ByteArray.mk #[]))), (.v (.int .i64 0)), (.v (.int .i64 0)), (.v (.slice none 0 0)), (.v (.slice none 0 0))] [(0, 1, (.c (.v (.string (ByteArray.mk #[100, 104, 101]))))), (1, 1, (cI 3)), (2, 1, (cI 1)), (3, 1, (.c (.v (.slice none 0 0)))), (4, 1, (.c (.v (.slice none 0 0))))])), (oP 19 (.bd [(.v (.string (ByteArray.mk #[]))), (.v (.int .i64 0)), (.v (.int .i64 0)), (.v (.slice none 0 0)), (.v (.slice none 0 0))] [(0, 1, (.c (.v (.string (ByteArray.mk #[101, 99, 100, 104, 101]))))), (1, 1, (cI 3)), (2, 1, (cI 2)), (3, 1, (.c (.v (.slice none 0 0)))), (4, 1, (.c (.v (.slice none 0 0))))])), (oM 20 (.bs 3 1 3 [(.v (.int .i64 0)), (.v (.int .i64 0)), (.v (.int .i64 0))] [(0, 1, (cI 512)), (1, 1, (cI 768)), (2, 1, (cI 1024))])), (oM 21 (.bs 3 1 3 [(.v (.int .i64 0)), (.v (.int .i64 0)), (.v (.int .i64 0))] [(0, 1, (cI 128)), (1, 1, (cI 192)), (2, 1, (cI 256))])), (oP 22 (.bd [(.v (.string (ByteArray.mk #[]))), (.v (.int .i64 0)), (.v (.int .i64 0)), (.v (.slice none 0 0)), (.v (.slice none 0 0))] [(0, 1, (.c (.v (.string (ByteArray.mk #[109, 108, 107, 101, 109]))))), (1, 1, (cI 3)), (2, 1, (cI 3)), (3, 1, (.t 20)), (4, 1, (.t 21))])), (oM 23 (.bs 3 1 2 [(.v (.int .i64 0)), (.v (.int .i64 0))] [(0, 1, (cI 40)), (1, 1, (cI 128))])), (oM 24 (.bs 3 1 2 [(.v (.int .i64 0)), (.v (.int .i64 0))] [(0, 1, (cI 40)), (1, 1, (cI 60))])), (oP 25 (.bd [(.v (.string (ByteArray.mk #[]))), (.v (.int .i64 0)), (.v (.int .i64 0)), (.v (.slice none 0 0)), (.v (.slice none 0 0))] [(0, 1, (.c (.v (.string (ByteArray.mk #[114, 99, 52]))))), (1, 1, (cI 4)), (2, 1, (cI 3)), (3, 1, (.t 23)), (4, 1, (.t 24))])), (oM 26 (.bs 3 1 2 [(.v (.int .i64 0)), (.v (.int .i64 0))] [(0, 1, (cI 112)), (1, 1, (cI 168))])), (oM 27 (.bs 3 1 2 [(.v (.int .i64 0)), (.v (.int .i64 0))] [(0, 1, (cI 80)), (1, 1, (cI 112))])), (oP 28 (.bd [(.v (.string (ByteArray.mk #[]))), (.v (.int .i64 0)), (.v (.int .i64 0)), (.v (.slice none 0 0)), (.v (.slice none 0 0))] [(0, 1, (.c (.v (.string (ByteArray.mk #[100, 101, 115, 51]))))), (1, 1, (cI 4)), (2, 1, (cI 3)), (3, 1, (.t 26)), (4, 1, (.t 27))])), (oM 29 (.bs 3 1 2 [(.v (.int .i64 0)), (.v (.int .i64 0))] [(0, 1, (cI 128)), (1, 1, (cI 256))])), (oM 30 (.bs 3 1 2 [(.v (.int .i64 0)), (.v (.int .i64 0))] [(0, 1, (cI 128)), (1, 1, (cI 256))])), (oP 31 (.bd [(.v (.string (ByteArray.mk #[]))), (.v (.int .i64 0)), (.v (.int .i64 0)), (.v (.slice none 0 0)), (.v (.slice none 0 0))] [(0, 1, (.c (.v (.string (ByteArray.mk #[97, 101, 115, 99, 98, 99]))))), (1, 1, (cI 4)), (2, 1, (cI 3)), (3, 1, (.t 29)), (4, 1, (.t 30))])), (oM 32 (.bs 3 1 2 [(.v (.int .i64 0)), (.v (.int .i64 0))] [(0, 1, (cI 128)), (1, 1, (cI 256))])), (oM 33 (.bs 3 1 2 [(.v (.int .i64 0)), (.v (.int .i64 0))] [(0, 1, (cI 128)), (1, 1, (cI 256))])), (oP 34 (.bd [(.v (.string (ByteArray.mk #[]))), (.v (.int .i64 0)), (.v (.int .i64 0)), (.v (.slice none 0 0)), (.v (.slice none 0 0))] [(0, 1, (.c (.v (.string (ByteArray.mk #[97, 101, 115, 103, 99, 109]))))), (1, 1, (cI 4)), (2, 1, (cI 3)), (3, 1, (.t 32)), (4, 1, (.t 33))])), (oM 35 (.bs 3 1 1 [(.v (.int .i64 0))] [(0, 1, (cI 256))])), (oP 36 (.bd [(.v (.string (ByteArray.mk #[]))), (.v (.int .i64 0)), (.v (.int .i64 0)), (.v (.slice none 0 0)), (.v (.slice none 0 0))] [(0, 1, (.c (.v (.string (ByteArray.mk #[99, 104, 97, 99, 104, 97]))))), (1, 1, (cI 4)), (2, 1, (cI 0)), (3, 1, (.c (.v (.slice none 0 0)))), (4, 1, (.t 35))])), (oM 37 (.bs 3 1 1 [(.v (.int .i64 0))] [(0, 1, (cI 64))])), (oP 38 (.bd [(.v (.string (ByteArray.mk #[]))), (.v (.int .i64 0)), (.v (.int .i64 0)), (.v (.slice none 0 0)), (.v (.slice none 0 0))] [(0, 1, (.c (.v (.string (ByteArray.mk #[104, 109, 97, 99, 109, 100, 53]))))), (1, 1, (cI 5)), (2, 1, (cI 0)), (3, 1, (.c (.v (.slice none 0 0)))), (4, 1, (.t 37))])), (oM 39 (.bs 3 1 1 [(.v (.int .i64 0))] [(0, 1, (cI 80))])), (oP 40 (.bd [(.v (.string (ByteArray.mk #[]))), (.v (.int .i64 0)), (.v (.int .i64 0)), (.v (.slice none 0 0)), (.v (.slice none 0 0))] [(0, 1, (.c (.v (.string (ByteArray.mk #[104, 109, 97, 99, 115, 104, 97, 49]))))), (1, 1, (cI 5)), (2, 1, (cI 0)), (3, 1, (.c (.v (.slice none 0 0)))), (4, 1, (.t 39))])), (oM 41 (.bs 3 1 1 [(.v (.int .i64 0))] [(0, 1, (cI 128))])), (oP 42 (.bd [(.v (.string (ByteArray.mk #[]))), (.v (.int .i64 0)), (.v (.int .i64 0)), (.v (.slice none 0 0)), (.v (.slice none 0 0))] [(0, 1, (.c (.v (.string (ByteArray.mk #[104, 109, 97, 99, 115, 104, 97, 50, 53, 54]))))), (1, 1, (cI 5)), (2, 1, (cI 0)), (3, 1, (.c (.v (.slice none 0 0)))), (4, 1, (.t 41))])), (oM 43 (.bs 3 1 1 [(.v (.int .i64 0))] [(0, 1, (cI 256))])), (oP 44 (.bd [(.v (.string (ByteArray.mk #[]))), (.v (.int .i64 0)), (.v (.int .i64 0)), (.v (.slice none 0 0)), (.v (.slice none 0 0))] [(0, 1, (.c (.v (.string (ByteArray.mk #[97, 101, 97, 100]))))), (1, 1, (cI 5)), (2, 1, (cI 0)), (3, 1, (.c (.v (.slice none 0 0)))), (4, 1, (.t 43))])), (oP 45 (.bd [(.v (.string (ByteArray.mk #[]))), (.v (.int .i64 0)), (.v (.int .i64 0)), (.v (.slice none 0 0)), (.v (.slice none 0 0)), (.v (.string (ByteArray.mk #[]))), (.v (.int .i64 0)), (.v (.int .i64 0)), (.v (.slice none 0 0)), (.v (.slice none 0 0)), (.v (.string (ByteArray.mk #[]))), (.v (.int .i64 0)), (.v (.int .i64 0)), (.v (.slice none 0 0)), (.v (.slice none 0 0)), (.v (.string (ByteArray.mk #[]))), (.v (.int .i64 0)), (.v (.int .i64 0)), (.v (.slice none 0 0)), (.v (.slice none 0 0)), (.v (.string (ByteArray.mk #[]))), (.v (.int .i64 0)), (.v (.int .i64 0)), (.v (.slice none 0 0)), (.v (.slice none 0 0)), (.v (.string (ByteArray.mk #[]))), (.v (.int .i64 0)), (.v (.int .i64 0)), (.v (.slice none 0 0)), (.v (.slice none 0 0)), (.v (.string (ByteArray.mk #[]))), (.v (.int .i64 0)), (.v (.int .i64 0)), (.v (.slice none 0 0)), (.v (.slice none 0 0)), (.v (.string (ByteArray.mk #[]))), (.v (.int .i64 0)), (.v (.int .i64 0)), (.v (.slice none 0 0)), (.v (.slice none 0 0)), (.v (.string (ByteArray.mk #[]))), (.v (.int .i64 0)), (.v (.int .i64 0)), (.v (.slice none 0 0)), (.v (.slice none 0 0)), (.v (.string (ByteArray.mk #[]))), (.v (.int .i64 0)), (.v (.int .i64 0)), (.v (.slice none 0 0)), (.v (.slice none 0 0)), (.v (.string (ByteArray.mk #[]))), (.v (.int .i64 0)), (.v (.int .i64 0)), (.v (.slice none 0 0)), (.v (.slice none 0 0)), (.v (.string (ByteArray.mk #[]))), (.v (.int .i64 0)), (.v (.int .i64 0)), (.v (.slice none 0 0)), (.v (.slice none 0 0)), (.v (.string (ByteArray.mk #[]))), (.v (.int .i64 0)), (.v (.int .i64 0)), (.v (.slice none 0 0)), (.v (.slice none 0 0)), (.v (.string (ByteArray.mk #[]))), (.v (.int .i64 0)), (.v (.int .i64 0)), (.v (.slice none 0 0)), (.v (.slice none 0 0)), (.v (.string (ByteArray.mk #[]))), (.v (.int .i64 0)), (.v (.int .i64 0)), (.v (.slice none 0 0)), (.v (.slice none 0 0)), (.v (.string (ByteArray.mk #[]))), (.v (.int .i64 0)), (.v (.int .i64 0)), (.v (.slice none 0 0)), (.v (.slice none 0 0)), (.v (.string (ByteArray.mk #[]))), (.v (.int .i64 0)), (.v (.int .i64 0)), (.v (.slice none 0 0)), (.v (.slice none 0 0)), (.v (.string (ByteArray.mk #[]))), (.v (.int .i64 0)), (.v (.int .i64 0)), (.v (.slice none 0 0)), (.v (.slice none 0 0)), (.v (.string (ByteArray.mk #[]))), (.v (.int .i64 0)), (.v (.int .i64 0)), (.v (.slice none 0 0)), (.v (.slice none 0 0)), (.v (.string (ByteArray.mk #[]))), (.v (.int .i64 0)), (.v (.int .i64 0)), (.v (.slice none 0 0)), (.v (.slice none 0 0)), (.v (.string (ByteArray.mk #[]))), (.v (.int .i64 0)), (.v (.int .i64 0)), (.v (.slice none 0 0)), (.v (.slice none 0 0)), (.v (.string (ByteArray.mk #[]))), (.v (.int .i64 0)), (.v (.int .i64 0)), (.v (.slice none 0 0)), (.v (.slice none 0 0)), (.v (.string (ByteArray.mk #[]))), (.v (.int .i64 0)), (.v (.int .i64 0)), (.v (.slice none 0 0)), (.v (.slice none 0 0))] [(5, 5, (.t 2)), (10, 5, (.t 4)), (15, 5, (.t 6)), (20, 5, (.t 8)), (25, 5, (.t 9)), (30, 5, (.t 10)), (35, 5, (.t 11)), (40, 5, (.t 13)), (45, 5, (.t 16)), (50, 5, (.t 17)), (55, 5, (.t 18)), (60, 5, (.t 19)), (65, 5, (.t 22)), (70, 5, (.t 25)), (75, 5, (.t 28)), (80, 5, (.t 31)), (85, 5, (.t 34)), (90, 5, (.t 36)), (95, 5, (.t 38)), (100, 5, (.t 40)), (105, 5, (.t 42)), (110, 5, (.t 44))])), (.mk none none (.m (.st 115 (.t 0) (.t 45))))]) .rt))
def rv_f92 : List (RV × Option Ty) := [((.c 0 true 115), some (.pr tyRow (.pr tyRow (.pr tyRow (.pr tyRow (.pr tyRow (.pr tyRow (.pr tyRow (.pr tyRow (.pr tyRow (.pr tyRow (.pr tyRow (.pr tyRow (.pr tyRow (.pr tyRow (.pr tyRow (.pr tyRow (.pr tyRow (.pr tyRow (.pr tyRow (.pr tyRow (.pr tyRow (.pr tyRow (.pr tyRow .nil))))))))))))))))))))))))]
def g_f92 : G := ⟨TYs, [], 46, EL [], keeps, (fun _ _ => none), IL [], RL []⟩
def r_f92  : Option (V × List VO) :=
  some (.t (.pr tyRow (.pr tyRow (.pr tyRow (.pr tyRow (.pr tyRow (.pr tyRow (.pr tyRow (.pr tyRow (.pr tyRow (.pr tyRow (.pr tyRow (.pr tyRow (.pr tyRow (.pr tyRow (.pr tyRow (.pr tyRow (.pr tyRow (.pr tyRow (.pr tyRow (.pr tyRow (.pr tyRow (.pr tyRow (.pr tyRow .nil))))))))))))))))))))))) (((ByteArray.mk #[]), (0, (0, (([] : List Int), (([] : List Int), ()))))), (((ByteArray.mk #[109, 100, 53]), (1, (0, (([] : List Int), ([18], ()))))), (((ByteArray.mk #[115, 104, 97, 49]), (1, (0, (([] : List Int), ([60], ()))))), (((ByteArray.mk #[115, 104, 97, 50, 53, 54]), (1, (0, (([] : List Int), ([128], ()))))), (((ByteArray.mk #[115, 104, 97, 51, 56, 52]), (1, (0, (([] : List Int), ([192], ()))))), (((ByteArray.mk #[114, 115, 97]), (2, (1, (([] : List Int), (([] : List Int), ()))))), (((ByteArray.mk #[100, 115, 97]), (2, (1, (([] : List Int), (([] : List Int), ()))))), (((ByteArray.mk #[101, 99, 100, 115, 97]), (2, (2, (([] : List Int), (([] : List Int), ()))))), (((ByteArray.mk #[101, 100, 50, 53, 53, 49, 57]), (2, (0, (([] : List Int), ([128], ()))))), (((ByteArray.mk #[109, 108, 100, 115, 97]), (2, (3, ([44, 65, 87], ([128, 192, 256], ()))))), (((ByteArray.mk #[114, 115, 97, 107, 120]), (3, (1, (([] : List Int), (([] : List Int), ()))))), (((ByteArray.mk #[100, 104, 101]), (3, (1, (([] : List Int), (([] : List Int), ()))))), (((ByteArray.mk #[101, 99, 100, 104, 101]), (3, (2, (([] : List Int), (([] : List Int), ()))))), (((ByteArray.mk #[109, 108, 107, 101, 109]), (3, (3, ([512, 768, 1024], ([128, 192, 256], ()))))), (((ByteArray.mk #[114, 99, 52]), (4, (3, ([40, 128], ([40, 60], ()))))), (((ByteArray.mk #[100, 101, 115, 51]), (4, (3, ([112, 168], ([80, 112], ()))))), (((ByteArray.mk #[97, 101, 115, 99, 98, 99]), (4, (3, ([128, 256], ([128, 256], ()))))), (((ByteArray.mk #[97, 101, 115, 103, 99, 109]), (4, (3, ([128, 256], ([128, 256], ()))))), (((ByteArray.mk #[99, 104, 97, 99, 104, 97]), (4, (0, (([] : List Int), ([256], ()))))), (((ByteArray.mk #[104, 109, 97, 99, 109, 100, 53]), (5, (0, (([] : List Int), ([64], ()))))), (((ByteArray.mk #[104, 109, 97, 99, 115, 104, 97, 49]), (5, (0, (([] : List Int), ([80], ()))))), (((ByteArray.mk #[104, 109, 97, 99, 115, 104, 97, 50, 53, 54]), (5, (0, (([] : List Int), ([128], ()))))), (((ByteArray.mk #[97, 101, 97, 100]), (5, (0, (([] : List Int), ([256], ()))))), ()))))))))))))))))))))))), [])
theorem e_f92  : runF g_f92 tc_f92 rv_f92 false [] [] = r_f92  := by kernel_rfl
theorem ok_f92 : Option.map (trC Try.prog) Try.f92.body = some tc_f92.er := by kernel_rfl
theorem rok_f92 : trVs Try.prog Try.f92.results.toList = some (rv_f92.map Prod.fst) := by kernel_rfl
theorem en_f92 : Entered Try.prog 92 := .inr ⟨by decide, _, Try.func92, by kernel_rfl, by kernel_rfl⟩
theorem gk_f92 : GOk Try.prog g_f92 := gok_of _ (fun p hp => by cases hp)
theorem lk_f92 : tc_f92.lok g_f92 := by repeat (first | exact trivial | refine ⟨?_, ?_⟩)
def rowsG : Ty.T (.pr tyRow (.pr tyRow (.pr tyRow (.pr tyRow (.pr tyRow (.pr tyRow (.pr tyRow (.pr tyRow (.pr tyRow (.pr tyRow (.pr tyRow (.pr tyRow (.pr tyRow (.pr tyRow (.pr tyRow (.pr tyRow (.pr tyRow (.pr tyRow (.pr tyRow (.pr tyRow (.pr tyRow (.pr tyRow (.pr tyRow .nil))))))))))))))))))))))) := (((ByteArray.mk #[]), (0, (0, (([] : List Int), (([] : List Int), ()))))), (((ByteArray.mk #[109, 100, 53]), (1, (0, (([] : List Int), ([18], ()))))), (((ByteArray.mk #[115, 104, 97, 49]), (1, (0, (([] : List Int), ([60], ()))))), (((ByteArray.mk #[115, 104, 97, 50, 53, 54]), (1, (0, (([] : List Int), ([128], ()))))), (((ByteArray.mk #[115, 104, 97, 51, 56, 52]), (1, (0, (([] : List Int), ([192], ()))))), (((ByteArray.mk #[114, 115, 97]), (2, (1, (([] : List Int), (([] : List Int), ()))))), (((ByteArray.mk #[100, 115, 97]), (2, (1, (([] : List Int), (([] : List Int), ()))))), (((ByteArray.mk #[101, 99, 100, 115, 97]), (2, (2, (([] : List Int), (([] : List Int), ()))))), (((ByteArray.mk #[101, 100, 50, 53, 53, 49, 57]), (2, (0, (([] : List Int), ([128], ()))))), (((ByteArray.mk #[109, 108, 100, 115, 97]), (2, (3, ([44, 65, 87], ([128, 192, 256], ()))))), (((ByteArray.mk #[114, 115, 97, 107, 120]), (3, (1, (([] : List Int), (([] : List Int), ()))))), (((ByteArray.mk #[100, 104, 101]), (3, (1, (([] : List Int), (([] : List Int), ()))))), (((ByteArray.mk #[101, 99, 100, 104, 101]), (3, (2, (([] : List Int), (([] : List Int), ()))))), (((ByteArray.mk #[109, 108, 107, 101, 109]), (3, (3, ([512, 768, 1024], ([128, 192, 256], ()))))), (((ByteArray.mk #[114, 99, 52]), (4, (3, ([40, 128], ([40, 60], ()))))), (((ByteArray.mk #[100, 101, 115, 51]), (4, (3, ([112, 168], ([80, 112], ()))))), (((ByteArray.mk #[97, 101, 115, 99, 98, 99]), (4, (3, ([128, 256], ([128, 256], ()))))), (((ByteArray.mk #[97, 101, 115, 103, 99, 109]), (4, (3, ([128, 256], ([128, 256], ()))))), (((ByteArray.mk #[99, 104, 97, 99, 104, 97]), (4, (0, (([] : List Int), ([256], ()))))), (((ByteArray.mk #[104, 109, 97, 99, 109, 100, 53]), (5, (0, (([] : List Int), ([64], ()))))), (((ByteArray.mk #[104, 109, 97, 99, 115, 104, 97, 49]), (5, (0, (([] : List Int), ([80], ()))))), (((ByteArray.mk #[104, 109, 97, 99, 115, 104, 97, 50, 53, 54]), (5, (0, (([] : List Int), ([128], ()))))), (((ByteArray.mk #[97, 101, 97, 100]), (5, (0, (([] : List Int), ([256], ()))))), ())))))))))))))))))))))))
theorem s_f92 : r_f92 = some (.t (tyR tyRow 23) rowsG, []) := rfl
def sp_f92 : Ent := spec .nil (fun x => true) (fun x => (.t (.pr tyRow (.pr tyRow (.pr tyRow (.pr tyRow (.pr tyRow (.pr tyRow (.pr tyRow (.pr tyRow (.pr tyRow (.pr tyRow (.pr tyRow (.pr tyRow (.pr tyRow (.pr tyRow (.pr tyRow (.pr tyRow (.pr tyRow (.pr tyRow (.pr tyRow (.pr tyRow (.pr tyRow (.pr tyRow (.pr tyRow .nil))))))))))))))))))))))) rowsG))
theorem ms_f92 : Meets Try.prog 92 (strip sp_f92) := by
  obtain ⟨c, hc, hi⟩ := Option.map_eq_some_iff.1 ok_f92
  exact meets_spec (R := runF g_f92 tc_f92 rv_f92 false) (meets_of (by decide) Try.func92 hc hi Try.ntmps92 rok_f92 gk_f92 lk_f92 mixed) fun x _ => (e_f92 ).trans (s_f92 )
abbrev RowsG : Type := (tyR tyRow 23).T
def nmT (t : RowsG) (i : Int) : ByteArray := (arrGetI tyRow 23 t i).1
def findZ (t : RowsG) (s : ByteArray) (k : Nat) : Option Nat := (List.range' k (23 - k)).find? fun i => decide (0 < i) && seq (nmT t i) s
def findG (s : ByteArray) : Int := (((findZ rowsG s 0).getD 0 : Nat) : Int)
def fg_f75_0 : Fg := ⟨[(0, some .str), (5, some (.pr tyRow (.pr tyRow (.pr tyRow (.pr tyRow (.pr tyRow (.pr tyRow (.pr tyRow (.pr tyRow (.pr tyRow (.pr tyRow (.pr tyRow (.pr tyRow (.pr tyRow (.pr tyRow (.pr tyRow (.pr tyRow (.pr tyRow (.pr tyRow (.pr tyRow (.pr tyRow (.pr tyRow (.pr tyRow (.pr tyRow .nil)))))))))))))))))))))))), (6, some tI)], []⟩
def tb_f75_0 : TC := (.sq (.reg [(oP 7 (.bin false .lss (.t 6) (cI 23)))]) (.sq (.cd (.t 7) .sk (.fg ⟨[], []⟩ (.ex 0))) (.sq (.bk 1 (.sq (.reg [(oV 8 6), (oC 9 1002034 [(.t 5), (.t 6)]), (oM 4 (.new [(.v (.string (ByteArray.mk #[]))), (.v (.int .i64 0)), (.v (.int .i64 0)), (.v (.slice none 0 0)), (.v (.slice none 0 0))])), (oV 3 8), (.mk none none (.m (.st 5 (.t 4) (.t 9))))]) (.sq (.reg [(oV 10 3), (oP 11 (.bin false .gtr (.t 10) (cI 0))), (oV 12 11), (oQ 13 12 true (.fa 0 (.t 4))), (oG 14 12 true (.m (.ld false 1 (.t 13)))), (oQ 15 12 true (.mv (.t 0))), (oQ 16 12 true (.bin false .eql (.t 14) (.t 15))), (oP 17 (.pick (.t 12) (.t 16) (cB false)))]) (.cd (.t 17) (.sq (.reg [(oV 18 3), (oV 2 18)]) (.fg ⟨[(2, some tI)], []⟩ .rt)) .sk)))) (.reg [(oP 19 (.bin false .add (.t 6) (cI 1))), (oV 6 19)]))))
/-- cipherplan/catalog.Find -/
def tc_f75 : TC := (.sq (.reg [(oP 2 (.mv (cI 0)))]) (.sq (.sq (.reg [(oC 5 92 []), (oP 6 (.mv (cI 0)))]) (.bk 0 (.lp 0 fg_f75_0 tb_f75_0))) (.sq (.reg [(oP 2 (.mv (cI 0)))]) .rt)))
def rv_f75 : List (RV × Option Ty) := [((.t 2), some tI)]
abbrev sh_f75_0 : Sh := ⟨[(0, .ty .str), (5, .ty (.pr tyRow (.pr tyRow (.pr tyRow (.pr tyRow (.pr tyRow (.pr tyRow (.pr tyRow (.pr tyRow (.pr tyRow (.pr tyRow (.pr tyRow (.pr tyRow (.pr tyRow (.pr tyRow (.pr tyRow (.pr tyRow (.pr tyRow (.pr tyRow (.pr tyRow (.pr tyRow (.pr tyRow (.pr tyRow (.pr tyRow .nil)))))))))))))))))))))))), (6, .ty tI)], []⟩
def st_f75_0 (x0 : ByteArray) (x5 : (Row × (Row × (Row × (Row × (Row × (Row × (Row × (Row × (Row × (Row × (Row × (Row × (Row × (Row × (Row × (Row × (Row × (Row × (Row × (Row × (Row × (Row × (Row × Unit)))))))))))))))))))))))) (x6 : Int) : VS := sh_f75_0.st (x0, x5, x6, ()) ()
abbrev sh_f75_0_ret : Sh := ⟨[(2, .ty tI)], []⟩
def st_f75_0_ret (x2 : Int) : VS := sh_f75_0_ret.st (x2, ()) ()
abbrev sh_f75_0_e0 : Sh := ⟨[], []⟩
def st_f75_0_e0  : VS := sh_f75_0_e0.st () ()
-- loop 0: (x0 : ByteArray) (x5 : (Row × (Row × (Row × (Row × (Row × (Row × (Row × (Row × (Row × (Row × (Row × (Row × (Row × (Row × (Row × (Row × (Row × (Row × (Row × (Row × (Row × (Row × (Row × Unit)))))))))))))))))))))))) (x6 : Int); out: ('ret',) (x2 : Int); ('exit', 0) 
def L_f75_0 : VS → Option (Bool × List (Bool × Exit × VS)) := mkL sh_f75_0 (fun x y => (decide (0 ≤ x.2.2.1 ∧ x.2.2.1 ≤ 23))) (fun x y => [(((findZ x.2.1 x.1 x.2.2.1.toNat).isSome), .ret, st_f75_0_ret ((((findZ x.2.1 x.1 x.2.2.1.toNat).getD 0 : Nat) : Int))), (true, .exit 0, st_f75_0_e0)])
def g_f75 : G := ⟨TYs, [], 20, EL [(92, sp_f92), (1002034, sp_op_index_127)], keeps, (Ls [L_f75_0]), IL [], RL []⟩
def b_f75_0 (x0 : ByteArray) (x5 : (Row × (Row × (Row × (Row × (Row × (Row × (Row × (Row × (Row × (Row × (Row × (Row × (Row × (Row × (Row × (Row × (Row × (Row × (Row × (Row × (Row × (Row × (Row × Unit)))))))))))))))))))))))) (x6 : Int) : Option (Exit × VS) :=
  br ((ilt x6 23))
    (br ((arrOk tyRow 23 x5 x6))
      (br ((igt x6 0))
        (br ((seq ((arrGetI tyRow 23 x5 x6).1) x0))
          (some (.ret, st_f75_0_ret x6))
          (some (.normal, st_f75_0 x0 x5 (iadd .i64 x6 1))))
        (some (.normal, st_f75_0 x0 x5 (iadd .i64 x6 1))))
      (none))
    (some (.exit 0, st_f75_0_e0))
noncomputable def lp_f75_0 (x0 : ByteArray) (x5 : (Row × (Row × (Row × (Row × (Row × (Row × (Row × (Row × (Row × (Row × (Row × (Row × (Row × (Row × (Row × (Row × (Row × (Row × (Row × (Row × (Row × (Row × (Row × Unit)))))))))))))))))))))))) (x6 : Int) : Option (Exit × VS) := loopF (roundF g_f75 fg_f75_0 tb_f75_0) (st_f75_0 x0 x5 x6)
noncomputable def n_f75_0 (x0 : ByteArray) (x5 : (Row × (Row × (Row × (Row × (Row × (Row × (Row × (Row × (Row × (Row × (Row × (Row × (Row × (Row × (Row × (Row × (Row × (Row × (Row × (Row × (Row × (Row × (Row × Unit)))))))))))))))))))))))) (x6 : Int) : Option (Exit × VS) :=
  br ((ilt x6 23))
    (br ((arrOk tyRow 23 x5 x6))
      (br ((igt x6 0))
        (br ((seq ((arrGetI tyRow 23 x5 x6).1) x0))
          (some (.ret, st_f75_0_ret x6))
          (lp_f75_0 x0 x5 (iadd .i64 x6 1)))
        (lp_f75_0 x0 x5 (iadd .i64 x6 1)))
      (none))
    (some (.exit 0, st_f75_0_e0))
def la_f75_0 (x0 : ByteArray) (x5 : (Row × (Row × (Row × (Row × (Row × (Row × (Row × (Row × (Row × (Row × (Row × (Row × (Row × (Row × (Row × (Row × (Row × (Row × (Row × (Row × (Row × (Row × (Row × Unit)))))))))))))))))))))))) (x6 : Int) : Option (Exit × VS) := br ((findZ x5 x0 x6.toNat).isSome) (some (.ret, st_f75_0_ret ((((findZ x5 x0 x6.toNat).getD 0 : Nat) : Int)))) <| some (.exit 0, st_f75_0_e0)
theorem be_f75_0 (x0 : ByteArray) (x5 : (Row × (Row × (Row × (Row × (Row × (Row × (Row × (Row × (Row × (Row × (Row × (Row × (Row × (Row × (Row × (Row × (Row × (Row × (Row × (Row × (Row × (Row × (Row × Unit)))))))))))))))))))))))) (x6 : Int) : roundF g_f75 fg_f75_0 tb_f75_0 (st_f75_0 x0 x5 x6) = b_f75_0 x0 x5 x6 := by kernel_rfl
theorem ln_f75_0 (x0 : ByteArray) (x5 : (Row × (Row × (Row × (Row × (Row × (Row × (Row × (Row × (Row × (Row × (Row × (Row × (Row × (Row × (Row × (Row × (Row × (Row × (Row × (Row × (Row × (Row × (Row × Unit)))))))))))))))))))))))) (x6 : Int) : lp_f75_0 x0 x5 x6 = n_f75_0 x0 x5 x6 := (loopF_nxt _ _).trans (by
  rw [be_f75_0]
  simp only [b_f75_0, n_f75_0, nxt_br, nxt_n, nxt_r, nxt_e, nxt_0]
  rfl)
def r_f75 (p0 : ByteArray) : Option (V × List VO) :=
  br ((decide (0 ≤ (0 : Int) ∧ (0 : Int) ≤ 23)))
    (br (((findZ rowsG p0 (0 : Int).toNat).isSome))
      (some (.t tI ((((findZ rowsG p0 (0 : Int).toNat).getD 0 : Nat) : Int)), []))
      (some (.t tI 0, [])))
    (none)
theorem e_f75 (p0 : ByteArray) : runF g_f75 tc_f75 rv_f75 false [.t .str p0] [] = r_f75 p0 := by kernel_rfl
theorem ok_f75 : Option.map (trC Try.prog) Try.f75.body = some tc_f75.er := by kernel_rfl
theorem rok_f75 : trVs Try.prog Try.f75.results.toList = some (rv_f75.map Prod.fst) := by kernel_rfl
theorem en_f75 : Entered Try.prog 75 := .inr ⟨by decide, _, Try.func75, by kernel_rfl, by kernel_rfl⟩
theorem gk_f75 : GOk Try.prog g_f75 := gok_of _ (by
  intro p hp
  simp only [List.mem_cons, List.not_mem_nil, or_false] at hp
  rcases hp with rfl | rfl
  · exact ⟨en_f92, ms_f92⟩
  · exact ⟨en_op_index_127, ms_op_index_127⟩)
theorem l_f75_0 (x0 : ByteArray) (x5 : (Row × (Row × (Row × (Row × (Row × (Row × (Row × (Row × (Row × (Row × (Row × (Row × (Row × (Row × (Row × (Row × (Row × (Row × (Row × (Row × (Row × (Row × (Row × Unit)))))))))))))))))))))))) (x6 : Int) (h : (decide (0 ≤ x6 ∧ x6 ≤ 23)) = true) : lp_f75_0 x0 x5 x6 = la_f75_0 x0 x5 x6 := by
  simp only [decide_eq_true_eq] at h
  obtain ⟨h1, h2⟩ := h
  obtain ⟨k, rfl⟩ := Int.eq_ofNat_of_zero_le h1
  refine up_ind 23 (fun k => lp_f75_0 x0 x5 (k : Int) = la_f75_0 x0 x5 (k : Int)) ?_ ?_ k (by omega)
  · rw [ln_f75_0]
    rfl
  · intro k hk ih
    rw [ln_f75_0]
    have e1 : ilt (k : Int) 23 = true := by simp only [ilt, decide_eq_true_eq]; omega
    have e2 : arrOk tyRow 23 x5 (k : Int) = true := by simp only [arrOk, decide_eq_true_eq]; omega
    have e3 : findZ x5 x0 k = if (decide (0 < k) && seq (nmT x5 k) x0) = true then some k else findZ x5 x0 (k + 1) := by
      have : 23 - k = (23 - (k + 1)) + 1 := by omega
      unfold findZ
      rw [this, List.range'_succ, List.find?_cons]
      cases decide (0 < k) && seq (nmT x5 k) x0 <;> rfl
    simp only [n_f75_0, e1, e2, br_true, add1 (show k < 4611686018427387904 by omega), ih, show (arrGetI tyRow 23 x5 (k : Int)).1 = nmT x5 k from rfl, show igt (k : Int) 0 = decide (0 < k) from by simp only [igt]; congr 1; simp]
    simp only [la_f75_0, Int.toNat_natCast, e3]
    cases decide (0 < k) with
    | false => simp only [br_false, Bool.false_and, Bool.false_eq_true, if_false]
    | true =>
      simp only [br_true, Bool.true_and]
      cases seq (nmT x5 k) x0 with
      | false => simp only [br_false, Bool.false_eq_true, if_false]
      | true => simp only [br_true, if_true, Option.isSome_some, Option.getD_some]
theorem lo_f75_0 : ∀ S l p, g_f75.L 0 (fgt fg_f75_0 S) = some (true, l) → pickA l = some p → loopF (roundF g_f75 fg_f75_0 tb_f75_0) S = some p :=
  lok_of (s := sh_f75_0) ⟨by decide, by decide⟩ (by kernel_rfl) fun x y hok p hp => by
  simp only [pickA_br, pickA_one] at hp
  exact (l_f75_0 x.1 x.2.1 x.2.2.1 (by simpa using hok)).trans hp
theorem lk_f75 : tc_f75.lok g_f75 := by
  repeat (first | exact trivial | exact lo_f75_0 | refine ⟨?_, ?_⟩)
theorem s_f75 (s : ByteArray) : r_f75 s = some (.t tI (findG s), []) := by
  simp only [r_f75]
  rw [show decide ((0 : Int) ≤ 0 ∧ (0 : Int) ≤ 23) = true from rfl, br_true]
  unfold findG
  rw [Int.toNat_zero]
  cases findZ rowsG s 0 <;> rfl
def sp_f75 : Ent := spec (.pr .str .nil) (fun x => true) (fun x => (.t tI (findG x.1)))
theorem ms_f75 : Meets Try.prog 75 (strip sp_f75) := by
  obtain ⟨c, hc, hi⟩ := Option.map_eq_some_iff.1 ok_f75
  exact meets_spec (R := runF g_f75 tc_f75 rv_f75 false) (meets_of (by decide) Try.func75 hc hi Try.ntmps75 rok_f75 gk_f75 lk_f75 mixed) fun x _ => (e_f75 x.1).trans (s_f75 x.1)
/-- cipherplan/cipherplanref02.rows -/
def tc_f97 : TC := (.sq (.reg [(oP 0 (.mv (.c (.v (.slice none 0 0)))))]) (.sq (.reg [(oP 1 (.bd [(.v (.string (ByteArray.mk #[]))), (.v (.int .i64 0))] [])), (oP 2 (.bd [(.v (.string (ByteArray.mk #[]))), (.v (.int .i64 0))] [(0, 1, (.c (.v (.string (ByteArray.mk #[109, 100, 53]))))), (1, 1, (cI 1))])), (oP 3 (.bd [(.v (.string (ByteArray.mk #[]))), (.v (.int .i64 0))] [(0, 1, (.c (.v (.string (ByteArray.mk #[115, 104, 97, 49]))))), (1, 1, (cI 1))])), (oP 4 (.bd [(.v (.string (ByteArray.mk #[]))), (.v (.int .i64 0))] [(0, 1, (.c (.v (.string (ByteArray.mk #[115, 104, 97, 50, 53, 54]))))), (1, 1, (cI 1))])), (oP 5 (.bd [(.v (.string (ByteArray.mk #[]))), (.v (.int .i64 0))] [(0, 1, (.c (.v (.string (ByteArray.mk #[115, 104, 97, 51, 56, 52]))))), (1, 1, (cI 1))])), (oP 6 (.bd [(.v (.string (ByteArray.mk #[]))), (.v (.int .i64 0))] [(0, 1, (.c (.v (.string (ByteArray.mk #[114, 115, 97]))))), (1, 1, (cI 2))])), (oP 7 (.bd [(.v (.string (ByteArray.mk #[]))), (.v (.int .i64 0))] [(0, 1, (.c (.v (.string (ByteArray.mk #[100, 115, 97]))))), (1, 1, (cI 2))])), (oP 8 (.bd [(.v (.string (ByteArray.mk #[]))), (.v (.int .i64 0))] [(0, 1, (.c (.v (.string (ByteArray.mk #[101, 99, 100, 115, 97]))))), (1, 1, (cI 2))])), (oP 9 (.bd [(.v (.string (ByteArray.mk #[]))), (.v (.int .i64 0))] [(0, 1, (.c (.v (.string (ByteArray.mk #[101, 100, 50, 53, 53, 49, 57]))))), (1, 1, (cI 2))])), (oP 10 (.bd [(.v (.string (ByteArray.mk #[]))), (.v (.int .i64 0))] [(0, 1, (.c (.v (.string (ByteArray.mk #[109, 108, 100, 115, 97]))))), (1, 1, (cI 2))])), (oP 11 (.bd [(.v (.string (ByteArray.mk #[]))), (.v (.int .i64 0))] [(0, 1, (.c (.v (.string (ByteArray.mk #[114, 115, 97, 107, 120]))))), (1, 1, (cI 3))])), (oP 12 (.bd [(.v (.string (ByteArray.mk #[]))), (.v (.int .i64 0))] [(0, 1, (.c (.v (.string (ByteArray.mk #[100, 104, 101]))))), (1, 1, (cI 3))])), (oP 13 (.bd [(.v (.string (ByteArray.mk #[]))), (.v (.int .i64 0))] [(0, 1, (.c (.v (.string (ByteArray.mk #[101, 99, 100, 104, 101]))))), (1, 1, (cI 3))])), (oP 14 (.bd [(.v (.string (ByteArray.mk #[]))), (.v (.int .i64 0))] [(0, 1, (.c (.v (.string (ByteArray.mk #[109, 108, 107, 101, 109]))))), (1, 1, (cI 3))])), (oP 15 (.bd [(.v (.string (ByteArray.mk #[]))), (.v (.int .i64 0))] [(0, 1, (.c (.v (.string (ByteArray.mk #[114, 99, 52]))))), (1, 1, (cI 4))])), (oP 16 (.bd [(.v (.string (ByteArray.mk #[]))), (.v (.int .i64 0))] [(0, 1, (.c (.v (.string (ByteArray.mk #[100, 101, 115, 51]))))), (1, 1, (cI 4))])), (oP 17 (.bd [(.v (.string (ByteArray.mk #[]))), (.v (.int .i64 0))] [(0, 1, (.c (.v (.string (ByteArray.mk #[97, 101, 115, 99, 98, 99]))))), (1, 1, (cI 4))])), (oP 18 (.bd [(.v (.string (ByteArray.mk #[]))), (.v (.int .i64 0))] [(0, 1, (.c (.v (.string (ByteArray.mk #[97, 101, 115, 103, 99, 109]))))), (1, 1, (cI 4))])), (oP 19 (.bd [(.v (.string (ByteArray.mk #[]))), (.v (.int .i64 0))] [(0, 1, (.c (.v (.string (ByteArray.mk #[99, 104, 97, 99, 104, 97]))))), (1, 1, (cI 4))])), (oP 20 (.bd [(.v (.string (ByteArray.mk #[]))), (.v (.int .i64 0))] [(0, 1, (.c (.v (.string (ByteArray.mk #[104, 109, 97, 99, 109, 100, 53]))))), (1, 1, (cI 5))])), (oP 21 (.bd [(.v (.string (ByteArray.mk #[]))), (.v (.int .i64 0))] [(0, 1, (.c (.v (.string (ByteArray.mk #[104, 109, 97, 99, 115, 104, 97, 49]))))), (1, 1, (cI 5))])), (oP 22 (.bd [(.v (.string (ByteArray.mk #[]))), (.v (.int .i64 0))] [(0, 1, (.c (.v (.string (ByteArray.mk #[104, 109, 97, 99, 115, 104, 97, 50, 53, 54]))))), (1, 1, (cI 5))])), (oP 23 (.bd [(.v (.string (ByteArray.mk #[]))), (.v (.int .i64 0))] [(0, 1, (.c (.v (.string (ByteArray.mk #[97, 101, 97, 100]))))), (1, 1, (cI 5))])), (oM 24 (.bs 133 2 23 [(.v (.string (ByteArray.mk #[]))), (.v (.int .i64 0)), (.v (.string (ByteArray.mk #[]))), (.v (.int .i64 0)), (.v (.string (ByteArray.mk #[]))), (.v (.int .i64 0)), (.v (.string (ByteArray.mk #[]))), (.v (.int .i64 0)), (.v (.string (ByteArray.mk #[]))), (.v (.int .i64 0)), (.v (.string (ByteArray.mk #[]))), (.v (.int .i64 0)), (.v (.string (ByteArray.mk #[]))), (.v (.int .i64 0)), (.v (.string (ByteArray.mk #[]))), (.v (.int .i64 0)), (.v (.string (ByteArray.mk #[]))), (.v (.int .i64 0)), (.v (.string (ByteArray.mk #[]))), (.v (.int .i64 0)), (.v (.string (ByteArray.mk #[]))), (.v (.int .i64 0)), (.v (.string (ByteArray.mk #[]))), (.v (.int .i64 0)), (.v (.string (ByteArray.mk #[]))), (.v (.int .i64 0)), (.v (.string (ByteArray.mk #[]))), (.v (.int .i64 0)), (.v (.string (ByteArray.mk #[]))), (.v (.int .i64 0)), (.v (.string (ByteArray.mk #[]))), (.v (.int .i64 0)), (.v (.string (ByteArray.mk #[]))), (.v (.int .i64 0)), (.v (.string (ByteArray.mk #[]))), (.v (.int .i64 0)), (.v (.string (ByteArray.mk #[]))), (.v (.int .i64 0)), (.v (.string (ByteArray.mk #[]))), (.v (.int .i64 0)), (.v (.string (ByteArray.mk #[]))), (.v (.int .i64 0)), (.v (.string (ByteArray.mk #[]))), (.v (.int .i64 0)), (.v (.string (ByteArray.mk #[]))), (.v (.int .i64 0))] [(0, 2, (.t 1)), (2, 2, (.t 2)), (4, 2, (.t 3)), (6, 2, (.t 4)), (8, 2, (.t 5)), (10, 2, (.t 6)), (12, 2, (.t 7)), (14, 2, (.t 8)), (16, 2, (.t 9)), (18, 2, (.t 10)), (20, 2, (.t 11)), (22, 2, (.t 12)), (24, 2, (.t 13)), (26, 2, (.t 14)), (28, 2, (.t 15)), (30, 2, (.t 16)), (32, 2, (.t 17)), (34, 2, (.t 18)), (36, 2, (.t 19)), (38, 2, (.t 20)), (40, 2, (.t 21)), (42, 2, (.t 22)), (44, 2, (.t 23))])), (oV 0 24)]) .rt))
def rv_f97 : List (RV × Option Ty) := [((.t 0), some (.sl tySymbol))]
def g_f97 : G := ⟨TYs, [], 25, EL [], keeps, (fun _ _ => none), IL [], RL []⟩
def r_f97  : Option (V × List VO) :=
  some (.t (.sl tySymbol) ([((ByteArray.mk #[]), (0, ())), ((ByteArray.mk #[109, 100, 53]), (1, ())), ((ByteArray.mk #[115, 104, 97, 49]), (1, ())), ((ByteArray.mk #[115, 104, 97, 50, 53, 54]), (1, ())), ((ByteArray.mk #[115, 104, 97, 51, 56, 52]), (1, ())), ((ByteArray.mk #[114, 115, 97]), (2, ())), ((ByteArray.mk #[100, 115, 97]), (2, ())), ((ByteArray.mk #[101, 99, 100, 115, 97]), (2, ())), ((ByteArray.mk #[101, 100, 50, 53, 53, 49, 57]), (2, ())), ((ByteArray.mk #[109, 108, 100, 115, 97]), (2, ())), ((ByteArray.mk #[114, 115, 97, 107, 120]), (3, ())), ((ByteArray.mk #[100, 104, 101]), (3, ())), ((ByteArray.mk #[101, 99, 100, 104, 101]), (3, ())), ((ByteArray.mk #[109, 108, 107, 101, 109]), (3, ())), ((ByteArray.mk #[114, 99, 52]), (4, ())), ((ByteArray.mk #[100, 101, 115, 51]), (4, ())), ((ByteArray.mk #[97, 101, 115, 99, 98, 99]), (4, ())), ((ByteArray.mk #[97, 101, 115, 103, 99, 109]), (4, ())), ((ByteArray.mk #[99, 104, 97, 99, 104, 97]), (4, ())), ((ByteArray.mk #[104, 109, 97, 99, 109, 100, 53]), (5, ())), ((ByteArray.mk #[104, 109, 97, 99, 115, 104, 97, 49]), (5, ())), ((ByteArray.mk #[104, 109, 97, 99, 115, 104, 97, 50, 53, 54]), (5, ())), ((ByteArray.mk #[97, 101, 97, 100]), (5, ()))]), [])
theorem e_f97  : runF g_f97 tc_f97 rv_f97 false [] [] = r_f97  := by kernel_rfl
theorem ok_f97 : Option.map (trC Try.prog) Try.f97.body = some tc_f97.er := by kernel_rfl
theorem rok_f97 : trVs Try.prog Try.f97.results.toList = some (rv_f97.map Prod.fst) := by kernel_rfl
theorem en_f97 : Entered Try.prog 97 := .inr ⟨by decide, _, Try.func97, by kernel_rfl, by kernel_rfl⟩
theorem gk_f97 : GOk Try.prog g_f97 := gok_of _ (fun p hp => by cases hp)
theorem lk_f97 : tc_f97.lok g_f97 := by repeat (first | exact trivial | refine ⟨?_, ?_⟩)
def rows2G : Ty.T (.sl tySymbol) := ([((ByteArray.mk #[]), (0, ())), ((ByteArray.mk #[109, 100, 53]), (1, ())), ((ByteArray.mk #[115, 104, 97, 49]), (1, ())), ((ByteArray.mk #[115, 104, 97, 50, 53, 54]), (1, ())), ((ByteArray.mk #[115, 104, 97, 51, 56, 52]), (1, ())), ((ByteArray.mk #[114, 115, 97]), (2, ())), ((ByteArray.mk #[100, 115, 97]), (2, ())), ((ByteArray.mk #[101, 99, 100, 115, 97]), (2, ())), ((ByteArray.mk #[101, 100, 50, 53, 53, 49, 57]), (2, ())), ((ByteArray.mk #[109, 108, 100, 115, 97]), (2, ())), ((ByteArray.mk #[114, 115, 97, 107, 120]), (3, ())), ((ByteArray.mk #[100, 104, 101]), (3, ())), ((ByteArray.mk #[101, 99, 100, 104, 101]), (3, ())), ((ByteArray.mk #[109, 108, 107, 101, 109]), (3, ())), ((ByteArray.mk #[114, 99, 52]), (4, ())), ((ByteArray.mk #[100, 101, 115, 51]), (4, ())), ((ByteArray.mk #[97, 101, 115, 99, 98, 99]), (4, ())), ((ByteArray.mk #[97, 101, 115, 103, 99, 109]), (4, ())), ((ByteArray.mk #[99, 104, 97, 99, 104, 97]), (4, ())), ((ByteArray.mk #[104, 109, 97, 99, 109, 100, 53]), (5, ())), ((ByteArray.mk #[104, 109, 97, 99, 115, 104, 97, 49]), (5, ())), ((ByteArray.mk #[104, 109, 97, 99, 115, 104, 97, 50, 53, 54]), (5, ())), ((ByteArray.mk #[97, 101, 97, 100]), (5, ()))])
theorem s_f97 : r_f97 = some (.t (.sl tySymbol) rows2G, []) := rfl
def sp_f97 : Ent := spec .nil (fun x => true) (fun x => (.t (.sl tySymbol) rows2G))
theorem ms_f97 : Meets Try.prog 97 (strip sp_f97) := by
  obtain ⟨c, hc, hi⟩ := Option.map_eq_some_iff.1 ok_f97
  exact meets_spec (R := runF g_f97 tc_f97 rv_f97 false) (meets_of (by decide) Try.func97 hc hi Try.ntmps97 rok_f97 gk_f97 lk_f97 mixed) fun x _ => (e_f97 ).trans (s_f97 )
def nm2G (a : Int) : ByteArray := if a < 1 ∨ 22 < a then ByteArray.mk #[] else (lgt tySymbol rows2G a.toNat).1
/-- cipherplan/cipherplanref02.Name -/
def tc_f83 : TC := (.sq (.reg [(oP 2 (.mv (.c (.v (.string (ByteArray.mk #[]))))))]) (.sq (.sq (.reg [(oV 3 0), (oP 4 (.bin false .lss (.t 3) (cI 1))), (oV 5 4), (oQ 6 5 false (.mv (.t 0))), (oQ 7 5 false (.bin false .gtr (.t 6) (cI 22))), (oP 8 (.pick (.t 5) (cB true) (.t 7)))]) (.cd (.t 8) (.sq (.reg [(oP 2 (.mv (.c (.v (.string (ByteArray.mk #[]))))))]) .rt) .sk)) (.sq (.reg [(oC 9 97 []), (oV 10 0), (oP 11 (.ix 2 (.t 9) (.t 10))), (oP 12 (.fa 0 (.t 11))), (oL 13 12), (oV 2 13)]) .rt)))
def rv_f83 : List (RV × Option Ty) := [((.t 2), some .str)]
def g_f83 : G := ⟨TYs, [], 14, EL [(97, sp_f97)], keeps, (fun _ _ => none), IL [], RL []⟩
def r_f83 (p0 : Int) : Option (V × List VO) :=
  br ((ilt p0 1))
    (some (.t .str (ByteArray.mk #[]), []))
    (br ((igt p0 22))
      (some (.t .str (ByteArray.mk #[]), []))
      (br (cIx rows2G p0)
        (some (.t .str ((lgt tySymbol rows2G (Int.toNat p0)).1), []))
        (none)))
theorem e_f83 (p0 : Int) : runF g_f83 tc_f83 rv_f83 false [.t tI p0] [] = r_f83 p0 := by kernel_rfl
theorem ok_f83 : Option.map (trC Try.prog) Try.f83.body = some tc_f83.er := by kernel_rfl
theorem rok_f83 : trVs Try.prog Try.f83.results.toList = some (rv_f83.map Prod.fst) := by kernel_rfl
theorem en_f83 : Entered Try.prog 83 := .inr ⟨by decide, _, Try.func83, by kernel_rfl, by kernel_rfl⟩
theorem gk_f83 : GOk Try.prog g_f83 := gok_of _ (by
  intro p hp
  simp only [List.mem_cons, List.not_mem_nil, or_false] at hp
  rcases hp with rfl
  · exact ⟨en_f97, ms_f97⟩)
theorem lk_f83 : tc_f83.lok g_f83 := by repeat (first | exact trivial | refine ⟨?_, ?_⟩)
theorem s_f83 (a : Int) : r_f83 a = some (.t .str (nm2G a), []) := by
  simp only [r_f83]
  unfold nm2G
  refine br_intro (fun g => ?_) (fun g => br_intro (fun g2 => ?_) (fun g2 => ?_))
  · simp only [ilt, decide_eq_true_eq] at g
    rw [if_pos (.inl g)]
  · simp only [igt, decide_eq_true_eq] at g2
    rw [if_pos (.inr g2)]
  · simp only [ilt, igt, decide_eq_false_iff_not] at g g2
    have : cIx rows2G a = true := by
      have : rows2G.length = 23 := rfl
      simp only [cIx, decide_eq_true_eq]
      omega
    rw [this, br_true, if_neg (by omega)]
def sp_f83 : Ent := spec (.pr tI .nil) (fun x => true) (fun x => (.t .str (nm2G x.1)))
theorem ms_f83 : Meets Try.prog 83 (strip sp_f83) := by
  obtain ⟨c, hc, hi⟩ := Option.map_eq_some_iff.1 ok_f83
  exact meets_spec (R := runF g_f83 tc_f83 rv_f83 false) (meets_of (by decide) Try.func83 hc hi Try.ntmps83 rok_f83 gk_f83 lk_f83 mixed) fun x _ => (e_f83 x.1).trans (s_f83 x.1)
/-! words out of dice -/
def dwdG (d : Dice) (l : List ByteArray) : ByteArray := l.getD (dval d l.length).toNat ByteArray.empty
def dwdGN (d : Dice) (l : List ByteArray) : Dice := dnext d l.length
def wdGOk (d : Dice) (l : List ByteArray) : Bool := dOk d && decide (0 < l.length ∧ l.length < 4611686018427387904)
/-- (*cipherplan/cipherplanmake.Dice).Word -/
def tc_f44 : TC := (.sq (.reg [(oP 4 (.mv (.c (.v (.string (ByteArray.mk #[]))))))]) (.sq (.reg [(oV 5 1), (oV 6 0), (oV 7 1), (oP 8 (.len false (.t 7))), (oC 9 36 [(.t 6), (.t 8)]), (oP 10 (.ix 1 (.t 5) (.t 9))), (oL 11 10), (oV 4 11)]) .rt))
def rv_f44 : List (RV × Option Ty) := [((.t 4), some .str)]
def g_f44 : G := ⟨TYs, [], 12, EL [(36, sp_f36)], keeps, (fun _ _ => none), IL [], RL []⟩
def r_f44 (d0 : Dice) (p1 : (List ByteArray)) : Option (V × List VO) :=
  br ((nextOk d0 (llen p1)))
    (br (cIx p1 (dval d0 (llen p1)))
      (some (.t .str (lgt .str p1 (Int.toNat (dval d0 (llen p1)))), [.box (.t tyDice (dnext d0 (llen p1)))]))
      (none))
    (none)
theorem e_f44 (d0 : Dice) (p1 : (List ByteArray)) : runF g_f44 tc_f44 rv_f44 false [.ptr 50000 0, .t (.sl .str) p1] [.box (.t tyDice d0)] = r_f44 d0 p1 := by kernel_rfl
theorem ok_f44 : Option.map (trC Try.prog) Try.f44.body = some tc_f44.er := by kernel_rfl
theorem rok_f44 : trVs Try.prog Try.f44.results.toList = some (rv_f44.map Prod.fst) := by kernel_rfl
theorem en_f44 : Entered Try.prog 44 := .inr ⟨by decide, _, Try.func44, by kernel_rfl, by kernel_rfl⟩
theorem gk_f44 : GOk Try.prog g_f44 := gok_of _ (by
  intro p hp
  simp only [List.mem_cons, List.not_mem_nil, or_false] at hp
  rcases hp with rfl
  · exact ⟨en_f36, ms_f36⟩)
theorem lk_f44 : tc_f44.lok g_f44 := by repeat (first | exact trivial | refine ⟨?_, ?_⟩)
theorem s_f44 (d : Dice) (l : List ByteArray) (h : wdGOk d l = true) : r_f44 d l = some (.t .str (dwdG d l), [.box (.t tyDice (dwdGN d l))]) := by
  simp only [wdGOk, Bool.and_eq_true, decide_eq_true_eq] at h
  obtain ⟨h1, h2, h3⟩ := h
  simp only [r_f44]
  have e1 : nextOk d (llen l) = true := by simp only [nextOk, h1, llen, Bool.true_and, decide_eq_true_eq]; omega
  rw [e1, br_true]
  have h4 := dval_lt (d := d) (n := llen l) (by unfold llen; omega)
  have e2 : cIx l (dval d (llen l)) = true := by simp only [cIx, decide_eq_true_eq]; exact h4
  rw [e2, br_true]
  rfl
def sp_f44 : Ent := specP tyDice (.pr (.sl .str) .nil) (fun d x => (wdGOk d x.1)) (fun d x => (.t .str (dwdG d x.1))) (fun d x => (dwdGN d x.1))
theorem ms_f44 : Meets Try.prog 44 (strip sp_f44) := by
  obtain ⟨c, hc, hi⟩ := Option.map_eq_some_iff.1 ok_f44
  exact meets_specP (R := runF g_f44 tc_f44 rv_f44 false) (meets_of (by decide) Try.func44 hc hi Try.ntmps44 rok_f44 gk_f44 lk_f44 mixed) rfl fun d x hok => (e_f44 d x.1).trans (s_f44 d x.1 hok)
end
end Go.Proofs.Ythdichlainehpaa.K
