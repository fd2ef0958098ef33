/-
  Plain tools: ranges of any length, the first that is so; names of algorithms and what a name is.
-/
import Derived.Test.YtdbaaejiolibfaaM1
import Derived.Test.YtdbaaejiolibfaaKD
set_option linter.unusedSimpArgs false
set_option linter.unusedVariables false
namespace Go.Proofs.Ytdbaaejiolibfaa.K
open Go.RowKit
noncomputable section
def rngG {α : Type} (l : List α) (n i : Int) : Bool := decide (n = l.length ∧ 0 ≤ i ∧ i ≤ n ∧ l.length ≤ 9223372036854775807)
theorem rngG_k {α : Type} {l : List α} {n i : Int} (h : rngG l n i = true) : n = l.length ∧ l.length ≤ 9223372036854775807 ∧ ∃ k : Nat, i = k ∧ k ≤ l.length := by
  simp only [rngG, decide_eq_true_eq] at h
  obtain ⟨h1, h2, h3, h4⟩ := h
  exact ⟨h1, h4, i.toNat, by omega, by omega⟩
theorem rngG_0 {α : Type} {l : List α} (h : l.length ≤ 9223372036854775807) : rngG l (llen l) 0 = true := by
  simp only [rngG, decide_eq_true_eq, llen]
  exact ⟨trivial, by omega, by omega, h⟩
def lenG {α : Type} (l : List α) : Bool := decide (l.length ≤ 9223372036854775807)
theorem add1G {k : Nat} (h : k < 9223372036854775807) : iadd .i64 (k : Int) 1 = ((k + 1 : Nat) : Int) := by rw [iadd_in (by omega)]; omega
def fstG {α : Type} (m : α → Bool) : List α → Option Nat
  | [] => none
  | a :: l => if m a then some 0 else (fstG m l).map (· + 1)
theorem fstG_none {α : Type} {m : α → Bool} : ∀ {l : List α}, fstG m l = none ↔ l.any m = false
  | [] => by simp [fstG]
  | a :: l => by
    have ih := fstG_none (m := m) (l := l)
    unfold fstG
    cases h : m a with
    | true => simp [h]
    | false => simpa [h] using ih
theorem fstG_some {α : Type} {m : α → Bool} : ∀ {l : List α} {k : Nat}, fstG m l = some k → ∃ h : k < l.length, m l[k] = true
  | [], _, h => by cases h
  | a :: l, k, h => by
    unfold fstG at h
    split at h
    · rename_i ha
      injection h with h
      subst h
      exact ⟨by simp, ha⟩
    · obtain ⟨j, h1, h2⟩ := Option.map_eq_some_iff.1 h
      subst h2
      obtain ⟨q, h3⟩ := fstG_some h1
      exact ⟨by simp only [List.length_cons]; omega, h3⟩
theorem fstG_isSome {α : Type} {m : α → Bool} {l : List α} : (fstG m l).isSome = l.any m := by
  cases h : fstG m l with
  | none => rw [fstG_none.1 h]; rfl
  | some k =>
    obtain ⟨q, h1⟩ := fstG_some h
    exact (List.any_eq_true.2 ⟨l[k], List.getElem_mem q, h1⟩).symm
theorem bytesG_len (s : ByteArray) : (bytesL s).length = s.size := by simp [bytesL]
/-! slices.Index, slices.Contains at texts -/
def idxS (l : List ByteArray) (v : ByteArray) : Int := match fstG (seq v) l with | some k => (k : Int) | none => -1
def idxSOk (l : List ByteArray) (_v : ByteArray) : Bool := lenG l
def fg_f61_0 : Fg := ⟨[(0, some (.sl .str)), (1, some .str), (7, some tI), (8, some tI)], []⟩
def tb_f61_0 : TC := (.sq (.reg [(oP 9 (.bin false .lss (.t 8) (.t 7)))]) (.sq (.cd (.t 9) .sk (.fg ⟨[], []⟩ (.ex 0))) (.sq (.bk 1 (.sq (.reg [(oV 10 8), (oV 5 10)]) (.sq (.reg [(oV 11 1), (oV 12 0), (oV 13 5), (oP 14 (.ix 1 (.t 12) (.t 13))), (oL 15 14), (oP 16 (.bin false .eql (.t 11) (.t 15)))]) (.cd (.t 16) (.sq (.reg [(oV 17 5), (oV 4 17)]) (.fg ⟨[(4, some tI)], []⟩ .rt)) .sk)))) (.reg [(oP 18 (.bin false .add (.t 8) (cI 1))), (oV 8 18)]))))
/-- slices.Index[[]string,string] -/
def tc_f61 : TC := (.sq (.reg [(oP 4 (.mv (cI 0)))]) (.sq (.sq (.reg [(oV 6 0), (oP 7 (.len false (.t 6))), (oP 8 (.mv (cI 0)))]) (.bk 0 (.lp 0 fg_f61_0 tb_f61_0))) (.sq (.reg [(oP 4 (.mv (cI (-1))))]) .rt)))
def rv_f61 : List (RV × Option Ty) := [((.t 4), some tI)]
abbrev sh_f61_0 : Sh := ⟨[(0, .ty (.sl .str)), (1, .ty .str), (7, .ty tI), (8, .ty tI)], []⟩
def st_f61_0 (x0 : (List ByteArray)) (x1 : ByteArray) (x7 : Int) (x8 : Int) : VS := sh_f61_0.st (x0, x1, x7, x8, ()) ()
abbrev sh_f61_0_ret : Sh := ⟨[(4, .ty tI)], []⟩
def st_f61_0_ret (x4 : Int) : VS := sh_f61_0_ret.st (x4, ()) ()
abbrev sh_f61_0_e0 : Sh := ⟨[], []⟩
def st_f61_0_e0  : VS := sh_f61_0_e0.st () ()
-- loop 0: (x0 : (List ByteArray)) (x1 : ByteArray) (x7 : Int) (x8 : Int); out: ('ret',) (x4 : Int); ('exit', 0) 
def L_f61_0 : VS → Option (Bool × List (Bool × Exit × VS)) := mkL sh_f61_0 (fun x y => (rngG x.1 x.2.2.1 x.2.2.2.1)) (fun x y => [(((fstG (seq x.2.1) (x.1.drop x.2.2.2.1.toNat)).isSome), .ret, st_f61_0_ret (x.2.2.2.1 + ((fstG (seq x.2.1) (x.1.drop x.2.2.2.1.toNat)).getD 0 : Nat))), (true, .exit 0, st_f61_0_e0)])
def g_f61 : G := ⟨TYs, [], 19, EL [], keeps, (Ls [L_f61_0]), IL [], RL []⟩
def b_f61_0 (x0 : (List ByteArray)) (x1 : ByteArray) (x7 : Int) (x8 : Int) : Option (Exit × VS) :=
  br ((ilt x8 x7))
    (br (cIx x0 x8)
      (br ((seq x1 (lgt .str x0 (Int.toNat x8))))
        (some (.ret, st_f61_0_ret x8))
        (some (.normal, st_f61_0 x0 x1 x7 (iadd .i64 x8 1))))
      (none))
    (some (.exit 0, st_f61_0_e0))
noncomputable def lp_f61_0 (x0 : (List ByteArray)) (x1 : ByteArray) (x7 : Int) (x8 : Int) : Option (Exit × VS) := loopF (roundF g_f61 fg_f61_0 tb_f61_0) (st_f61_0 x0 x1 x7 x8)
noncomputable def n_f61_0 (x0 : (List ByteArray)) (x1 : ByteArray) (x7 : Int) (x8 : Int) : Option (Exit × VS) :=
  br ((ilt x8 x7))
    (br (cIx x0 x8)
      (br ((seq x1 (lgt .str x0 (Int.toNat x8))))
        (some (.ret, st_f61_0_ret x8))
        (lp_f61_0 x0 x1 x7 (iadd .i64 x8 1)))
      (none))
    (some (.exit 0, st_f61_0_e0))
def la_f61_0 (x0 : (List ByteArray)) (x1 : ByteArray) (x7 : Int) (x8 : Int) : Option (Exit × VS) := br ((fstG (seq x1) (x0.drop x8.toNat)).isSome) (some (.ret, st_f61_0_ret (x8 + ((fstG (seq x1) (x0.drop x8.toNat)).getD 0 : Nat)))) <| some (.exit 0, st_f61_0_e0)
theorem be_f61_0 (x0 : (List ByteArray)) (x1 : ByteArray) (x7 : Int) (x8 : Int) : roundF g_f61 fg_f61_0 tb_f61_0 (st_f61_0 x0 x1 x7 x8) = b_f61_0 x0 x1 x7 x8 := by kernel_rfl
theorem ln_f61_0 (x0 : (List ByteArray)) (x1 : ByteArray) (x7 : Int) (x8 : Int) : lp_f61_0 x0 x1 x7 x8 = n_f61_0 x0 x1 x7 x8 := (loopF_nxt _ _).trans (by
  rw [be_f61_0]
  simp only [b_f61_0, n_f61_0, nxt_br, nxt_n, nxt_r, nxt_e, nxt_0]
  rfl)
def r_f61 (p0 : (List ByteArray)) (p1 : ByteArray) : Option (V × List VO) :=
  br ((rngG p0 (llen p0) (0 : Int)))
    (br (((fstG (seq p1) (p0.drop (0 : Int).toNat)).isSome))
      (some (.t tI ((0 : Int) + ((fstG (seq p1) (p0.drop (0 : Int).toNat)).getD 0 : Nat)), []))
      (some (.t tI (-1), [])))
    (none)
theorem e_f61 (p0 : (List ByteArray)) (p1 : ByteArray) : runF g_f61 tc_f61 rv_f61 false [.t (.sl .str) p0, .t .str p1] [] = r_f61 p0 p1 := by kernel_rfl
theorem ok_f61 : Option.map (trC Try.prog) Try.f61.body = some tc_f61.er := by kernel_rfl
theorem rok_f61 : trVs Try.prog Try.f61.results.toList = some (rv_f61.map Prod.fst) := by kernel_rfl
theorem en_f61 : Entered Try.prog 61 := .inr ⟨by decide, _, Try.func61, by kernel_rfl, by kernel_rfl⟩
theorem gk_f61 : GOk Try.prog g_f61 := gok_of _ (fun p hp => by cases hp)
theorem l_f61_0 (x0 : (List ByteArray)) (x1 : ByteArray) (x7 : Int) (x8 : Int) (h : (rngG x0 x7 x8) = true) : lp_f61_0 x0 x1 x7 x8 = la_f61_0 x0 x1 x7 x8 := by
  obtain ⟨rfl, h3, k, rfl, hk⟩ := rngG_k h
  clear h
  refine range_ind x0 (fun k => lp_f61_0 x0 x1 (x0.length : Int) (k : Int) = la_f61_0 x0 x1 (x0.length : Int) (k : Int)) ?_ ?_ k hk
  · rw [ln_f61_0]
    simp [n_f61_0, la_f61_0, ilt_nat, br_false, fstG]
  · intro k hk ih
    rw [ln_f61_0]
    simp only [n_f61_0, ilt_nat, cIx_nat, hk, decide_true, br_true, Int.toNat_natCast, add1G (show k < 9223372036854775807 by omega), ih, lgt_get (y := .str) hk]
    simp only [la_f61_0, Int.toNat_natCast, List.drop_eq_getElem_cons hk, fstG]
    cases h : seq x1 x0[k] with
    | true => simp [br_true]
    | false =>
      simp only [br_false, Bool.false_eq_true, if_false]
      cases hq : fstG (seq x1) (x0.drop (k + 1)) with
      | none => rfl
      | some j =>
        simp only [Option.map_some, Option.isSome_some, Option.getD_some, br_true]
        congr 3
        omega
theorem lo_f61_0 : ∀ S l p, g_f61.L 0 (fgt fg_f61_0 S) = some (true, l) → pickA l = some p → loopF (roundF g_f61 fg_f61_0 tb_f61_0) S = some p :=
  lok_of (s := sh_f61_0) ⟨by decide, by decide⟩ (by kernel_rfl) fun x y hok p hp => by
  simp only [pickA_br, pickA_one] at hp
  exact (l_f61_0 x.1 x.2.1 x.2.2.1 x.2.2.2.1 (by simpa using hok)).trans hp
theorem lk_f61 : tc_f61.lok g_f61 := by
  repeat (first | exact trivial | exact lo_f61_0 | refine ⟨?_, ?_⟩)
theorem s_f61 (l : List ByteArray) (v : ByteArray) (h : idxSOk l v = true) : r_f61 l v = some (.t tI (idxS l v), []) := by
  simp only [idxSOk, lenG, decide_eq_true_eq] at h
  simp only [r_f61, rngG_0 h, br_true, Int.toNat_zero, List.drop_zero, idxS]
  cases fstG (seq v) l <;> simp [br_true, br_false]
def sp_f61 : Ent := spec (.pr (.sl .str) (.pr .str .nil)) (fun x => (idxSOk x.1 x.2.1)) (fun x => (.t tI (idxS x.1 x.2.1)))
theorem ms_f61 : Meets Try.prog 61 (strip sp_f61) := by
  obtain ⟨c, hc, hi⟩ := Option.map_eq_some_iff.1 ok_f61
  exact meets_spec (R := runF g_f61 tc_f61 rv_f61 false) (meets_of (by decide) Try.func61 hc hi Try.ntmps61 rok_f61 gk_f61 lk_f61 mixed) fun x hok => (e_f61 x.1 x.2.1).trans (s_f61 x.1 x.2.1 hok)
def hasS (l : List ByteArray) (v : ByteArray) : Bool := l.any (seq v)
/-- slices.Contains[[]string,string] -/
def tc_f48 : TC := (.sq (.reg [(oP 4 (.mv (cB false)))]) (.sq (.reg [(oV 5 0), (oV 6 1), (oC 7 61 [(.t 5), (.t 6)]), (oP 8 (.bin false .geq (.t 7) (cI 0))), (oV 4 8)]) .rt))
def rv_f48 : List (RV × Option Ty) := [((.t 4), some .bool)]
def g_f48 : G := ⟨TYs, [], 9, EL [(61, sp_f61)], keeps, (fun _ _ => none), IL [], RL []⟩
def r_f48 (p0 : (List ByteArray)) (p1 : ByteArray) : Option (V × List VO) :=
  br ((idxSOk p0 p1))
    (some (.t .bool (ige (idxS p0 p1) 0), []))
    (none)
theorem e_f48 (p0 : (List ByteArray)) (p1 : ByteArray) : runF g_f48 tc_f48 rv_f48 false [.t (.sl .str) p0, .t .str p1] [] = r_f48 p0 p1 := by kernel_rfl
theorem ok_f48 : Option.map (trC Try.prog) Try.f48.body = some tc_f48.er := by kernel_rfl
theorem rok_f48 : trVs Try.prog Try.f48.results.toList = some (rv_f48.map Prod.fst) := by kernel_rfl
theorem en_f48 : Entered Try.prog 48 := .inr ⟨by decide, _, Try.func48, by kernel_rfl, by kernel_rfl⟩
theorem gk_f48 : GOk Try.prog g_f48 := gok_of _ (by
  intro p hp
  simp only [List.mem_cons, List.not_mem_nil, or_false] at hp
  rcases hp with rfl
  · exact ⟨en_f61, ms_f61⟩)
theorem lk_f48 : tc_f48.lok g_f48 := by repeat (first | exact trivial | refine ⟨?_, ?_⟩)
theorem s_f48 (l : List ByteArray) (v : ByteArray) (h : idxSOk l v = true) : r_f48 l v = some (.t .bool (hasS l v), []) := by
  simp only [r_f48, h, br_true]
  apply some_b
  unfold idxS hasS
  cases hq : fstG (seq v) l with
  | none => rw [fstG_none.1 hq]; rfl
  | some k =>
    rw [← fstG_isSome, hq]
    simp only [ige, Option.isSome_some, decide_eq_true_eq]
    omega
def sp_f48 : Ent := spec (.pr (.sl .str) (.pr .str .nil)) (fun x => (idxSOk x.1 x.2.1)) (fun x => (.t .bool (hasS x.1 x.2.1)))
theorem ms_f48 : Meets Try.prog 48 (strip sp_f48) := by
  obtain ⟨c, hc, hi⟩ := Option.map_eq_some_iff.1 ok_f48
  exact meets_spec (R := runF g_f48 tc_f48 rv_f48 false) (meets_of (by decide) Try.func48 hc hi Try.ntmps48 rok_f48 gk_f48 lk_f48 mixed) fun x hok => (e_f48 x.1 x.2.1).trans (s_f48 x.1 x.2.1 hok)
/-! what a name is -/
def charG (c : Int) : Bool := decide (32 < c ∧ c ≤ 126)
def namedG (s : ByteArray) : Bool := (bytesL s).all charG && decide (1 ≤ s.size ∧ s.size ≤ 32)
def nameG (s : ByteArray) : Bool := decide (s.size ≤ 9223372036854775807)
def fg_f47_0 : Fg := ⟨[(0, some .str), (6, some (.sl (.int .u8))), (7, some tI), (8, some tI)], []⟩
def tb_f47_0 : TC := (.sq (.reg [(oP 9 (.bin false .lss (.t 8) (.t 7)))]) (.sq (.cd (.t 9) .sk (.fg ⟨[(0, some .str)], []⟩ (.ex 0))) (.sq (.bk 1 (.sq (.reg [(oP 10 (.ix 1 (.t 6) (.t 8))), (oL 11 10), (oV 4 11)]) (.sq (.reg [(oV 12 4), (oP 13 (.bin false .leq (.t 12) (.c (.v (.int .u8 32))))), (oV 14 13), (oQ 15 14 false (.mv (.t 4))), (oQ 16 14 false (.bin false .gtr (.t 15) (.c (.v (.int .u8 126))))), (oP 17 (.pick (.t 14) (cB true) (.t 16)))]) (.cd (.t 17) (.sq (.reg [(oP 2 (.mv (cB false)))]) (.fg ⟨[(2, some .bool)], []⟩ .rt)) .sk)))) (.reg [(oP 18 (.bin false .add (.t 8) (cI 1))), (oV 8 18)]))))
/-- cipherplan/catalog.Named -/
def tc_f47 : TC := (.sq (.reg [(oP 2 (.mv (cB false)))]) (.sq (.sq (.reg [(oV 5 0), (oC 6 4680144 [(.t 5)]), (oP 7 (.len false (.t 6))), (oP 8 (.mv (cI 0)))]) (.bk 0 (.lp 0 fg_f47_0 tb_f47_0))) (.sq (.reg [(oV 19 0), (oP 20 (.len true (.t 19))), (oP 21 (.bin false .geq (.t 20) (cI 1))), (oV 22 21), (oQ 23 22 true (.mv (.t 0))), (oQ 24 22 true (.len true (.t 23))), (oQ 25 22 true (.bin false .leq (.t 24) (cI 32))), (oP 26 (.pick (.t 22) (.t 25) (cB false))), (oV 2 26)]) .rt)))
def rv_f47 : List (RV × Option Ty) := [((.t 2), some .bool)]
abbrev sh_f47_0 : Sh := ⟨[(0, .ty .str), (6, .ty (.sl (.int .u8))), (7, .ty tI), (8, .ty tI)], []⟩
def st_f47_0 (x0 : ByteArray) (x6 : (List Int)) (x7 : Int) (x8 : Int) : VS := sh_f47_0.st (x0, x6, x7, x8, ()) ()
abbrev sh_f47_0_ret : Sh := ⟨[(2, .ty .bool)], []⟩
def st_f47_0_ret (x2 : Bool) : VS := sh_f47_0_ret.st (x2, ()) ()
abbrev sh_f47_0_e0 : Sh := ⟨[(0, .ty .str)], []⟩
def st_f47_0_e0 (x0 : ByteArray) : VS := sh_f47_0_e0.st (x0, ()) ()
-- loop 0: (x0 : ByteArray) (x6 : (List Int)) (x7 : Int) (x8 : Int); out: ('ret',) (x2 : Bool); ('exit', 0) (x0 : ByteArray)
def L_f47_0 : VS → Option (Bool × List (Bool × Exit × VS)) := mkL sh_f47_0 (fun x y => (rngG x.2.1 x.2.2.1 x.2.2.2.1)) (fun x y => [((!((x.2.1.drop x.2.2.2.1.toNat).all charG)), .ret, st_f47_0_ret (false)), (true, .exit 0, st_f47_0_e0 (x.1))])
def g_f47 : G := ⟨TYs, [], 27, EL [(4680144, sp_op_convert_9_23)], keeps, (Ls [L_f47_0]), IL [], RL []⟩
def b_f47_0 (x0 : ByteArray) (x6 : (List Int)) (x7 : Int) (x8 : Int) : Option (Exit × VS) :=
  br ((ilt x8 x7))
    (br (cIx x6 x8)
      (br ((ile (lgt (.int .u8) x6 (Int.toNat x8)) 32))
        (some (.ret, st_f47_0_ret false))
        (br ((igt (lgt (.int .u8) x6 (Int.toNat x8)) 126))
          (some (.ret, st_f47_0_ret false))
          (some (.normal, st_f47_0 x0 x6 x7 (iadd .i64 x8 1)))))
      (none))
    (some (.exit 0, st_f47_0_e0 x0))
noncomputable def lp_f47_0 (x0 : ByteArray) (x6 : (List Int)) (x7 : Int) (x8 : Int) : Option (Exit × VS) := loopF (roundF g_f47 fg_f47_0 tb_f47_0) (st_f47_0 x0 x6 x7 x8)
noncomputable def n_f47_0 (x0 : ByteArray) (x6 : (List Int)) (x7 : Int) (x8 : Int) : Option (Exit × VS) :=
  br ((ilt x8 x7))
    (br (cIx x6 x8)
      (br ((ile (lgt (.int .u8) x6 (Int.toNat x8)) 32))
        (some (.ret, st_f47_0_ret false))
        (br ((igt (lgt (.int .u8) x6 (Int.toNat x8)) 126))
          (some (.ret, st_f47_0_ret false))
          (lp_f47_0 x0 x6 x7 (iadd .i64 x8 1))))
      (none))
    (some (.exit 0, st_f47_0_e0 x0))
def la_f47_0 (x0 : ByteArray) (x6 : (List Int)) (x7 : Int) (x8 : Int) : Option (Exit × VS) := br (!((x6.drop x8.toNat).all charG)) (some (.ret, st_f47_0_ret (false))) <| some (.exit 0, st_f47_0_e0 (x0))
theorem be_f47_0 (x0 : ByteArray) (x6 : (List Int)) (x7 : Int) (x8 : Int) : roundF g_f47 fg_f47_0 tb_f47_0 (st_f47_0 x0 x6 x7 x8) = b_f47_0 x0 x6 x7 x8 := by kernel_rfl
theorem ln_f47_0 (x0 : ByteArray) (x6 : (List Int)) (x7 : Int) (x8 : Int) : lp_f47_0 x0 x6 x7 x8 = n_f47_0 x0 x6 x7 x8 := (loopF_nxt _ _).trans (by
  rw [be_f47_0]
  simp only [b_f47_0, n_f47_0, nxt_br, nxt_n, nxt_r, nxt_e, nxt_0]
  rfl)
def r_f47 (p0 : ByteArray) : Option (V × List VO) :=
  br ((bytesOk p0))
    (br ((rngG (bytesL p0) (llen (bytesL p0)) (0 : Int)))
      (br ((!(((bytesL p0).drop (0 : Int).toNat).all charG)))
        (some (.t .bool (false), []))
        (br ((ige (slen (p0)) 1))
          (some (.t .bool (ile (slen (p0)) 32), []))
          (some (.t .bool false, []))))
      (none))
    (none)
theorem e_f47 (p0 : ByteArray) : runF g_f47 tc_f47 rv_f47 false [.t .str p0] [] = r_f47 p0 := by kernel_rfl
theorem ok_f47 : Option.map (trC Try.prog) Try.f47.body = some tc_f47.er := by kernel_rfl
theorem rok_f47 : trVs Try.prog Try.f47.results.toList = some (rv_f47.map Prod.fst) := by kernel_rfl
theorem en_f47 : Entered Try.prog 47 := .inr ⟨by decide, _, Try.func47, by kernel_rfl, by kernel_rfl⟩
theorem gk_f47 : GOk Try.prog g_f47 := gok_of _ (by
  intro p hp
  simp only [List.mem_cons, List.not_mem_nil, or_false] at hp
  rcases hp with rfl
  · exact ⟨en_op_convert_9_23, ms_op_convert_9_23⟩)
theorem l_f47_0 (x0 : ByteArray) (x6 : (List Int)) (x7 : Int) (x8 : Int) (h : (rngG x6 x7 x8) = true) : lp_f47_0 x0 x6 x7 x8 = la_f47_0 x0 x6 x7 x8 := by
  obtain ⟨rfl, h3, k, rfl, hk⟩ := rngG_k h
  clear h
  refine range_ind x6 (fun k => lp_f47_0 x0 x6 (x6.length : Int) (k : Int) = la_f47_0 x0 x6 (x6.length : Int) (k : Int)) ?_ ?_ k hk
  · rw [ln_f47_0]
    simp [n_f47_0, la_f47_0, ilt_nat, br_false]
  · intro k hk ih
    rw [ln_f47_0]
    simp only [n_f47_0, ilt_nat, cIx_nat, hk, decide_true, br_true, Int.toNat_natCast, add1G (show k < 9223372036854775807 by omega), lgt_get (y := .int .u8) hk, ih]
    simp only [la_f47_0, Int.toNat_natCast, List.drop_eq_getElem_cons hk, List.all_cons, charG]
    by_cases c1 : x6[k] ≤ 32
    · rw [show ile x6[k] 32 = true from decide_eq_true c1, br_true, decide_eq_false (show ¬ (32 < x6[k] ∧ x6[k] ≤ 126) by omega)]
      rfl
    · rw [show ile x6[k] 32 = false from decide_eq_false c1, br_false]
      by_cases c2 : 126 < x6[k]
      · rw [show igt x6[k] 126 = true from decide_eq_true (by omega), br_true, decide_eq_false (show ¬ (32 < x6[k] ∧ x6[k] ≤ 126) by omega)]
        rfl
      · rw [show igt x6[k] 126 = false from decide_eq_false (by omega), br_false, decide_eq_true (show 32 < x6[k] ∧ x6[k] ≤ 126 by omega), Bool.true_and]
theorem lo_f47_0 : ∀ S l p, g_f47.L 0 (fgt fg_f47_0 S) = some (true, l) → pickA l = some p → loopF (roundF g_f47 fg_f47_0 tb_f47_0) S = some p :=
  lok_of (s := sh_f47_0) ⟨by decide, by decide⟩ (by kernel_rfl) fun x y hok p hp => by
  simp only [pickA_br, pickA_one] at hp
  exact (l_f47_0 x.1 x.2.1 x.2.2.1 x.2.2.2.1 (by simpa using hok)).trans hp
theorem lk_f47 : tc_f47.lok g_f47 := by
  repeat (first | exact trivial | exact lo_f47_0 | refine ⟨?_, ?_⟩)
theorem s_f47 (s : ByteArray) (h : nameG s = true) : r_f47 s = some (.t .bool (namedG s), []) := by
  simp only [nameG, decide_eq_true_eq] at h
  have hl := bytesG_len s
  simp only [r_f47, show bytesOk s = true from decide_eq_true (by omega), rngG_0 (show (bytesL s).length ≤ 9223372036854775807 by omega), br_true, Int.toNat_zero, List.drop_zero, namedG]
  cases (bytesL s).all charG with
  | false => rfl
  | true =>
    simp only [Bool.not_true, br_false, Bool.true_and]
    refine br_intro (fun g => ?_) (fun g => ?_)
    · simp only [ige, slen, decide_eq_true_eq] at g
      apply some_b
      rw [Bool.eq_iff_iff]
      simp only [ile, slen, decide_eq_true_eq]
      omega
    · simp only [ige, slen, decide_eq_false_iff_not] at g
      apply some_b
      rw [eq_comm, decide_eq_false_iff_not]
      omega
def sp_f47 : Ent := spec (.pr .str .nil) (fun x => (nameG x.1)) (fun x => (.t .bool (namedG x.1)))
theorem ms_f47 : Meets Try.prog 47 (strip sp_f47) := by
  obtain ⟨c, hc, hi⟩ := Option.map_eq_some_iff.1 ok_f47
  exact meets_spec (R := runF g_f47 tc_f47 rv_f47 false) (meets_of (by decide) Try.func47 hc hi Try.ntmps47 rok_f47 gk_f47 lk_f47 mixed) fun x hok => (e_f47 x.1).trans (s_f47 x.1 hok)
theorem sgt_get {s : ByteArray} {k : Nat} (h : k < s.size) : sgt s (k : Int) = (bytesL s)[k]'(by rw [bytesG_len]; exact h) := by
  have hl : k < s.data.toList.length := by simpa using h
  simp only [sgt, bytesL, Int.toNat_natCast, List.getElem_map, List.getD_eq_getElem?_getD, List.getElem?_eq_getElem hl, Option.getD_some]
def fg_f38_0 : Fg := ⟨[(0, some .str), (3, some tI)], []⟩
def tb_f38_0 : TC := (.sq (.sq (.reg [(oV 12 3), (oV 13 0), (oP 14 (.len true (.t 13))), (oP 15 (.bin false .lss (.t 12) (.t 14)))]) (.cd (.t 15) .sk (.fg ⟨[], []⟩ (.ex 0)))) (.sq (.bk 1 (.sq (.reg [(oV 18 0), (oV 19 3), (oP 20 (.sx (.t 18) (.t 19))), (oP 21 (.bin false .lss (.t 20) (.c (.v (.int .u8 33))))), (oV 22 21), (oQ 23 22 false (.mv (.t 0))), (oQ 24 22 false (.mv (.t 3))), (oQ 25 22 false (.sx (.t 23) (.t 24))), (oQ 26 22 false (.bin false .gtr (.t 25) (.c (.v (.int .u8 126))))), (oP 27 (.pick (.t 22) (cB true) (.t 26)))]) (.cd (.t 27) (.sq (.reg [(oP 2 (.mv (cB false)))]) (.fg ⟨[(2, some .bool)], []⟩ .rt)) .sk))) (.reg [(oV 16 3), (oP 17 (.bin false .add (.t 16) (cI 1))), (oV 3 17)])))
/-- cipherplan/cipherplanref03.Name -/
def tc_f38 : TC := (.sq (.reg [(oP 2 (.mv (cB false)))]) (.sq (.sq (.reg [(oV 4 0), (oP 5 (.len true (.t 4))), (oP 6 (.bin false .lss (.t 5) (cI 1))), (oV 7 6), (oQ 8 7 false (.mv (.t 0))), (oQ 9 7 false (.len true (.t 8))), (oQ 10 7 false (.bin false .gtr (.t 9) (cI 32))), (oP 11 (.pick (.t 7) (cB true) (.t 10)))]) (.cd (.t 11) (.sq (.reg [(oP 2 (.mv (cB false)))]) .rt) .sk)) (.sq (.sq (.reg [(oP 3 (.mv (cI 0)))]) (.bk 0 (.lp 0 fg_f38_0 tb_f38_0))) (.sq (.reg [(oP 2 (.mv (cB true)))]) .rt))))
def rv_f38 : List (RV × Option Ty) := [((.t 2), some .bool)]
abbrev sh_f38_0 : Sh := ⟨[(0, .ty .str), (3, .ty tI)], []⟩
def st_f38_0 (x0 : ByteArray) (x3 : Int) : VS := sh_f38_0.st (x0, x3, ()) ()
abbrev sh_f38_0_ret : Sh := ⟨[(2, .ty .bool)], []⟩
def st_f38_0_ret (x2 : Bool) : VS := sh_f38_0_ret.st (x2, ()) ()
abbrev sh_f38_0_e0 : Sh := ⟨[], []⟩
def st_f38_0_e0  : VS := sh_f38_0_e0.st () ()
-- loop 0: (x0 : ByteArray) (x3 : Int); out: ('ret',) (x2 : Bool); ('exit', 0) 
def L_f38_0 : VS → Option (Bool × List (Bool × Exit × VS)) := mkL sh_f38_0 (fun x y => (nameG x.1 && decide (0 ≤ x.2.1 ∧ x.2.1 ≤ x.1.size))) (fun x y => [((!(((bytesL x.1).drop x.2.1.toNat).all charG)), .ret, st_f38_0_ret (false)), (true, .exit 0, st_f38_0_e0)])
def g_f38 : G := ⟨TYs, [], 28, EL [], keeps, (Ls [L_f38_0]), IL [], RL []⟩
def b_f38_0 (x0 : ByteArray) (x3 : Int) : Option (Exit × VS) :=
  br ((ilt x3 (slen x0)))
    (br (cSx x0 x3)
      (br ((ilt (sgt x0 x3) 33))
        (some (.ret, st_f38_0_ret false))
        (br (cSx x0 x3)
          (br ((igt (sgt x0 x3) 126))
            (some (.ret, st_f38_0_ret false))
            (some (.normal, st_f38_0 x0 (iadd .i64 x3 1))))
          (none)))
      (none))
    (some (.exit 0, st_f38_0_e0))
noncomputable def lp_f38_0 (x0 : ByteArray) (x3 : Int) : Option (Exit × VS) := loopF (roundF g_f38 fg_f38_0 tb_f38_0) (st_f38_0 x0 x3)
noncomputable def n_f38_0 (x0 : ByteArray) (x3 : Int) : Option (Exit × VS) :=
  br ((ilt x3 (slen x0)))
    (br (cSx x0 x3)
      (br ((ilt (sgt x0 x3) 33))
        (some (.ret, st_f38_0_ret false))
        (br (cSx x0 x3)
          (br ((igt (sgt x0 x3) 126))
            (some (.ret, st_f38_0_ret false))
            (lp_f38_0 x0 (iadd .i64 x3 1)))
          (none)))
      (none))
    (some (.exit 0, st_f38_0_e0))
def la_f38_0 (x0 : ByteArray) (x3 : Int) : Option (Exit × VS) := br (!(((bytesL x0).drop x3.toNat).all charG)) (some (.ret, st_f38_0_ret (false))) <| some (.exit 0, st_f38_0_e0)
theorem be_f38_0 (x0 : ByteArray) (x3 : Int) : roundF g_f38 fg_f38_0 tb_f38_0 (st_f38_0 x0 x3) = b_f38_0 x0 x3 := by kernel_rfl
theorem ln_f38_0 (x0 : ByteArray) (x3 : Int) : lp_f38_0 x0 x3 = n_f38_0 x0 x3 := (loopF_nxt _ _).trans (by
  rw [be_f38_0]
  simp only [b_f38_0, n_f38_0, nxt_br, nxt_n, nxt_r, nxt_e, nxt_0]
  rfl)
def r_f38 (p0 : ByteArray) : Option (V × List VO) :=
  br ((ilt (slen p0) 1))
    (some (.t .bool false, []))
    (br ((igt (slen p0) 32))
      (some (.t .bool false, []))
      (br ((nameG p0 && decide (0 ≤ (0 : Int) ∧ (0 : Int) ≤ p0.size)))
        (br ((!(((bytesL p0).drop (0 : Int).toNat).all charG)))
          (some (.t .bool (false), []))
          (some (.t .bool true, [])))
        (none)))
theorem e_f38 (p0 : ByteArray) : runF g_f38 tc_f38 rv_f38 false [.t .str p0] [] = r_f38 p0 := by kernel_rfl
theorem ok_f38 : Option.map (trC Try.prog) Try.f38.body = some tc_f38.er := by kernel_rfl
theorem rok_f38 : trVs Try.prog Try.f38.results.toList = some (rv_f38.map Prod.fst) := by kernel_rfl
theorem en_f38 : Entered Try.prog 38 := .inr ⟨by decide, _, Try.func38, by kernel_rfl, by kernel_rfl⟩
theorem gk_f38 : GOk Try.prog g_f38 := gok_of _ (fun p hp => by cases hp)
theorem l_f38_0 (x0 : ByteArray) (x3 : Int) (h : (nameG x0 && decide (0 ≤ x3 ∧ x3 ≤ x0.size)) = true) : lp_f38_0 x0 x3 = la_f38_0 x0 x3 := by
  simp only [nameG, Bool.and_eq_true, decide_eq_true_eq] at h
  obtain ⟨h0, h1, h2⟩ := h
  obtain ⟨k, rfl⟩ := Int.eq_ofNat_of_zero_le h1
  have hl := bytesG_len x0
  refine range_ind (bytesL x0) (fun k => lp_f38_0 x0 (k : Int) = la_f38_0 x0 (k : Int)) ?_ ?_ k (by omega)
  · rw [ln_f38_0]
    simp [n_f38_0, la_f38_0, ilt, slen, hl, br_false, List.drop_eq_nil_of_le (show (bytesL x0).length ≤ x0.size by omega)]
  · intro k hk ih
    have hk2 : k < x0.size := by omega
    rw [ln_f38_0]
    simp only [n_f38_0, show ilt (k : Int) (slen x0) = true from by simp only [ilt, slen, decide_eq_true_eq]; omega, show cSx x0 (k : Int) = true from by simp only [cSx, decide_eq_true_eq]; omega, br_true, sgt_get hk2, add1G (show k < 9223372036854775807 by omega), ih]
    simp only [la_f38_0, Int.toNat_natCast, List.drop_eq_getElem_cons hk, List.all_cons, charG]
    by_cases c1 : (bytesL x0)[k] < 33
    · rw [show ilt (bytesL x0)[k] 33 = true from decide_eq_true c1, br_true, decide_eq_false (show ¬ (32 < (bytesL x0)[k] ∧ (bytesL x0)[k] ≤ 126) by omega)]
      rfl
    · rw [show ilt (bytesL x0)[k] 33 = false from decide_eq_false c1, br_false]
      by_cases c2 : 126 < (bytesL x0)[k]
      · rw [show igt (bytesL x0)[k] 126 = true from decide_eq_true c2, br_true, decide_eq_false (show ¬ (32 < (bytesL x0)[k] ∧ (bytesL x0)[k] ≤ 126) by omega)]
        rfl
      · rw [show igt (bytesL x0)[k] 126 = false from decide_eq_false c2, br_false, decide_eq_true (show 32 < (bytesL x0)[k] ∧ (bytesL x0)[k] ≤ 126 by omega), Bool.true_and]
theorem lo_f38_0 : ∀ S l p, g_f38.L 0 (fgt fg_f38_0 S) = some (true, l) → pickA l = some p → loopF (roundF g_f38 fg_f38_0 tb_f38_0) S = some p :=
  lok_of (s := sh_f38_0) ⟨by decide, by decide⟩ (by kernel_rfl) fun x y hok p hp => by
  simp only [pickA_br, pickA_one] at hp
  exact (l_f38_0 x.1 x.2.1 (by simpa using hok)).trans hp
theorem lk_f38 : tc_f38.lok g_f38 := by
  repeat (first | exact trivial | exact lo_f38_0 | refine ⟨?_, ?_⟩)
theorem s_f38 (s : ByteArray) (h : nameG s = true) : r_f38 s = some (.t .bool (namedG s), []) := by
  simp only [r_f38]
  unfold namedG
  refine br_intro (fun g => ?_) (fun g => br_intro (fun g2 => ?_) (fun g2 => ?_))
  · simp only [ilt, slen, decide_eq_true_eq] at g
    rw [decide_eq_false (show ¬ (1 ≤ s.size ∧ s.size ≤ 32) by omega), Bool.and_false]
  · simp only [igt, slen, decide_eq_true_eq] at g2
    rw [decide_eq_false (show ¬ (1 ≤ s.size ∧ s.size ≤ 32) by omega), Bool.and_false]
  · simp only [ilt, igt, slen, decide_eq_false_iff_not] at g g2
    rw [h, decide_eq_true (show (0 : Int) ≤ 0 ∧ (0 : Int) ≤ s.size by omega), decide_eq_true (show 1 ≤ s.size ∧ s.size ≤ 32 by omega), Bool.and_true, Bool.and_true, br_true, Int.toNat_zero, List.drop_zero]
    cases (bytesL s).all charG <;> rfl
def sp_f38 : Ent := spec (.pr .str .nil) (fun x => (nameG x.1)) (fun x => (.t .bool (namedG x.1)))
theorem ms_f38 : Meets Try.prog 38 (strip sp_f38) := by
  obtain ⟨c, hc, hi⟩ := Option.map_eq_some_iff.1 ok_f38
  exact meets_spec (R := runF g_f38 tc_f38 rv_f38 false) (meets_of (by decide) Try.func38 hc hi Try.ntmps38 rok_f38 gk_f38 lk_f38 mixed) fun x hok => (e_f38 x.1).trans (s_f38 x.1 hok)
/-! names of algorithms -/
/-- cipherplan/catalog.rows -/
def tc_f44 : TC := (.sq (.reg [(oM 0 (.new [(.v (.string (ByteArray.mk #[]))), (.v (.int .i64 0)), (.v (.int .i64 0)), (.v (.slice none 0 0)), (.v (.slice none 0 0)), (.v (.string (ByteArray.mk #[]))), (.v (.int .i64 0)), (.v (.int .i64 0)), (.v (.slice none 0 0)), (.v (.slice none 0 0)), (.v (.string (ByteArray.mk #[]))), (.v (.int .i64 0)), (.v (.int .i64 0)), (.v (.slice none 0 0)), (.v (.slice none 0 0)), (.v (.string (ByteArray.mk #[]))), (.v (.int .i64 0)), (.v (.int .i64 0)), (.v (.slice none 0 0)), (.v (.slice none 0 0)), (.v (.string (ByteArray.mk #[]))), (.v (.int .i64 0)), (.v (.int .i64 0)), (.v (.slice none 0 0)), (.v (.slice none 0 0)), (.v (.string (ByteArray.mk #[]))), (.v (.int .i64 0)), (.v (.int .i64 0)), (.v (.slice none 0 0)), (.v (.slice none 0 0)), (.v (.string (ByteArray.mk #[]))), (.v (.int .i64 0)), (.v (.int .i64 0)), (.v (.slice none 0 0)), (.v (.slice none 0 0)), (.v (.string (ByteArray.mk #[]))), (.v (.int .i64 0)), (.v (.int .i64 0)), (.v (.slice none 0 0)), (.v (.slice none 0 0)), (.v (.string (ByteArray.mk #[]))), (.v (.int .i64 0)), (.v (.int .i64 0)), (.v (.slice none 0 0)), (.v (.slice none 0 0)), (.v (.string (ByteArray.mk #[]))), (.v (.int .i64 0)), (.v (.int .i64 0)), (.v (.slice none 0 0)), (.v (.slice none 0 0)), (.v (.string (ByteArray.mk #[]))), (.v (.int .i64 0)), (.v (.int .i64 0)), (.v (.slice none 0 0)), (.v (.slice none 0 0)), (.v (.string (ByteArray.mk #[]))), (.v (.int .i64 0)), (.v (.int .i64 0)), (.v (.slice none 0 0)), (.v (.slice none 0 0)), (.v (.string (ByteArray.mk #[]))), (.v (.int .i64 0)), (.v (.int .i64 0)), (.v (.slice none 0 0)), (.v (.slice none 0 0)), (.v (.string (ByteArray.mk #[]))), (.v (.int .i64 0)), (.v (.int .i64 0)), (.v (.slice none 0 0)), (.v (.slice none 0 0)), (.v (.string (ByteArray.mk #[]))), (.v (.int .i64 0)), (.v (.int .i64 0)), (.v (.slice none 0 0)), (.v (.slice none 0 0)), (.v (.string (ByteArray.mk #[]))), (.v (.int .i64 0)), (.v (.int .i64 0)), (.v (.slice none 0 0)), (.v (.slice none 0 0)), (.v (.string (ByteArray.mk #[]))), (.v (.int .i64 0)), (.v (.int .i64 0)), (.v (.slice none 0 0)), (.v (.slice none 0 0)), (.v (.string (ByteArray.mk #[]))), (.v (.int .i64 0)), (.v (.int .i64 0)), (.v (.slice none 0 0)), (.v (.slice none 0 0)), (.v (.string (ByteArray.mk #[]))), (.v (.int .i64 0)), (.v (.int .i64 0)), (.v (.slice none 0 0)), (.v (.slice none 0 0)), (.v (.string (ByteArray.mk #[]))), (.v (.int .i64 0)), (.v (.int .i64 0)), (.v (.slice none 0 0)), (.v (.slice none 0 0)), (.v (.string (ByteArray.mk #[]))), (.v (.int .i64 0)), (.v (.int .i64 0)), (.v (.slice none 0 0)), (.v (.slice none 0 0)), (.v (.string (ByteArray.mk #[]))), (.v (.int .i64 0)), (.v (.int .i64 0)), (.v (.slice none 0 0)), (.v (.slice none 0 0)), (.v (.string (ByteArray.mk #[]))), (.v (.int .i64 0)), (.v (.int .i64 0)), (.v (.slice none 0 0)), (.v (.slice none 0 0))]))]) (.sq (.reg [(oM 1 (.bs 3 1 1 [(.v (.int .i64 0))] [(0, 1, (cI 18))])), (oP 2 (.bd [(.v (.string (ByteArray.mk #[]))), (.v (.int .i64 0)), (.v (.int .i64 0)), (.v (.slice none 0 0)), (.v (.slice none 0 0))] [(0, 1, (.c (.v (.string (ByteArray.mk #[109, 100, 53]))))), (1, 1, (cI 1)), (2, 1, (cI 0)), (3, 1, (.c (.v (.slice none 0 0)))), (4, 1, (.t 1))])), (oM 3 (.bs 3 1 1 [(.v (.int .i64 0))] [(0, 1, (cI 60))])), (oP 4 (.bd [(.v (.string (ByteArray.mk #[]))), (.v (.int .i64 0)), (.v (.int .i64 0)), (.v (.slice none 0 0)), (.v (.slice none 0 0))] [(0, 1, (.c (.v (.string (ByteArray.mk #[115, 104, 97, 49]))))), (1, 1, (cI 1)), (2, 1, (cI 0)), (3, 1, (.c (.v (.slice none 0 0)))), (4, 1, (.t 3))])), (oM 5 (.bs 3 1 1 [(.v (.int .i64 0))] [(0, 1, (cI 128))])), (oP 6 (.bd [(.v (.string (ByteArray.mk #[]))), (.v (.int .i64 0)), (.v (.int .i64 0)), (.v (.slice none 0 0)), (.v (.slice none 0 0))] [(0, 1, (.c (.v (.string (ByteArray.mk #[115, 104, 97, 50, 53, 54]))))), (1, 1, (cI 1)), (2, 1, (cI 0)), (3, 1, (.c (.v (.slice none 0 0)))), (4, 1, (.t 5))])), (oM 7 (.bs 3 1 1 [(.v (.int .i64 0))] [(0, 1, (cI 192))])), (oP 8 (.bd [(.v (.string (ByteArray.mk #[]))), (.v (.int .i64 0)), (.v (.int .i64 0)), (.v (.slice none 0 0)), (.v (.slice none 0 0))] [(0, 1, (.c (.v (.string (ByteArray.mk #[115, 104, 97, 51, 56, 52]))))), (1, 1, (cI 1)), (2, 1, (cI 0)), (3, 1, (.c (.v (.slice none 0 0)))), (4, 1, (.t 7))])), (oP 9 (.bd [(.v (.string (ByteArray.mk #[]))), (.v (.int .i64 0)), (.v (.int .i64 0)), (.v (.slice none 0 0)), (.v (.slice none 0 0))] [(0, 1, (.c (.v (.string (ByteArray.mk #[114, 115, 97]))))), (1, 1, (cI 2)), (2, 1, (cI 1)), (3, 1, (.c (.v (.slice none 0 0)))), (4, 1, (.c (.v (.slice none 0 0))))])), (oP 10 (.bd [(.v (.string (ByteArray.mk #[]))), (.v (.int .i64 0)), (.v (.int .i64 0)), (.v (.slice none 0 0)), (.v (.slice none 0 0))] [(0, 1, (.c (.v (.string (ByteArray.mk #[100, 115, 97]))))), (1, 1, (cI 2)), (2, 1, (cI 1)), (3, 1, (.c (.v (.slice none 0 0)))), (4, 1, (.c (.v (.slice none 0 0))))])), (oP 11 (.bd [(.v (.string (ByteArray.mk #[]))), (.v (.int .i64 0)), (.v (.int .i64 0)), (.v (.slice none 0 0)), (.v (.slice none 0 0))] [(0, 1, (.c (.v (.string (ByteArray.mk #[101, 99, 100, 115, 97]))))), (1, 1, (cI 2)), (2, 1, (cI 2)), (3, 1, (.c (.v (.slice none 0 0)))), (4, 1, (.c (.v (.slice none 0 0))))])), (oM 12 (.bs 3 1 1 [(.v (.int .i64 0))] [(0, 1, (cI 128))])), (oP 13 (.bd [(.v (.string (ByteArray.mk #[]))), (.v (.int .i64 0)), (.v (.int .i64 0)), (.v (.slice none 0 0)), (.v (.slice none 0 0))] [(0, 1, (.c (.v (.string (ByteArray.mk #[101, 100, 50, 53, 53, 49, 57]))))), (1, 1, (cI 2)), (2, 1, (cI 0)), (3, 1, (.c (.v (.slice none 0 0)))), (4, 1, (.t 12))])), (oM 14 (.bs 3 1 3 [(.v (.int .i64 0)), (.v (.int .i64 0)), (.v (.int .i64 0))] [(0, 1, (cI 44)), (1, 1, (cI 65)), (2, 1, (cI 87))])), (oM 15 (.bs 3 1 3 [(.v (.int .i64 0)), (.v (.int .i64 0)), (.v (.int .i64 0))] [(0, 1, (cI 128)), (1, 1, (cI 192)), (2, 1, (cI 256))])), (oP 16 (.bd [(.v (.string (ByteArray.mk #[]))), (.v (.int .i64 0)), (.v (.int .i64 0)), (.v (.slice none 0 0)), (.v (.slice none 0 0))] [(0, 1, (.c (.v (.string (ByteArray.mk #[109, 108, 100, 115, 97]))))), (1, 1, (cI 2)), (2, 1, (cI 3)), (3, 1, (.t 14)), (4, 1, (.t 15))])), (oP 17 (.bd [(.v (.string (ByteArray.mk #[]))), (.v (.int .i64 0)), (.v (.int .i64 0)), (.v (.slice none 0 0)), (.v (.slice none 0 0))] [(0, 1, (.c (.v (.string (ByteArray.mk #[114, 115, 97, 107, 120]))))), (1, 1, (cI 3)), (2, 1, (cI 1)), (3, 1, (.c (.v (.slice none 0 0)))), (4, 1, (.c (.v (.slice none 0 0))))])), (oP 18 (.bd [(.v (.string (ByteArray.mk #[]))), (.v (.int .i64 0)), (.v (.int .i64 0)), (.v (.slice none 0 0)), (.v (.slice none 0 0))] [(0, 1, (.c (.v (.string (ByteArray.mk #[100, 104, 101]))))), (1, 1, (cI 3)), (2, 1, (cI 1)), (3, 1, (.c (.v (.slice none 0 0)))), (4, 1, (.c (.v (.slice none 0 0))))])), (oP 19 (.bd [(.v (.string (ByteArray.mk #[]))), (.v (.int .i64 0)), (.v (.int .i64 0)), (.v (.slice none 0 0)), (.v (.slice none 0 0))] [(0, 1, (.c (.v (.string (ByteArray.mk #[101, 99, 100, 104, 101]))))), (1, 1, (cI 3)), (2, 1, (cI 2)), (3, 1, (.c (.v (.slice none 0 0)))), (4, 1, (.c (.v (.slice none 0 0))))])), (oM 20 (.bs 3 1 3 [(.v (.int .i64 0)), (.v (.int .i64 0)), (.v (.int .i64 0))] [(0, 1, (cI 512)), (1, 1, (cI 768)), (2, 1, (cI 1024))])), (oM 21 (.bs 3 1 3 [(.v (.int .i64 0)), (.v (.int .i64 0)), (.v (.int .i64 0))] [(0, 1, (cI 128)), (1, 1, (cI 192)), (2, 1, (cI 256))])), (oP 22 (.bd [(.v (.string (ByteArray.mk #[]))), (.v (.int .i64 0)), (.v (.int .i64 0)), (.v (.slice none 0 0)), (.v (.slice none 0 0))] [(0, 1, (.c (.v (.string (ByteArray.mk #[109, 108, 107, 101, 109]))))), (1, 1, (cI 3)), (2, 1, (cI 3)), (3, 1, (.t 20)), (4, 1, (.t 21))])), (oM 23 (.bs 3 1 2 [(.v (.int .i64 0)), (.v (.int .i64 0))] [(0, 1, (cI 40)), (1, 1, (cI 128))])), (oM 24 (.bs 3 1 2 [(.v (.int .i64 0)), (.v (.int .i64 0))] [(0, 1, (cI 40)), (1, 1, (cI 60))])), (oP 25 (.bd [(.v (.string (ByteArray.mk #[]))), (.v (.int .i64 0)), (.v (.int .i64 0)), (.v (.slice none 0 0)), (.v (.slice none 0 0))] [(0, 1, (.c (.v (.string (ByteArray.mk #[114, 99, 52]))))), (1, 1, (cI 4)), (2, 1, (cI 3)), (3, 1, (.t 23)), (4, 1, (.t 24))])), (oM 26 (.bs 3 1 2 [(.v (.int .i64 0)), (.v (.int .i64 0))] [(0, 1, (cI 112)), (1, 1, (cI 168))])), (oM 27 (.bs 3 1 2 [(.v (.int .i64 0)), (.v (.int .i64 0))] [(0, 1, (cI 80)), (1, 1, (cI 112))])), (oP 28 (.bd [(.v (.string (ByteArray.mk #[]))), (.v (.int .i64 0)), (.v (.int .i64 0)), (.v (.slice none 0 0)), (.v (.slice none 0 0))] [(0, 1, (.c (.v (.string (ByteArray.mk #[100, 101, 115, 51]))))), (1, 1, (cI 4)), (2, 1, (cI 3)), (3, 1, (.t 26)), (4, 1, (.t 27))])), (oM 29 (.bs 3 1 2 [(.v (.int .i64 0)), (.v (.int .i64 0))] [(0, 1, (cI 128)), (1, 1, (cI 256))])), (oM 30 (.bs 3 1 2 [(.v (.int .i64 0)), (.v (.int .i64 0))] [(0, 1, (cI 128)), (1, 1, (cI 256))])), (oP 31 (.bd [(.v (.string (ByteArray.mk #[]))), (.v (.int .i64 0)), (.v (.int .i64 0)), (.v (.slice none 0 0)), (.v (.slice none 0 0))] [(0, 1, (.c (.v (.string (ByteArray.mk #[97, 101, 115, 99, 98, 99]))))), (1, 1, (cI 4)), (2, 1, (cI 3)), (3, 1, (.t 29)), (4, 1, (.t 30))])), (oM 32 (.bs 3 1 2 [(.v (.int .i64 0)), (.v (.int .i64 0))] [(0, 1, (cI 128)), (1, 1, (cI 256))])), (oM 33 (.bs 3 1 2 [(.v (.int .i64 0)), (.v (.int .i64 0))] [(0, 1, (cI 128)), (1, 1, (cI 256))])), (oP 34 (.bd [(.v (.string (ByteArray.mk #[]))), (.v (.int .i64 0)), (.v (.int .i64 0)), (.v (.slice none 0 0)), (.v (.slice none 0 0))] [(0, 1, (.c (.v (.string (ByteArray.mk #[97, 101, 115, 103, 99, 109]))))), (1, 1, (cI 4)), (2, 1, (cI 3)), (3, 1, (.t 32)), (4, 1, (.t 33))])), (oM 35 (.bs 3 1 1 [(.v (.int .i64 0))] [(0, 1, (cI 256))])), (oP 36 (.bd [(.v (.string (ByteArray.mk #[]))), (.v (.int .i64 0)), (.v (.int .i64 0)), (.v (.slice none 0 0)), (.v (.slice none 0 0))] [(0, 1, (.c (.v (.string (ByteArray.mk #[99, 104, 97, 99, 104, 97]))))), (1, 1, (cI 4)), (2, 1, (cI 0)), (3, 1, (.c (.v (.slice none 0 0)))), (4, 1, (.t 35))])), (oM 37 (.bs 3 1 1 [(.v (.int .i64 0))] [(0, 1, (cI 64))])), (oP 38 (.bd [(.v (.string (ByteArray.mk #[]))), (.v (.int .i64 0)), (.v (.int .i64 0)), (.v (.slice none 0 0)), (.v (.slice none 0 0))] [(0, 1, (.c (.v (.string (ByteArray.mk #[104, 109, 97, 99, 109, 100, 53]))))), (1, 1, (cI 5)), (2, 1, (cI 0)), (3, 1, (.c (.v (.slice none 0 0)))), (4, 1, (.t 37))])), (oM 39 (.bs 3 1 1 [(.v (.int .i64 0))] [(0, 1, (cI 80))])), (oP 40 (.bd [(.v (.string (ByteArray.mk #[]))), (.v (.int .i64 0)), (.v (.int .i64 0)), (.v (.slice none 0 0)), (.v (.slice none 0 0))] [(0, 1, (.c (.v (.string (ByteArray.mk #[104, 109, 97, 99, 115, 104, 97, 49]))))), (1, 1, (cI 5)), (2, 1, (cI 0)), (3, 1, (.c (.v (.slice none 0 0)))), (4, 1, (.t 39))])), (oM 41 (.bs 3 1 1 [(.v (.int .i64 0))] [(0, 1, (cI 128))])), (oP 42 (.bd [(.v (.string (ByteArray.mk #[]))), (.v (.int .i64 0)), (.v (.int .i64 0)), (.v (.slice none 0 0)), (.v (.slice none 0 0))] [(0, 1, (.c (.v (.string (ByteArray.mk #[104, 109, 97, 99, 115, 104, 97, 50, 53, 54]))))), (1, 1, (cI 5)), (2, 1, (cI 0)), (3, 1, (.c (.v (.slice none 0 0)))), (4, 1, (.t 41))])), (oM 43 (.bs 3 1 1 [(.v (.int .i64 0))] [(0, 1, (cI 256))])), (oP 44 (.bd [(.v (.string (ByteArray.mk #[]))), (.v (.int .i64 0)), (.v (.int .i64 0)), (.v (.slice none 0 0)), (.v (.slice none 0 0))] [(0, 1, (.c (.v (.string (ByteArray.mk #[97, 101, 97, 100]))))), (1, 1, (cI 5)), (2, 1, (cI 0)), (3, 1, (.c (.v (.slice none 0 0)))), (4, 1, (.t 43))])), (oP 45 (.bd [(.v (.string (ByteArray.mk #[]))), (.v (.int .i64 0)), (.v (.int .i64 0)), (.v (.slice none 0 0)), (.v (.slice none 0 0)), (.v (.string (ByteArray.mk #[]))), (.v (.int .i64 0)), (.v (.int .i64 0)), (.v (.slice none 0 0)), (.v (.slice none 0 0)), (.v (.string (ByteArray.mk #[]))), (.v (.int .i64 0)), (.v (.int .i64 0)), (.v (.slice none 0 0)), (.v (.slice none 0 0)), (.v (.string (ByteArray.mk #[]))), (.v (.int .i64 0)), (.v (.int .i64 0)), (.v (.slice none 0 0)), (.v (.slice none 0 0)), (.v (.string (ByteArray.mk #[]))), (.v (.int .i64 0)), (.v (.int .i64 0)), (.v (.slice none 0 0)), (.v (.slice none 0 0)), (.v (.string (ByteArray.mk #[]))), (.v (.int .i64 0)), (.v (.int .i64 0)), (.v (.slice none 0 0)), (.v (.slice none 0 0)), (.v (.string (ByteArray.mk #[]))), (.v (.int .i64 0)), (.v (.int .i64 0)), (.v (.slice none 0 0)), (.v (.slice none 0 0)), (.v (.string (ByteArray.mk #[]))), (.v (.int .i64 0)), (.v (.int .i64 0)), (.v (.slice none 0 0)), (.v (.slice none 0 0)), (.v (.string (ByteArray.mk #[]))), (.v (.int .i64 0)), (.v (.int .i64 0)), (.v (.slice none 0 0)), (.v (.slice none 0 0)), (.v (.string (ByteArray.mk #[]))), (.v (.int .i64 0)), (.v (.int .i64 0)), (.v (.slice none 0 0)), (.v (.slice none 0 0)), (.v (.string (ByteArray.mk #[]))), (.v (.int .i64 0)), (.v (.int .i64 0)), (.v (.slice none 0 0)), (.v (.slice none 0 0)), (.v (.string (ByteArray.mk #[]))), (.v (.int .i64 0)), (.v (.int .i64 0)), (.v (.slice none 0 0)), (.v (.slice none 0 0)), (.v (.string (ByteArray.mk #[]))), (.v (.int .i64 0)), (.v (.int .i64 0)), (.v (.slice none 0 0)), (.v (.slice none 0 0)), (.v (.string (ByteArray.mk #[]))), (.v (.int .i64 0)), (.v (.int .i64 0)), (.v (.slice none 0 0)), (.v (.slice none 0 0)), (.v (.string (ByteArray.mk #[]))), (.v (.int .i64 0)), (.v (.int .i64 0)), (.v (.slice none 0 0)), (.v (.slice none 0 0)), (.v (.string (ByteArray.mk #[]))), (.v (.int .i64 0)), (.v (.int .i64 0)), (.v (.slice none 0 0)), (.v (.slice none 0 0)), (.v (.string (ByteArray.mk #[]))), (.v (.int .i64 0)), (.v (.int .i64 0)), (.v (.slice none 0 0)), (.v (.slice none 0 0)), (.v (.string (ByteArray.mk #[]))), (.v (.int .i64 0)), (.v (.int .i64 0)), (.v (.slice none 0 0)), (.v (.slice none 0 0)), (.v (.string (ByteArray.mk #[]))), (.v (.int .i64 0)), (.v (.int .i64 0)), (.v (.slice none 0 0)), (.v (.slice none 0 0)), (.v (.string (ByteArray.mk #[]))), (.v (.int .i64 0)), (.v (.int .i64 0)), (.v (.slice none 0 0)), (.v (.slice none 0 0)), (.v (.string (ByteArray.mk #[]))), (.v (.int .i64 0)), (.v (.int .i64 0)), (.v (.slice none 0 0)), (.v (.slice none 0 0)), (.v (.string (ByteArray.mk #[]))), (.v (.int .i64 0)), (.v (.int .i64 0)), (.v (.slice none 0 0)), (.v (.slice none 0 0)), (.v (.string (ByteArray.mk #[]))), (.v (.int .i64 0)), (.v (.int .i64 0)), (.v (.slice none 0 0)), (.v (.slice none 0 0))] [(5, 5, (.t 2)), (10, 5, (.t 4)), (15, 5, (.t 6)), (20, 5, (.t 8)), (25, 5, (.t 9)), (30, 5, (.t 10)), (35, 5, (.t 11)), (40, 5, (.t 13)), (45, 5, (.t 16)), (50, 5, (.t 17)), (55, 5, (.t 18)), (60, 5, (.t 19)), (65, 5, (.t 22)), (70, 5, (.t 25)), (75, 5, (.t 28)), (80, 5, (.t 31)), (85, 5, (.t 34)), (90, 5, (.t 36)), (95, 5, (.t 38)), (100, 5, (.t 40)), (105, 5, (.t 42)), (110, 5, (.t 44))])), (.mk none none (.m (.st 115 (.t 0) (.t 45))))]) .rt))
def rv_f44 : List (RV × Option Ty) := [((.c 0 true 115), some (.pr tyRow (.pr tyRow (.pr tyRow (.pr tyRow (.pr tyRow (.pr tyRow (.pr tyRow (.pr tyRow (.pr tyRow (.pr tyRow (.pr tyRow (.pr tyRow (.pr tyRow (.pr tyRow (.pr tyRow (.pr tyRow (.pr tyRow (.pr tyRow (.pr tyRow (.pr tyRow (.pr tyRow (.pr tyRow (.pr tyRow .nil))))))))))))))))))))))))]
def g_f44 : G := ⟨TYs, [], 46, EL [], keeps, (fun _ _ => none), IL [], RL []⟩
def r_f44  : Option (V × List VO) :=
  some (.t (.pr tyRow (.pr tyRow (.pr tyRow (.pr tyRow (.pr tyRow (.pr tyRow (.pr tyRow (.pr tyRow (.pr tyRow (.pr tyRow (.pr tyRow (.pr tyRow (.pr tyRow (.pr tyRow (.pr tyRow (.pr tyRow (.pr tyRow (.pr tyRow (.pr tyRow (.pr tyRow (.pr tyRow (.pr tyRow (.pr tyRow .nil))))))))))))))))))))))) (((ByteArray.mk #[]), (0, (0, (([] : List Int), (([] : List Int), ()))))), (((ByteArray.mk #[109, 100, 53]), (1, (0, (([] : List Int), ([18], ()))))), (((ByteArray.mk #[115, 104, 97, 49]), (1, (0, (([] : List Int), ([60], ()))))), (((ByteArray.mk #[115, 104, 97, 50, 53, 54]), (1, (0, (([] : List Int), ([128], ()))))), (((ByteArray.mk #[115, 104, 97, 51, 56, 52]), (1, (0, (([] : List Int), ([192], ()))))), (((ByteArray.mk #[114, 115, 97]), (2, (1, (([] : List Int), (([] : List Int), ()))))), (((ByteArray.mk #[100, 115, 97]), (2, (1, (([] : List Int), (([] : List Int), ()))))), (((ByteArray.mk #[101, 99, 100, 115, 97]), (2, (2, (([] : List Int), (([] : List Int), ()))))), (((ByteArray.mk #[101, 100, 50, 53, 53, 49, 57]), (2, (0, (([] : List Int), ([128], ()))))), (((ByteArray.mk #[109, 108, 100, 115, 97]), (2, (3, ([44, 65, 87], ([128, 192, 256], ()))))), (((ByteArray.mk #[114, 115, 97, 107, 120]), (3, (1, (([] : List Int), (([] : List Int), ()))))), (((ByteArray.mk #[100, 104, 101]), (3, (1, (([] : List Int), (([] : List Int), ()))))), (((ByteArray.mk #[101, 99, 100, 104, 101]), (3, (2, (([] : List Int), (([] : List Int), ()))))), (((ByteArray.mk #[109, 108, 107, 101, 109]), (3, (3, ([512, 768, 1024], ([128, 192, 256], ()))))), (((ByteArray.mk #[114, 99, 52]), (4, (3, ([40, 128], ([40, 60], ()))))), (((ByteArray.mk #[100, 101, 115, 51]), (4, (3, ([112, 168], ([80, 112], ()))))), (((ByteArray.mk #[97, 101, 115, 99, 98, 99]), (4, (3, ([128, 256], ([128, 256], ()))))), (((ByteArray.mk #[97, 101, 115, 103, 99, 109]), (4, (3, ([128, 256], ([128, 256], ()))))), (((ByteArray.mk #[99, 104, 97, 99, 104, 97]), (4, (0, (([] : List Int), ([256], ()))))), (((ByteArray.mk #[104, 109, 97, 99, 109, 100, 53]), (5, (0, (([] : List Int), ([64], ()))))), (((ByteArray.mk #[104, 109, 97, 99, 115, 104, 97, 49]), (5, (0, (([] : List Int), ([80], ()))))), (((ByteArray.mk #[104, 109, 97, 99, 115, 104, 97, 50, 53, 54]), (5, (0, (([] : List Int), ([128], ()))))), (((ByteArray.mk #[97, 101, 97, 100]), (5, (0, (([] : List Int), ([256], ()))))), ()))))))))))))))))))))))), [])
theorem e_f44  : runF g_f44 tc_f44 rv_f44 false [] [] = r_f44  := by kernel_rfl
theorem ok_f44 : Option.map (trC Try.prog) Try.f44.body = some tc_f44.er := by kernel_rfl
theorem rok_f44 : trVs Try.prog Try.f44.results.toList = some (rv_f44.map Prod.fst) := by kernel_rfl
theorem en_f44 : Entered Try.prog 44 := .inr ⟨by decide, _, Try.func44, by kernel_rfl, by kernel_rfl⟩
theorem gk_f44 : GOk Try.prog g_f44 := gok_of _ (fun p hp => by cases hp)
theorem lk_f44 : tc_f44.lok g_f44 := by repeat (first | exact trivial | refine ⟨?_, ?_⟩)
def rowsG : Ty.T (.pr tyRow (.pr tyRow (.pr tyRow (.pr tyRow (.pr tyRow (.pr tyRow (.pr tyRow (.pr tyRow (.pr tyRow (.pr tyRow (.pr tyRow (.pr tyRow (.pr tyRow (.pr tyRow (.pr tyRow (.pr tyRow (.pr tyRow (.pr tyRow (.pr tyRow (.pr tyRow (.pr tyRow (.pr tyRow (.pr tyRow .nil))))))))))))))))))))))) := (((ByteArray.mk #[]), (0, (0, (([] : List Int), (([] : List Int), ()))))), (((ByteArray.mk #[109, 100, 53]), (1, (0, (([] : List Int), ([18], ()))))), (((ByteArray.mk #[115, 104, 97, 49]), (1, (0, (([] : List Int), ([60], ()))))), (((ByteArray.mk #[115, 104, 97, 50, 53, 54]), (1, (0, (([] : List Int), ([128], ()))))), (((ByteArray.mk #[115, 104, 97, 51, 56, 52]), (1, (0, (([] : List Int), ([192], ()))))), (((ByteArray.mk #[114, 115, 97]), (2, (1, (([] : List Int), (([] : List Int), ()))))), (((ByteArray.mk #[100, 115, 97]), (2, (1, (([] : List Int), (([] : List Int), ()))))), (((ByteArray.mk #[101, 99, 100, 115, 97]), (2, (2, (([] : List Int), (([] : List Int), ()))))), (((ByteArray.mk #[101, 100, 50, 53, 53, 49, 57]), (2, (0, (([] : List Int), ([128], ()))))), (((ByteArray.mk #[109, 108, 100, 115, 97]), (2, (3, ([44, 65, 87], ([128, 192, 256], ()))))), (((ByteArray.mk #[114, 115, 97, 107, 120]), (3, (1, (([] : List Int), (([] : List Int), ()))))), (((ByteArray.mk #[100, 104, 101]), (3, (1, (([] : List Int), (([] : List Int), ()))))), (((ByteArray.mk #[101, 99, 100, 104, 101]), (3, (2, (([] : List Int), (([] : List Int), ()))))), (((ByteArray.mk #[109, 108, 107, 101, 109]), (3, (3, ([512, 768, 1024], ([128, 192, 256], ()))))), (((ByteArray.mk #[114, 99, 52]), (4, (3, ([40, 128], ([40, 60], ()))))), (((ByteArray.mk #[100, 101, 115, 51]), (4, (3, ([112, 168], ([80, 112], ()))))), (((ByteArray.mk #[97, 101, 115, 99, 98, 99]), (4, (3, ([128, 256], ([128, 256], ()))))), (((ByteArray.mk #[97, 101, 115, 103, 99, 109]), (4, (3, ([128, 256], ([128, 256], ()))))), (((ByteArray.mk #[99, 104, 97, 99, 104, 97]), (4, (0, (([] : List Int), ([256], ()))))), (((ByteArray.mk #[104, 109, 97, 99, 109, 100, 53]), (5, (0, (([] : List Int), ([64], ()))))), (((ByteArray.mk #[104, 109, 97, 99, 115, 104, 97, 49]), (5, (0, (([] : List Int), ([80], ()))))), (((ByteArray.mk #[104, 109, 97, 99, 115, 104, 97, 50, 53, 54]), (5, (0, (([] : List Int), ([128], ()))))), (((ByteArray.mk #[97, 101, 97, 100]), (5, (0, (([] : List Int), ([256], ()))))), ())))))))))))))))))))))))
theorem s_f44 : r_f44 = some (.t (tyR tyRow 23) rowsG, []) := rfl
def sp_f44 : Ent := spec .nil (fun x => true) (fun x => (.t (.pr tyRow (.pr tyRow (.pr tyRow (.pr tyRow (.pr tyRow (.pr tyRow (.pr tyRow (.pr tyRow (.pr tyRow (.pr tyRow (.pr tyRow (.pr tyRow (.pr tyRow (.pr tyRow (.pr tyRow (.pr tyRow (.pr tyRow (.pr tyRow (.pr tyRow (.pr tyRow (.pr tyRow (.pr tyRow (.pr tyRow .nil))))))))))))))))))))))) rowsG))
theorem ms_f44 : Meets Try.prog 44 (strip sp_f44) := by
  obtain ⟨c, hc, hi⟩ := Option.map_eq_some_iff.1 ok_f44
  exact meets_spec (R := runF g_f44 tc_f44 rv_f44 false) (meets_of (by decide) Try.func44 hc hi Try.ntmps44 rok_f44 gk_f44 lk_f44 mixed) fun x _ => (e_f44 ).trans (s_f44 )
abbrev RowsG : Type := (tyR tyRow 23).T
def nmT (t : RowsG) (i : Int) : ByteArray := (arrGetI tyRow 23 t i).1
def findZ (t : RowsG) (s : ByteArray) (k : Nat) : Option Nat := (List.range' k (23 - k)).find? fun i => decide (0 < i) && seq (nmT t i) s
def findG (s : ByteArray) : Int := (((findZ rowsG s 0).getD 0 : Nat) : Int)
def fg_f35_0 : Fg := ⟨[(0, some .str), (5, some (.pr tyRow (.pr tyRow (.pr tyRow (.pr tyRow (.pr tyRow (.pr tyRow (.pr tyRow (.pr tyRow (.pr tyRow (.pr tyRow (.pr tyRow (.pr tyRow (.pr tyRow (.pr tyRow (.pr tyRow (.pr tyRow (.pr tyRow (.pr tyRow (.pr tyRow (.pr tyRow (.pr tyRow (.pr tyRow (.pr tyRow .nil)))))))))))))))))))))))), (6, some tI)], []⟩
def tb_f35_0 : TC := (.sq (.reg [(oP 7 (.bin false .lss (.t 6) (cI 23)))]) (.sq (.cd (.t 7) .sk (.fg ⟨[], []⟩ (.ex 0))) (.sq (.bk 1 (.sq (.reg [(oV 8 6), (oC 9 1001314 [(.t 5), (.t 6)]), (oM 4 (.new [(.v (.string (ByteArray.mk #[]))), (.v (.int .i64 0)), (.v (.int .i64 0)), (.v (.slice none 0 0)), (.v (.slice none 0 0))])), (oV 3 8), (.mk none none (.m (.st 5 (.t 4) (.t 9))))]) (.sq (.reg [(oV 10 3), (oP 11 (.bin false .gtr (.t 10) (cI 0))), (oV 12 11), (oQ 13 12 true (.fa 0 (.t 4))), (oG 14 12 true (.m (.ld false 1 (.t 13)))), (oQ 15 12 true (.mv (.t 0))), (oQ 16 12 true (.bin false .eql (.t 14) (.t 15))), (oP 17 (.pick (.t 12) (.t 16) (cB false)))]) (.cd (.t 17) (.sq (.reg [(oV 18 3), (oV 2 18)]) (.fg ⟨[(2, some tI)], []⟩ .rt)) .sk)))) (.reg [(oP 19 (.bin false .add (.t 6) (cI 1))), (oV 6 19)]))))
/-- cipherplan/catalog.Find -/
def tc_f35 : TC := (.sq (.reg [(oP 2 (.mv (cI 0)))]) (.sq (.sq (.reg [(oC 5 44 []), (oP 6 (.mv (cI 0)))]) (.bk 0 (.lp 0 fg_f35_0 tb_f35_0))) (.sq (.reg [(oP 2 (.mv (cI 0)))]) .rt)))
def rv_f35 : List (RV × Option Ty) := [((.t 2), some tI)]
abbrev sh_f35_0 : Sh := ⟨[(0, .ty .str), (5, .ty (.pr tyRow (.pr tyRow (.pr tyRow (.pr tyRow (.pr tyRow (.pr tyRow (.pr tyRow (.pr tyRow (.pr tyRow (.pr tyRow (.pr tyRow (.pr tyRow (.pr tyRow (.pr tyRow (.pr tyRow (.pr tyRow (.pr tyRow (.pr tyRow (.pr tyRow (.pr tyRow (.pr tyRow (.pr tyRow (.pr tyRow .nil)))))))))))))))))))))))), (6, .ty tI)], []⟩
def st_f35_0 (x0 : ByteArray) (x5 : (Row × (Row × (Row × (Row × (Row × (Row × (Row × (Row × (Row × (Row × (Row × (Row × (Row × (Row × (Row × (Row × (Row × (Row × (Row × (Row × (Row × (Row × (Row × Unit)))))))))))))))))))))))) (x6 : Int) : VS := sh_f35_0.st (x0, x5, x6, ()) ()
abbrev sh_f35_0_ret : Sh := ⟨[(2, .ty tI)], []⟩
def st_f35_0_ret (x2 : Int) : VS := sh_f35_0_ret.st (x2, ()) ()
abbrev sh_f35_0_e0 : Sh := ⟨[], []⟩
def st_f35_0_e0  : VS := sh_f35_0_e0.st () ()
-- loop 0: (x0 : ByteArray) (x5 : (Row × (Row × (Row × (Row × (Row × (Row × (Row × (Row × (Row × (Row × (Row × (Row × (Row × (Row × (Row × (Row × (Row × (Row × (Row × (Row × (Row × (Row × (Row × Unit)))))))))))))))))))))))) (x6 : Int); out: ('ret',) (x2 : Int); ('exit', 0) 
def L_f35_0 : VS → Option (Bool × List (Bool × Exit × VS)) := mkL sh_f35_0 (fun x y => (decide (0 ≤ x.2.2.1 ∧ x.2.2.1 ≤ 23))) (fun x y => [(((findZ x.2.1 x.1 x.2.2.1.toNat).isSome), .ret, st_f35_0_ret ((((findZ x.2.1 x.1 x.2.2.1.toNat).getD 0 : Nat) : Int))), (true, .exit 0, st_f35_0_e0)])
def g_f35 : G := ⟨TYs, [], 20, EL [(44, sp_f44), (1001314, sp_op_index_82)], keeps, (Ls [L_f35_0]), IL [], RL []⟩
def b_f35_0 (x0 : ByteArray) (x5 : (Row × (Row × (Row × (Row × (Row × (Row × (Row × (Row × (Row × (Row × (Row × (Row × (Row × (Row × (Row × (Row × (Row × (Row × (Row × (Row × (Row × (Row × (Row × Unit)))))))))))))))))))))))) (x6 : Int) : Option (Exit × VS) :=
  br ((ilt x6 23))
    (br ((arrOk tyRow 23 x5 x6))
      (br ((igt x6 0))
        (br ((seq ((arrGetI tyRow 23 x5 x6).1) x0))
          (some (.ret, st_f35_0_ret x6))
          (some (.normal, st_f35_0 x0 x5 (iadd .i64 x6 1))))
        (some (.normal, st_f35_0 x0 x5 (iadd .i64 x6 1))))
      (none))
    (some (.exit 0, st_f35_0_e0))
noncomputable def lp_f35_0 (x0 : ByteArray) (x5 : (Row × (Row × (Row × (Row × (Row × (Row × (Row × (Row × (Row × (Row × (Row × (Row × (Row × (Row × (Row × (Row × (Row × (Row × (Row × (Row × (Row × (Row × (Row × Unit)))))))))))))))))))))))) (x6 : Int) : Option (Exit × VS) := loopF (roundF g_f35 fg_f35_0 tb_f35_0) (st_f35_0 x0 x5 x6)
noncomputable def n_f35_0 (x0 : ByteArray) (x5 : (Row × (Row × (Row × (Row × (Row × (Row × (Row × (Row × (Row × (Row × (Row × (Row × (Row × (Row × (Row × (Row × (Row × (Row × (Row × (Row × (Row × (Row × (Row × Unit)))))))))))))))))))))))) (x6 : Int) : Option (Exit × VS) :=
  br ((ilt x6 23))
    (br ((arrOk tyRow 23 x5 x6))
      (br ((igt x6 0))
        (br ((seq ((arrGetI tyRow 23 x5 x6).1) x0))
          (some (.ret, st_f35_0_ret x6))
          (lp_f35_0 x0 x5 (iadd .i64 x6 1)))
        (lp_f35_0 x0 x5 (iadd .i64 x6 1)))
      (none))
    (some (.exit 0, st_f35_0_e0))
def la_f35_0 (x0 : ByteArray) (x5 : (Row × (Row × (Row × (Row × (Row × (Row × (Row × (Row × (Row × (Row × (Row × (Row × (Row × (Row × (Row × (Row × (Row × (Row × (Row × (Row × (Row × (Row × (Row × Unit)))))))))))))))))))))))) (x6 : Int) : Option (Exit × VS) := br ((findZ x5 x0 x6.toNat).isSome) (some (.ret, st_f35_0_ret ((((findZ x5 x0 x6.toNat).getD 0 : Nat) : Int)))) <| some (.exit 0, st_f35_0_e0)
theorem be_f35_0 (x0 : ByteArray) (x5 : (Row × (Row × (Row × (Row × (Row × (Row × (Row × (Row × (Row × (Row × (Row × (Row × (Row × (Row × (Row × (Row × (Row × (Row × (Row × (Row × (Row × (Row × (Row × Unit)))))))))))))))))))))))) (x6 : Int) : roundF g_f35 fg_f35_0 tb_f35_0 (st_f35_0 x0 x5 x6) = b_f35_0 x0 x5 x6 := by kernel_rfl
theorem ln_f35_0 (x0 : ByteArray) (x5 : (Row × (Row × (Row × (Row × (Row × (Row × (Row × (Row × (Row × (Row × (Row × (Row × (Row × (Row × (Row × (Row × (Row × (Row × (Row × (Row × (Row × (Row × (Row × Unit)))))))))))))))))))))))) (x6 : Int) : lp_f35_0 x0 x5 x6 = n_f35_0 x0 x5 x6 := (loopF_nxt _ _).trans (by
  rw [be_f35_0]
  simp only [b_f35_0, n_f35_0, nxt_br, nxt_n, nxt_r, nxt_e, nxt_0]
  rfl)
def r_f35 (p0 : ByteArray) : Option (V × List VO) :=
  br ((decide (0 ≤ (0 : Int) ∧ (0 : Int) ≤ 23)))
    (br (((findZ rowsG p0 (0 : Int).toNat).isSome))
      (some (.t tI ((((findZ rowsG p0 (0 : Int).toNat).getD 0 : Nat) : Int)), []))
      (some (.t tI 0, [])))
    (none)
theorem e_f35 (p0 : ByteArray) : runF g_f35 tc_f35 rv_f35 false [.t .str p0] [] = r_f35 p0 := by kernel_rfl
theorem ok_f35 : Option.map (trC Try.prog) Try.f35.body = some tc_f35.er := by kernel_rfl
theorem rok_f35 : trVs Try.prog Try.f35.results.toList = some (rv_f35.map Prod.fst) := by kernel_rfl
theorem en_f35 : Entered Try.prog 35 := .inr ⟨by decide, _, Try.func35, by kernel_rfl, by kernel_rfl⟩
theorem gk_f35 : GOk Try.prog g_f35 := gok_of _ (by
  intro p hp
  simp only [List.mem_cons, List.not_mem_nil, or_false] at hp
  rcases hp with rfl | rfl
  · exact ⟨en_f44, ms_f44⟩
  · exact ⟨en_op_index_82, ms_op_index_82⟩)
theorem l_f35_0 (x0 : ByteArray) (x5 : (Row × (Row × (Row × (Row × (Row × (Row × (Row × (Row × (Row × (Row × (Row × (Row × (Row × (Row × (Row × (Row × (Row × (Row × (Row × (Row × (Row × (Row × (Row × Unit)))))))))))))))))))))))) (x6 : Int) (h : (decide (0 ≤ x6 ∧ x6 ≤ 23)) = true) : lp_f35_0 x0 x5 x6 = la_f35_0 x0 x5 x6 := by
  simp only [decide_eq_true_eq] at h
  obtain ⟨h1, h2⟩ := h
  obtain ⟨k, rfl⟩ := Int.eq_ofNat_of_zero_le h1
  refine up_ind 23 (fun k => lp_f35_0 x0 x5 (k : Int) = la_f35_0 x0 x5 (k : Int)) ?_ ?_ k (by omega)
  · rw [ln_f35_0]
    rfl
  · intro k hk ih
    rw [ln_f35_0]
    have e1 : ilt (k : Int) 23 = true := by simp only [ilt, decide_eq_true_eq]; omega
    have e2 : arrOk tyRow 23 x5 (k : Int) = true := by simp only [arrOk, decide_eq_true_eq]; omega
    have e3 : findZ x5 x0 k = if (decide (0 < k) && seq (nmT x5 k) x0) = true then some k else findZ x5 x0 (k + 1) := by
      have : 23 - k = (23 - (k + 1)) + 1 := by omega
      unfold findZ
      rw [this, List.range'_succ, List.find?_cons]
      cases decide (0 < k) && seq (nmT x5 k) x0 <;> rfl
    simp only [n_f35_0, e1, e2, br_true, add1 (show k < 4611686018427387904 by omega), ih, show (arrGetI tyRow 23 x5 (k : Int)).1 = nmT x5 k from rfl, show igt (k : Int) 0 = decide (0 < k) from by simp only [igt]; congr 1; simp]
    simp only [la_f35_0, Int.toNat_natCast, e3]
    cases decide (0 < k) with
    | false => simp only [br_false, Bool.false_and, Bool.false_eq_true, if_false]
    | true =>
      simp only [br_true, Bool.true_and]
      cases seq (nmT x5 k) x0 with
      | false => simp only [br_false, Bool.false_eq_true, if_false]
      | true => simp only [br_true, if_true, Option.isSome_some, Option.getD_some]
theorem lo_f35_0 : ∀ S l p, g_f35.L 0 (fgt fg_f35_0 S) = some (true, l) → pickA l = some p → loopF (roundF g_f35 fg_f35_0 tb_f35_0) S = some p :=
  lok_of (s := sh_f35_0) ⟨by decide, by decide⟩ (by kernel_rfl) fun x y hok p hp => by
  simp only [pickA_br, pickA_one] at hp
  exact (l_f35_0 x.1 x.2.1 x.2.2.1 (by simpa using hok)).trans hp
theorem lk_f35 : tc_f35.lok g_f35 := by
  repeat (first | exact trivial | exact lo_f35_0 | refine ⟨?_, ?_⟩)
theorem s_f35 (s : ByteArray) : r_f35 s = some (.t tI (findG s), []) := by
  simp only [r_f35]
  rw [show decide ((0 : Int) ≤ 0 ∧ (0 : Int) ≤ 23) = true from rfl, br_true]
  unfold findG
  rw [Int.toNat_zero]
  cases findZ rowsG s 0 <;> rfl
def sp_f35 : Ent := spec (.pr .str .nil) (fun x => true) (fun x => (.t tI (findG x.1)))
theorem ms_f35 : Meets Try.prog 35 (strip sp_f35) := by
  obtain ⟨c, hc, hi⟩ := Option.map_eq_some_iff.1 ok_f35
  exact meets_spec (R := runF g_f35 tc_f35 rv_f35 false) (meets_of (by decide) Try.func35 hc hi Try.ntmps35 rok_f35 gk_f35 lk_f35 mixed) fun x _ => (e_f35 x.1).trans (s_f35 x.1)
/-! words out of dice -/
end
end Go.Proofs.Ytdbaaejiolibfaa.K
