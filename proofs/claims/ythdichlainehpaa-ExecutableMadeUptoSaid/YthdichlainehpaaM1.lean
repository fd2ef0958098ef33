/-
  Dice: what they are made of, what they give.
-/
import Derived.Test.YthdichlainehpaaV0
import Derived.KernelRfl
import Derived.IntWalk
set_option linter.unusedSimpArgs false
set_option linter.unusedVariables false
namespace Go.Proofs.Ythdichlainehpaa.K
open Go.RowKit

/-! words for all texts -/
theorem lgt_get {y : Ty} {l : List y.T} {j : Nat} (h : j < l.length) : lgt y l j = l[j] := by
  unfold lgt
  rw [List.getD_eq_getElem?_getD, List.getElem?_eq_getElem h]
  rfl
theorem add1 {k : Nat} (h : k < 4611686018427387904) : iadd .i64 (k : Int) 1 = ((k + 1 : Nat) : Int) := by
  unfold iadd
  rw [Go.IntWalk.i64_in _ (by omega)]
  rfl
theorem iadd_in {a b : Int} (h : -9223372036854775808 ≤ a + b ∧ a + b ≤ 9223372036854775807) : iadd .i64 a b = a + b := Go.IntWalk.i64_in _ h
theorem isub_in {a b : Int} (h : -9223372036854775808 ≤ a - b ∧ a - b ≤ 9223372036854775807) : isub .i64 a b = a - b := Go.IntWalk.i64_in _ h
theorem imul_in {a b : Int} (h : -9223372036854775808 ≤ a * b ∧ a * b ≤ 9223372036854775807) : imul .i64 a b = a * b := Go.IntWalk.i64_in _ h
theorem cIx_nat {α : Type} {l : List α} {k : Nat} : cIx l (k : Int) = decide (k < l.length) := by
  unfold cIx
  congr 1
  exact propext ⟨fun h => by omega, fun h => by omega⟩
theorem ilt_nat {a b : Nat} : ilt (a : Int) (b : Int) = decide (a < b) := by
  unfold ilt
  congr 1
  exact propext ⟨fun h => by omega, fun h => by omega⟩
theorem beq_list {α : Type} [BEq α] (a b : α) (l m : List α) : (a :: l == b :: m) = (a == b && l == m) := rfl
theorem dec_true {p : Prop} [Decidable p] (h : p) : decide p = true := by simp [h]
theorem dec_false {p : Prop} [Decidable p] (h : ¬ p) : decide p = false := by simp [h]

theorem range_ind {α : Type} (l : List α) (P : Nat → Prop) (h0 : P l.length) (hs : ∀ k, k < l.length → P (k + 1) → P k) : ∀ k, k ≤ l.length → P k := by
  intro k hk
  induction hn : l.length - k generalizing k with
  | zero =>
    have : k = l.length := by omega
    subst this
    exact h0
  | succ n ih => exact hs k (by omega) (ih (k + 1) (by omega) (by omega))
/-- down from a number of rounds -/
theorem up_ind (N : Nat) (P : Nat → Prop) (h0 : P N) (hs : ∀ k, k < N → P (k + 1) → P k) : ∀ k, k ≤ N → P k := by
  intro k hk
  induction hn : N - k generalizing k with
  | zero =>
    have : k = N := by omega
    subst this
    exact h0
  | succ n ih => exact hs k (by omega) (ih (k + 1) (by omega) (by omega))

/-- an index into a list, and its length -/
def idxOk {α : Type} (l : List α) (i : Int) : Bool := decide (0 ≤ i ∧ i ≤ l.length ∧ l.length ≤ 100000)
def rngOk {α : Type} (l : List α) (n i : Int) : Bool := decide (n = l.length ∧ 0 ≤ i ∧ i ≤ n ∧ l.length ≤ 100000)
theorem rng_k {α : Type} {l : List α} {n i : Int} (h : rngOk l n i = true) : n = l.length ∧ l.length ≤ 100000 ∧ ∃ k : Nat, i = k ∧ k ≤ l.length := by
  simp only [rngOk, decide_eq_true_eq] at h
  obtain ⟨h1, h2, h3, h4⟩ := h
  exact ⟨h1, h4, i.toNat, by omega, by omega⟩
theorem rng_0 {α : Type} {l : List α} (h : l.length ≤ 100000) : rngOk l (llen l) 0 = true := by
  simp only [rngOk, decide_eq_true_eq, llen]
  exact ⟨trivial, by omega, by omega, h⟩
theorem drop_ne {α : Type} [BEq α] {a b : List α} {k : Nat} (h1 : k < a.length) (h2 : k < b.length) : (!(a.drop k == b.drop k)) = (!(a[k] == b[k]) || !(a.drop (k + 1) == b.drop (k + 1))) := by
  rw [List.drop_eq_getElem_cons h1, List.drop_eq_getElem_cons h2]
  show (!(a[k] == b[k] && _)) = _
  rw [Bool.not_and]
  rfl
theorem ige_nat {a b : Nat} : ige (a : Int) (b : Int) = decide (b ≤ a) := by
  unfold ige
  congr 1
  exact propext ⟨fun h => by omega, fun h => by omega⟩
theorem igt_nat {a b : Nat} : igt (a : Int) (b : Int) = decide (b < a) := by
  unfold igt
  congr 1
  exact propext ⟨fun h => by omega, fun h => by omega⟩
theorem ieq_nat {a b : Nat} : ieq (a : Int) (b : Int) = decide (a = b) := by
  unfold ieq
  rw [Bool.beq_eq_decide_eq]
  congr 1
  exact propext ⟨fun h => by omega, fun h => by omega⟩
theorem cApp_ok {α : Type} {l l2 : List α} {b : Nat} (h : l.length + l2.length ≤ 1000000) (hb : b ≤ 1000) : cApp l l2 b = true := by
  unfold cApp
  rw [decide_eq_true_eq]
  calc (l.length + l2.length) * (b + 1) ≤ 1000000 * 1001 := Nat.mul_le_mul h (by omega)
    _ ≤ 140737488355328 := by decide

/-- tests one behind the other -/
theorem br_and {c x : Bool} {l : List VO} : br c (some (V.t .bool x, l)) (some (V.t .bool false, l)) = some (V.t .bool (c && x), l) := by cases c <;> rfl
theorem br_or {c x : Bool} {l : List VO} : br c (some (V.t .bool true, l)) (some (V.t .bool x, l)) = some (V.t .bool (c || x), l) := by cases c <;> rfl
theorem some_b {x y : Bool} {l : List VO} (h : x = y) : some (V.t .bool x, l) = some (V.t .bool y, l) := by rw [h]
theorem ine_dec {a b : Int} : ine a b = decide (a ≠ b) := by
  unfold ine
  simp [bne, Bool.beq_eq_decide_eq]
theorem ieq_dec {a b : Int} : ieq a b = decide (a = b) := by
  unfold ieq
  rw [Bool.beq_eq_decide_eq]

/-! Light, Mod -/
def light (l : List Int) : Bool := decide (l.length ≤ 400)
/-- cipherplan/cipherplanmake.Light -/
def tc_f8 : TC := (.sq (.reg [(oP 2 (.mv (cB false)))]) (.sq (.reg [(oV 3 0), (oP 4 (.len false (.t 3))), (oP 5 (.bin false .leq (.t 4) (cI 400))), (oV 2 5)]) .rt))
def rv_f8 : List (RV × Option Ty) := [((.t 2), some .bool)]
def g_f8 : G := ⟨TYs, [], 6, EL [], keeps, (fun _ _ => none), IL [], RL []⟩
def r_f8 (p0 : (List Int)) : Option (V × List VO) :=
  some (.t .bool (ile (llen p0) 400), [])
theorem e_f8 (p0 : (List Int)) : runF g_f8 tc_f8 rv_f8 false [.t (.sl tI) p0] [] = r_f8 p0 := by kernel_rfl
theorem ok_f8 : Option.map (trC Try.prog) Try.f8.body = some tc_f8.er := by kernel_rfl
theorem rok_f8 : trVs Try.prog Try.f8.results.toList = some (rv_f8.map Prod.fst) := by kernel_rfl
theorem en_f8 : Entered Try.prog 8 := .inr ⟨by decide, _, Try.func8, by kernel_rfl, by kernel_rfl⟩
theorem gk_f8 : GOk Try.prog g_f8 := gok_of _ (fun p hp => by cases hp)
theorem lk_f8 : tc_f8.lok g_f8 := by repeat (first | exact trivial | refine ⟨?_, ?_⟩)
theorem s_f8 (l : List Int) : r_f8 l = some (.t .bool (light l), []) := by
  simp only [r_f8, light]
  congr 3
  unfold ile llen
  congr 1
  exact propext ⟨fun h => by omega, fun h => by omega⟩
def sp_f8 : Ent := spec (.pr (.sl tI) .nil) (fun x => true) (fun x => (.t .bool (light x.1)))
theorem ms_f8 : Meets Try.prog 8 (strip sp_f8) := by
  obtain ⟨c, hc, hi⟩ := Option.map_eq_some_iff.1 ok_f8
  exact meets_spec (R := runF g_f8 tc_f8 rv_f8 false) (meets_of (by decide) Try.func8 hc hi Try.ntmps8 rok_f8 gk_f8 lk_f8 mixed) fun x _ => (e_f8 x.1).trans (s_f8 x.1)
def dmod (n k : Int) : Int := if k < 1 then 0 else n % k
def dmodOk (_n k : Int) : Bool := decide (k < 4611686018427387904)
/-- cipherplan/cipherplanmake.Mod -/
def tc_f18 : TC := (.sq (.reg [(oP 4 (.mv (cI 0)))]) (.sq (.sq (.reg [(oV 5 1), (oP 6 (.bin false .lss (.t 5) (cI 1)))]) (.cd (.t 6) (.sq (.reg [(oP 4 (.mv (cI 0)))]) .rt) .sk)) (.sq (.reg [(oV 7 0), (oV 8 1), (oP 9 (.bin false .rem (.t 7) (.t 8))), (oV 10 1), (oP 11 (.bin false .add (.t 9) (.t 10))), (oV 12 1), (oP 13 (.bin false .rem (.t 11) (.t 12))), (oV 4 13)]) .rt)))
def rv_f18 : List (RV × Option Ty) := [((.t 4), some tI)]
def g_f18 : G := ⟨TYs, [], 14, EL [], keeps, (fun _ _ => none), IL [], RL []⟩
def r_f18 (p0 : Int) (p1 : Int) : Option (V × List VO) :=
  br ((ilt p1 1))
    (some (.t tI 0, []))
    (br (cNz p1)
      (br (cNz p1)
        (some (.t tI (irem (iadd .i64 (irem p0 p1) p1) p1), []))
        (none))
      (none))
theorem e_f18 (p0 : Int) (p1 : Int) : runF g_f18 tc_f18 rv_f18 false [.t tI p0, .t tI p1] [] = r_f18 p0 p1 := by kernel_rfl
theorem ok_f18 : Option.map (trC Try.prog) Try.f18.body = some tc_f18.er := by kernel_rfl
theorem rok_f18 : trVs Try.prog Try.f18.results.toList = some (rv_f18.map Prod.fst) := by kernel_rfl
theorem en_f18 : Entered Try.prog 18 := .inr ⟨by decide, _, Try.func18, by kernel_rfl, by kernel_rfl⟩
theorem gk_f18 : GOk Try.prog g_f18 := gok_of _ (fun p hp => by cases hp)
theorem lk_f18 : tc_f18.lok g_f18 := by repeat (first | exact trivial | refine ⟨?_, ?_⟩)
theorem s_f18 (n k : Int) (h : dmodOk n k = true) : r_f18 n k = some (.t tI (dmod n k), []) := by
  simp only [dmodOk, decide_eq_true_eq] at h
  simp only [r_f18]
  refine br_intro (fun h1 => ?_) (fun h1 => ?_)
  · have h1 : k < 1 := by simpa [ilt] using h1
    simp [dmod, h1]
  · have h1 : ¬ k < 1 := by simpa [ilt] using h1
    have hk : cNz k = true := by simp [cNz]; omega
    simp only [hk, br_true]
    have h3 : -k < n.tmod k := by
      have := Int.lt_tmod_of_pos n (show 0 < k by omega)
      exact this
    have h4 : n.tmod k < k := Int.tmod_lt_of_pos n (by omega)
    have e1 : iadd .i64 (irem n k) k = n.tmod k + k := iadd_in (by unfold irem; omega)
    rw [e1]
    have e2 : irem (n.tmod k + k) k = n % k := by
      unfold irem
      rw [Int.tmod_eq_emod_of_nonneg (by omega), Int.add_emod_right, Int.tmod_def]
      exact Int.sub_mul_emod_self_left n k _
    rw [e2]
    simp [dmod, h1]
def sp_f18 : Ent := spec (.pr tI (.pr tI .nil)) (fun x => (dmodOk x.1 x.2.1)) (fun x => (.t tI (dmod x.1 x.2.1)))
theorem ms_f18 : Meets Try.prog 18 (strip sp_f18) := by
  obtain ⟨c, hc, hi⟩ := Option.map_eq_some_iff.1 ok_f18
  exact meets_spec (R := runF g_f18 tc_f18 rv_f18 false) (meets_of (by decide) Try.func18 hc hi Try.ntmps18 rok_f18 gk_f18 lk_f18 mixed) fun x hok => (e_f18 x.1 x.2.1).trans (s_f18 x.1 x.2.1 hok)

/-! Roll, Next, One, Of -/
def roll (l : List Int) : Dice := (l, 0, ())
/-- cipherplan/cipherplanmake.Roll -/
def tc_f10 : TC := (.sq (.reg [(oP 2 (.mv (.c (.v (.pointer none)))))]) (.sq (.reg [(oV 3 0), (oP 4 (.bd [(.v (.slice none 0 0)), (.v (.int .i64 0))] [(0, 1, (.t 3))])), (oM 5 (.box (.t 4))), (oV 2 5)]) .rt))
def rv_f10 : List (RV × Option Ty) := [((.t 2), none)]
def g_f10 : G := ⟨TYs, [], 6, EL [], keeps, (fun _ _ => none), IL [], RL []⟩
def r_f10 (p0 : (List Int)) : Option (V × List VO) :=
  some (.ptr 50000 0, [.box (.ag [(.t (.sl tI) p0), (.t tI 0)])])
theorem e_f10 (p0 : (List Int)) : runF g_f10 tc_f10 rv_f10 false [.t (.sl tI) p0] [] = r_f10 p0 := by kernel_rfl
theorem ok_f10 : Option.map (trC Try.prog) Try.f10.body = some tc_f10.er := by kernel_rfl
theorem rok_f10 : trVs Try.prog Try.f10.results.toList = some (rv_f10.map Prod.fst) := by kernel_rfl
theorem en_f10 : Entered Try.prog 10 := .inr ⟨by decide, _, Try.func10, by kernel_rfl, by kernel_rfl⟩
theorem gk_f10 : GOk Try.prog g_f10 := gok_of _ (fun p hp => by cases hp)
theorem lk_f10 : tc_f10.lok g_f10 := by repeat (first | exact trivial | refine ⟨?_, ?_⟩)
theorem s_f10 (l : List Int) : ∃ c, r_f10 l = some (.ptr 50000 0, [.box c]) ∧ c.as tyDice = some (roll l) := ⟨_, rfl, rfl⟩
def sp_f10 : Ent := specN tyDice (.pr (.sl tI) .nil) (fun x => true) (fun x => (roll x.1))
theorem ms_f10 : Meets Try.prog 10 (strip sp_f10) := by
  obtain ⟨c, hc, hi⟩ := Option.map_eq_some_iff.1 ok_f10
  exact meets_specN (R := runF g_f10 tc_f10 rv_f10 false) (meets_of (by decide) Try.func10 hc hi Try.ntmps10 rok_f10 gk_f10 lk_f10 mixed) rfl fun x _ => (s_f10 x.1).imp fun c h => ⟨(e_f10 x.1).trans h.1, h.2⟩
def dval (d : Dice) (n : Int) : Int := if d.2.1 ≥ d.1.length then 0 else dmod (d.1.getD d.2.1.toNat 0) n
def dnext (d : Dice) (_n : Int) : Dice := if d.2.1 ≥ d.1.length then d else (d.1, d.2.1 + 1, ())
def dOk (d : Dice) : Bool := decide (0 ≤ d.2.1 ∧ d.1.length ≤ 400)
def nextOk (d : Dice) (n : Int) : Bool := dOk d && decide (n < 4611686018427387904)
def dr_f36_0 : List DO := [(.mk (oV 5 0) []), (.mk (oP 6 (.nc (.t 5))) [0]), (.mk (oP 7 (.fa 1 (.t 6))) [1]), (.mk (oL 8 7) [2]), (.mk (oV 9 0) []), (.mk (oP 10 (.nc (.t 9))) [4]), (.mk (oP 11 (.fa 0 (.t 10))) [5]), (.mk (oL 12 11) [6]), (.mk (oP 13 (.len false (.t 12))) [7]), (.mk (oP 14 (.bin false .geq (.t 8) (.t 13))) [3, 8])]
def dr_f36_1 : List DO := [(.mk (oV 22 0) []), (.mk (oP 23 (.nc (.t 22))) [0]), (.mk (oP 24 (.fa 0 (.t 23))) [1]), (.mk (oL 25 24) [2]), (.mk (oV 26 0) []), (.mk (oP 27 (.nc (.t 26))) [4]), (.mk (oP 28 (.fa 1 (.t 27))) [5]), (.mk (oL 29 28) [6]), (.mk (oP 30 (.bin false .sub (.t 29) (cI 1))) [7]), (.mk (oP 31 (.ix 1 (.t 25) (.t 30))) [3, 8]), (.mk (oL 32 31) [9]), (.mk (oV 33 1) []), (.mk (oC 34 18 [(.t 32), (.t 33)]) [10, 11]), (.mk (oV 4 34) [12, 12, 0, 1, 2, 3, 4, 5, 6, 7, 8, 9, 10, 11, 12])]
/-- (*cipherplan/cipherplanmake.Dice).Next -/
def tc_f36 : TC := (.sq (.reg [(oP 4 (.mv (cI 0)))]) (.sq (.sq (.dr dr_f36_0 [(0, [50000]), (1, [50000]), (2, [50000]), (3, [50000]), (4, [50000]), (5, [50000]), (6, [50000]), (7, [50000]), (8, []), (9, [])] (.of [0, 1, 2, 3, 4, 5, 6, 7, 8, 9])) (.cd (.t 14) (.sq (.reg [(oP 4 (.mv (cI 0)))]) .rt) .sk)) (.sq (.reg [(oV 15 0), (oP 16 (.nc (.t 15))), (oP 17 (.fa 1 (.t 16))), (oL 18 17), (oP 19 (.bin false .add (.t 18) (cI 1))), (oP 20 (.nc (.t 15))), (oP 21 (.fa 1 (.t 20))), (.mk none none (.m (.st 1 (.t 21) (.t 19))))]) (.sq (.dr dr_f36_1 [(0, [50000]), (1, [50000]), (2, [50000]), (3, [50000]), (4, [50000]), (5, [50000]), (6, [50000]), (7, [50000]), (8, []), (9, []), (10, []), (11, []), (12, []), (13, [])] (.of [0, 1, 2, 3, 4, 5, 6, 7, 8, 9, 10, 11, 12, 13])) .rt))))
def rv_f36 : List (RV × Option Ty) := [((.t 4), some tI)]
def g_f36 : G := ⟨TYs, [], 35, EL [(18, sp_f18)], keeps, (fun _ _ => none), IL [], RL []⟩
def r_f36 (d0 : Dice) (p1 : Int) : Option (V × List VO) :=
  br ((ige d0.2.1 (llen d0.1)))
    (some (.t tI 0, [.box (.t tyDice d0)]))
    (br (cIx d0.1 (isub .i64 (iadd .i64 d0.2.1 1) 1))
      (br ((dmodOk (lgt tI d0.1 (Int.toNat (isub .i64 (iadd .i64 d0.2.1 1) 1))) p1))
        (some (.t tI (dmod (lgt tI d0.1 (Int.toNat (isub .i64 (iadd .i64 d0.2.1 1) 1))) p1), [.box (.t tyDice (d0.1, ((iadd .i64 d0.2.1 1), d0.2.2)))]))
        (none))
      (none))
theorem e_f36 (d0 : Dice) (p1 : Int) : runF g_f36 tc_f36 rv_f36 false [.ptr 50000 0, .t tI p1] [.box (.t tyDice d0)] = r_f36 d0 p1 := by kernel_rfl
theorem ok_f36 : Option.map (trC Try.prog) Try.f36.body = some tc_f36.er := by kernel_rfl
theorem rok_f36 : trVs Try.prog Try.f36.results.toList = some (rv_f36.map Prod.fst) := by kernel_rfl
theorem en_f36 : Entered Try.prog 36 := .inr ⟨by decide, _, Try.func36, by kernel_rfl, by kernel_rfl⟩
theorem gk_f36 : GOk Try.prog g_f36 := gok_of _ (by
  intro p hp
  simp only [List.mem_cons, List.not_mem_nil, or_false] at hp
  rcases hp with rfl
  · exact ⟨en_f18, ms_f18⟩)
theorem lk_f36 : tc_f36.lok g_f36 := by repeat (first | exact trivial | refine ⟨?_, ?_⟩)
theorem s_f36 (d : Dice) (n : Int) (h : nextOk d n = true) : r_f36 d n = some (.t tI (dval d n), [.box (.t tyDice (dnext d n))]) := by
  simp only [nextOk, dOk, Bool.and_eq_true, decide_eq_true_eq] at h
  obtain ⟨⟨h1, h2⟩, h3⟩ := h
  obtain ⟨l, at_, _⟩ := d
  simp only at h1 h2
  obtain ⟨k, rfl⟩ : ∃ k : Nat, at_ = k := ⟨at_.toNat, by omega⟩
  simp only [r_f36]
  refine br_intro (fun h4 => ?_) (fun h4 => ?_)
  · have h4 : l.length ≤ k := by simp [ige, llen] at h4; omega
    have h5 : (k : Int) ≥ l.length := by omega
    simp [dval, dnext, h5]
  · have h4 : k < l.length := by simp [ige, llen] at h4; omega
    have h5 : ¬ (k : Int) ≥ l.length := by omega
    have e1 : iadd .i64 (k : Int) 1 = ((k + 1 : Nat) : Int) := add1 (by omega)
    have e2 : isub .i64 ((k + 1 : Nat) : Int) 1 = (k : Int) := by rw [isub_in (by omega)]; omega
    rw [e1, e2, cIx_nat, dec_true h4, br_true]
    have e3 : dmodOk (lgt tI l (Int.toNat (k : Int))) n = true := by simp [dmodOk, h3]
    rw [e3, br_true]
    simp only [dval, dnext, h5, if_false]
    rfl
def sp_f36 : Ent := specP tyDice (.pr tI .nil) (fun d x => (nextOk d x.1)) (fun d x => (.t tI (dval d x.1))) (fun d x => (dnext d x.1))
theorem ms_f36 : Meets Try.prog 36 (strip sp_f36) := by
  obtain ⟨c, hc, hi⟩ := Option.map_eq_some_iff.1 ok_f36
  exact meets_specP (R := runF g_f36 tc_f36 rv_f36 false) (meets_of (by decide) Try.func36 hc hi Try.ntmps36 rok_f36 gk_f36 lk_f36 mixed) rfl fun d x hok => (e_f36 d x.1).trans (s_f36 d x.1 hok)
def done (d : Dice) (n : Int) : Bool := dval d n == n - 1
def oneOk (d : Dice) (n : Int) : Bool := nextOk d n && decide (0 ≤ n)
/-- (*cipherplan/cipherplanmake.Dice).One -/
def tc_f62 : TC := (.sq (.reg [(oP 4 (.mv (cB false)))]) (.sq (.reg [(oV 5 0), (oV 6 1), (oC 7 36 [(.t 5), (.t 6)]), (oV 8 1), (oP 9 (.bin false .sub (.t 8) (cI 1))), (oP 10 (.bin false .eql (.t 7) (.t 9))), (oV 4 10)]) .rt))
def rv_f62 : List (RV × Option Ty) := [((.t 4), some .bool)]
def g_f62 : G := ⟨TYs, [], 11, EL [(36, sp_f36)], keeps, (fun _ _ => none), IL [], RL []⟩
def r_f62 (d0 : Dice) (p1 : Int) : Option (V × List VO) :=
  br ((nextOk d0 p1))
    (some (.t .bool (ieq (dval d0 p1) (isub .i64 p1 1)), [.box (.t tyDice (dnext d0 p1))]))
    (none)
theorem e_f62 (d0 : Dice) (p1 : Int) : runF g_f62 tc_f62 rv_f62 false [.ptr 50000 0, .t tI p1] [.box (.t tyDice d0)] = r_f62 d0 p1 := by kernel_rfl
theorem ok_f62 : Option.map (trC Try.prog) Try.f62.body = some tc_f62.er := by kernel_rfl
theorem rok_f62 : trVs Try.prog Try.f62.results.toList = some (rv_f62.map Prod.fst) := by kernel_rfl
theorem en_f62 : Entered Try.prog 62 := .inr ⟨by decide, _, Try.func62, by kernel_rfl, by kernel_rfl⟩
theorem gk_f62 : GOk Try.prog g_f62 := gok_of _ (by
  intro p hp
  simp only [List.mem_cons, List.not_mem_nil, or_false] at hp
  rcases hp with rfl
  · exact ⟨en_f36, ms_f36⟩)
theorem lk_f62 : tc_f62.lok g_f62 := by repeat (first | exact trivial | refine ⟨?_, ?_⟩)
theorem s_f62 (d : Dice) (n : Int) (h : oneOk d n = true) : r_f62 d n = some (.t .bool (done d n), [.box (.t tyDice (dnext d n))]) := by
  simp only [oneOk, Bool.and_eq_true, decide_eq_true_eq] at h
  simp only [r_f62]
  rw [h.1, br_true]
  have h2 := h.1
  simp only [nextOk, Bool.and_eq_true, decide_eq_true_eq] at h2
  rw [isub_in (by omega)]
  rfl
def sp_f62 : Ent := specP tyDice (.pr tI .nil) (fun d x => (oneOk d x.1)) (fun d x => (.t .bool (done d x.1))) (fun d x => (dnext d x.1))
theorem ms_f62 : Meets Try.prog 62 (strip sp_f62) := by
  obtain ⟨c, hc, hi⟩ := Option.map_eq_some_iff.1 ok_f62
  exact meets_specP (R := runF g_f62 tc_f62 rv_f62 false) (meets_of (by decide) Try.func62 hc hi Try.ntmps62 rok_f62 gk_f62 lk_f62 mixed) rfl fun d x hok => (e_f62 d x.1).trans (s_f62 d x.1 hok)
def dof (d : Dice) (l : List Int) : Int := l.getD (dval d l.length).toNat 0
def dofN (d : Dice) (l : List Int) : Dice := dnext d l.length
def ofOk (d : Dice) (l : List Int) : Bool := dOk d && decide (0 < l.length ∧ l.length < 4611686018427387904)
/-- (*cipherplan/cipherplanmake.Dice).Of -/
def tc_f37 : TC := (.sq (.reg [(oP 4 (.mv (cI 0)))]) (.sq (.reg [(oV 5 1), (oV 6 0), (oV 7 1), (oP 8 (.len false (.t 7))), (oC 9 36 [(.t 6), (.t 8)]), (oP 10 (.ix 1 (.t 5) (.t 9))), (oL 11 10), (oV 4 11)]) .rt))
def rv_f37 : List (RV × Option Ty) := [((.t 4), some tI)]
def g_f37 : G := ⟨TYs, [], 12, EL [(36, sp_f36)], keeps, (fun _ _ => none), IL [], RL []⟩
def r_f37 (d0 : Dice) (p1 : (List Int)) : Option (V × List VO) :=
  br ((nextOk d0 (llen p1)))
    (br (cIx p1 (dval d0 (llen p1)))
      (some (.t tI (lgt tI p1 (Int.toNat (dval d0 (llen p1)))), [.box (.t tyDice (dnext d0 (llen p1)))]))
      (none))
    (none)
theorem e_f37 (d0 : Dice) (p1 : (List Int)) : runF g_f37 tc_f37 rv_f37 false [.ptr 50000 0, .t (.sl tI) p1] [.box (.t tyDice d0)] = r_f37 d0 p1 := by kernel_rfl
theorem ok_f37 : Option.map (trC Try.prog) Try.f37.body = some tc_f37.er := by kernel_rfl
theorem rok_f37 : trVs Try.prog Try.f37.results.toList = some (rv_f37.map Prod.fst) := by kernel_rfl
theorem en_f37 : Entered Try.prog 37 := .inr ⟨by decide, _, Try.func37, by kernel_rfl, by kernel_rfl⟩
theorem gk_f37 : GOk Try.prog g_f37 := gok_of _ (by
  intro p hp
  simp only [List.mem_cons, List.not_mem_nil, or_false] at hp
  rcases hp with rfl
  · exact ⟨en_f36, ms_f36⟩)
theorem lk_f37 : tc_f37.lok g_f37 := by repeat (first | exact trivial | refine ⟨?_, ?_⟩)
theorem dval_lt {d : Dice} {n : Int} (h : 0 < n) : 0 ≤ dval d n ∧ dval d n < n := by
  unfold dval
  split
  · omega
  · unfold dmod
    rw [if_neg (by omega)]
    exact ⟨Int.emod_nonneg _ (by omega), Int.emod_lt_of_pos _ (by omega)⟩
theorem s_f37 (d : Dice) (l : List Int) (h : ofOk d l = true) : r_f37 d l = some (.t tI (dof d l), [.box (.t tyDice (dofN d l))]) := by
  simp only [ofOk, Bool.and_eq_true, decide_eq_true_eq] at h
  obtain ⟨h1, h2, h3⟩ := h
  simp only [r_f37]
  have e1 : nextOk d (llen l) = true := by simp only [nextOk, h1, llen, Bool.true_and, decide_eq_true_eq]; omega
  rw [e1, br_true]
  have h4 := dval_lt (d := d) (n := llen l) (by unfold llen; omega)
  have e2 : cIx l (dval d (llen l)) = true := by simp only [cIx, decide_eq_true_eq]; exact h4
  rw [e2, br_true]
  rfl
def sp_f37 : Ent := specP tyDice (.pr (.sl tI) .nil) (fun d x => (ofOk d x.1)) (fun d x => (.t tI (dof d x.1))) (fun d x => (dofN d x.1))
theorem ms_f37 : Meets Try.prog 37 (strip sp_f37) := by
  obtain ⟨c, hc, hi⟩ := Option.map_eq_some_iff.1 ok_f37
  exact meets_specP (R := runF g_f37 tc_f37 rv_f37 false) (meets_of (by decide) Try.func37 hc hi Try.ntmps37 rok_f37 gk_f37 lk_f37 mixed) rfl fun d x hok => (e_f37 d x.1).trans (s_f37 d x.1 hok)
theorem dOk_next {d : Dice} {n : Int} (h : dOk d = true) : dOk (dnext d n) = true := by
  simp only [dOk, decide_eq_true_eq] at h ⊢
  unfold dnext
  split
  · exact h
  · exact ⟨by simp only; omega, h.2⟩
theorem dOk_roll {l : List Int} (h : light l = true) : dOk (roll l) = true := by
  simp only [light, decide_eq_true_eq] at h
  simp [dOk, roll, h]
end Go.Proofs.Ythdichlainehpaa.K
