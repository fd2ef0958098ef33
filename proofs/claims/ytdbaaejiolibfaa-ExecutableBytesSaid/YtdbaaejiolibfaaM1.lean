/-
  Dice: what they are made of, what they give.
-/
import Derived.Test.YtdbaaejiolibfaaV0
import Derived.KernelRfl
import Derived.IntWalk
set_option linter.unusedSimpArgs false
set_option linter.unusedVariables false
namespace Go.Proofs.Ytdbaaejiolibfaa.K
open Go.RowKit

/-! words for all texts -/
theorem lgt_get {y : Ty} {l : List y.T} {j : Nat} (h : j < l.length) : lgt y l j = l[j] := by
  unfold lgt
  rw [List.getD_eq_getElem?_getD, List.getElem?_eq_getElem h]
  rfl
theorem add1 {k : Nat} (h : k < 4611686018427387904) : iadd .i64 (k : Int) 1 = ((k + 1 : Nat) : Int) := by
  unfold iadd
  rw [Go.IntWalk.i64_in _ (by omega)]
  rfl
theorem iadd_in {a b : Int} (h : -9223372036854775808 ≤ a + b ∧ a + b ≤ 9223372036854775807) : iadd .i64 a b = a + b := Go.IntWalk.i64_in _ h
theorem isub_in {a b : Int} (h : -9223372036854775808 ≤ a - b ∧ a - b ≤ 9223372036854775807) : isub .i64 a b = a - b := Go.IntWalk.i64_in _ h
theorem imul_in {a b : Int} (h : -9223372036854775808 ≤ a * b ∧ a * b ≤ 9223372036854775807) : imul .i64 a b = a * b := Go.IntWalk.i64_in _ h
theorem cIx_nat {α : Type} {l : List α} {k : Nat} : cIx l (k : Int) = decide (k < l.length) := by
  unfold cIx
  congr 1
  exact propext ⟨fun h => by omega, fun h => by omega⟩
theorem ilt_nat {a b : Nat} : ilt (a : Int) (b : Int) = decide (a < b) := by
  unfold ilt
  congr 1
  exact propext ⟨fun h => by omega, fun h => by omega⟩
theorem dec_true {p : Prop} [Decidable p] (h : p) : decide p = true := by simp [h]
theorem range_ind {α : Type} (l : List α) (P : Nat → Prop) (h0 : P l.length) (hs : ∀ k, k < l.length → P (k + 1) → P k) : ∀ k, k ≤ l.length → P k := by
  intro k hk
  induction hn : l.length - k generalizing k with
  | zero =>
    have : k = l.length := by omega
    subst this
    exact h0
  | succ n ih => exact hs k (by omega) (ih (k + 1) (by omega) (by omega))
/-- down from a number of rounds -/
theorem up_ind (N : Nat) (P : Nat → Prop) (h0 : P N) (hs : ∀ k, k < N → P (k + 1) → P k) : ∀ k, k ≤ N → P k := by
  intro k hk
  induction hn : N - k generalizing k with
  | zero =>
    have : k = N := by omega
    subst this
    exact h0
  | succ n ih => exact hs k (by omega) (ih (k + 1) (by omega) (by omega))

def rngOk {α : Type} (l : List α) (n i : Int) : Bool := decide (n = l.length ∧ 0 ≤ i ∧ i ≤ n ∧ l.length ≤ 100000)
theorem rng_k {α : Type} {l : List α} {n i : Int} (h : rngOk l n i = true) : n = l.length ∧ l.length ≤ 100000 ∧ ∃ k : Nat, i = k ∧ k ≤ l.length := by
  simp only [rngOk, decide_eq_true_eq] at h
  obtain ⟨h1, h2, h3, h4⟩ := h
  exact ⟨h1, h4, i.toNat, by omega, by omega⟩
theorem rng_0 {α : Type} {l : List α} (h : l.length ≤ 100000) : rngOk l (llen l) 0 = true := by
  simp only [rngOk, decide_eq_true_eq, llen]
  exact ⟨trivial, by omega, by omega, h⟩
theorem cApp_ok {α : Type} {l l2 : List α} {b : Nat} (h : l.length + l2.length ≤ 1000000) (hb : b ≤ 1000) : cApp l l2 b = true := by
  unfold cApp
  rw [decide_eq_true_eq]
  calc (l.length + l2.length) * (b + 1) ≤ 1000000 * 1001 := Nat.mul_le_mul h (by omega)
    _ ≤ 140737488355328 := by decide

theorem some_b {x y : Bool} {l : List VO} (h : x = y) : some (V.t .bool x, l) = some (V.t .bool y, l) := by rw [h]
theorem ine_dec {a b : Int} : ine a b = decide (a ≠ b) := by
  unfold ine
  simp [bne, Bool.beq_eq_decide_eq]
/-! Light, Mod -/
def light (l : List Int) : Bool := decide (l.length ≤ 400)
/-- cipherplan/cipherplanmake.Light -/
def tc_f4 : TC := (.sq (.reg [(oP 2 (.mv (cB false)))]) (.sq (.reg [(oV 3 0), (oP 4 (.len false (.t 3))), (oP 5 (.bin false .leq (.t 4) (cI 400))), (oV 2 5)]) .rt))
def rv_f4 : List (RV × Option Ty) := [((.t 2), some .bool)]
def g_f4 : G := ⟨TYs, [], 6, EL [], keeps, (fun _ _ => none), IL [], RL []⟩
def r_f4 (p0 : (List Int)) : Option (V × List VO) :=
  some (.t .bool (ile (llen p0) 400), [])
theorem e_f4 (p0 : (List Int)) : runF g_f4 tc_f4 rv_f4 false [.t (.sl tI) p0] [] = r_f4 p0 := by kernel_rfl
theorem ok_f4 : Option.map (trC Try.prog) Try.f4.body = some tc_f4.er := by kernel_rfl
theorem rok_f4 : trVs Try.prog Try.f4.results.toList = some (rv_f4.map Prod.fst) := by kernel_rfl
theorem en_f4 : Entered Try.prog 4 := .inr ⟨by decide, _, Try.func4, by kernel_rfl, by kernel_rfl⟩
theorem gk_f4 : GOk Try.prog g_f4 := gok_of _ (fun p hp => by cases hp)
theorem lk_f4 : tc_f4.lok g_f4 := by repeat (first | exact trivial | refine ⟨?_, ?_⟩)
theorem s_f4 (l : List Int) : r_f4 l = some (.t .bool (light l), []) := by
  simp only [r_f4, light]
  congr 3
  unfold ile llen
  congr 1
  exact propext ⟨fun h => by omega, fun h => by omega⟩
def sp_f4 : Ent := spec (.pr (.sl tI) .nil) (fun x => true) (fun x => (.t .bool (light x.1)))
theorem ms_f4 : Meets Try.prog 4 (strip sp_f4) := by
  obtain ⟨c, hc, hi⟩ := Option.map_eq_some_iff.1 ok_f4
  exact meets_spec (R := runF g_f4 tc_f4 rv_f4 false) (meets_of (by decide) Try.func4 hc hi Try.ntmps4 rok_f4 gk_f4 lk_f4 mixed) fun x _ => (e_f4 x.1).trans (s_f4 x.1)
def dmod (n k : Int) : Int := if k < 1 then 0 else n % k
def dmodOk (_n k : Int) : Bool := decide (k.toNat < 4611686018427387904)
/-- cipherplan/cipherplanmake.Mod -/
def tc_f9 : TC := (.sq (.reg [(oP 4 (.mv (cI 0)))]) (.sq (.sq (.reg [(oV 5 1), (oP 6 (.bin false .lss (.t 5) (cI 1)))]) (.cd (.t 6) (.sq (.reg [(oP 4 (.mv (cI 0)))]) .rt) .sk)) (.sq (.reg [(oV 7 0), (oV 8 1), (oP 9 (.bin false .rem (.t 7) (.t 8))), (oV 10 1), (oP 11 (.bin false .add (.t 9) (.t 10))), (oV 12 1), (oP 13 (.bin false .rem (.t 11) (.t 12))), (oV 4 13)]) .rt)))
def rv_f9 : List (RV × Option Ty) := [((.t 4), some tI)]
def g_f9 : G := ⟨TYs, [], 14, EL [], keeps, (fun _ _ => none), IL [], RL []⟩
def r_f9 (p0 : Int) (p1 : Int) : Option (V × List VO) :=
  br ((ilt p1 1))
    (some (.t tI 0, []))
    (br (cNz p1)
      (br (cNz p1)
        (some (.t tI (irem (iadd .i64 (irem p0 p1) p1) p1), []))
        (none))
      (none))
theorem e_f9 (p0 : Int) (p1 : Int) : runF g_f9 tc_f9 rv_f9 false [.t tI p0, .t tI p1] [] = r_f9 p0 p1 := by kernel_rfl
theorem ok_f9 : Option.map (trC Try.prog) Try.f9.body = some tc_f9.er := by kernel_rfl
theorem rok_f9 : trVs Try.prog Try.f9.results.toList = some (rv_f9.map Prod.fst) := by kernel_rfl
theorem en_f9 : Entered Try.prog 9 := .inr ⟨by decide, _, Try.func9, by kernel_rfl, by kernel_rfl⟩
theorem gk_f9 : GOk Try.prog g_f9 := gok_of _ (fun p hp => by cases hp)
theorem lk_f9 : tc_f9.lok g_f9 := by repeat (first | exact trivial | refine ⟨?_, ?_⟩)
theorem s_f9 (n k : Int) (h : dmodOk n k = true) : r_f9 n k = some (.t tI (dmod n k), []) := by
  simp only [dmodOk, decide_eq_true_eq] at h
  simp only [r_f9]
  refine br_intro (fun h1 => ?_) (fun h1 => ?_)
  · have h1 : k < 1 := by simpa [ilt] using h1
    simp [dmod, h1]
  · have h1 : ¬ k < 1 := by simpa [ilt] using h1
    have hk : cNz k = true := by simp [cNz]; omega
    simp only [hk, br_true]
    have h3 : -k < n.tmod k := by
      have := Int.lt_tmod_of_pos n (show 0 < k by omega)
      exact this
    have h4 : n.tmod k < k := Int.tmod_lt_of_pos n (by omega)
    have e1 : iadd .i64 (irem n k) k = n.tmod k + k := iadd_in (by unfold irem; omega)
    rw [e1]
    have e2 : irem (n.tmod k + k) k = n % k := by
      unfold irem
      rw [Int.tmod_eq_emod_of_nonneg (by omega), Int.add_emod_right, Int.tmod_def]
      exact Int.sub_mul_emod_self_left n k _
    rw [e2]
    simp [dmod, h1]
def sp_f9 : Ent := spec (.pr tI (.pr tI .nil)) (fun x => (dmodOk x.1 x.2.1)) (fun x => (.t tI (dmod x.1 x.2.1)))
theorem ms_f9 : Meets Try.prog 9 (strip sp_f9) := by
  obtain ⟨c, hc, hi⟩ := Option.map_eq_some_iff.1 ok_f9
  exact meets_spec (R := runF g_f9 tc_f9 rv_f9 false) (meets_of (by decide) Try.func9 hc hi Try.ntmps9 rok_f9 gk_f9 lk_f9 mixed) fun x hok => (e_f9 x.1 x.2.1).trans (s_f9 x.1 x.2.1 hok)

/-! Roll, Next, One, Of -/
def roll (l : List Int) : Dice := (l, 0, ())
/-- cipherplan/cipherplanmake.Roll -/
def tc_f6 : TC := (.sq (.reg [(oP 2 (.mv (.c (.v (.pointer none)))))]) (.sq (.reg [(oV 3 0), (oP 4 (.bd [(.v (.slice none 0 0)), (.v (.int .i64 0))] [(0, 1, (.t 3))])), (oM 5 (.box (.t 4))), (oV 2 5)]) .rt))
def rv_f6 : List (RV × Option Ty) := [((.t 2), none)]
def g_f6 : G := ⟨TYs, [], 6, EL [], keeps, (fun _ _ => none), IL [], RL []⟩
def r_f6 (p0 : (List Int)) : Option (V × List VO) :=
  some (.ptr 50000 0, [.box (.ag [(.t (.sl tI) p0), (.t tI 0)])])
theorem e_f6 (p0 : (List Int)) : runF g_f6 tc_f6 rv_f6 false [.t (.sl tI) p0] [] = r_f6 p0 := by kernel_rfl
theorem ok_f6 : Option.map (trC Try.prog) Try.f6.body = some tc_f6.er := by kernel_rfl
theorem rok_f6 : trVs Try.prog Try.f6.results.toList = some (rv_f6.map Prod.fst) := by kernel_rfl
theorem en_f6 : Entered Try.prog 6 := .inr ⟨by decide, _, Try.func6, by kernel_rfl, by kernel_rfl⟩
theorem gk_f6 : GOk Try.prog g_f6 := gok_of _ (fun p hp => by cases hp)
theorem lk_f6 : tc_f6.lok g_f6 := by repeat (first | exact trivial | refine ⟨?_, ?_⟩)
theorem s_f6 (l : List Int) : ∃ c, r_f6 l = some (.ptr 50000 0, [.box c]) ∧ c.as tyDice = some (roll l) := ⟨_, rfl, rfl⟩
def sp_f6 : Ent := specN tyDice (.pr (.sl tI) .nil) (fun x => true) (fun x => (roll x.1))
theorem ms_f6 : Meets Try.prog 6 (strip sp_f6) := by
  obtain ⟨c, hc, hi⟩ := Option.map_eq_some_iff.1 ok_f6
  exact meets_specN (R := runF g_f6 tc_f6 rv_f6 false) (meets_of (by decide) Try.func6 hc hi Try.ntmps6 rok_f6 gk_f6 lk_f6 mixed) rfl fun x _ => (s_f6 x.1).imp fun c h => ⟨(e_f6 x.1).trans h.1, h.2⟩
def dval (d : Dice) (n : Int) : Int := if d.2.1 ≥ d.1.length then 0 else dmod (d.1.getD d.2.1.toNat 0) n
def dnext (d : Dice) (_n : Int) : Dice := if d.2.1 ≥ d.1.length then d else (d.1, d.2.1 + 1, ())
def dOk (d : Dice) : Bool := decide (0 ≤ d.2.1 ∧ d.1.length ≤ 400)
def nextOk (d : Dice) (n : Int) : Bool := dOk d && decide (n < 4611686018427387904)
def dr_f10_0 : List DO := [(.mk (oV 5 0) []), (.mk (oP 6 (.nc (.t 5))) [0]), (.mk (oP 7 (.fa 1 (.t 6))) [1]), (.mk (oL 8 7) [2]), (.mk (oV 9 0) []), (.mk (oP 10 (.nc (.t 9))) [4]), (.mk (oP 11 (.fa 0 (.t 10))) [5]), (.mk (oL 12 11) [6]), (.mk (oP 13 (.len false (.t 12))) [7]), (.mk (oP 14 (.bin false .geq (.t 8) (.t 13))) [3, 8])]
def dr_f10_1 : List DO := [(.mk (oV 22 0) []), (.mk (oP 23 (.nc (.t 22))) [0]), (.mk (oP 24 (.fa 0 (.t 23))) [1]), (.mk (oL 25 24) [2]), (.mk (oV 26 0) []), (.mk (oP 27 (.nc (.t 26))) [4]), (.mk (oP 28 (.fa 1 (.t 27))) [5]), (.mk (oL 29 28) [6]), (.mk (oP 30 (.bin false .sub (.t 29) (cI 1))) [7]), (.mk (oP 31 (.ix 1 (.t 25) (.t 30))) [3, 8]), (.mk (oL 32 31) [9]), (.mk (oV 33 1) []), (.mk (oC 34 9 [(.t 32), (.t 33)]) [10, 11]), (.mk (oV 4 34) [12, 12, 0, 1, 2, 3, 4, 5, 6, 7, 8, 9, 10, 11, 12])]
/-- (*cipherplan/cipherplanmake.Dice).Next -/
def tc_f10 : TC := (.sq (.reg [(oP 4 (.mv (cI 0)))]) (.sq (.sq (.dr dr_f10_0 [(0, [50000]), (1, [50000]), (2, [50000]), (3, [50000]), (4, [50000]), (5, [50000]), (6, [50000]), (7, [50000]), (8, []), (9, [])] (.of [0, 1, 2, 3, 4, 5, 6, 7, 8, 9])) (.cd (.t 14) (.sq (.reg [(oP 4 (.mv (cI 0)))]) .rt) .sk)) (.sq (.reg [(oV 15 0), (oP 16 (.nc (.t 15))), (oP 17 (.fa 1 (.t 16))), (oL 18 17), (oP 19 (.bin false .add (.t 18) (cI 1))), (oP 20 (.nc (.t 15))), (oP 21 (.fa 1 (.t 20))), (.mk none none (.m (.st 1 (.t 21) (.t 19))))]) (.sq (.dr dr_f10_1 [(0, [50000]), (1, [50000]), (2, [50000]), (3, [50000]), (4, [50000]), (5, [50000]), (6, [50000]), (7, [50000]), (8, []), (9, []), (10, []), (11, []), (12, []), (13, [])] (.of [0, 1, 2, 3, 4, 5, 6, 7, 8, 9, 10, 11, 12, 13])) .rt))))
def rv_f10 : List (RV × Option Ty) := [((.t 4), some tI)]
def g_f10 : G := ⟨TYs, [], 35, EL [(9, sp_f9)], keeps, (fun _ _ => none), IL [], RL []⟩
def r_f10 (d0 : Dice) (p1 : Int) : Option (V × List VO) :=
  br ((ige d0.2.1 (llen d0.1)))
    (some (.t tI 0, [.box (.t tyDice d0)]))
    (br (cIx d0.1 (isub .i64 (iadd .i64 d0.2.1 1) 1))
      (br ((dmodOk (lgt tI d0.1 (Int.toNat (isub .i64 (iadd .i64 d0.2.1 1) 1))) p1))
        (some (.t tI (dmod (lgt tI d0.1 (Int.toNat (isub .i64 (iadd .i64 d0.2.1 1) 1))) p1), [.box (.t tyDice (d0.1, ((iadd .i64 d0.2.1 1), d0.2.2)))]))
        (none))
      (none))
theorem e_f10 (d0 : Dice) (p1 : Int) : runF g_f10 tc_f10 rv_f10 false [.ptr 50000 0, .t tI p1] [.box (.t tyDice d0)] = r_f10 d0 p1 := by kernel_rfl
theorem ok_f10 : Option.map (trC Try.prog) Try.f10.body = some tc_f10.er := by kernel_rfl
theorem rok_f10 : trVs Try.prog Try.f10.results.toList = some (rv_f10.map Prod.fst) := by kernel_rfl
theorem en_f10 : Entered Try.prog 10 := .inr ⟨by decide, _, Try.func10, by kernel_rfl, by kernel_rfl⟩
theorem gk_f10 : GOk Try.prog g_f10 := gok_of _ (by
  intro p hp
  simp only [List.mem_cons, List.not_mem_nil, or_false] at hp
  rcases hp with rfl
  · exact ⟨en_f9, ms_f9⟩)
theorem lk_f10 : tc_f10.lok g_f10 := by repeat (first | exact trivial | refine ⟨?_, ?_⟩)
theorem s_f10 (d : Dice) (n : Int) (h : nextOk d n = true) : r_f10 d n = some (.t tI (dval d n), [.box (.t tyDice (dnext d n))]) := by
  simp only [nextOk, dOk, Bool.and_eq_true, decide_eq_true_eq] at h
  obtain ⟨⟨h1, h2⟩, h3⟩ := h
  obtain ⟨l, at_, _⟩ := d
  simp only at h1 h2
  obtain ⟨k, rfl⟩ : ∃ k : Nat, at_ = k := ⟨at_.toNat, by omega⟩
  simp only [r_f10]
  refine br_intro (fun h4 => ?_) (fun h4 => ?_)
  · have h4 : l.length ≤ k := by simp [ige, llen] at h4; omega
    have h5 : (k : Int) ≥ l.length := by omega
    simp [dval, dnext, h5]
  · have h4 : k < l.length := by simp [ige, llen] at h4; omega
    have h5 : ¬ (k : Int) ≥ l.length := by omega
    have e1 : iadd .i64 (k : Int) 1 = ((k + 1 : Nat) : Int) := add1 (by omega)
    have e2 : isub .i64 ((k + 1 : Nat) : Int) 1 = (k : Int) := by rw [isub_in (by omega)]; omega
    rw [e1, e2, cIx_nat, dec_true h4, br_true]
    have e3 : dmodOk (lgt tI l (Int.toNat (k : Int))) n = true := decide_eq_true (by omega)
    rw [e3, br_true]
    simp only [dval, dnext, h5, if_false]
    rfl
def sp_f10 : Ent := specP tyDice (.pr tI .nil) (fun d x => (nextOk d x.1)) (fun d x => (.t tI (dval d x.1))) (fun d x => (dnext d x.1))
theorem ms_f10 : Meets Try.prog 10 (strip sp_f10) := by
  obtain ⟨c, hc, hi⟩ := Option.map_eq_some_iff.1 ok_f10
  exact meets_specP (R := runF g_f10 tc_f10 rv_f10 false) (meets_of (by decide) Try.func10 hc hi Try.ntmps10 rok_f10 gk_f10 lk_f10 mixed) rfl fun d x hok => (e_f10 d x.1).trans (s_f10 d x.1 hok)
def done (d : Dice) (n : Int) : Bool := dval d n == n - 1
def oneOk (d : Dice) (n : Int) : Bool := nextOk d n && decide (0 ≤ n)
/-- (*cipherplan/cipherplanmake.Dice).One -/
def tc_f21 : TC := (.sq (.reg [(oP 4 (.mv (cB false)))]) (.sq (.reg [(oV 5 0), (oV 6 1), (oC 7 10 [(.t 5), (.t 6)]), (oV 8 1), (oP 9 (.bin false .sub (.t 8) (cI 1))), (oP 10 (.bin false .eql (.t 7) (.t 9))), (oV 4 10)]) .rt))
def rv_f21 : List (RV × Option Ty) := [((.t 4), some .bool)]
def g_f21 : G := ⟨TYs, [], 11, EL [(10, sp_f10)], keeps, (fun _ _ => none), IL [], RL []⟩
def r_f21 (d0 : Dice) (p1 : Int) : Option (V × List VO) :=
  br ((nextOk d0 p1))
    (some (.t .bool (ieq (dval d0 p1) (isub .i64 p1 1)), [.box (.t tyDice (dnext d0 p1))]))
    (none)
theorem e_f21 (d0 : Dice) (p1 : Int) : runF g_f21 tc_f21 rv_f21 false [.ptr 50000 0, .t tI p1] [.box (.t tyDice d0)] = r_f21 d0 p1 := by kernel_rfl
theorem ok_f21 : Option.map (trC Try.prog) Try.f21.body = some tc_f21.er := by kernel_rfl
theorem rok_f21 : trVs Try.prog Try.f21.results.toList = some (rv_f21.map Prod.fst) := by kernel_rfl
theorem en_f21 : Entered Try.prog 21 := .inr ⟨by decide, _, Try.func21, by kernel_rfl, by kernel_rfl⟩
theorem gk_f21 : GOk Try.prog g_f21 := gok_of _ (by
  intro p hp
  simp only [List.mem_cons, List.not_mem_nil, or_false] at hp
  rcases hp with rfl
  · exact ⟨en_f10, ms_f10⟩)
theorem lk_f21 : tc_f21.lok g_f21 := by repeat (first | exact trivial | refine ⟨?_, ?_⟩)
theorem s_f21 (d : Dice) (n : Int) (h : oneOk d n = true) : r_f21 d n = some (.t .bool (done d n), [.box (.t tyDice (dnext d n))]) := by
  simp only [oneOk, Bool.and_eq_true, decide_eq_true_eq] at h
  simp only [r_f21]
  rw [h.1, br_true]
  have h2 := h.1
  simp only [nextOk, Bool.and_eq_true, decide_eq_true_eq] at h2
  rw [isub_in (by omega)]
  rfl
def sp_f21 : Ent := specP tyDice (.pr tI .nil) (fun d x => (oneOk d x.1)) (fun d x => (.t .bool (done d x.1))) (fun d x => (dnext d x.1))
theorem ms_f21 : Meets Try.prog 21 (strip sp_f21) := by
  obtain ⟨c, hc, hi⟩ := Option.map_eq_some_iff.1 ok_f21
  exact meets_specP (R := runF g_f21 tc_f21 rv_f21 false) (meets_of (by decide) Try.func21 hc hi Try.ntmps21 rok_f21 gk_f21 lk_f21 mixed) rfl fun d x hok => (e_f21 d x.1).trans (s_f21 d x.1 hok)
def dof (d : Dice) (l : List Int) : Int := l.getD (dval d l.length).toNat 0
def dofN (d : Dice) (l : List Int) : Dice := dnext d l.length
def ofOk (d : Dice) (l : List Int) : Bool := dOk d && decide (0 < l.length ∧ l.length < 4611686018427387904)
/-- (*cipherplan/cipherplanmake.Dice).Of -/
def tc_f11 : TC := (.sq (.reg [(oP 4 (.mv (cI 0)))]) (.sq (.reg [(oV 5 1), (oV 6 0), (oV 7 1), (oP 8 (.len false (.t 7))), (oC 9 10 [(.t 6), (.t 8)]), (oP 10 (.ix 1 (.t 5) (.t 9))), (oL 11 10), (oV 4 11)]) .rt))
def rv_f11 : List (RV × Option Ty) := [((.t 4), some tI)]
def g_f11 : G := ⟨TYs, [], 12, EL [(10, sp_f10)], keeps, (fun _ _ => none), IL [], RL []⟩
def r_f11 (d0 : Dice) (p1 : (List Int)) : Option (V × List VO) :=
  br ((nextOk d0 (llen p1)))
    (br (cIx p1 (dval d0 (llen p1)))
      (some (.t tI (lgt tI p1 (Int.toNat (dval d0 (llen p1)))), [.box (.t tyDice (dnext d0 (llen p1)))]))
      (none))
    (none)
theorem e_f11 (d0 : Dice) (p1 : (List Int)) : runF g_f11 tc_f11 rv_f11 false [.ptr 50000 0, .t (.sl tI) p1] [.box (.t tyDice d0)] = r_f11 d0 p1 := by kernel_rfl
theorem ok_f11 : Option.map (trC Try.prog) Try.f11.body = some tc_f11.er := by kernel_rfl
theorem rok_f11 : trVs Try.prog Try.f11.results.toList = some (rv_f11.map Prod.fst) := by kernel_rfl
theorem en_f11 : Entered Try.prog 11 := .inr ⟨by decide, _, Try.func11, by kernel_rfl, by kernel_rfl⟩
theorem gk_f11 : GOk Try.prog g_f11 := gok_of _ (by
  intro p hp
  simp only [List.mem_cons, List.not_mem_nil, or_false] at hp
  rcases hp with rfl
  · exact ⟨en_f10, ms_f10⟩)
theorem lk_f11 : tc_f11.lok g_f11 := by repeat (first | exact trivial | refine ⟨?_, ?_⟩)
theorem dval_lt {d : Dice} {n : Int} (h : 0 < n) : 0 ≤ dval d n ∧ dval d n < n := by
  unfold dval
  split
  · omega
  · unfold dmod
    rw [if_neg (by omega)]
    exact ⟨Int.emod_nonneg _ (by omega), Int.emod_lt_of_pos _ (by omega)⟩
theorem s_f11 (d : Dice) (l : List Int) (h : ofOk d l = true) : r_f11 d l = some (.t tI (dof d l), [.box (.t tyDice (dofN d l))]) := by
  simp only [ofOk, Bool.and_eq_true, decide_eq_true_eq] at h
  obtain ⟨h1, h2, h3⟩ := h
  simp only [r_f11]
  have e1 : nextOk d (llen l) = true := by simp only [nextOk, h1, llen, Bool.true_and, decide_eq_true_eq]; omega
  rw [e1, br_true]
  have h4 := dval_lt (d := d) (n := llen l) (by unfold llen; omega)
  have e2 : cIx l (dval d (llen l)) = true := by simp only [cIx, decide_eq_true_eq]; exact h4
  rw [e2, br_true]
  rfl
def sp_f11 : Ent := specP tyDice (.pr (.sl tI) .nil) (fun d x => (ofOk d x.1)) (fun d x => (.t tI (dof d x.1))) (fun d x => (dofN d x.1))
theorem ms_f11 : Meets Try.prog 11 (strip sp_f11) := by
  obtain ⟨c, hc, hi⟩ := Option.map_eq_some_iff.1 ok_f11
  exact meets_specP (R := runF g_f11 tc_f11 rv_f11 false) (meets_of (by decide) Try.func11 hc hi Try.ntmps11 rok_f11 gk_f11 lk_f11 mixed) rfl fun d x hok => (e_f11 d x.1).trans (s_f11 d x.1 hok)
theorem dOk_roll {l : List Int} (h : light l = true) : dOk (roll l) = true := by
  simp only [light, decide_eq_true_eq] at h
  simp [dOk, roll, h]
end Go.Proofs.Ytdbaaejiolibfaa.K
