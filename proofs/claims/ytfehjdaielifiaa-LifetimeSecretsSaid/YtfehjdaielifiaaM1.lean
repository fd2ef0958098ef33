/-
  Dice: what they are made of, what they give.
-/
import Derived.Test.YtfehjdaielifiaaV0
import Derived.KernelRfl
import Derived.IntWalk
set_option linter.unusedSimpArgs false
set_option linter.unusedVariables false
namespace Go.Proofs.Ytfehjdaielifiaa.K
open Go.RowKit

/-! words for all texts -/
theorem lgt_get {y : Ty} {l : List y.T} {j : Nat} (h : j < l.length) : lgt y l j = l[j] := by
  unfold lgt
  rw [List.getD_eq_getElem?_getD, List.getElem?_eq_getElem h]
  rfl
theorem add1 {k : Nat} (h : k < 4611686018427387904) : iadd .i64 (k : Int) 1 = ((k + 1 : Nat) : Int) := by
  unfold iadd
  rw [Go.IntWalk.i64_in _ (by omega)]
  rfl
theorem iadd_in {a b : Int} (h : -9223372036854775808 ≤ a + b ∧ a + b ≤ 9223372036854775807) : iadd .i64 a b = a + b := Go.IntWalk.i64_in _ h
theorem isub_in {a b : Int} (h : -9223372036854775808 ≤ a - b ∧ a - b ≤ 9223372036854775807) : isub .i64 a b = a - b := Go.IntWalk.i64_in _ h
theorem cIx_nat {α : Type} {l : List α} {k : Nat} : cIx l (k : Int) = decide (k < l.length) := by
  unfold cIx
  congr 1
  exact propext ⟨fun h => by omega, fun h => by omega⟩
theorem ilt_nat {a b : Nat} : ilt (a : Int) (b : Int) = decide (a < b) := by
  unfold ilt
  congr 1
  exact propext ⟨fun h => by omega, fun h => by omega⟩
theorem dec_true {p : Prop} [Decidable p] (h : p) : decide p = true := by simp [h]
theorem dec_false {p : Prop} [Decidable p] (h : ¬ p) : decide p = false := by simp [h]

theorem range_ind {α : Type} (l : List α) (P : Nat → Prop) (h0 : P l.length) (hs : ∀ k, k < l.length → P (k + 1) → P k) : ∀ k, k ≤ l.length → P k := by
  intro k hk
  induction hn : l.length - k generalizing k with
  | zero =>
    have : k = l.length := by omega
    subst this
    exact h0
  | succ n ih => exact hs k (by omega) (ih (k + 1) (by omega) (by omega))
/-- down from a number of rounds -/
theorem up_ind (N : Nat) (P : Nat → Prop) (h0 : P N) (hs : ∀ k, k < N → P (k + 1) → P k) : ∀ k, k ≤ N → P k := by
  intro k hk
  induction hn : N - k generalizing k with
  | zero =>
    have : k = N := by omega
    subst this
    exact h0
  | succ n ih => exact hs k (by omega) (ih (k + 1) (by omega) (by omega))

def rngOk {α : Type} (l : List α) (n i : Int) : Bool := decide (n = l.length ∧ 0 ≤ i ∧ i ≤ n ∧ l.length ≤ 100000)
theorem rng_k {α : Type} {l : List α} {n i : Int} (h : rngOk l n i = true) : n = l.length ∧ l.length ≤ 100000 ∧ ∃ k : Nat, i = k ∧ k ≤ l.length := by
  simp only [rngOk, decide_eq_true_eq] at h
  obtain ⟨h1, h2, h3, h4⟩ := h
  exact ⟨h1, h4, i.toNat, by omega, by omega⟩
theorem rng_0 {α : Type} {l : List α} (h : l.length ≤ 100000) : rngOk l (llen l) 0 = true := by
  simp only [rngOk, decide_eq_true_eq, llen]
  exact ⟨trivial, by omega, by omega, h⟩
theorem igt_nat {a b : Nat} : igt (a : Int) (b : Int) = decide (b < a) := by
  unfold igt
  congr 1
  exact propext ⟨fun h => by omega, fun h => by omega⟩
theorem cApp_ok {α : Type} {l l2 : List α} {b : Nat} (h : l.length + l2.length ≤ 1000000) (hb : b ≤ 1000) : cApp l l2 b = true := by
  unfold cApp
  rw [decide_eq_true_eq]
  calc (l.length + l2.length) * (b + 1) ≤ 1000000 * 1001 := Nat.mul_le_mul h (by omega)
    _ ≤ 140737488355328 := by decide

theorem some_b {x y : Bool} {l : List VO} (h : x = y) : some (V.t .bool x, l) = some (V.t .bool y, l) := by rw [h]
theorem ine_dec {a b : Int} : ine a b = decide (a ≠ b) := by
  unfold ine
  simp [bne, Bool.beq_eq_decide_eq]
theorem ieq_dec {a b : Int} : ieq a b = decide (a = b) := by
  unfold ieq
  rw [Bool.beq_eq_decide_eq]

/-! Light, Mod -/
def light (l : List Int) : Bool := decide (l.length ≤ 400)
/-- cipherplan/cipherplanmake.Light -/
def tc_make_Light : TC := (.sq (.reg [(.mk (some 2) none (.m (.pu (.mv (.c (.v (.bool false)))))))]) (.sq (.reg [(.mk (some 3) none (.m (.pu (.mv (.t 0))))), (.mk (some 4) none (.m (.pu (.len false (.t 3))))), (.mk (some 5) none (.m (.pu (.bin false .leq (.t 4) (.c (.v (.int .i64 400))))))), (.mk (some 2) none (.m (.pu (.mv (.t 5)))))]) .rt))
def rv_make_Light : List (RV × Option Ty) := [((.t 2), some .bool)]
def g_make_Light : G := ⟨TYs, [], 6, EL [], keeps, (fun _ _ => none), IL [], RL []⟩
def r_make_Light (p0 : (List Int)) : Option (V × List VO) :=
  some (.t .bool (ile (llen p0) 400), [])
theorem e_make_Light (p0 : (List Int)) : runF g_make_Light tc_make_Light rv_make_Light false [.t (.sl tI) p0] [] = r_make_Light p0 := by kernel_rfl
theorem ok_make_Light : Option.map (trC Try.prog) Try.f7.body = some tc_make_Light.er := by kernel_rfl
theorem rok_make_Light : trVs Try.prog Try.f7.results.toList = some (rv_make_Light.map Prod.fst) := by kernel_rfl
theorem en_make_Light : Entered Try.prog 7 := .inr ⟨by decide, _, Try.func7, by kernel_rfl, by kernel_rfl⟩
theorem gk_make_Light : GOk Try.prog g_make_Light := gok_of _ (fun p hp => by cases hp)
theorem lk_make_Light : tc_make_Light.lok g_make_Light := by repeat (first | exact trivial | refine ⟨?_, ?_⟩)
theorem s_make_Light (l : List Int) : r_make_Light l = some (.t .bool (light l), []) := by
  simp only [r_make_Light, light]
  congr 3
  unfold ile llen
  congr 1
  exact propext ⟨fun h => by omega, fun h => by omega⟩
def sp_make_Light : Ent := spec (.pr (.sl tI) .nil) (fun x => true) (fun x => (.t .bool (light x.1)))
theorem ms_make_Light : Meets Try.prog 7 (strip sp_make_Light) := by
  obtain ⟨c, hc, hi⟩ := Option.map_eq_some_iff.1 ok_make_Light
  exact meets_spec (R := runF g_make_Light tc_make_Light rv_make_Light false) (meets_of (by decide) Try.func7 hc hi Try.ntmps7 rok_make_Light gk_make_Light lk_make_Light mixed) fun x _ => (e_make_Light x.1).trans (s_make_Light x.1)
def dmod (n k : Int) : Int := if k < 1 then 0 else n % k
def dmodOk (_n k : Int) : Bool := decide (k < 4611686018427387904)
/-- cipherplan/cipherplanmake.Mod -/
def tc_make_Mod : TC := (.sq (.reg [(.mk (some 4) none (.m (.pu (.mv (.c (.v (.int .i64 0)))))))]) (.sq (.sq (.reg [(.mk (some 5) none (.m (.pu (.mv (.t 1))))), (.mk (some 6) none (.m (.pu (.bin false .lss (.t 5) (.c (.v (.int .i64 1)))))))]) (.cd (.t 6) (.sq (.reg [(.mk (some 4) none (.m (.pu (.mv (.c (.v (.int .i64 0)))))))]) .rt) .sk)) (.sq (.reg [(.mk (some 7) none (.m (.pu (.mv (.t 0))))), (.mk (some 8) none (.m (.pu (.mv (.t 1))))), (.mk (some 9) none (.m (.pu (.bin false .rem (.t 7) (.t 8))))), (.mk (some 10) none (.m (.pu (.mv (.t 1))))), (.mk (some 11) none (.m (.pu (.bin false .add (.t 9) (.t 10))))), (.mk (some 12) none (.m (.pu (.mv (.t 1))))), (.mk (some 13) none (.m (.pu (.bin false .rem (.t 11) (.t 12))))), (.mk (some 4) none (.m (.pu (.mv (.t 13)))))]) .rt)))
def rv_make_Mod : List (RV × Option Ty) := [((.t 4), some tI)]
def g_make_Mod : G := ⟨TYs, [], 14, EL [], keeps, (fun _ _ => none), IL [], RL []⟩
def r_make_Mod (p0 : Int) (p1 : Int) : Option (V × List VO) :=
  br ((ilt p1 1))
    (some (.t tI 0, []))
    (br (cNz p1)
      (br (cNz p1)
        (some (.t tI (irem (iadd .i64 (irem p0 p1) p1) p1), []))
        (none))
      (none))
theorem e_make_Mod (p0 : Int) (p1 : Int) : runF g_make_Mod tc_make_Mod rv_make_Mod false [.t tI p0, .t tI p1] [] = r_make_Mod p0 p1 := by kernel_rfl
theorem ok_make_Mod : Option.map (trC Try.prog) Try.f27.body = some tc_make_Mod.er := by kernel_rfl
theorem rok_make_Mod : trVs Try.prog Try.f27.results.toList = some (rv_make_Mod.map Prod.fst) := by kernel_rfl
theorem en_make_Mod : Entered Try.prog 27 := .inr ⟨by decide, _, Try.func27, by kernel_rfl, by kernel_rfl⟩
theorem gk_make_Mod : GOk Try.prog g_make_Mod := gok_of _ (fun p hp => by cases hp)
theorem lk_make_Mod : tc_make_Mod.lok g_make_Mod := by repeat (first | exact trivial | refine ⟨?_, ?_⟩)
theorem s_make_Mod (n k : Int) (h : dmodOk n k = true) : r_make_Mod n k = some (.t tI (dmod n k), []) := by
  simp only [dmodOk, decide_eq_true_eq] at h
  simp only [r_make_Mod]
  refine br_intro (fun h1 => ?_) (fun h1 => ?_)
  · have h1 : k < 1 := by simpa [ilt] using h1
    simp [dmod, h1]
  · have h1 : ¬ k < 1 := by simpa [ilt] using h1
    have hk : cNz k = true := by simp [cNz]; omega
    simp only [hk, br_true]
    have h3 : -k < n.tmod k := by
      have := Int.lt_tmod_of_pos n (show 0 < k by omega)
      exact this
    have h4 : n.tmod k < k := Int.tmod_lt_of_pos n (by omega)
    have e1 : iadd .i64 (irem n k) k = n.tmod k + k := iadd_in (by unfold irem; omega)
    rw [e1]
    have e2 : irem (n.tmod k + k) k = n % k := by
      unfold irem
      rw [Int.tmod_eq_emod_of_nonneg (by omega), Int.add_emod_right, Int.tmod_def]
      exact Int.sub_mul_emod_self_left n k _
    rw [e2]
    simp [dmod, h1]
def sp_make_Mod : Ent := spec (.pr tI (.pr tI .nil)) (fun x => (dmodOk x.1 x.2.1)) (fun x => (.t tI (dmod x.1 x.2.1)))
theorem ms_make_Mod : Meets Try.prog 27 (strip sp_make_Mod) := by
  obtain ⟨c, hc, hi⟩ := Option.map_eq_some_iff.1 ok_make_Mod
  exact meets_spec (R := runF g_make_Mod tc_make_Mod rv_make_Mod false) (meets_of (by decide) Try.func27 hc hi Try.ntmps27 rok_make_Mod gk_make_Mod lk_make_Mod mixed) fun x hok => (e_make_Mod x.1 x.2.1).trans (s_make_Mod x.1 x.2.1 hok)

/-! Roll, Next, One, Of -/
def roll (l : List Int) : Dice := (l, 0, ())
/-- cipherplan/cipherplanmake.Roll -/
def tc_make_Roll : TC := (.sq (.reg [(.mk (some 2) none (.m (.pu (.mv (.c (.v (.pointer none)))))))]) (.sq (.reg [(.mk (some 3) none (.m (.pu (.mv (.t 0))))), (.mk (some 4) none (.m (.pu (.bd [(.v (.slice none 0 0)), (.v (.int .i64 0))] [(0, 1, (.t 3))])))), (.mk (some 5) none (.m (.box (.t 4)))), (.mk (some 2) none (.m (.pu (.mv (.t 5)))))]) .rt))
def rv_make_Roll : List (RV × Option Ty) := [((.t 2), none)]
def g_make_Roll : G := ⟨TYs, [], 6, EL [], keeps, (fun _ _ => none), IL [], RL []⟩
def r_make_Roll (p0 : (List Int)) : Option (V × List VO) :=
  some (.ptr 50000 0, [.box (.ag [(.t (.sl tI) p0), (.t tI 0)])])
theorem e_make_Roll (p0 : (List Int)) : runF g_make_Roll tc_make_Roll rv_make_Roll false [.t (.sl tI) p0] [] = r_make_Roll p0 := by kernel_rfl
theorem ok_make_Roll : Option.map (trC Try.prog) Try.f9.body = some tc_make_Roll.er := by kernel_rfl
theorem rok_make_Roll : trVs Try.prog Try.f9.results.toList = some (rv_make_Roll.map Prod.fst) := by kernel_rfl
theorem en_make_Roll : Entered Try.prog 9 := .inr ⟨by decide, _, Try.func9, by kernel_rfl, by kernel_rfl⟩
theorem gk_make_Roll : GOk Try.prog g_make_Roll := gok_of _ (fun p hp => by cases hp)
theorem lk_make_Roll : tc_make_Roll.lok g_make_Roll := by repeat (first | exact trivial | refine ⟨?_, ?_⟩)
theorem s_make_Roll (l : List Int) : ∃ c, r_make_Roll l = some (.ptr 50000 0, [.box c]) ∧ c.as tyDice = some (roll l) := ⟨_, rfl, rfl⟩
def sp_make_Roll : Ent := specN tyDice (.pr (.sl tI) .nil) (fun x => true) (fun x => (roll x.1))
theorem ms_make_Roll : Meets Try.prog 9 (strip sp_make_Roll) := by
  obtain ⟨c, hc, hi⟩ := Option.map_eq_some_iff.1 ok_make_Roll
  exact meets_specN (R := runF g_make_Roll tc_make_Roll rv_make_Roll false) (meets_of (by decide) Try.func9 hc hi Try.ntmps9 rok_make_Roll gk_make_Roll lk_make_Roll mixed) rfl fun x _ => (s_make_Roll x.1).imp fun c h => ⟨(e_make_Roll x.1).trans h.1, h.2⟩
def dval (d : Dice) (n : Int) : Int := if d.2.1 ≥ d.1.length then 0 else dmod (d.1.getD d.2.1.toNat 0) n
def dnext (d : Dice) (_n : Int) : Dice := if d.2.1 ≥ d.1.length then d else (d.1, d.2.1 + 1, ())
def dOk (d : Dice) : Bool := decide (0 ≤ d.2.1 ∧ d.1.length ≤ 400)
def nextOk (d : Dice) (n : Int) : Bool := dOk d && decide (n < 4611686018427387904)
def dr_make_Dice_Next_0 : List DO := [(.mk (.mk (some 5) none (.m (.pu (.mv (.t 0))))) []), (.mk (.mk (some 6) none (.m (.pu (.nc (.t 5))))) [0]), (.mk (.mk (some 7) none (.m (.pu (.fa 1 (.t 6))))) [1]), (.mk (.mk (some 8) none (.m (.ld false 1 (.t 7)))) [2]), (.mk (.mk (some 9) none (.m (.pu (.mv (.t 0))))) []), (.mk (.mk (some 10) none (.m (.pu (.nc (.t 9))))) [4]), (.mk (.mk (some 11) none (.m (.pu (.fa 0 (.t 10))))) [5]), (.mk (.mk (some 12) none (.m (.ld false 1 (.t 11)))) [6]), (.mk (.mk (some 13) none (.m (.pu (.len false (.t 12))))) [7]), (.mk (.mk (some 14) none (.m (.pu (.bin false .geq (.t 8) (.t 13))))) [3, 8])]
def dr_make_Dice_Next_1 : List DO := [(.mk (.mk (some 22) none (.m (.pu (.mv (.t 0))))) []), (.mk (.mk (some 23) none (.m (.pu (.nc (.t 22))))) [0]), (.mk (.mk (some 24) none (.m (.pu (.fa 0 (.t 23))))) [1]), (.mk (.mk (some 25) none (.m (.ld false 1 (.t 24)))) [2]), (.mk (.mk (some 26) none (.m (.pu (.mv (.t 0))))) []), (.mk (.mk (some 27) none (.m (.pu (.nc (.t 26))))) [4]), (.mk (.mk (some 28) none (.m (.pu (.fa 1 (.t 27))))) [5]), (.mk (.mk (some 29) none (.m (.ld false 1 (.t 28)))) [6]), (.mk (.mk (some 30) none (.m (.pu (.bin false .sub (.t 29) (.c (.v (.int .i64 1))))))) [7]), (.mk (.mk (some 31) none (.m (.pu (.ix 1 (.t 25) (.t 30))))) [3, 8]), (.mk (.mk (some 32) none (.m (.ld false 1 (.t 31)))) [9]), (.mk (.mk (some 33) none (.m (.pu (.mv (.t 1))))) []), (.mk (.mk (some 34) none (.call 27 [(.t 32), (.t 33)])) [10, 11]), (.mk (.mk (some 4) none (.m (.pu (.mv (.t 34))))) [12, 12, 0, 1, 2, 3, 4, 5, 6, 7, 8, 9, 10, 11, 12])]
/-- (*cipherplan/cipherplanmake.Dice).Next -/
def tc_make_Dice_Next : TC := (.sq (.reg [(.mk (some 4) none (.m (.pu (.mv (.c (.v (.int .i64 0)))))))]) (.sq (.sq (.dr dr_make_Dice_Next_0 [(0, [50000]), (1, [50000]), (2, [50000]), (3, [50000]), (4, [50000]), (5, [50000]), (6, [50000]), (7, [50000]), (8, []), (9, [])] (.of [0, 1, 2, 3, 4, 5, 6, 7, 8, 9])) (.cd (.t 14) (.sq (.reg [(.mk (some 4) none (.m (.pu (.mv (.c (.v (.int .i64 0)))))))]) .rt) .sk)) (.sq (.reg [(.mk (some 15) none (.m (.pu (.mv (.t 0))))), (.mk (some 16) none (.m (.pu (.nc (.t 15))))), (.mk (some 17) none (.m (.pu (.fa 1 (.t 16))))), (.mk (some 18) none (.m (.ld false 1 (.t 17)))), (.mk (some 19) none (.m (.pu (.bin false .add (.t 18) (.c (.v (.int .i64 1))))))), (.mk (some 20) none (.m (.pu (.nc (.t 15))))), (.mk (some 21) none (.m (.pu (.fa 1 (.t 20))))), (.mk none none (.m (.st 1 (.t 21) (.t 19))))]) (.sq (.dr dr_make_Dice_Next_1 [(0, [50000]), (1, [50000]), (2, [50000]), (3, [50000]), (4, [50000]), (5, [50000]), (6, [50000]), (7, [50000]), (8, []), (9, []), (10, []), (11, []), (12, []), (13, [])] (.of [0, 1, 2, 3, 4, 5, 6, 7, 8, 9, 10, 11, 12, 13])) .rt))))
def rv_make_Dice_Next : List (RV × Option Ty) := [((.t 4), some tI)]
def g_make_Dice_Next : G := ⟨TYs, [], 35, EL [(27, sp_make_Mod)], keeps, (fun _ _ => none), IL [], RL []⟩
def r_make_Dice_Next (d0 : Dice) (p1 : Int) : Option (V × List VO) :=
  br ((ige d0.2.1 (llen d0.1)))
    (some (.t tI 0, [.box (.t tyDice d0)]))
    (br (cIx d0.1 (isub .i64 (iadd .i64 d0.2.1 1) 1))
      (br ((dmodOk (lgt tI d0.1 (Int.toNat (isub .i64 (iadd .i64 d0.2.1 1) 1))) p1))
        (some (.t tI (dmod (lgt tI d0.1 (Int.toNat (isub .i64 (iadd .i64 d0.2.1 1) 1))) p1), [.box (.t tyDice (d0.1, ((iadd .i64 d0.2.1 1), d0.2.2)))]))
        (none))
      (none))
theorem e_make_Dice_Next (d0 : Dice) (p1 : Int) : runF g_make_Dice_Next tc_make_Dice_Next rv_make_Dice_Next false [.ptr 50000 0, .t tI p1] [.box (.t tyDice d0)] = r_make_Dice_Next d0 p1 := by kernel_rfl
theorem ok_make_Dice_Next : Option.map (trC Try.prog) Try.f16.body = some tc_make_Dice_Next.er := by kernel_rfl
theorem rok_make_Dice_Next : trVs Try.prog Try.f16.results.toList = some (rv_make_Dice_Next.map Prod.fst) := by kernel_rfl
theorem en_make_Dice_Next : Entered Try.prog 16 := .inr ⟨by decide, _, Try.func16, by kernel_rfl, by kernel_rfl⟩
theorem gk_make_Dice_Next : GOk Try.prog g_make_Dice_Next := gok_of _ (by
  intro p hp
  simp only [List.mem_cons, List.not_mem_nil, or_false] at hp
  rcases hp with rfl
  · exact ⟨en_make_Mod, ms_make_Mod⟩)
theorem lk_make_Dice_Next : tc_make_Dice_Next.lok g_make_Dice_Next := by repeat (first | exact trivial | refine ⟨?_, ?_⟩)
theorem s_make_Dice_Next (d : Dice) (n : Int) (h : nextOk d n = true) : r_make_Dice_Next d n = some (.t tI (dval d n), [.box (.t tyDice (dnext d n))]) := by
  simp only [nextOk, dOk, Bool.and_eq_true, decide_eq_true_eq] at h
  obtain ⟨⟨h1, h2⟩, h3⟩ := h
  obtain ⟨l, at_, _⟩ := d
  simp only at h1 h2
  obtain ⟨k, rfl⟩ : ∃ k : Nat, at_ = k := ⟨at_.toNat, by omega⟩
  simp only [r_make_Dice_Next]
  refine br_intro (fun h4 => ?_) (fun h4 => ?_)
  · have h4 : l.length ≤ k := by simp [ige, llen] at h4; omega
    have h5 : (k : Int) ≥ l.length := by omega
    simp [dval, dnext, h5]
  · have h4 : k < l.length := by simp [ige, llen] at h4; omega
    have h5 : ¬ (k : Int) ≥ l.length := by omega
    have e1 : iadd .i64 (k : Int) 1 = ((k + 1 : Nat) : Int) := add1 (by omega)
    have e2 : isub .i64 ((k + 1 : Nat) : Int) 1 = (k : Int) := by rw [isub_in (by omega)]; omega
    rw [e1, e2, cIx_nat, dec_true h4, br_true]
    have e3 : dmodOk (lgt tI l (Int.toNat (k : Int))) n = true := by simp [dmodOk, h3]
    rw [e3, br_true]
    simp only [dval, dnext, h5, if_false]
    rfl
def sp_make_Dice_Next : Ent := specP tyDice (.pr tI .nil) (fun d x => (nextOk d x.1)) (fun d x => (.t tI (dval d x.1))) (fun d x => (dnext d x.1))
theorem ms_make_Dice_Next : Meets Try.prog 16 (strip sp_make_Dice_Next) := by
  obtain ⟨c, hc, hi⟩ := Option.map_eq_some_iff.1 ok_make_Dice_Next
  exact meets_specP (R := runF g_make_Dice_Next tc_make_Dice_Next rv_make_Dice_Next false) (meets_of (by decide) Try.func16 hc hi Try.ntmps16 rok_make_Dice_Next gk_make_Dice_Next lk_make_Dice_Next mixed) rfl fun d x hok => (e_make_Dice_Next d x.1).trans (s_make_Dice_Next d x.1 hok)
def done (d : Dice) (n : Int) : Bool := dval d n == n - 1
def oneOk (d : Dice) (n : Int) : Bool := nextOk d n && decide (0 ≤ n)
/-- (*cipherplan/cipherplanmake.Dice).One -/
def tc_make_Dice_One : TC := (.sq (.reg [(.mk (some 4) none (.m (.pu (.mv (.c (.v (.bool false)))))))]) (.sq (.reg [(.mk (some 5) none (.m (.pu (.mv (.t 0))))), (.mk (some 6) none (.m (.pu (.mv (.t 1))))), (.mk (some 7) none (.call 16 [(.t 5), (.t 6)])), (.mk (some 8) none (.m (.pu (.mv (.t 1))))), (.mk (some 9) none (.m (.pu (.bin false .sub (.t 8) (.c (.v (.int .i64 1))))))), (.mk (some 10) none (.m (.pu (.bin false .eql (.t 7) (.t 9))))), (.mk (some 4) none (.m (.pu (.mv (.t 10)))))]) .rt))
def rv_make_Dice_One : List (RV × Option Ty) := [((.t 4), some .bool)]
def g_make_Dice_One : G := ⟨TYs, [], 11, EL [(16, sp_make_Dice_Next)], keeps, (fun _ _ => none), IL [], RL []⟩
def r_make_Dice_One (d0 : Dice) (p1 : Int) : Option (V × List VO) :=
  br ((nextOk d0 p1))
    (some (.t .bool (ieq (dval d0 p1) (isub .i64 p1 1)), [.box (.t tyDice (dnext d0 p1))]))
    (none)
theorem e_make_Dice_One (d0 : Dice) (p1 : Int) : runF g_make_Dice_One tc_make_Dice_One rv_make_Dice_One false [.ptr 50000 0, .t tI p1] [.box (.t tyDice d0)] = r_make_Dice_One d0 p1 := by kernel_rfl
theorem ok_make_Dice_One : Option.map (trC Try.prog) Try.f22.body = some tc_make_Dice_One.er := by kernel_rfl
theorem rok_make_Dice_One : trVs Try.prog Try.f22.results.toList = some (rv_make_Dice_One.map Prod.fst) := by kernel_rfl
theorem en_make_Dice_One : Entered Try.prog 22 := .inr ⟨by decide, _, Try.func22, by kernel_rfl, by kernel_rfl⟩
theorem gk_make_Dice_One : GOk Try.prog g_make_Dice_One := gok_of _ (by
  intro p hp
  simp only [List.mem_cons, List.not_mem_nil, or_false] at hp
  rcases hp with rfl
  · exact ⟨en_make_Dice_Next, ms_make_Dice_Next⟩)
theorem lk_make_Dice_One : tc_make_Dice_One.lok g_make_Dice_One := by repeat (first | exact trivial | refine ⟨?_, ?_⟩)
theorem s_make_Dice_One (d : Dice) (n : Int) (h : oneOk d n = true) : r_make_Dice_One d n = some (.t .bool (done d n), [.box (.t tyDice (dnext d n))]) := by
  simp only [oneOk, Bool.and_eq_true, decide_eq_true_eq] at h
  simp only [r_make_Dice_One]
  rw [h.1, br_true]
  have h2 := h.1
  simp only [nextOk, Bool.and_eq_true, decide_eq_true_eq] at h2
  rw [isub_in (by omega)]
  rfl
def sp_make_Dice_One : Ent := specP tyDice (.pr tI .nil) (fun d x => (oneOk d x.1)) (fun d x => (.t .bool (done d x.1))) (fun d x => (dnext d x.1))
theorem ms_make_Dice_One : Meets Try.prog 22 (strip sp_make_Dice_One) := by
  obtain ⟨c, hc, hi⟩ := Option.map_eq_some_iff.1 ok_make_Dice_One
  exact meets_specP (R := runF g_make_Dice_One tc_make_Dice_One rv_make_Dice_One false) (meets_of (by decide) Try.func22 hc hi Try.ntmps22 rok_make_Dice_One gk_make_Dice_One lk_make_Dice_One mixed) rfl fun d x hok => (e_make_Dice_One d x.1).trans (s_make_Dice_One d x.1 hok)
def dof (d : Dice) (l : List Int) : Int := l.getD (dval d l.length).toNat 0
def dofN (d : Dice) (l : List Int) : Dice := dnext d l.length
def ofOk (d : Dice) (l : List Int) : Bool := dOk d && decide (0 < l.length ∧ l.length < 4611686018427387904)
/-- (*cipherplan/cipherplanmake.Dice).Of -/
def tc_make_Dice_Of : TC := (.sq (.reg [(.mk (some 4) none (.m (.pu (.mv (.c (.v (.int .i64 0)))))))]) (.sq (.reg [(.mk (some 5) none (.m (.pu (.mv (.t 1))))), (.mk (some 6) none (.m (.pu (.mv (.t 0))))), (.mk (some 7) none (.m (.pu (.mv (.t 1))))), (.mk (some 8) none (.m (.pu (.len false (.t 7))))), (.mk (some 9) none (.call 16 [(.t 6), (.t 8)])), (.mk (some 10) none (.m (.pu (.ix 1 (.t 5) (.t 9))))), (.mk (some 11) none (.m (.ld false 1 (.t 10)))), (.mk (some 4) none (.m (.pu (.mv (.t 11)))))]) .rt))
def rv_make_Dice_Of : List (RV × Option Ty) := [((.t 4), some tI)]
def g_make_Dice_Of : G := ⟨TYs, [], 12, EL [(16, sp_make_Dice_Next)], keeps, (fun _ _ => none), IL [], RL []⟩
def r_make_Dice_Of (d0 : Dice) (p1 : (List Int)) : Option (V × List VO) :=
  br ((nextOk d0 (llen p1)))
    (br (cIx p1 (dval d0 (llen p1)))
      (some (.t tI (lgt tI p1 (Int.toNat (dval d0 (llen p1)))), [.box (.t tyDice (dnext d0 (llen p1)))]))
      (none))
    (none)
theorem e_make_Dice_Of (d0 : Dice) (p1 : (List Int)) : runF g_make_Dice_Of tc_make_Dice_Of rv_make_Dice_Of false [.ptr 50000 0, .t (.sl tI) p1] [.box (.t tyDice d0)] = r_make_Dice_Of d0 p1 := by kernel_rfl
theorem ok_make_Dice_Of : Option.map (trC Try.prog) Try.f23.body = some tc_make_Dice_Of.er := by kernel_rfl
theorem rok_make_Dice_Of : trVs Try.prog Try.f23.results.toList = some (rv_make_Dice_Of.map Prod.fst) := by kernel_rfl
theorem en_make_Dice_Of : Entered Try.prog 23 := .inr ⟨by decide, _, Try.func23, by kernel_rfl, by kernel_rfl⟩
theorem gk_make_Dice_Of : GOk Try.prog g_make_Dice_Of := gok_of _ (by
  intro p hp
  simp only [List.mem_cons, List.not_mem_nil, or_false] at hp
  rcases hp with rfl
  · exact ⟨en_make_Dice_Next, ms_make_Dice_Next⟩)
theorem lk_make_Dice_Of : tc_make_Dice_Of.lok g_make_Dice_Of := by repeat (first | exact trivial | refine ⟨?_, ?_⟩)
theorem dval_lt {d : Dice} {n : Int} (h : 0 < n) : 0 ≤ dval d n ∧ dval d n < n := by
  unfold dval
  split
  · omega
  · unfold dmod
    rw [if_neg (by omega)]
    exact ⟨Int.emod_nonneg _ (by omega), Int.emod_lt_of_pos _ (by omega)⟩
theorem s_make_Dice_Of (d : Dice) (l : List Int) (h : ofOk d l = true) : r_make_Dice_Of d l = some (.t tI (dof d l), [.box (.t tyDice (dofN d l))]) := by
  simp only [ofOk, Bool.and_eq_true, decide_eq_true_eq] at h
  obtain ⟨h1, h2, h3⟩ := h
  simp only [r_make_Dice_Of]
  have e1 : nextOk d (llen l) = true := by simp only [nextOk, h1, llen, Bool.true_and, decide_eq_true_eq]; omega
  rw [e1, br_true]
  have h4 := dval_lt (d := d) (n := llen l) (by unfold llen; omega)
  have e2 : cIx l (dval d (llen l)) = true := by simp only [cIx, decide_eq_true_eq]; exact h4
  rw [e2, br_true]
  rfl
def sp_make_Dice_Of : Ent := specP tyDice (.pr (.sl tI) .nil) (fun d x => (ofOk d x.1)) (fun d x => (.t tI (dof d x.1))) (fun d x => (dofN d x.1))
theorem ms_make_Dice_Of : Meets Try.prog 23 (strip sp_make_Dice_Of) := by
  obtain ⟨c, hc, hi⟩ := Option.map_eq_some_iff.1 ok_make_Dice_Of
  exact meets_specP (R := runF g_make_Dice_Of tc_make_Dice_Of rv_make_Dice_Of false) (meets_of (by decide) Try.func23 hc hi Try.ntmps23 rok_make_Dice_Of gk_make_Dice_Of lk_make_Dice_Of mixed) rfl fun d x hok => (e_make_Dice_Of d x.1).trans (s_make_Dice_Of d x.1 hok)
theorem dOk_next {d : Dice} {n : Int} (h : dOk d = true) : dOk (dnext d n) = true := by
  simp only [dOk, decide_eq_true_eq] at h ⊢
  unfold dnext
  split
  · exact h
  · exact ⟨by simp only; omega, h.2⟩
theorem dOk_roll {l : List Int} (h : light l = true) : dOk (roll l) = true := by
  simp only [light, decide_eq_true_eq] at h
  simp [dOk, roll, h]
end Go.Proofs.Ytfehjdaielifiaa.K
