/-
 Dice: what they are made of, what they give.
-/
import Derived.Test.YtkkoedniahnneaaDoorV0
import Derived.KernelRfl
import Derived.IntWalk
set_option linter.unusedSimpArgs false
set_option linter.unusedVariables false
namespace Go.Proofs.YtkkoedniahnneaaDoor.K
open Go.RowKit
theorem lgt_get {y : Ty} {l : List y.T} {j : Nat} (h : j < l.length) : lgt y l j = l[j] := by
 unfold lgt
 rw [List.getD_eq_getElem?_getD, List.getElem?_eq_getElem h]
 rfl
theorem add1 {k : Nat} (h : k < 4611686018427387904) : iadd .i64 (k : Int) 1 = ((k + 1 : Nat) : Int) := by
 unfold iadd
 rw [Go.IntWalk.i64_in _ (by omega)]
 rfl
theorem iadd_in {a b : Int} (h : -9223372036854775808 ≤ a + b ∧ a + b ≤ 9223372036854775807) : iadd .i64 a b = a + b := Go.IntWalk.i64_in _ h
theorem isub_in {a b : Int} (h : -9223372036854775808 ≤ a - b ∧ a - b ≤ 9223372036854775807) : isub .i64 a b = a - b := Go.IntWalk.i64_in _ h
theorem cIx_nat {α : Type} {l : List α} {k : Nat} : cIx l (k : Int) = decide (k < l.length) := by
 unfold cIx
 congr 1
 exact propext ⟨fun h => by omega, fun h => by omega⟩
theorem ilt_nat {a b : Nat} : ilt (a : Int) (b : Int) = decide (a < b) := by
 unfold ilt
 congr 1
 exact propext ⟨fun h => by omega, fun h => by omega⟩
theorem dec_true {p : Prop} [Decidable p] (h : p) : decide p = true := by simp [h]
theorem range_ind {α : Type} (l : List α) (P : Nat → Prop) (h0 : P l.length) (hs : ∀ k, k < l.length → P (k + 1) → P k) : ∀ k, k ≤ l.length → P k := by
 intro k hk
 induction hn : l.length - k generalizing k with
 | zero =>
  have : k = l.length := by omega
  subst this
  exact h0
 | succ n ih => exact hs k (by omega) (ih (k + 1) (by omega) (by omega))
theorem some_b {x y : Bool} {l : List VO} (h : x = y) : some (V.t .bool x, l) = some (V.t .bool y, l) := by rw [h]
def light (l : List Int) : Bool := decide (l.length ≤ 400)
def tc_f13 : TC := (.sq (.reg [(oP 2 (.mv (cB false)))]) (.sq (.reg [(oV 3 0), (oP 4 (.len false (.t 3))), (oP 5 (.bin false .leq (.t 4) (cI 400))), (oV 2 5)]) .rt))
def rv_f13 : List (RV × Option Ty) := [((.t 2), some .bool)]
def g_f13 : G := ⟨TYs, [], 6, EL [], keeps, (fun _ _ => none), IL [], RL []⟩
def r_f13 (p0 : (List Int)) : Option (V × List VO) :=
 some (.t .bool (ile (llen p0) 400), [])
theorem e_f13 (p0 : (List Int)) : runF g_f13 tc_f13 rv_f13 false [.t (.sl tI) p0] [] = r_f13 p0 := by kernel_rfl
theorem ok_f13 : Option.map (trC Tryd.prog) Tryd.f13.body = some tc_f13.er := by kernel_rfl
theorem rok_f13 : trVs Tryd.prog Tryd.f13.results.toList = some (rv_f13.map Prod.fst) := by kernel_rfl
theorem en_f13 : Entered Tryd.prog 13 := .inr ⟨by decide, _, Tryd.func13, by kernel_rfl, by kernel_rfl⟩
theorem gk_f13 : GOk Tryd.prog g_f13 := gok_of _ (fun p hp => by cases hp)
theorem lk_f13 : tc_f13.lok g_f13 := by repeat (first | exact trivial | refine ⟨?_, ?_⟩)
theorem s_f13 (l : List Int) : r_f13 l = some (.t .bool (light l), []) := by
 simp only [r_f13, light]
 congr 3
 unfold ile llen
 congr 1
 exact propext ⟨fun h => by omega, fun h => by omega⟩
def sp_f13 : Ent := spec (.pr (.sl tI) .nil) (fun x => true) (fun x => (.t .bool (light x.1)))
theorem ms_f13 : Meets Tryd.prog 13 (strip sp_f13) := by
 obtain ⟨c, hc, hi⟩ := Option.map_eq_some_iff.1 ok_f13
 exact meets_spec (R := runF g_f13 tc_f13 rv_f13 false) (meets_of (by decide) Tryd.func13 hc hi Tryd.ntmps13 rok_f13 gk_f13 lk_f13 mixed) fun x _ => (e_f13 x.1).trans (s_f13 x.1)
def dmod (n k : Int) : Int := if k < 1 then 0 else n % k
def dmodOk (_n k : Int) : Bool := decide (k.toNat < 4611686018427387904)
def tc_f17 : TC := (.sq (.reg [(oP 4 (.mv (cI 0)))]) (.sq (.sq (.reg [(oV 5 1), (oP 6 (.bin false .lss (.t 5) (cI 1)))]) (.cd (.t 6) (.sq (.reg [(oP 4 (.mv (cI 0)))]) .rt) .sk)) (.sq (.reg [(oV 7 0), (oV 8 1), (oP 9 (.bin false .rem (.t 7) (.t 8))), (oV 10 1), (oP 11 (.bin false .add (.t 9) (.t 10))), (oV 12 1), (oP 13 (.bin false .rem (.t 11) (.t 12))), (oV 4 13)]) .rt)))
def rv_f17 : List (RV × Option Ty) := [((.t 4), some tI)]
def g_f17 : G := ⟨TYs, [], 14, EL [], keeps, (fun _ _ => none), IL [], RL []⟩
def r_f17 (p0 : Int) (p1 : Int) : Option (V × List VO) :=
 br ((ilt p1 1))
  (some (.t tI 0, []))
  (br (cNz p1)
   (br (cNz p1)
    (some (.t tI (irem (iadd .i64 (irem p0 p1) p1) p1), []))
    (none))
   (none))
theorem e_f17 (p0 : Int) (p1 : Int) : runF g_f17 tc_f17 rv_f17 false [.t tI p0, .t tI p1] [] = r_f17 p0 p1 := by kernel_rfl
theorem ok_f17 : Option.map (trC Tryd.prog) Tryd.f17.body = some tc_f17.er := by kernel_rfl
theorem rok_f17 : trVs Tryd.prog Tryd.f17.results.toList = some (rv_f17.map Prod.fst) := by kernel_rfl
theorem en_f17 : Entered Tryd.prog 17 := .inr ⟨by decide, _, Tryd.func17, by kernel_rfl, by kernel_rfl⟩
theorem gk_f17 : GOk Tryd.prog g_f17 := gok_of _ (fun p hp => by cases hp)
theorem lk_f17 : tc_f17.lok g_f17 := by repeat (first | exact trivial | refine ⟨?_, ?_⟩)
theorem s_f17 (n k : Int) (h : dmodOk n k = true) : r_f17 n k = some (.t tI (dmod n k), []) := by
 simp only [dmodOk, decide_eq_true_eq] at h
 simp only [r_f17]
 refine br_intro (fun h1 => ?_) (fun h1 => ?_)
 ·have h1 : k < 1 := by simpa [ilt] using h1
  simp [dmod, h1]
 ·have h1 : ¬ k < 1 := by simpa [ilt] using h1
  have hk : cNz k = true := by simp [cNz]; omega
  simp only [hk, br_true]
  have h3 : -k < n.tmod k := by
   have := Int.lt_tmod_of_pos n (show 0 < k by omega)
   exact this
  have h4 : n.tmod k < k := Int.tmod_lt_of_pos n (by omega)
  have e1 : iadd .i64 (irem n k) k = n.tmod k + k := iadd_in (by unfold irem; omega)
  rw [e1]
  have e2 : irem (n.tmod k + k) k = n % k := by
   unfold irem
   rw [Int.tmod_eq_emod_of_nonneg (by omega), Int.add_emod_right, Int.tmod_def]
   exact Int.sub_mul_emod_self_left n k _
  rw [e2]
  simp [dmod, h1]
def sp_f17 : Ent := spec (.pr tI (.pr tI .nil)) (fun x => (dmodOk x.1 x.2.1)) (fun x => (.t tI (dmod x.1 x.2.1)))
theorem ms_f17 : Meets Tryd.prog 17 (strip sp_f17) := by
 obtain ⟨c, hc, hi⟩ := Option.map_eq_some_iff.1 ok_f17
 exact meets_spec (R := runF g_f17 tc_f17 rv_f17 false) (meets_of (by decide) Tryd.func17 hc hi Tryd.ntmps17 rok_f17 gk_f17 lk_f17 mixed) fun x hok => (e_f17 x.1 x.2.1).trans (s_f17 x.1 x.2.1 hok)
def roll (l : List Int) : Dice := (l, 0, ())
def tc_f15 : TC := (.sq (.reg [(oP 2 (.mv (.c (.v (.pointer none)))))]) (.sq (.reg [(oV 3 0), (oP 4 (.bd [(.v (.slice none 0 0)), (.v (.int .i64 0))] [(0, 1, (.t 3))])), (oM 5 (.box (.t 4))), (oV 2 5)]) .rt))
def rv_f15 : List (RV × Option Ty) := [((.t 2), none)]
def g_f15 : G := ⟨TYs, [], 6, EL [], keeps, (fun _ _ => none), IL [], RL []⟩
def r_f15 (p0 : (List Int)) : Option (V × List VO) :=
 some (.ptr 50000 0, [.box (.ag [(.t (.sl tI) p0), (.t tI 0)])])
theorem e_f15 (p0 : (List Int)) : runF g_f15 tc_f15 rv_f15 false [.t (.sl tI) p0] [] = r_f15 p0 := by kernel_rfl
theorem ok_f15 : Option.map (trC Tryd.prog) Tryd.f15.body = some tc_f15.er := by kernel_rfl
theorem rok_f15 : trVs Tryd.prog Tryd.f15.results.toList = some (rv_f15.map Prod.fst) := by kernel_rfl
theorem en_f15 : Entered Tryd.prog 15 := .inr ⟨by decide, _, Tryd.func15, by kernel_rfl, by kernel_rfl⟩
theorem gk_f15 : GOk Tryd.prog g_f15 := gok_of _ (fun p hp => by cases hp)
theorem lk_f15 : tc_f15.lok g_f15 := by repeat (first | exact trivial | refine ⟨?_, ?_⟩)
theorem s_f15 (l : List Int) : ∃ c, r_f15 l = some (.ptr 50000 0, [.box c]) ∧ c.as tyDice = some (roll l) := ⟨_, rfl, rfl⟩
def sp_f15 : Ent := specN tyDice (.pr (.sl tI) .nil) (fun x => true) (fun x => (roll x.1))
theorem ms_f15 : Meets Tryd.prog 15 (strip sp_f15) := by
 obtain ⟨c, hc, hi⟩ := Option.map_eq_some_iff.1 ok_f15
 exact meets_specN (R := runF g_f15 tc_f15 rv_f15 false) (meets_of (by decide) Tryd.func15 hc hi Tryd.ntmps15 rok_f15 gk_f15 lk_f15 mixed) rfl fun x _ => (s_f15 x.1).imp fun c h => ⟨(e_f15 x.1).trans h.1, h.2⟩
def dval (d : Dice) (n : Int) : Int := if d.2.1 ≥ d.1.length then 0 else dmod (d.1.getD d.2.1.toNat 0) n
def dnext (d : Dice) (_n : Int) : Dice := if d.2.1 ≥ d.1.length then d else (d.1, d.2.1 + 1, ())
def dOk (d : Dice) : Bool := decide (0 ≤ d.2.1 ∧ d.1.length ≤ 400)
def nextOk (d : Dice) (n : Int) : Bool := dOk d && decide (n < 4611686018427387904)
def dr_f18_0 : List DO := [(.mk (oV 5 0) []), (.mk (oP 6 (.nc (.t 5))) [0]), (.mk (oP 7 (.fa 1 (.t 6))) [1]), (.mk (oL 8 7) [2]), (.mk (oV 9 0) []), (.mk (oP 10 (.nc (.t 9))) [4]), (.mk (oP 11 (.fa 0 (.t 10))) [5]), (.mk (oL 12 11) [6]), (.mk (oP 13 (.len false (.t 12))) [7]), (.mk (oP 14 (.bin false .geq (.t 8) (.t 13))) [3, 8])]
def dr_f18_1 : List DO := [(.mk (oV 22 0) []), (.mk (oP 23 (.nc (.t 22))) [0]), (.mk (oP 24 (.fa 0 (.t 23))) [1]), (.mk (oL 25 24) [2]), (.mk (oV 26 0) []), (.mk (oP 27 (.nc (.t 26))) [4]), (.mk (oP 28 (.fa 1 (.t 27))) [5]), (.mk (oL 29 28) [6]), (.mk (oP 30 (.bin false .sub (.t 29) (cI 1))) [7]), (.mk (oP 31 (.ix 1 (.t 25) (.t 30))) [3, 8]), (.mk (oL 32 31) [9]), (.mk (oV 33 1) []), (.mk (oC 34 17 [(.t 32), (.t 33)]) [10, 11]), (.mk (oV 4 34) [12, 12, 0, 1, 2, 3, 4, 5, 6, 7, 8, 9, 10, 11, 12])]
def tc_f18 : TC := (.sq (.reg [(oP 4 (.mv (cI 0)))]) (.sq (.sq (.dr dr_f18_0 [(0, [50000]), (1, [50000]), (2, [50000]), (3, [50000]), (4, [50000]), (5, [50000]), (6, [50000]), (7, [50000]), (8, []), (9, [])] (.of [0, 1, 2, 3, 4, 5, 6, 7, 8, 9])) (.cd (.t 14) (.sq (.reg [(oP 4 (.mv (cI 0)))]) .rt) .sk)) (.sq (.reg [(oV 15 0), (oP 16 (.nc (.t 15))), (oP 17 (.fa 1 (.t 16))), (oL 18 17), (oP 19 (.bin false .add (.t 18) (cI 1))), (oP 20 (.nc (.t 15))), (oP 21 (.fa 1 (.t 20))), (.mk none none (.m (.st 1 (.t 21) (.t 19))))]) (.sq (.dr dr_f18_1 [(0, [50000]), (1, [50000]), (2, [50000]), (3, [50000]), (4, [50000]), (5, [50000]), (6, [50000]), (7, [50000]), (8, []), (9, []), (10, []), (11, []), (12, []), (13, [])] (.of [0, 1, 2, 3, 4, 5, 6, 7, 8, 9, 10, 11, 12, 13])) .rt))))
def rv_f18 : List (RV × Option Ty) := [((.t 4), some tI)]
def g_f18 : G := ⟨TYs, [], 35, EL [(17, sp_f17)], keeps, (fun _ _ => none), IL [], RL []⟩
def r_f18 (d0 : Dice) (p1 : Int) : Option (V × List VO) :=
 br ((ige d0.2.1 (llen d0.1)))
  (some (.t tI 0, [.box (.t tyDice d0)]))
  (br (cIx d0.1 (isub .i64 (iadd .i64 d0.2.1 1) 1))
   (br ((dmodOk (lgt tI d0.1 (Int.toNat (isub .i64 (iadd .i64 d0.2.1 1) 1))) p1))
    (some (.t tI (dmod (lgt tI d0.1 (Int.toNat (isub .i64 (iadd .i64 d0.2.1 1) 1))) p1), [.box (.t tyDice (d0.1, ((iadd .i64 d0.2.1 1), d0.2.2)))]))
    (none))
   (none))
theorem e_f18 (d0 : Dice) (p1 : Int) : runF g_f18 tc_f18 rv_f18 false [.ptr 50000 0, .t tI p1] [.box (.t tyDice d0)] = r_f18 d0 p1 := by kernel_rfl
theorem ok_f18 : Option.map (trC Tryd.prog) Tryd.f18.body = some tc_f18.er := by kernel_rfl
theorem rok_f18 : trVs Tryd.prog Tryd.f18.results.toList = some (rv_f18.map Prod.fst) := by kernel_rfl
theorem en_f18 : Entered Tryd.prog 18 := .inr ⟨by decide, _, Tryd.func18, by kernel_rfl, by kernel_rfl⟩
theorem gk_f18 : GOk Tryd.prog g_f18 := gok_of _ (by
 intro p hp
 simp only [List.mem_cons, List.not_mem_nil, or_false] at hp
 rcases hp with rfl
 ·exact ⟨en_f17, ms_f17⟩)
theorem lk_f18 : tc_f18.lok g_f18 := by repeat (first | exact trivial | refine ⟨?_, ?_⟩)
theorem s_f18 (d : Dice) (n : Int) (h : nextOk d n = true) : r_f18 d n = some (.t tI (dval d n), [.box (.t tyDice (dnext d n))]) := by
 simp only [nextOk, dOk, Bool.and_eq_true, decide_eq_true_eq] at h
 obtain ⟨⟨h1, h2⟩, h3⟩ := h
 obtain ⟨l, at_, _⟩ := d
 simp only at h1 h2
 obtain ⟨k, rfl⟩ : ∃ k : Nat, at_ = k := ⟨at_.toNat, by omega⟩
 simp only [r_f18]
 refine br_intro (fun h4 => ?_) (fun h4 => ?_)
 ·have h4 : l.length ≤ k := by simp [ige, llen] at h4; omega
  have h5 : (k : Int) ≥ l.length := by omega
  simp [dval, dnext, h5]
 ·have h4 : k < l.length := by simp [ige, llen] at h4; omega
  have h5 : ¬ (k : Int) ≥ l.length := by omega
  have e1 : iadd .i64 (k : Int) 1 = ((k + 1 : Nat) : Int) := add1 (by omega)
  have e2 : isub .i64 ((k + 1 : Nat) : Int) 1 = (k : Int) := by rw [isub_in (by omega)]; omega
  rw [e1, e2, cIx_nat, dec_true h4, br_true]
  have e3 : dmodOk (lgt tI l (Int.toNat (k : Int))) n = true := decide_eq_true (by omega)
  rw [e3, br_true]
  simp only [dval, dnext, h5, if_false]
  rfl
def sp_f18 : Ent := specP tyDice (.pr tI .nil) (fun d x => (nextOk d x.1)) (fun d x => (.t tI (dval d x.1))) (fun d x => (dnext d x.1))
theorem ms_f18 : Meets Tryd.prog 18 (strip sp_f18) := by
 obtain ⟨c, hc, hi⟩ := Option.map_eq_some_iff.1 ok_f18
 exact meets_specP (R := runF g_f18 tc_f18 rv_f18 false) (meets_of (by decide) Tryd.func18 hc hi Tryd.ntmps18 rok_f18 gk_f18 lk_f18 mixed) rfl fun d x hok => (e_f18 d x.1).trans (s_f18 d x.1 hok)
def done (d : Dice) (n : Int) : Bool := dval d n == n - 1
def oneOk (d : Dice) (n : Int) : Bool := nextOk d n && decide (0 ≤ n)
def tc_f52 : TC := (.sq (.reg [(oP 4 (.mv (cB false)))]) (.sq (.reg [(oV 5 0), (oV 6 1), (oC 7 18 [(.t 5), (.t 6)]), (oV 8 1), (oP 9 (.bin false .sub (.t 8) (cI 1))), (oP 10 (.bin false .eql (.t 7) (.t 9))), (oV 4 10)]) .rt))
def rv_f52 : List (RV × Option Ty) := [((.t 4), some .bool)]
def g_f52 : G := ⟨TYs, [], 11, EL [(18, sp_f18)], keeps, (fun _ _ => none), IL [], RL []⟩
def r_f52 (d0 : Dice) (p1 : Int) : Option (V × List VO) :=
 br ((nextOk d0 p1))
  (some (.t .bool (ieq (dval d0 p1) (isub .i64 p1 1)), [.box (.t tyDice (dnext d0 p1))]))
  (none)
theorem e_f52 (d0 : Dice) (p1 : Int) : runF g_f52 tc_f52 rv_f52 false [.ptr 50000 0, .t tI p1] [.box (.t tyDice d0)] = r_f52 d0 p1 := by kernel_rfl
theorem ok_f52 : Option.map (trC Tryd.prog) Tryd.f52.body = some tc_f52.er := by kernel_rfl
theorem rok_f52 : trVs Tryd.prog Tryd.f52.results.toList = some (rv_f52.map Prod.fst) := by kernel_rfl
theorem en_f52 : Entered Tryd.prog 52 := .inr ⟨by decide, _, Tryd.func52, by kernel_rfl, by kernel_rfl⟩
theorem gk_f52 : GOk Tryd.prog g_f52 := gok_of _ (by
 intro p hp
 simp only [List.mem_cons, List.not_mem_nil, or_false] at hp
 rcases hp with rfl
 ·exact ⟨en_f18, ms_f18⟩)
theorem lk_f52 : tc_f52.lok g_f52 := by repeat (first | exact trivial | refine ⟨?_, ?_⟩)
theorem s_f52 (d : Dice) (n : Int) (h : oneOk d n = true) : r_f52 d n = some (.t .bool (done d n), [.box (.t tyDice (dnext d n))]) := by
 simp only [oneOk, Bool.and_eq_true, decide_eq_true_eq] at h
 simp only [r_f52]
 rw [h.1, br_true]
 have h2 := h.1
 simp only [nextOk, Bool.and_eq_true, decide_eq_true_eq] at h2
 rw [isub_in (by omega)]
 rfl
def sp_f52 : Ent := specP tyDice (.pr tI .nil) (fun d x => (oneOk d x.1)) (fun d x => (.t .bool (done d x.1))) (fun d x => (dnext d x.1))
theorem ms_f52 : Meets Tryd.prog 52 (strip sp_f52) := by
 obtain ⟨c, hc, hi⟩ := Option.map_eq_some_iff.1 ok_f52
 exact meets_specP (R := runF g_f52 tc_f52 rv_f52 false) (meets_of (by decide) Tryd.func52 hc hi Tryd.ntmps52 rok_f52 gk_f52 lk_f52 mixed) rfl fun d x hok => (e_f52 d x.1).trans (s_f52 d x.1 hok)
theorem dval_lt {d : Dice} {n : Int} (h : 0 < n) : 0 ≤ dval d n ∧ dval d n < n := by
 unfold dval
 split
 ·omega
 ·unfold dmod
  rw [if_neg (by omega)]
  exact ⟨Int.emod_nonneg _ (by omega), Int.emod_lt_of_pos _ (by omega)⟩
theorem dOk_next {d : Dice} {n : Int} (h : dOk d = true) : dOk (dnext d n) = true := by
 simp only [dOk, decide_eq_true_eq] at h ⊢
 unfold dnext
 split
 ·exact h
 ·exact ⟨by simp only; omega, h.2⟩
theorem dOk_roll {l : List Int} (h : light l = true) : dOk (roll l) = true := by
 simp only [light, decide_eq_true_eq] at h
 simp [dOk, roll, h]
end Go.Proofs.YtkkoedniahnneaaDoor.K
