/-
 The law on the best links, how far an item reaches, and its renewals.
-/
import Derived.Test.YtfehjdaielifiaaGreatV36
import Derived.Test.YtfehjdaielifiaaGreatV35
import Derived.Test.YtfehjdaielifiaaGreatP28
import Derived.Test.YtfehjdaielifiaaGreatM3G
import Derived.Test.YtfehjdaielifiaaGreatKD
set_option linter.unusedSimpArgs false
set_option linter.unusedVariables false
namespace Go.Proofs.YtfehjdaielifiaaGreat.K
open Go.RowKit
noncomputable section
def sameK (a b : List Link) : Bool := a == b
def sameKOk (a _b : List Link) : Bool := decide (a.length ≤ 100000)
def dr_f46_0 : List DO := [(.mk (oV 16 0) []), (.mk (oV 17 5) []), (.mk (oP 18 (.ix 3 (.t 16) (.t 17))) [0, 1]), (.mk (oM 19 (.ld true 3 (.t 18))) [2]), (.mk (oV 20 1) []), (.mk (oV 21 5) []), (.mk (oP 22 (.ix 3 (.t 20) (.t 21))) [4, 5]), (.mk (oM 23 (.ld true 3 (.t 22))) [6]), (.mk (oP 24 (.eqs true [0, 0, 0] (.t 19) (.t 23))) [3, 7])]
def fg_f46_0 : Fg := ⟨[(0, some (.sl tyLink)), (1, some (.sl tyLink)), (12, some tI), (13, some tI)], []⟩
def tb_f46_0 : TC := (.sq (.reg [(oP 14 (.bin false .lss (.t 13) (.t 12)))]) (.sq (.cd (.t 14) .sk (.fg ⟨[], []⟩ (.ex 0))) (.sq (.bk 1 (.sq (.reg [(oV 15 13), (oV 5 15)]) (.sq (.dr dr_f46_0 [(0, []), (1, []), (2, []), (3, []), (4, []), (5, []), (6, []), (7, []), (8, [])] (.of [0, 1, 2, 3, 4, 5, 6, 7, 8])) (.cd (.t 24) (.sq (.reg [(oP 4 (.mv (cB false)))]) (.fg ⟨[(4, some .bool)], []⟩ .rt)) .sk)))) (.reg [(oP 25 (.bin false .add (.t 13) (cI 1))), (oV 13 25)]))))
def tc_f46 : TC := (.sq (.reg [(oP 4 (.mv (cB false)))]) (.sq (.sq (.reg [(oV 6 0), (oP 7 (.len false (.t 6))), (oV 8 1), (oP 9 (.len false (.t 8))), (oP 10 (.bin false .neq (.t 7) (.t 9)))]) (.cd (.t 10) (.sq (.reg [(oP 4 (.mv (cB false)))]) .rt) .sk)) (.sq (.sq (.reg [(oV 11 0), (oP 12 (.len false (.t 11))), (oP 13 (.mv (cI 0)))]) (.bk 0 (.lp 0 fg_f46_0 tb_f46_0))) (.sq (.reg [(oP 4 (.mv (cB true)))]) .rt))))
def rv_f46 : List (RV × Option Ty) := [((.t 4), some .bool)]
abbrev sh_f46_0 : Sh := ⟨[(0, .ty (.sl tyLink)), (1, .ty (.sl tyLink)), (12, .ty tI), (13, .ty tI)], []⟩
def st_f46_0 (x0 : (List Link)) (x1 : (List Link)) (x12 : Int) (x13 : Int) : VS := sh_f46_0.st (x0, x1, x12, x13, ()) ()
abbrev sh_f46_0_ret : Sh := ⟨[(4, .ty .bool)], []⟩
def st_f46_0_ret (x4 : Bool) : VS := sh_f46_0_ret.st (x4, ()) ()
abbrev sh_f46_0_e0 : Sh := ⟨[], []⟩
def st_f46_0_e0  : VS := sh_f46_0_e0.st () ()
-- loop 0: (x0 : (List Link)) (x1 : (List Link)) (x12 : Int) (x13 : Int); out: ('ret',) (x4 : Bool); ('exit', 0)
def L_f46_0 : VS → Option (Bool × List (Bool × Exit × VS)) := mkL sh_f46_0 (fun x y => (decide (x.1.length = x.2.1.length) && rngOk x.1 x.2.2.1 x.2.2.2.1)) (fun x y => [((!(x.1.drop x.2.2.2.1.toNat == x.2.1.drop x.2.2.2.1.toNat)), .ret, st_f46_0_ret (false)), (true, .exit 0, st_f46_0_e0)])
def g_f46 : G := ⟨TYs, [], 26, EL [], keeps, (Ls [L_f46_0]), IL [], RL []⟩
def b_f46_0 (x0 : (List Link)) (x1 : (List Link)) (x12 : Int) (x13 : Int) : Option (Exit × VS) :=
 br ((ilt x13 x12))
  (br (cIx x0 x13)
   (br (cIx x1 x13)
    (br ((!(and (ieq (((lgt tyLink x0 (Int.toNat x13)).1).1) (((lgt tyLink x1 (Int.toNat x13)).1).1)) (and (ieq ((((lgt tyLink x0 (Int.toNat x13)).1).2).1) ((((lgt tyLink x1 (Int.toNat x13)).1).2).1)) (and (ieq (((lgt tyLink x0 (Int.toNat x13)).2).1) (((lgt tyLink x1 (Int.toNat x13)).2).1)) true)))))
     (some (.ret, st_f46_0_ret false))
     (some (.normal, st_f46_0 x0 x1 x12 (iadd .i64 x13 1))))
    (none))
   (none))
  (some (.exit 0, st_f46_0_e0))
noncomputable def lp_f46_0 (x0 : (List Link)) (x1 : (List Link)) (x12 : Int) (x13 : Int) : Option (Exit × VS) := loopF (roundF g_f46 fg_f46_0 tb_f46_0) (st_f46_0 x0 x1 x12 x13)
noncomputable def n_f46_0 (x0 : (List Link)) (x1 : (List Link)) (x12 : Int) (x13 : Int) : Option (Exit × VS) :=
 br ((ilt x13 x12))
  (br (cIx x0 x13)
   (br (cIx x1 x13)
    (br ((!(and (ieq (((lgt tyLink x0 (Int.toNat x13)).1).1) (((lgt tyLink x1 (Int.toNat x13)).1).1)) (and (ieq ((((lgt tyLink x0 (Int.toNat x13)).1).2).1) ((((lgt tyLink x1 (Int.toNat x13)).1).2).1)) (and (ieq (((lgt tyLink x0 (Int.toNat x13)).2).1) (((lgt tyLink x1 (Int.toNat x13)).2).1)) true)))))
     (some (.ret, st_f46_0_ret false))
     (lp_f46_0 x0 x1 x12 (iadd .i64 x13 1)))
    (none))
   (none))
  (some (.exit 0, st_f46_0_e0))
def la_f46_0 (x0 : (List Link)) (x1 : (List Link)) (x12 : Int) (x13 : Int) : Option (Exit × VS) := br (!(x0.drop x13.toNat == x1.drop x13.toNat)) (some (.ret, st_f46_0_ret (false))) <| some (.exit 0, st_f46_0_e0)
theorem be_f46_0 (x0 : (List Link)) (x1 : (List Link)) (x12 : Int) (x13 : Int) : roundF g_f46 fg_f46_0 tb_f46_0 (st_f46_0 x0 x1 x12 x13) = b_f46_0 x0 x1 x12 x13 := by kernel_rfl
theorem ln_f46_0 (x0 : (List Link)) (x1 : (List Link)) (x12 : Int) (x13 : Int) : lp_f46_0 x0 x1 x12 x13 = n_f46_0 x0 x1 x12 x13 := (loopF_nxt _ _).trans (by
 rw [be_f46_0]
 simp only [b_f46_0, n_f46_0, nxt_br, nxt_n, nxt_r, nxt_e, nxt_0]
 rfl)
def r_f46 (p0 : (List Link)) (p1 : (List Link)) : Option (V × List VO) :=
 br ((ine (llen p0) (llen p1)))
  (some (.t .bool false, []))
  (br ((decide (p0.length = p1.length) && rngOk p0 (llen p0) (0 : Int)))
   (br ((!(p0.drop (0 : Int).toNat == p1.drop (0 : Int).toNat)))
    (some (.t .bool (false), []))
    (some (.t .bool true, [])))
   (none))
theorem e_f46 (p0 : (List Link)) (p1 : (List Link)) : runF g_f46 tc_f46 rv_f46 false [.t (.sl tyLink) p0, .t (.sl tyLink) p1] [] = r_f46 p0 p1 := by kernel_rfl
theorem ok_f46 : Option.map (trC Tryz.prog) Tryz.f46.body = some tc_f46.er := by kernel_rfl
theorem rok_f46 : trVs Tryz.prog Tryz.f46.results.toList = some (rv_f46.map Prod.fst) := by kernel_rfl
theorem en_f46 : Entered Tryz.prog 46 := .inr ⟨by decide, _, Tryz.func46, by kernel_rfl, by kernel_rfl⟩
theorem gk_f46 : GOk Tryz.prog g_f46 := gok_of _ (fun p hp => by cases hp)
theorem l_f46_0 (x0 : (List Link)) (x1 : (List Link)) (x12 : Int) (x13 : Int) (h : (decide (x0.length = x1.length) && rngOk x0 x12 x13) = true) : lp_f46_0 x0 x1 x12 x13 = la_f46_0 x0 x1 x12 x13 := by
 simp only [Bool.and_eq_true, decide_eq_true_eq] at h
 obtain ⟨h1, hr⟩ := h
 obtain ⟨rfl, h3, k, rfl, hk⟩ := rng_k hr
 clear hr
 refine range_ind x0 (fun k => lp_f46_0 x0 x1 (x0.length : Int) (k : Int) = la_f46_0 x0 x1 (x0.length : Int) (k : Int)) ?_ ?_ k hk
 ·rw [ln_f46_0]
  have e2 : x1.drop x0.length = [] := List.drop_eq_nil_of_le (by omega)
  simp [n_f46_0, la_f46_0, ilt_nat, br_false, e2]
 ·intro k hk ih
  have hk2 : k < x1.length := by omega
  rw [ln_f46_0]
  simp only [n_f46_0, ilt_nat, cIx_nat, hk, hk2, decide_true, br_true, Int.toNat_natCast, eq_three, add1 (show k < 4611686018427387904 by omega), lgt_get (y := tyLink) (l := x0) hk, lgt_get (y := tyLink) (l := x1) hk2, ih]
  simp only [la_f46_0, Int.toNat_natCast, drop_ne hk hk2]
  cases x0[k] == x1[k] <;> rfl
theorem lo_f46_0 : ∀ S l p, g_f46.L 0 (fgt fg_f46_0 S) = some (true, l) → pickA l = some p → loopF (roundF g_f46 fg_f46_0 tb_f46_0) S = some p :=
 lok_of (s := sh_f46_0) ⟨by decide, by decide⟩ (by kernel_rfl) fun x y hok p hp => by
 simp only [pickA_br, pickA_one] at hp
 exact (l_f46_0 x.1 x.2.1 x.2.2.1 x.2.2.2.1 (by simpa using hok)).trans hp
theorem lk_f46 : tc_f46.lok g_f46 := by
 repeat (first | exact trivial | exact lo_f46_0 | refine ⟨?_, ?_⟩)
theorem s_f46 (a b : List Link) (h : sameKOk a b = true) : r_f46 a b = some (.t .bool (sameK a b), []) := by
 simp only [sameKOk, decide_eq_true_eq] at h
 simp only [r_f46]
 refine br_intro (fun g => ?_) (fun g => ?_)
 ·have : a ≠ b := fun e => by rw [e] at g; simp [ine] at g
  unfold sameK
  rw [beq_eq_false_iff_ne.2 this]
 ·have h2 : a.length = b.length := by simp [ine, llen] at g; omega
  rw [decide_eq_true h2, rng_0 h, Bool.true_and, br_true, Int.toNat_zero, List.drop_zero, List.drop_zero]
  unfold sameK
  cases (a == b) <;> rfl
def sp_f46 : Ent := spec (.pr (.sl tyLink) (.pr (.sl tyLink) .nil)) (fun x => (sameKOk x.1 x.2.1)) (fun x => (.t .bool (sameK x.1 x.2.1)))
theorem ms_f46 : Meets Tryz.prog 46 (strip sp_f46) := by
 obtain ⟨c, hc, hi⟩ := Option.map_eq_some_iff.1 ok_f46
 exact meets_spec (R := runF g_f46 tc_f46 rv_f46 false) (meets_of (by decide) Tryz.func46 hc hi Tryz.ntmps46 rok_f46 gk_f46 lk_f46 mixed) fun x hok => (e_f46 x.1 x.2.1).trans (s_f46 x.1 x.2.1 hok)
theorem schZ_len (y : Policy) (us : List Keep) (f : Int) : ∀ (n : Nat) (i : Item) (out : List Link), (schZ y us f n i out).1.length ≤ out.length + n
 | 0, _, out => Nat.le_refl _
 | n + 1, i, out => by
  unfold schZ
  have ih := schZ_len y us f n (applyF i [(nxB y us f i).1]) (out ++ [(nxB y us f i).1])
  rw [List.length_append, List.length_singleton] at ih
  have h0 : ∀ c : Int, ((out, c) : List Link × Int).1.length ≤ out.length + (n + 1) := fun c => Nat.le_add_right _ _
  cases ilt (reachF y i) i.2.2.2.2.1
  ·exact h0 _
  cases (LatestF y i).2.1
  ·exact h0 _
  cases (nxB y us f i).2
  ·exact h0 _
  cases ige (llen i.2.2.2.1) 8
  ·cases ile (reachF y (applyF i [(nxB y us f i).1])) (reachF y i)
   ·show (schZ y us f n (applyF i [(nxB y us f i).1]) (out ++ [(nxB y us f i).1])).1.length ≤ out.length + (n + 1)
    omega
   ·exact h0 _
  ·exact h0 _
theorem schF_len (y : Policy) (i : Item) (us : List Keep) (f : Int) : sameKOk (schF y i us f).1 (schF y i us f).1 = true := by
 have := schZ_len y us f (9 - i.2.2.2.1.length) i []
 rw [List.length_nil] at this
 refine decide_eq_true ?_
 unfold schF
 split
 ·exact Nat.zero_le _
 split
 ·exact Nat.zero_le _
 split
 ·exact Nat.zero_le _
 split
 ·show (schZ y us f (9 - i.2.2.2.1.length) i []).1.length ≤ 100000
  omega
 ·exact Nat.zero_le _
theorem sameK_self (a : List Link) : sameK a a = true := beq_self_eq_true a
theorem ine_selfR (a : Int) : ine a a = false := by simp [ine]
theorem bneq_selfR (a : Bool) : bneq a a = false := by cases a <;> rfl
def itB (i : Item) : Bool := nameOk i.1 && decide (i.2.2.2.1.length ≤ 1000)
def lawAll35 (_ : List Int) (_ _ : Int) (_ : Item) (_ : Keep) : Bool := true
def laOk (_ : List Int) (_ _ : Int) (r : Item) (_ : Keep) : Bool := nameOk r.1
def dr_f8_0 : List DO := [(.mk (oP 225 (.fa 3 (.t 41))) []), (.mk (oL 226 225) [0]), (.mk (oP 227 (.len false (.t 226))) [1]), (.mk (oP 228 (.fa 3 (.t 26))) []), (.mk (oL 229 228) [3]), (.mk (oP 230 (.len false (.t 229))) [4]), (.mk (oP 231 (.bin false .add (.t 230) (cI 1))) [5]), (.mk (oP 232 (.bin false .neq (.t 227) (.t 231))) [2, 6]), (.mk (oV 233 232) [7]), (.mk (oQ 234 233 false (.fa 3 (.t 41))) [8]), (.mk (oG 235 233 false (.m (.ld false 1 (.t 234)))) [9, 8]), (.mk (oQ 236 233 false (.fa 3 (.t 26))) [8]), (.mk (oG 237 233 false (.m (.ld false 1 (.t 236)))) [11, 8]), (.mk (oQ 238 233 false (.len false (.t 237))) [12, 8]), (.mk (oQ 239 233 false (.ix 3 (.t 235) (.t 238))) [10, 13, 8]), (.mk (oG 240 233 false (.m (.ld true 3 (.t 239)))) [14, 8]), (.mk (oG 241 233 false (.m (.ld true 2 (.t 9)))) [8]), (.mk (oQ 242 233 false (.mv (.t 2))) [8]), (.mk (oQ 243 233 false (.bd [(.v (.int .i64 0)), (.v (.int .i64 0)), (.v (.int .i64 0))] [(0, 2, (.t 241)), (2, 1, (.t 242))])) [16, 17, 8]), (.mk (oQ 244 233 false (.eqs true [0, 0, 0] (.t 240) (.t 243))) [15, 18, 8]), (.mk (oP 245 (.pick (.t 233) (cB true) (.t 244))) [8, 19]), (.mk (oV 246 245) [20, 8]), (.mk (oQ 247 246 false (.fa 4 (.t 41))) [21]), (.mk (oG 248 246 false (.m (.ld false 1 (.t 247)))) [22, 21]), (.mk (oQ 249 246 false (.fa 4 (.t 26))) [21]), (.mk (oG 250 246 false (.m (.ld false 1 (.t 249)))) [24, 21]), (.mk (oQ 251 246 false (.bin false .neq (.t 248) (.t 250))) [23, 25, 21]), (.mk (oP 252 (.pick (.t 246) (cB true) (.t 251))) [21, 26])]
def fg_f8_0 : Fg := ⟨[(1, some tI), (2, some tI), (8, none), (9, none), (11, none), (12, none), (13, some (.sl tyKeep)), (15, some tI), (73, some (.sl tI)), (74, some tI), (75, some tI), (87, some (.sl tyKeep)), (88, some tI), (89, some tI)], [(8, some tyItem), (9, some tyKeep), (12, some tyPolicy), (53, some tyDice), (55, none), (62, none), (65, none), (71, none), (5053, none), (5055, none), (5065, none), (10053, none), (10055, none), (10065, none), (15053, none), (15055, none), (15065, none)]⟩
def tb_f8_0 : TC := (.sq (.reg [(oP 90 (.bin false .lss (.t 89) (.t 88)))]) (.sq (.cd (.t 90) .sk (.fg ⟨[(1, some tI), (2, some tI), (8, none), (9, none), (11, none), (12, none), (13, none), (73, some (.sl tI)), (74, some tI), (75, some tI)], [(8, some tyItem), (9, some tyKeep), (12, some tyPolicy), (53, some tyDice), (55, none), (62, none), (65, none), (71, none), (5053, none), (5055, none), (5065, none), (10053, none), (10055, none), (10065, none), (15053, none), (15055, none), (15065, none)]⟩ (.ex 2))) (.sq (.bk 3 (.sq (.reg [(oP 91 (.ix 2 (.t 87) (.t 89))), (oM 92 (.ld true 2 (.t 91))), (oM 17 (.new [(.v (.int .i64 0)), (.v (.int .i64 0))])), (.mk none none (.m (.st 2 (.t 17) (.t 92))))]) (.sq (.reg [(oM 94 (.ld true 2 (.t 12))), (oV 95 13), (oV 96 15), (oP 97 (.fa 0 (.t 17))), (oL 98 97), (oP 99 (.fa 1 (.t 17))), (oL 100 99), (oC 101 38 [(.t 94), (.t 95), (.t 96), (.t 98), (.t 100)]), (oV 93 101), (oP 102 (.ext 0 (.t 93))), (oP 103 (.ext 1 (.t 93))), (oP 104 (.ext 2 (.t 93))), (oM 18 (.new [(.v (.int .i64 0)), (.v (.int .i64 0)), (.v (.int .i64 0))])), (.mk none none (.m (.st 3 (.t 18) (.t 102)))), (oV 19 103), (oV 20 104)]) (.sq (.reg [(oM 106 (.ld true 2 (.t 12))), (oV 107 13), (oV 108 15), (oP 109 (.fa 0 (.t 17))), (oL 110 109), (oP 111 (.fa 1 (.t 17))), (oL 112 111), (oC 113 42 [(.t 106), (.t 107), (.t 108), (.t 110), (.t 112)]), (oV 105 113), (oP 114 (.ext 0 (.t 105))), (oP 115 (.ext 1 (.t 105))), (oP 116 (.ext 2 (.t 105))), (oM 21 (.new [(.v (.int .i64 0)), (.v (.int .i64 0)), (.v (.int .i64 0))])), (.mk none none (.m (.st 3 (.t 21) (.t 114)))), (oV 22 115), (oV 23 116)]) (.sq (.reg [(oM 117 (.ld true 3 (.t 18))), (oM 118 (.ld true 3 (.t 21))), (oP 119 (.eqs true [0, 0, 0] (.t 117) (.t 118))), (oV 120 119), (oQ 121 120 false (.mv (.t 19))), (oQ 122 120 false (.mv (.t 22))), (oQ 123 120 false (.bin true .neq (.t 121) (.t 122))), (oP 124 (.pick (.t 120) (cB true) (.t 123))), (oV 125 124), (oQ 126 125 false (.mv (.t 20))), (oQ 127 125 false (.mv (.t 23))), (oQ 128 125 false (.bin false .neq (.t 126) (.t 127))), (oP 129 (.pick (.t 125) (cB true) (.t 128)))]) (.cd (.t 129) (.sq (.reg [(oP 10 (.mv (cB false)))]) (.fg ⟨[(10, some .bool)], []⟩ .rt)) .sk)))))) (.reg [(oP 130 (.bin false .add (.t 89) (cI 1))), (oV 89 130)]))))
def fg_f8_1 : Fg := ⟨[(1, some tI), (2, some tI), (8, none), (9, none), (11, none), (12, none), (13, some (.sl tyKeep)), (73, some (.sl tI)), (74, some tI), (75, some tI)], [(8, some tyItem), (9, some tyKeep), (12, some tyPolicy), (53, some tyDice), (55, none), (62, none), (65, none), (71, none), (5053, none), (5055, none), (5065, none), (10053, none), (10055, none), (10065, none), (15053, none), (15055, none), (15065, none)]⟩
def tb_f8_1 : TC := (.sq (.reg [(oP 76 (.bin false .lss (.t 75) (.t 74)))]) (.sq (.cd (.t 76) .sk (.fg ⟨[(1, some tI), (2, some tI), (8, none), (9, none), (11, none), (12, none), (13, none)], [(8, some tyItem), (9, some tyKeep), (12, some tyPolicy), (53, some tyDice), (55, none), (62, none), (65, none), (71, none), (5053, none), (5055, none), (5065, none), (10053, none), (10055, none), (10065, none), (15053, none), (15055, none), (15065, none)]⟩ (.ex 0))) (.sq (.bk 1 (.sq (.reg [(oP 77 (.ix 1 (.t 73) (.t 75))), (oL 78 77), (oV 15 78)]) (.sq (.reg [(oV 79 1), (oV 80 2), (oP 81 (.bd [(.v (.int .i64 0)), (.v (.int .i64 0))] [(0, 1, (.t 79)), (1, 1, (.t 80))])), (oV 82 1), (oC 83 41 [(.t 82), (cI 200)]), (oV 84 2), (oC 85 41 [(.t 84), (cI 300)]), (oP 86 (.bd [(.v (.int .i64 0)), (.v (.int .i64 0))] [(0, 1, (.t 83)), (1, 1, (.t 85))])), (oM 87 (.bs 71 2 2 [(.v (.int .i64 0)), (.v (.int .i64 0)), (.v (.int .i64 0)), (.v (.int .i64 0))] [(0, 2, (.t 81)), (2, 2, (.t 86))])), (oP 88 (.len false (.t 87))), (oP 89 (.mv (cI 0)))]) (.bk 2 (.lp 0 fg_f8_0 tb_f8_0))))) (.reg [(oP 131 (.bin false .add (.t 75) (cI 1))), (oV 75 131)]))))
def fg_f8_2 : Fg := ⟨[(1, some tI), (2, some tI), (9, none), (12, none), (13, some (.sl tyKeep)), (26, none), (136, some (.sl tyItem)), (137, some tI), (138, some tI), (187, some (.sl tI)), (188, some tI), (189, some tI)], [(9, some tyKeep), (12, some tyPolicy), (26, some tyItem), (55, none), (62, none), (65, none), (71, none), (5055, none), (5065, none), (10055, none), (10065, none), (15055, none), (15065, none)]⟩
def tb_f8_2 : TC := (.sq (.reg [(oP 190 (.bin false .lss (.t 189) (.t 188)))]) (.sq (.cd (.t 190) .sk (.fg ⟨[(1, some tI), (2, some tI), (9, none), (12, none), (13, none), (26, none), (136, some (.sl tyItem)), (137, some tI), (138, some tI)], [(9, some tyKeep), (12, some tyPolicy), (26, some tyItem), (55, none), (62, none), (65, none), (71, none), (5055, none), (5065, none), (10055, none), (10065, none), (15055, none), (15065, none)]⟩ (.ex 6))) (.sq (.bk 7 (.sq (.reg [(oP 191 (.ix 1 (.t 187) (.t 189))), (oL 192 191), (oV 36 192)]) (.sq (.reg [(oM 194 (.ld true 2 (.t 12))), (oM 195 (.ld true 5 (.t 26))), (oV 196 13), (oV 197 36), (oC 198 33 [(.t 194), (.t 195), (.t 196), (.t 197)]), (oV 193 198), (oP 199 (.ext 0 (.t 193))), (oP 200 (.ext 1 (.t 193))), (oV 37 199), (oV 38 200)]) (.sq (.reg [(oM 202 (.ld true 2 (.t 12))), (oM 203 (.ld true 5 (.t 26))), (oV 204 13), (oV 205 36), (oC 206 45 [(.t 202), (.t 203), (.t 204), (.t 205)]), (oV 201 206), (oP 207 (.ext 0 (.t 201))), (oP 208 (.ext 1 (.t 201))), (oV 39 207), (oV 40 208)]) (.sq (.reg [(oV 209 38), (oV 210 40), (oP 211 (.bin false .neq (.t 209) (.t 210))), (oV 212 211), (oQ 213 212 false (.mv (.t 37))), (oQ 214 212 false (.mv (.t 39))), (oG 215 212 false (.call 46 [(.t 213), (.t 214)])), (oQ 216 212 false (.nt (.t 215))), (oP 217 (.pick (.t 212) (cB true) (.t 216)))]) (.cd (.t 217) (.sq (.reg [(oP 10 (.mv (cB false)))]) (.fg ⟨[(10, some .bool)], []⟩ .rt)) .sk)))))) (.reg [(oP 218 (.bin false .add (.t 189) (cI 1))), (oV 189 218)]))))
def fg_f8_3 : Fg := ⟨[(1, some tI), (2, some tI), (9, none), (12, none), (13, some (.sl tyKeep)), (136, some (.sl tyItem)), (137, some tI), (138, some tI)], [(9, some tyKeep), (12, some tyPolicy), (55, none), (62, none), (65, none), (71, none), (5055, none), (5065, none), (10055, none), (10065, none), (15055, none), (15065, none)]⟩
def tb_f8_3 : TC := (.sq (.reg [(oP 139 (.bin false .lss (.t 138) (.t 137)))]) (.sq (.cd (.t 139) .sk (.fg ⟨[], []⟩ (.ex 4))) (.sq (.bk 5 (.sq (.reg [(oP 140 (.ix 5 (.t 136) (.t 138))), (oM 141 (.ld true 5 (.t 140))), (oM 26 (.new [(.v (.string (ByteArray.mk #[]))), (.v (.int .i64 0)), (.v (.int .i64 0)), (.v (.slice none 0 0)), (.v (.int .i64 0))])), (.mk none none (.m (.st 5 (.t 26) (.t 141))))]) (.sq (.reg [(oM 143 (.ld true 2 (.t 12))), (oM 144 (.ld true 5 (.t 26))), (oC 145 40 [(.t 143), (.t 144)]), (oV 142 145), (oP 146 (.ext 0 (.t 142))), (oP 147 (.ext 1 (.t 142))), (oV 27 146), (oV 28 147)]) (.sq (.reg [(oM 149 (.ld true 2 (.t 12))), (oM 150 (.ld true 5 (.t 26))), (oC 151 43 [(.t 149), (.t 150)]), (oV 148 151), (oP 152 (.ext 0 (.t 148))), (oP 153 (.ext 1 (.t 148))), (oV 29 152), (oV 30 153)]) (.sq (.reg [(oM 155 (.ld true 2 (.t 12))), (oM 156 (.ld true 5 (.t 26))), (oC 157 35 [(.t 155), (.t 156)]), (oV 154 157), (oP 158 (.ext 0 (.t 154))), (oP 159 (.ext 1 (.t 154))), (oV 31 158), (oV 32 159)]) (.sq (.reg [(oM 161 (.ld true 2 (.t 12))), (oM 162 (.ld true 5 (.t 26))), (oC 163 44 [(.t 161), (.t 162)]), (oV 160 163), (oP 164 (.ext 0 (.t 160))), (oP 165 (.ext 1 (.t 160))), (oV 33 164), (oV 34 165)]) (.sq (.sq (.reg [(oV 166 27), (oV 167 29), (oP 168 (.bin false .neq (.t 166) (.t 167))), (oV 169 168), (oQ 170 169 false (.mv (.t 28))), (oQ 171 169 false (.mv (.t 30))), (oQ 172 169 false (.bin false .neq (.t 170) (.t 171))), (oP 173 (.pick (.t 169) (cB true) (.t 172))), (oV 174 173), (oQ 175 174 false (.mv (.t 31))), (oQ 176 174 false (.mv (.t 33))), (oQ 177 174 false (.bin true .neq (.t 175) (.t 176))), (oP 178 (.pick (.t 174) (cB true) (.t 177))), (oV 179 178), (oQ 180 179 false (.mv (.t 32))), (oQ 181 179 false (.mv (.t 34))), (oQ 182 179 false (.bin false .neq (.t 180) (.t 181))), (oP 183 (.pick (.t 179) (cB true) (.t 182)))]) (.cd (.t 183) (.sq (.reg [(oP 10 (.mv (cB false)))]) (.fg ⟨[(10, some .bool)], []⟩ .rt)) .sk)) (.sq (.sq (.reg [(oV 184 1), (oV 185 1), (oC 186 41 [(.t 185), (cI 60)]), (oM 187 (.bs 3 1 2 [(.v (.int .i64 0)), (.v (.int .i64 0))] [(0, 1, (.t 184)), (1, 1, (.t 186))])), (oP 188 (.len false (.t 187))), (oP 189 (.mv (cI 0)))]) (.bk 6 (.lp 2 fg_f8_2 tb_f8_2))) (.sq (.reg [(oM 219 (.ld true 5 (.t 26))), (oM 220 (.ld true 2 (.t 9))), (oV 221 2), (oP 222 (.bd [(.v (.int .i64 0)), (.v (.int .i64 0)), (.v (.int .i64 0))] [(0, 2, (.t 220)), (2, 1, (.t 221))])), (oM 223 (.bs 62 3 1 [(.v (.int .i64 0)), (.v (.int .i64 0)), (.v (.int .i64 0))] [(0, 3, (.t 222))])), (oC 224 36 [(.t 219), (.t 223)]), (oM 41 (.new [(.v (.string (ByteArray.mk #[]))), (.v (.int .i64 0)), (.v (.int .i64 0)), (.v (.slice none 0 0)), (.v (.int .i64 0))])), (.mk none none (.m (.st 5 (.t 41) (.t 224))))]) (.sq (.dr dr_f8_0 [(0, [41]), (1, [41]), (2, []), (3, [26]), (4, [26]), (5, []), (6, []), (7, []), (8, []), (9, [41]), (10, [41]), (11, [26]), (12, [26]), (13, []), (14, []), (15, []), (16, [9]), (17, []), (18, []), (19, []), (20, []), (21, []), (22, [41]), (23, [41]), (24, [26]), (25, [26]), (26, []), (27, [])] (.of [0, 1, 2, 3, 4, 5, 6, 7, 8, 9, 10, 11, 12, 13, 14, 15, 16, 17, 18, 19, 20, 21, 22, 23, 24, 25, 26, 27])) (.cd (.t 252) (.sq (.reg [(oP 10 (.mv (cB false)))]) (.fg ⟨[(10, some .bool)], []⟩ .rt)) .sk))))))))))) (.reg [(oP 253 (.bin false .add (.t 138) (cI 1))), (oV 138 253)]))))
def tc_f8 : TC := (.sq (.reg [(oM 8 (.box (.t 3))), (oM 9 (.box (.t 4))), (oP 10 (.mv (cB false)))]) (.sq (.sq (.reg [(oV 42 0), (oC 43 9 [(.t 42)]), (oP 44 (.nt (.t 43))), (oV 45 44), (oQ 46 45 false (.fa 3 (.t 8))), (oG 47 45 false (.m (.ld false 1 (.t 46)))), (oQ 48 45 false (.len false (.t 47))), (oQ 49 45 false (.bin false .gtr (.t 48) (cI 20))), (oP 50 (.pick (.t 45) (cB true) (.t 49)))]) (.cd (.t 50) (.sq (.reg [(oC 51 30 []), (oV 10 51)]) .rt) .sk)) (.sq (.reg [(oV 52 0), (oC 53 11 [(.t 52)]), (oV 11 53)]) (.sq (.reg [(oV 54 11), (oC 55 31 [(.t 54)]), (oM 12 (.new [(.v (.slice none 0 0)), (.v (.slice none 0 0))])), (.mk none none (.m (.st 2 (.t 12) (.t 55))))]) (.sq (.sq (.reg [(oV 56 11), (oC 57 14 [(.t 56), (cI 8)])]) (.cd (.t 57) (.reg [(oP 58 (.fa 0 (.t 12))), (oL 59 58), (oP 60 (.bd [(.v (.bool false)), (.v (.int .i64 0)), (.v (.int .i64 0)), (.v (.int .i64 0)), (.v (.int .i64 0)), (.v (.int .i64 0))] [(1, 1, (cI 99))])), (oM 61 (.bs 38 6 1 [(.v (.bool false)), (.v (.int .i64 0)), (.v (.int .i64 0)), (.v (.int .i64 0)), (.v (.int .i64 0)), (.v (.int .i64 0))] [(0, 6, (.t 60))])), (oM 62 (.app 38 6 48 (.t 59) (.t 61))), (oP 63 (.fa 0 (.t 12))), (.mk none none (.m (.st 1 (.t 63) (.t 62))))]) .sk)) (.sq (.reg [(oV 64 11), (oC 65 34 [(.t 64)]), (oV 13 65)]) (.sq (.sq (.reg [(oV 66 11), (oC 67 14 [(.t 66), (cI 6)])]) (.cd (.t 67) (.reg [(oV 68 13), (oM 69 (.ld true 2 (.t 9))), (oM 70 (.bs 40 2 1 [(.v (.int .i64 0)), (.v (.int .i64 0))] [(0, 2, (.t 69))])), (oM 71 (.app 40 2 16 (.t 68) (.t 70))), (oV 13 71)]) .sk)) (.sq (.sq (.reg [(oV 72 1), (oM 73 (.bs 3 1 3 [(.v (.int .i64 0)), (.v (.int .i64 0)), (.v (.int .i64 0))] [(0, 1, (cI 2)), (1, 1, (.t 72)), (2, 1, (cI 1))])), (oP 74 (.len false (.t 73))), (oP 75 (.mv (cI 0)))]) (.bk 0 (.fz [55, 5055, 65] (.lp 1 fg_f8_1 tb_f8_1)))) (.sq (.reg [(oV 132 11), (oC 133 32 [(.t 132), (.c (.v (.string (ByteArray.mk #[100, 101, 101, 100]))))]), (oM 24 (.new [(.v (.string (ByteArray.mk #[]))), (.v (.int .i64 0)), (.v (.int .i64 0)), (.v (.slice none 0 0)), (.v (.int .i64 0))])), (.mk none none (.m (.st 5 (.t 24) (.t 133))))]) (.sq (.sq (.reg [(oM 134 (.ld true 5 (.t 24))), (oM 135 (.ld true 5 (.t 8))), (oM 136 (.bs 25 5 2 [(.v (.string (ByteArray.mk #[]))), (.v (.int .i64 0)), (.v (.int .i64 0)), (.v (.slice none 0 0)), (.v (.int .i64 0)), (.v (.string (ByteArray.mk #[]))), (.v (.int .i64 0)), (.v (.int .i64 0)), (.v (.slice none 0 0)), (.v (.int .i64 0))] [(0, 5, (.t 134)), (5, 5, (.t 135))])), (oP 137 (.len false (.t 136))), (oP 138 (.mv (cI 0)))]) (.bk 4 (.lp 3 fg_f8_3 tb_f8_3))) (.sq (.reg [(oC 254 30 []), (oV 10 254)]) .rt)))))))))))
def rv_f8 : List (RV × Option Ty) := [((.t 10), some .bool)]
abbrev sh_f8_0 : Sh := ⟨[(1, .ty tI), (2, .ty tI), (8, .ptr 8 0), (9, .ptr 9 0), (11, .ptr 53 0), (12, .ptr 12 0), (13, .ty (.sl tyKeep)), (15, .ty tI), (73, .ty (.sl tI)), (74, .ty tI), (75, .ty tI), (87, .ty (.sl tyKeep)), (88, .ty tI), (89, .ty tI)], [(8, .box tyItem), (9, .box tyKeep), (12, .box tyPolicy), (53, .box tyDice), (55, .no), (62, .no), (65, .no), (71, .no), (5053, .no), (5055, .no), (5065, .no), (10053, .no), (10055, .no), (10065, .no), (15053, .no), (15055, .no), (15065, .no)]⟩
def st_f8_0 (x1 : Int) (x2 : Int) (x13 : (List Keep)) (x15 : Int) (x73 : (List Int)) (x74 : Int) (x75 : Int) (x87 : (List Keep)) (x88 : Int) (x89 : Int) (y8 : Item) (y9 : Keep) (y12 : Policy) (y53 : Dice) : VS := sh_f8_0.st (x1, x2, (), (), (), (), x13, x15, x73, x74, x75, x87, x88, x89, ()) (y8, y9, y12, y53, (), (), (), (), (), (), (), (), (), (), (), (), (), ())
abbrev sh_f8_0_ret : Sh := ⟨[(10, .ty .bool)], []⟩
def st_f8_0_ret (x10 : Bool) : VS := sh_f8_0_ret.st (x10, ()) ()
abbrev sh_f8_0_e2 : Sh := ⟨[(1, .ty tI), (2, .ty tI), (8, .ptr 8 0), (9, .ptr 9 0), (11, .ptr 53 0), (12, .ptr 12 0), (13, .ty (.sl tyKeep)), (73, .ty (.sl tI)), (74, .ty tI), (75, .ty tI)], [(8, .box tyItem), (9, .box tyKeep), (12, .box tyPolicy), (53, .box tyDice), (55, .no), (62, .no), (65, .no), (71, .no), (5053, .no), (5055, .no), (5065, .no), (10053, .no), (10055, .no), (10065, .no), (15053, .no), (15055, .no), (15065, .no)]⟩
def st_f8_0_e2 (x1 : Int) (x2 : Int) (x13 : (List Keep)) (x73 : (List Int)) (x74 : Int) (x75 : Int) (y8 : Item) (y9 : Keep) (y12 : Policy) (y53 : Dice) : VS := sh_f8_0_e2.st (x1, x2, (), (), (), (), x13, x73, x74, x75, ()) (y8, y9, y12, y53, (), (), (), (), (), (), (), (), (), (), (), (), (), ())
-- loop 0: (x1 : Int) (x2 : Int) (x13 : (List Keep)) (x15 : Int) (x73 : (List Int)) (x74 : Int) (x75 : Int) (x87 : (List Keep)) (x88 : Int) (x89 : Int) (y8 : Item) (y9 : Keep) (y12 : Policy) (y53 : Dice); out: ('ret',) (x10 : Bool); ('exit', 2) (x1 : Int) (x2 : Int) (x13 : (List Keep)) (x73 : (List Int)) (x74 : Int) (x75 : Int) (y8 : Item) (y9 : Keep) (y12 : Policy) (y53 : Dice)
abbrev sh_f8_1 : Sh := ⟨[(1, .ty tI), (2, .ty tI), (8, .ptr 8 0), (9, .ptr 9 0), (11, .ptr 53 0), (12, .ptr 12 0), (13, .ty (.sl tyKeep)), (73, .ty (.sl tI)), (74, .ty tI), (75, .ty tI)], [(8, .box tyItem), (9, .box tyKeep), (12, .box tyPolicy), (53, .box tyDice), (55, .no), (62, .no), (65, .no), (71, .no), (5053, .no), (5055, .no), (5065, .no), (10053, .no), (10055, .no), (10065, .no), (15053, .no), (15055, .no), (15065, .no)]⟩
def st_f8_1 (x1 : Int) (x2 : Int) (x13 : (List Keep)) (x73 : (List Int)) (x74 : Int) (x75 : Int) (y8 : Item) (y9 : Keep) (y12 : Policy) (y53 : Dice) : VS := sh_f8_1.st (x1, x2, (), (), (), (), x13, x73, x74, x75, ()) (y8, y9, y12, y53, (), (), (), (), (), (), (), (), (), (), (), (), (), ())
abbrev sh_f8_1_e0 : Sh := ⟨[(1, .ty tI), (2, .ty tI), (8, .ptr 8 0), (9, .ptr 9 0), (11, .ptr 53 0), (12, .ptr 12 0), (13, .ty (.sl tyKeep))], [(8, .box tyItem), (9, .box tyKeep), (12, .box tyPolicy), (53, .box tyDice), (55, .no), (62, .no), (65, .no), (71, .no), (5053, .no), (5055, .no), (5065, .no), (10053, .no), (10055, .no), (10065, .no), (15053, .no), (15055, .no), (15065, .no)]⟩
def st_f8_1_e0 (x1 : Int) (x2 : Int) (x13 : (List Keep)) (y8 : Item) (y9 : Keep) (y12 : Policy) (y53 : Dice) : VS := sh_f8_1_e0.st (x1, x2, (), (), (), (), x13, ()) (y8, y9, y12, y53, (), (), (), (), (), (), (), (), (), (), (), (), (), ())
-- loop 1: (x1 : Int) (x2 : Int) (x13 : (List Keep)) (x73 : (List Int)) (x74 : Int) (x75 : Int) (y8 : Item) (y9 : Keep) (y12 : Policy) (y53 : Dice); out: ('exit', 0) (x1 : Int) (x2 : Int) (x13 : (List Keep)) (y8 : Item) (y9 : Keep) (y12 : Policy) (y53 : Dice)
abbrev sh_f8_2 : Sh := ⟨[(1, .ty tI), (2, .ty tI), (9, .ptr 9 0), (12, .ptr 12 0), (13, .ty (.sl tyKeep)), (26, .ptr 26 0), (136, .ty (.sl tyItem)), (137, .ty tI), (138, .ty tI), (187, .ty (.sl tI)), (188, .ty tI), (189, .ty tI)], [(9, .box tyKeep), (12, .box tyPolicy), (26, .box tyItem), (55, .no), (62, .no), (65, .no), (71, .no), (5055, .no), (5065, .no), (10055, .no), (10065, .no), (15055, .no), (15065, .no)]⟩
def st_f8_2 (x1 : Int) (x2 : Int) (x13 : (List Keep)) (x136 : (List Item)) (x137 : Int) (x138 : Int) (x187 : (List Int)) (x188 : Int) (x189 : Int) (y9 : Keep) (y12 : Policy) (y26 : Item) : VS := sh_f8_2.st (x1, x2, (), (), x13, (), x136, x137, x138, x187, x188, x189, ()) (y9, y12, y26, (), (), (), (), (), (), (), (), (), (), ())
abbrev sh_f8_2_ret : Sh := ⟨[(10, .ty .bool)], []⟩
def st_f8_2_ret (x10 : Bool) : VS := sh_f8_2_ret.st (x10, ()) ()
abbrev sh_f8_2_e6 : Sh := ⟨[(1, .ty tI), (2, .ty tI), (9, .ptr 9 0), (12, .ptr 12 0), (13, .ty (.sl tyKeep)), (26, .ptr 26 0), (136, .ty (.sl tyItem)), (137, .ty tI), (138, .ty tI)], [(9, .box tyKeep), (12, .box tyPolicy), (26, .box tyItem), (55, .no), (62, .no), (65, .no), (71, .no), (5055, .no), (5065, .no), (10055, .no), (10065, .no), (15055, .no), (15065, .no)]⟩
def st_f8_2_e6 (x1 : Int) (x2 : Int) (x13 : (List Keep)) (x136 : (List Item)) (x137 : Int) (x138 : Int) (y9 : Keep) (y12 : Policy) (y26 : Item) : VS := sh_f8_2_e6.st (x1, x2, (), (), x13, (), x136, x137, x138, ()) (y9, y12, y26, (), (), (), (), (), (), (), (), (), (), ())
-- loop 2: (x1 : Int) (x2 : Int) (x13 : (List Keep)) (x136 : (List Item)) (x137 : Int) (x138 : Int) (x187 : (List Int)) (x188 : Int) (x189 : Int) (y9 : Keep) (y12 : Policy) (y26 : Item); out: ('ret',) (x10 : Bool); ('exit', 6) (x1 : Int) (x2 : Int) (x13 : (List Keep)) (x136 : (List Item)) (x137 : Int) (x138 : Int) (y9 : Keep) (y12 : Policy) (y26 : Item)
abbrev sh_f8_3 : Sh := ⟨[(1, .ty tI), (2, .ty tI), (9, .ptr 9 0), (12, .ptr 12 0), (13, .ty (.sl tyKeep)), (136, .ty (.sl tyItem)), (137, .ty tI), (138, .ty tI)], [(9, .box tyKeep), (12, .box tyPolicy), (55, .no), (62, .no), (65, .no), (71, .no), (5055, .no), (5065, .no), (10055, .no), (10065, .no), (15055, .no), (15065, .no)]⟩
def st_f8_3 (x1 : Int) (x2 : Int) (x13 : (List Keep)) (x136 : (List Item)) (x137 : Int) (x138 : Int) (y9 : Keep) (y12 : Policy) : VS := sh_f8_3.st (x1, x2, (), (), x13, x136, x137, x138, ()) (y9, y12, (), (), (), (), (), (), (), (), (), (), ())
abbrev sh_f8_3_ret : Sh := ⟨[(10, .ty .bool)], []⟩
def st_f8_3_ret (x10 : Bool) : VS := sh_f8_3_ret.st (x10, ()) ()
abbrev sh_f8_3_e4 : Sh := ⟨[], []⟩
def st_f8_3_e4  : VS := sh_f8_3_e4.st () ()
-- loop 3: (x1 : Int) (x2 : Int) (x13 : (List Keep)) (x136 : (List Item)) (x137 : Int) (x138 : Int) (y9 : Keep) (y12 : Policy); out: ('ret',) (x10 : Bool); ('exit', 4)
def L_f8_0 : VS → Option (Bool × List (Bool × Exit × VS)) := mkL sh_f8_0 (fun x y => (BestOk y.2.2.1 x.2.2.2.2.2.2.1 0 0 0 && rngOk x.2.2.2.2.2.2.2.2.2.2.2.1 x.2.2.2.2.2.2.2.2.2.2.2.2.1 x.2.2.2.2.2.2.2.2.2.2.2.2.2.1)) (fun x y => [(true, .exit 2, st_f8_0_e2 (x.1) (x.2.1) (x.2.2.2.2.2.2.1) (x.2.2.2.2.2.2.2.2.1) (x.2.2.2.2.2.2.2.2.2.1) (x.2.2.2.2.2.2.2.2.2.2.1) (y.1) (y.2.1) (y.2.2.1) (y.2.2.2.1))])
def L_f8_1 : VS → Option (Bool × List (Bool × Exit × VS)) := mkL sh_f8_1 (fun x y => (BestOk y.2.2.1 x.2.2.2.2.2.2.1 0 0 0 && rngOk x.2.2.2.2.2.2.2.1 x.2.2.2.2.2.2.2.2.1 x.2.2.2.2.2.2.2.2.2.1)) (fun x y => [(true, .exit 0, st_f8_1_e0 (x.1) (x.2.1) (x.2.2.2.2.2.2.1) (y.1) (y.2.1) (y.2.2.1) (y.2.2.2.1))])
def L_f8_2 : VS → Option (Bool × List (Bool × Exit × VS)) := mkL sh_f8_2 (fun x y => (fineLen y.2.1 y.2.2.1 && lenOk5 x.2.2.2.2.1 && rngOk x.2.2.2.2.2.2.2.2.2.1 x.2.2.2.2.2.2.2.2.2.2.1 x.2.2.2.2.2.2.2.2.2.2.2.1)) (fun x y => [(true, .exit 6, st_f8_2_e6 (x.1) (x.2.1) (x.2.2.2.2.1) (x.2.2.2.2.2.2.1) (x.2.2.2.2.2.2.2.1) (x.2.2.2.2.2.2.2.2.1) (y.1) (y.2.1) (y.2.2.1))])
def L_f8_3 : VS → Option (Bool × List (Bool × Exit × VS)) := mkL sh_f8_3 (fun x y => (lenOk5 x.2.2.2.2.1 && polLen y.2.1 && x.2.2.2.2.2.1.all itB && rngOk x.2.2.2.2.2.1 x.2.2.2.2.2.2.1 x.2.2.2.2.2.2.2.1)) (fun x y => [(true, .exit 4, st_f8_3_e4)])
def g_f8 : G := ⟨TYs, [], 255, EL [(9, sp_f9), (11, sp_f11), (14, sp_f14), (30, sp_f30), (31, sp_f31), (32, sp_f32), (33, sp_f33), (34, sp_f34), (35, sp_f35), (36, sp_f36), (38, sp_f38), (40, sp_f40), (41, sp_f41), (42, sp_f42), (43, sp_f43), (44, sp_f44), (45, sp_f45), (46, sp_f46)], keeps, (Ls [L_f8_0, L_f8_1, L_f8_2, L_f8_3]), IL [], RL []⟩
def b_f8_0 (x1 : Int) (x2 : Int) (x13 : (List Keep)) (x15 : Int) (x73 : (List Int)) (x74 : Int) (x75 : Int) (x87 : (List Keep)) (x88 : Int) (x89 : Int) (y8 : Item) (y9 : Keep) (y12 : Policy) (y53 : Dice) : Option (Exit × VS) :=
 br ((ilt x89 x88))
  (br (cIx x87 x89)
   (br ((BestOk y12 x13 x15 ((lgt tyKeep x87 (Int.toNat x89)).1) (((lgt tyKeep x87 (Int.toNat x89)).2).1)))
    (br ((BestOk y12 x13 x15 ((lgt tyKeep x87 (Int.toNat x89)).1) (((lgt tyKeep x87 (Int.toNat x89)).2).1)))
     (br ((!(and (ieq ((((BestF y12 x13 x15 ((lgt tyKeep x87 (Int.toNat x89)).1) (((lgt tyKeep x87 (Int.toNat x89)).2).1)).1).1).1) ((((BestF y12 x13 x15 ((lgt tyKeep x87 (Int.toNat x89)).1) (((lgt tyKeep x87 (Int.toNat x89)).2).1)).1).1).1)) (and (ieq (((((BestF y12 x13 x15 ((lgt tyKeep x87 (Int.toNat x89)).1) (((lgt tyKeep x87 (Int.toNat x89)).2).1)).1).1).2).1) (((((BestF y12 x13 x15 ((lgt tyKeep x87 (Int.toNat x89)).1) (((lgt tyKeep x87 (Int.toNat x89)).2).1)).1).1).2).1)) (and (ieq ((((BestF y12 x13 x15 ((lgt tyKeep x87 (Int.toNat x89)).1) (((lgt tyKeep x87 (Int.toNat x89)).2).1)).1).2).1) ((((BestF y12 x13 x15 ((lgt tyKeep x87 (Int.toNat x89)).1) (((lgt tyKeep x87 (Int.toNat x89)).2).1)).1).2).1)) true)))))
      (some (.ret, st_f8_0_ret false))
      (br ((bneq (((BestF y12 x13 x15 ((lgt tyKeep x87 (Int.toNat x89)).1) (((lgt tyKeep x87 (Int.toNat x89)).2).1)).2).1) (((BestF y12 x13 x15 ((lgt tyKeep x87 (Int.toNat x89)).1) (((lgt tyKeep x87 (Int.toNat x89)).2).1)).2).1)))
       (some (.ret, st_f8_0_ret false))
       (br ((ine (((BestF y12 x13 x15 ((lgt tyKeep x87 (Int.toNat x89)).1) (((lgt tyKeep x87 (Int.toNat x89)).2).1)).2).2) (((BestF y12 x13 x15 ((lgt tyKeep x87 (Int.toNat x89)).1) (((lgt tyKeep x87 (Int.toNat x89)).2).1)).2).2)))
        (some (.ret, st_f8_0_ret false))
        (some (.normal, st_f8_0 x1 x2 x13 x15 x73 x74 x75 x87 x88 (iadd .i64 x89 1) y8 y9 y12 y53)))))
     (none))
    (none))
   (none))
  (some (.exit 2, st_f8_0_e2 x1 x2 x13 x73 x74 x75 y8 y9 y12 y53))
noncomputable def lp_f8_0 (x1 : Int) (x2 : Int) (x13 : (List Keep)) (x15 : Int) (x73 : (List Int)) (x74 : Int) (x75 : Int) (x87 : (List Keep)) (x88 : Int) (x89 : Int) (y8 : Item) (y9 : Keep) (y12 : Policy) (y53 : Dice) : Option (Exit × VS) := loopF (roundF g_f8 fg_f8_0 tb_f8_0) (st_f8_0 x1 x2 x13 x15 x73 x74 x75 x87 x88 x89 y8 y9 y12 y53)
noncomputable def n_f8_0 (x1 : Int) (x2 : Int) (x13 : (List Keep)) (x15 : Int) (x73 : (List Int)) (x74 : Int) (x75 : Int) (x87 : (List Keep)) (x88 : Int) (x89 : Int) (y8 : Item) (y9 : Keep) (y12 : Policy) (y53 : Dice) : Option (Exit × VS) :=
 br ((ilt x89 x88))
  (br (cIx x87 x89)
   (br ((BestOk y12 x13 x15 ((lgt tyKeep x87 (Int.toNat x89)).1) (((lgt tyKeep x87 (Int.toNat x89)).2).1)))
    (br ((BestOk y12 x13 x15 ((lgt tyKeep x87 (Int.toNat x89)).1) (((lgt tyKeep x87 (Int.toNat x89)).2).1)))
     (br ((!(and (ieq ((((BestF y12 x13 x15 ((lgt tyKeep x87 (Int.toNat x89)).1) (((lgt tyKeep x87 (Int.toNat x89)).2).1)).1).1).1) ((((BestF y12 x13 x15 ((lgt tyKeep x87 (Int.toNat x89)).1) (((lgt tyKeep x87 (Int.toNat x89)).2).1)).1).1).1)) (and (ieq (((((BestF y12 x13 x15 ((lgt tyKeep x87 (Int.toNat x89)).1) (((lgt tyKeep x87 (Int.toNat x89)).2).1)).1).1).2).1) (((((BestF y12 x13 x15 ((lgt tyKeep x87 (Int.toNat x89)).1) (((lgt tyKeep x87 (Int.toNat x89)).2).1)).1).1).2).1)) (and (ieq ((((BestF y12 x13 x15 ((lgt tyKeep x87 (Int.toNat x89)).1) (((lgt tyKeep x87 (Int.toNat x89)).2).1)).1).2).1) ((((BestF y12 x13 x15 ((lgt tyKeep x87 (Int.toNat x89)).1) (((lgt tyKeep x87 (Int.toNat x89)).2).1)).1).2).1)) true)))))
      (some (.ret, st_f8_0_ret false))
      (br ((bneq (((BestF y12 x13 x15 ((lgt tyKeep x87 (Int.toNat x89)).1) (((lgt tyKeep x87 (Int.toNat x89)).2).1)).2).1) (((BestF y12 x13 x15 ((lgt tyKeep x87 (Int.toNat x89)).1) (((lgt tyKeep x87 (Int.toNat x89)).2).1)).2).1)))
       (some (.ret, st_f8_0_ret false))
       (br ((ine (((BestF y12 x13 x15 ((lgt tyKeep x87 (Int.toNat x89)).1) (((lgt tyKeep x87 (Int.toNat x89)).2).1)).2).2) (((BestF y12 x13 x15 ((lgt tyKeep x87 (Int.toNat x89)).1) (((lgt tyKeep x87 (Int.toNat x89)).2).1)).2).2)))
        (some (.ret, st_f8_0_ret false))
        (lp_f8_0 x1 x2 x13 x15 x73 x74 x75 x87 x88 (iadd .i64 x89 1) y8 y9 y12 y53))))
     (none))
    (none))
   (none))
  (some (.exit 2, st_f8_0_e2 x1 x2 x13 x73 x74 x75 y8 y9 y12 y53))
def la_f8_0 (x1 : Int) (x2 : Int) (x13 : (List Keep)) (x15 : Int) (x73 : (List Int)) (x74 : Int) (x75 : Int) (x87 : (List Keep)) (x88 : Int) (x89 : Int) (y8 : Item) (y9 : Keep) (y12 : Policy) (y53 : Dice) : Option (Exit × VS) := some (.exit 2, st_f8_0_e2 (x1) (x2) (x13) (x73) (x74) (x75) (y8) (y9) (y12) (y53))
theorem be_f8_0 (x1 : Int) (x2 : Int) (x13 : (List Keep)) (x15 : Int) (x73 : (List Int)) (x74 : Int) (x75 : Int) (x87 : (List Keep)) (x88 : Int) (x89 : Int) (y8 : Item) (y9 : Keep) (y12 : Policy) (y53 : Dice) : roundF g_f8 fg_f8_0 tb_f8_0 (st_f8_0 x1 x2 x13 x15 x73 x74 x75 x87 x88 x89 y8 y9 y12 y53) = b_f8_0 x1 x2 x13 x15 x73 x74 x75 x87 x88 x89 y8 y9 y12 y53 := by kernel_rfl
theorem ln_f8_0 (x1 : Int) (x2 : Int) (x13 : (List Keep)) (x15 : Int) (x73 : (List Int)) (x74 : Int) (x75 : Int) (x87 : (List Keep)) (x88 : Int) (x89 : Int) (y8 : Item) (y9 : Keep) (y12 : Policy) (y53 : Dice) : lp_f8_0 x1 x2 x13 x15 x73 x74 x75 x87 x88 x89 y8 y9 y12 y53 = n_f8_0 x1 x2 x13 x15 x73 x74 x75 x87 x88 x89 y8 y9 y12 y53 := (loopF_nxt _ _).trans (by
 rw [be_f8_0]
 simp only [b_f8_0, n_f8_0, nxt_br, nxt_n, nxt_r, nxt_e, nxt_0]
 rfl)
def b_f8_1 (x1 : Int) (x2 : Int) (x13 : (List Keep)) (x73 : (List Int)) (x74 : Int) (x75 : Int) (y8 : Item) (y9 : Keep) (y12 : Policy) (y53 : Dice) : Option (Exit × VS) :=
 br ((ilt x75 x74))
  (br (cIx x73 x75)
   (br ((dmodOk x1 200))
    (br ((dmodOk x2 300))
     (br ((BestOk y12 x13 0 0 0 && rngOk ([(x1, (x2, ())), ((dmod x1 200), ((dmod x2 300), ()))]) (llen ([(x1, (x2, ())), ((dmod x1 200), ((dmod x2 300), ()))])) (0 : Int)))
      (some (.normal, st_f8_1 (x1) (x2) (x13) (x73) (x74) (iadd .i64 (x75) 1) (y8) (y9) (y12) (y53)))
      (none))
     (none))
    (none))
   (none))
  (some (.exit 0, st_f8_1_e0 x1 x2 x13 y8 y9 y12 y53))
noncomputable def lp_f8_1 (x1 : Int) (x2 : Int) (x13 : (List Keep)) (x73 : (List Int)) (x74 : Int) (x75 : Int) (y8 : Item) (y9 : Keep) (y12 : Policy) (y53 : Dice) : Option (Exit × VS) := loopF (roundF g_f8 fg_f8_1 tb_f8_1) (st_f8_1 x1 x2 x13 x73 x74 x75 y8 y9 y12 y53)
noncomputable def n_f8_1 (x1 : Int) (x2 : Int) (x13 : (List Keep)) (x73 : (List Int)) (x74 : Int) (x75 : Int) (y8 : Item) (y9 : Keep) (y12 : Policy) (y53 : Dice) : Option (Exit × VS) :=
 br ((ilt x75 x74))
  (br (cIx x73 x75)
   (br ((dmodOk x1 200))
    (br ((dmodOk x2 300))
     (br ((BestOk y12 x13 0 0 0 && rngOk ([(x1, (x2, ())), ((dmod x1 200), ((dmod x2 300), ()))]) (llen ([(x1, (x2, ())), ((dmod x1 200), ((dmod x2 300), ()))])) (0 : Int)))
      (lp_f8_1 (x1) (x2) (x13) (x73) (x74) (iadd .i64 (x75) 1) (y8) (y9) (y12) (y53))
      (none))
     (none))
    (none))
   (none))
  (some (.exit 0, st_f8_1_e0 x1 x2 x13 y8 y9 y12 y53))
def la_f8_1 (x1 : Int) (x2 : Int) (x13 : (List Keep)) (x73 : (List Int)) (x74 : Int) (x75 : Int) (y8 : Item) (y9 : Keep) (y12 : Policy) (y53 : Dice) : Option (Exit × VS) := some (.exit 0, st_f8_1_e0 (x1) (x2) (x13) (y8) (y9) (y12) (y53))
theorem be_f8_1 (x1 : Int) (x2 : Int) (x13 : (List Keep)) (x73 : (List Int)) (x74 : Int) (x75 : Int) (y8 : Item) (y9 : Keep) (y12 : Policy) (y53 : Dice) : roundF g_f8 fg_f8_1 tb_f8_1 (st_f8_1 x1 x2 x13 x73 x74 x75 y8 y9 y12 y53) = b_f8_1 x1 x2 x13 x73 x74 x75 y8 y9 y12 y53 := by kernel_rfl
theorem ln_f8_1 (x1 : Int) (x2 : Int) (x13 : (List Keep)) (x73 : (List Int)) (x74 : Int) (x75 : Int) (y8 : Item) (y9 : Keep) (y12 : Policy) (y53 : Dice) : lp_f8_1 x1 x2 x13 x73 x74 x75 y8 y9 y12 y53 = n_f8_1 x1 x2 x13 x73 x74 x75 y8 y9 y12 y53 := (loopF_nxt _ _).trans (by
 rw [be_f8_1]
 simp only [b_f8_1, n_f8_1, nxt_br, nxt_n, nxt_r, nxt_e, nxt_0]
 rfl)
def b_f8_2 (x1 : Int) (x2 : Int) (x13 : (List Keep)) (x136 : (List Item)) (x137 : Int) (x138 : Int) (x187 : (List Int)) (x188 : Int) (x189 : Int) (y9 : Keep) (y12 : Policy) (y26 : Item) : Option (Exit × VS) :=
 br ((ilt x189 x188))
  (br (cIx x187 x189)
   (br ((schOk y12 y26 x13 (lgt tI x187 (Int.toNat x189))))
    (br ((schOk2 y12 y26 x13 (lgt tI x187 (Int.toNat x189))))
     (br ((ine ((schF y12 y26 x13 (lgt tI x187 (Int.toNat x189))).2) ((schF y12 y26 x13 (lgt tI x187 (Int.toNat x189))).2)))
      (some (.ret, st_f8_2_ret false))
      (br ((sameKOk ((schF y12 y26 x13 (lgt tI x187 (Int.toNat x189))).1) ((schF y12 y26 x13 (lgt tI x187 (Int.toNat x189))).1)))
       (br ((!(sameK ((schF y12 y26 x13 (lgt tI x187 (Int.toNat x189))).1) ((schF y12 y26 x13 (lgt tI x187 (Int.toNat x189))).1))))
        (some (.ret, st_f8_2_ret false))
        (some (.normal, st_f8_2 x1 x2 x13 x136 x137 x138 x187 x188 (iadd .i64 x189 1) y9 y12 y26)))
       (none)))
     (none))
    (none))
   (none))
  (some (.exit 6, st_f8_2_e6 x1 x2 x13 x136 x137 x138 y9 y12 y26))
noncomputable def lp_f8_2 (x1 : Int) (x2 : Int) (x13 : (List Keep)) (x136 : (List Item)) (x137 : Int) (x138 : Int) (x187 : (List Int)) (x188 : Int) (x189 : Int) (y9 : Keep) (y12 : Policy) (y26 : Item) : Option (Exit × VS) := loopF (roundF g_f8 fg_f8_2 tb_f8_2) (st_f8_2 x1 x2 x13 x136 x137 x138 x187 x188 x189 y9 y12 y26)
noncomputable def n_f8_2 (x1 : Int) (x2 : Int) (x13 : (List Keep)) (x136 : (List Item)) (x137 : Int) (x138 : Int) (x187 : (List Int)) (x188 : Int) (x189 : Int) (y9 : Keep) (y12 : Policy) (y26 : Item) : Option (Exit × VS) :=
 br ((ilt x189 x188))
  (br (cIx x187 x189)
   (br ((schOk y12 y26 x13 (lgt tI x187 (Int.toNat x189))))
    (br ((schOk2 y12 y26 x13 (lgt tI x187 (Int.toNat x189))))
     (br ((ine ((schF y12 y26 x13 (lgt tI x187 (Int.toNat x189))).2) ((schF y12 y26 x13 (lgt tI x187 (Int.toNat x189))).2)))
      (some (.ret, st_f8_2_ret false))
      (br ((sameKOk ((schF y12 y26 x13 (lgt tI x187 (Int.toNat x189))).1) ((schF y12 y26 x13 (lgt tI x187 (Int.toNat x189))).1)))
       (br ((!(sameK ((schF y12 y26 x13 (lgt tI x187 (Int.toNat x189))).1) ((schF y12 y26 x13 (lgt tI x187 (Int.toNat x189))).1))))
        (some (.ret, st_f8_2_ret false))
        (lp_f8_2 x1 x2 x13 x136 x137 x138 x187 x188 (iadd .i64 x189 1) y9 y12 y26))
       (none)))
     (none))
    (none))
   (none))
  (some (.exit 6, st_f8_2_e6 x1 x2 x13 x136 x137 x138 y9 y12 y26))
def la_f8_2 (x1 : Int) (x2 : Int) (x13 : (List Keep)) (x136 : (List Item)) (x137 : Int) (x138 : Int) (x187 : (List Int)) (x188 : Int) (x189 : Int) (y9 : Keep) (y12 : Policy) (y26 : Item) : Option (Exit × VS) := some (.exit 6, st_f8_2_e6 (x1) (x2) (x13) (x136) (x137) (x138) (y9) (y12) (y26))
theorem be_f8_2 (x1 : Int) (x2 : Int) (x13 : (List Keep)) (x136 : (List Item)) (x137 : Int) (x138 : Int) (x187 : (List Int)) (x188 : Int) (x189 : Int) (y9 : Keep) (y12 : Policy) (y26 : Item) : roundF g_f8 fg_f8_2 tb_f8_2 (st_f8_2 x1 x2 x13 x136 x137 x138 x187 x188 x189 y9 y12 y26) = b_f8_2 x1 x2 x13 x136 x137 x138 x187 x188 x189 y9 y12 y26 := by kernel_rfl
theorem ln_f8_2 (x1 : Int) (x2 : Int) (x13 : (List Keep)) (x136 : (List Item)) (x137 : Int) (x138 : Int) (x187 : (List Int)) (x188 : Int) (x189 : Int) (y9 : Keep) (y12 : Policy) (y26 : Item) : lp_f8_2 x1 x2 x13 x136 x137 x138 x187 x188 x189 y9 y12 y26 = n_f8_2 x1 x2 x13 x136 x137 x138 x187 x188 x189 y9 y12 y26 := (loopF_nxt _ _).trans (by
 rw [be_f8_2]
 simp only [b_f8_2, n_f8_2, nxt_br, nxt_n, nxt_r, nxt_e, nxt_0]
 rfl)
def b_f8_3 (x1 : Int) (x2 : Int) (x13 : (List Keep)) (x136 : (List Item)) (x137 : Int) (x138 : Int) (y9 : Keep) (y12 : Policy) : Option (Exit × VS) :=
 br ((ilt x138 x137))
  (br (cIx x136 x138)
   (br ((fineLen y12 (lgt tyItem x136 (Int.toNat x138))))
    (br ((fineLen y12 (lgt tyItem x136 (Int.toNat x138))))
     (br ((fineLen y12 (lgt tyItem x136 (Int.toNat x138))))
      (br ((fineLen y12 (lgt tyItem x136 (Int.toNat x138))))
       (br ((ine ((ReachF y12 (lgt tyItem x136 (Int.toNat x138))).1) ((ReachF y12 (lgt tyItem x136 (Int.toNat x138))).1)))
        (some (.ret, st_f8_3_ret false))
        (br ((ine ((ReachF y12 (lgt tyItem x136 (Int.toNat x138))).2) ((ReachF y12 (lgt tyItem x136 (Int.toNat x138))).2)))
         (some (.ret, st_f8_3_ret false))
         (br ((bneq ((HoldsF y12 (lgt tyItem x136 (Int.toNat x138))).1) ((HoldsF y12 (lgt tyItem x136 (Int.toNat x138))).1)))
          (some (.ret, st_f8_3_ret false))
          (br ((ine ((HoldsF y12 (lgt tyItem x136 (Int.toNat x138))).2) ((HoldsF y12 (lgt tyItem x136 (Int.toNat x138))).2)))
           (some (.ret, st_f8_3_ret false))
           (br ((dmodOk x1 60))
            (br ((fineLen y12 (lgt tyItem x136 (Int.toNat x138)) && lenOk5 x13 && rngOk ([x1, (dmod x1 60)]) (llen ([x1, (dmod x1 60)])) (0 : Int)))
             (br ((applyOk ((lgt tyItem x136 (Int.toNat x138))) ([(((y9).1, (((y9).2).1, ())), ((x2), ()))])))
              (br ((ine (llen (((((applyF ((lgt tyItem x136 (Int.toNat x138))) ([(((y9).1, (((y9).2).1, ())), ((x2), ()))])).2).2).2).1)) (iadd .i64 (llen ((((((lgt tyItem x136 (Int.toNat x138))).2).2).2).1)) 1)))
               (some (.ret, st_f8_3_ret false))
               (br (cIx (((((applyF ((lgt tyItem x136 (Int.toNat x138))) ([(((y9).1, (((y9).2).1, ())), ((x2), ()))])).2).2).2).1) (llen ((((((lgt tyItem x136 (Int.toNat x138))).2).2).2).1)))
                (br ((!(and (ieq (((lgt tyLink (((((applyF ((lgt tyItem x136 (Int.toNat x138))) ([(((y9).1, (((y9).2).1, ())), ((x2), ()))])).2).2).2).1) (Int.toNat (llen ((((((lgt tyItem x136 (Int.toNat x138))).2).2).2).1)))).1).1) ((y9).1)) (and (ieq ((((lgt tyLink (((((applyF ((lgt tyItem x136 (Int.toNat x138))) ([(((y9).1, (((y9).2).1, ())), ((x2), ()))])).2).2).2).1) (Int.toNat (llen ((((((lgt tyItem x136 (Int.toNat x138))).2).2).2).1)))).1).2).1) (((y9).2).1)) (and (ieq (((lgt tyLink (((((applyF ((lgt tyItem x136 (Int.toNat x138))) ([(((y9).1, (((y9).2).1, ())), ((x2), ()))])).2).2).2).1) (Int.toNat (llen ((((((lgt tyItem x136 (Int.toNat x138))).2).2).2).1)))).2).1) (x2)) true)))))
                 (some (.ret, st_f8_3_ret false))
                 (br ((ine ((((((applyF ((lgt tyItem x136 (Int.toNat x138))) ([(((y9).1, (((y9).2).1, ())), ((x2), ()))])).2).2).2).2).1) (((((((lgt tyItem x136 (Int.toNat x138))).2).2).2).2).1)))
                  (some (.ret, st_f8_3_ret false))
                  (some (.normal, st_f8_3 (x1) (x2) (x13) (x136) (x137) (iadd .i64 (x138) 1) (y9) (y12)))))
                (none)))
              (none))
             (none))
            (none))))))
       (none))
      (none))
     (none))
    (none))
   (none))
  (some (.exit 4, st_f8_3_e4))
noncomputable def lp_f8_3 (x1 : Int) (x2 : Int) (x13 : (List Keep)) (x136 : (List Item)) (x137 : Int) (x138 : Int) (y9 : Keep) (y12 : Policy) : Option (Exit × VS) := loopF (roundF g_f8 fg_f8_3 tb_f8_3) (st_f8_3 x1 x2 x13 x136 x137 x138 y9 y12)
noncomputable def n_f8_3 (x1 : Int) (x2 : Int) (x13 : (List Keep)) (x136 : (List Item)) (x137 : Int) (x138 : Int) (y9 : Keep) (y12 : Policy) : Option (Exit × VS) :=
 br ((ilt x138 x137))
  (br (cIx x136 x138)
   (br ((fineLen y12 (lgt tyItem x136 (Int.toNat x138))))
    (br ((fineLen y12 (lgt tyItem x136 (Int.toNat x138))))
     (br ((fineLen y12 (lgt tyItem x136 (Int.toNat x138))))
      (br ((fineLen y12 (lgt tyItem x136 (Int.toNat x138))))
       (br ((ine ((ReachF y12 (lgt tyItem x136 (Int.toNat x138))).1) ((ReachF y12 (lgt tyItem x136 (Int.toNat x138))).1)))
        (some (.ret, st_f8_3_ret false))
        (br ((ine ((ReachF y12 (lgt tyItem x136 (Int.toNat x138))).2) ((ReachF y12 (lgt tyItem x136 (Int.toNat x138))).2)))
         (some (.ret, st_f8_3_ret false))
         (br ((bneq ((HoldsF y12 (lgt tyItem x136 (Int.toNat x138))).1) ((HoldsF y12 (lgt tyItem x136 (Int.toNat x138))).1)))
          (some (.ret, st_f8_3_ret false))
          (br ((ine ((HoldsF y12 (lgt tyItem x136 (Int.toNat x138))).2) ((HoldsF y12 (lgt tyItem x136 (Int.toNat x138))).2)))
           (some (.ret, st_f8_3_ret false))
           (br ((dmodOk x1 60))
            (br ((fineLen y12 (lgt tyItem x136 (Int.toNat x138)) && lenOk5 x13 && rngOk ([x1, (dmod x1 60)]) (llen ([x1, (dmod x1 60)])) (0 : Int)))
             (br ((applyOk ((lgt tyItem x136 (Int.toNat x138))) ([(((y9).1, (((y9).2).1, ())), ((x2), ()))])))
              (br ((ine (llen (((((applyF ((lgt tyItem x136 (Int.toNat x138))) ([(((y9).1, (((y9).2).1, ())), ((x2), ()))])).2).2).2).1)) (iadd .i64 (llen ((((((lgt tyItem x136 (Int.toNat x138))).2).2).2).1)) 1)))
               (some (.ret, st_f8_3_ret false))
               (br (cIx (((((applyF ((lgt tyItem x136 (Int.toNat x138))) ([(((y9).1, (((y9).2).1, ())), ((x2), ()))])).2).2).2).1) (llen ((((((lgt tyItem x136 (Int.toNat x138))).2).2).2).1)))
                (br ((!(and (ieq (((lgt tyLink (((((applyF ((lgt tyItem x136 (Int.toNat x138))) ([(((y9).1, (((y9).2).1, ())), ((x2), ()))])).2).2).2).1) (Int.toNat (llen ((((((lgt tyItem x136 (Int.toNat x138))).2).2).2).1)))).1).1) ((y9).1)) (and (ieq ((((lgt tyLink (((((applyF ((lgt tyItem x136 (Int.toNat x138))) ([(((y9).1, (((y9).2).1, ())), ((x2), ()))])).2).2).2).1) (Int.toNat (llen ((((((lgt tyItem x136 (Int.toNat x138))).2).2).2).1)))).1).2).1) (((y9).2).1)) (and (ieq (((lgt tyLink (((((applyF ((lgt tyItem x136 (Int.toNat x138))) ([(((y9).1, (((y9).2).1, ())), ((x2), ()))])).2).2).2).1) (Int.toNat (llen ((((((lgt tyItem x136 (Int.toNat x138))).2).2).2).1)))).2).1) (x2)) true)))))
                 (some (.ret, st_f8_3_ret false))
                 (br ((ine ((((((applyF ((lgt tyItem x136 (Int.toNat x138))) ([(((y9).1, (((y9).2).1, ())), ((x2), ()))])).2).2).2).2).1) (((((((lgt tyItem x136 (Int.toNat x138))).2).2).2).2).1)))
                  (some (.ret, st_f8_3_ret false))
                  (lp_f8_3 (x1) (x2) (x13) (x136) (x137) (iadd .i64 (x138) 1) (y9) (y12))))
                (none)))
              (none))
             (none))
            (none))))))
       (none))
      (none))
     (none))
    (none))
   (none))
  (some (.exit 4, st_f8_3_e4))
def la_f8_3 (x1 : Int) (x2 : Int) (x13 : (List Keep)) (x136 : (List Item)) (x137 : Int) (x138 : Int) (y9 : Keep) (y12 : Policy) : Option (Exit × VS) := some (.exit 4, st_f8_3_e4)
theorem be_f8_3 (x1 : Int) (x2 : Int) (x13 : (List Keep)) (x136 : (List Item)) (x137 : Int) (x138 : Int) (y9 : Keep) (y12 : Policy) : roundF g_f8 fg_f8_3 tb_f8_3 (st_f8_3 x1 x2 x13 x136 x137 x138 y9 y12) = b_f8_3 x1 x2 x13 x136 x137 x138 y9 y12 := by kernel_rfl
theorem ln_f8_3 (x1 : Int) (x2 : Int) (x13 : (List Keep)) (x136 : (List Item)) (x137 : Int) (x138 : Int) (y9 : Keep) (y12 : Policy) : lp_f8_3 x1 x2 x13 x136 x137 x138 y9 y12 = n_f8_3 x1 x2 x13 x136 x137 x138 y9 y12 := (loopF_nxt _ _).trans (by
 rw [be_f8_3]
 simp only [b_f8_3, n_f8_3, nxt_br, nxt_n, nxt_r, nxt_e, nxt_0]
 rfl)
def r_f8 (p0 : (List Int)) (p1 : Int) (p2 : Int) (p3 : Item) (p4 : Keep) : Option (V × List VO) :=
 br ((!(light p0)))
  (some (.t .bool awakeT35, []))
  (br ((igt (llen p3.2.2.2.1) 20))
   (some (.t .bool awakeT35, []))
   (br ((dOk (roll p0)))
    (br ((oneOk (polsN (roll p0)) 8))
     (br ((done (polsN (roll p0)) 8))
      (br (cApp ((polsV (roll p0)).1) ([(false, (99, (0, (0, (0, (0, ()))))))]) 48)
       (br ((dOk (dnext (polsN (roll p0)) 8)))
        (br ((oneOk (usesN (dnext (polsN (roll p0)) 8)) 6))
         (br ((done (usesN (dnext (polsN (roll p0)) 8)) 6))
          (br (cApp (usesV (dnext (polsN (roll p0)) 8)) ([(p4.1, (p4.2.1, ()))]) 16)
           (br ((BestOk ((((polsV (roll p0)).1) ++ ([(false, (99, (0, (0, (0, (0, ()))))))])), (((polsV (roll p0)).2).1, ())) ((usesV (dnext (polsN (roll p0)) 8)) ++ ([(p4.1, (p4.2.1, ()))])) 0 0 0 && rngOk ([2, p1, 1]) (llen ([2, p1, 1])) (0 : Int)))
            (br ((dOkS ((dnext (usesN (dnext (polsN (roll p0)) 8)) 6)) (ByteArray.mk #[100, 101, 101, 100])))
             (br ((lenOk5 (((usesV (dnext (polsN (roll p0)) 8)) ++ ([(p4.1, (p4.2.1, ()))]))) && polLen (((((polsV (roll p0)).1) ++ ([(false, (99, (0, (0, (0, (0, ()))))))])), (((polsV (roll p0)).2).1, ()))) && ([((itemV ((dnext (usesN (dnext (polsN (roll p0)) 8)) 6)) (ByteArray.mk #[100, 101, 101, 100])).1, (((itemV ((dnext (usesN (dnext (polsN (roll p0)) 8)) 6)) (ByteArray.mk #[100, 101, 101, 100])).2).1, ((((itemV ((dnext (usesN (dnext (polsN (roll p0)) 8)) 6)) (ByteArray.mk #[100, 101, 101, 100])).2).2).1, (((((itemV ((dnext (usesN (dnext (polsN (roll p0)) 8)) 6)) (ByteArray.mk #[100, 101, 101, 100])).2).2).2).1, ((((((itemV ((dnext (usesN (dnext (polsN (roll p0)) 8)) 6)) (ByteArray.mk #[100, 101, 101, 100])).2).2).2).2).1, ()))))), ((p3).1, (((p3).2).1, ((((p3).2).2).1, (((((p3).2).2).2).1, ((((((p3).2).2).2).2).1, ())))))]).all itB && rngOk ([((itemV ((dnext (usesN (dnext (polsN (roll p0)) 8)) 6)) (ByteArray.mk #[100, 101, 101, 100])).1, (((itemV ((dnext (usesN (dnext (polsN (roll p0)) 8)) 6)) (ByteArray.mk #[100, 101, 101, 100])).2).1, ((((itemV ((dnext (usesN (dnext (polsN (roll p0)) 8)) 6)) (ByteArray.mk #[100, 101, 101, 100])).2).2).1, (((((itemV ((dnext (usesN (dnext (polsN (roll p0)) 8)) 6)) (ByteArray.mk #[100, 101, 101, 100])).2).2).2).1, ((((((itemV ((dnext (usesN (dnext (polsN (roll p0)) 8)) 6)) (ByteArray.mk #[100, 101, 101, 100])).2).2).2).2).1, ()))))), ((p3).1, (((p3).2).1, ((((p3).2).2).1, (((((p3).2).2).2).1, ((((((p3).2).2).2).2).1, ())))))]) (llen ([((itemV ((dnext (usesN (dnext (polsN (roll p0)) 8)) 6)) (ByteArray.mk #[100, 101, 101, 100])).1, (((itemV ((dnext (usesN (dnext (polsN (roll p0)) 8)) 6)) (ByteArray.mk #[100, 101, 101, 100])).2).1, ((((itemV ((dnext (usesN (dnext (polsN (roll p0)) 8)) 6)) (ByteArray.mk #[100, 101, 101, 100])).2).2).1, (((((itemV ((dnext (usesN (dnext (polsN (roll p0)) 8)) 6)) (ByteArray.mk #[100, 101, 101, 100])).2).2).2).1, ((((((itemV ((dnext (usesN (dnext (polsN (roll p0)) 8)) 6)) (ByteArray.mk #[100, 101, 101, 100])).2).2).2).2).1, ()))))), ((p3).1, (((p3).2).1, ((((p3).2).2).1, (((((p3).2).2).2).1, ((((((p3).2).2).2).2).1, ())))))])) (0 : Int)))
              (some (.t .bool awakeT35, []))
              (none))
             (none))
            (none))
           (none))
          (br ((BestOk ((((polsV (roll p0)).1) ++ ([(false, (99, (0, (0, (0, (0, ()))))))])), (((polsV (roll p0)).2).1, ())) (usesV (dnext (polsN (roll p0)) 8)) 0 0 0 && rngOk ([2, p1, 1]) (llen ([2, p1, 1])) (0 : Int)))
           (br ((dOkS ((dnext (usesN (dnext (polsN (roll p0)) 8)) 6)) (ByteArray.mk #[100, 101, 101, 100])))
            (br ((lenOk5 ((usesV (dnext (polsN (roll p0)) 8))) && polLen (((((polsV (roll p0)).1) ++ ([(false, (99, (0, (0, (0, (0, ()))))))])), (((polsV (roll p0)).2).1, ()))) && ([((itemV ((dnext (usesN (dnext (polsN (roll p0)) 8)) 6)) (ByteArray.mk #[100, 101, 101, 100])).1, (((itemV ((dnext (usesN (dnext (polsN (roll p0)) 8)) 6)) (ByteArray.mk #[100, 101, 101, 100])).2).1, ((((itemV ((dnext (usesN (dnext (polsN (roll p0)) 8)) 6)) (ByteArray.mk #[100, 101, 101, 100])).2).2).1, (((((itemV ((dnext (usesN (dnext (polsN (roll p0)) 8)) 6)) (ByteArray.mk #[100, 101, 101, 100])).2).2).2).1, ((((((itemV ((dnext (usesN (dnext (polsN (roll p0)) 8)) 6)) (ByteArray.mk #[100, 101, 101, 100])).2).2).2).2).1, ()))))), ((p3).1, (((p3).2).1, ((((p3).2).2).1, (((((p3).2).2).2).1, ((((((p3).2).2).2).2).1, ())))))]).all itB && rngOk ([((itemV ((dnext (usesN (dnext (polsN (roll p0)) 8)) 6)) (ByteArray.mk #[100, 101, 101, 100])).1, (((itemV ((dnext (usesN (dnext (polsN (roll p0)) 8)) 6)) (ByteArray.mk #[100, 101, 101, 100])).2).1, ((((itemV ((dnext (usesN (dnext (polsN (roll p0)) 8)) 6)) (ByteArray.mk #[100, 101, 101, 100])).2).2).1, (((((itemV ((dnext (usesN (dnext (polsN (roll p0)) 8)) 6)) (ByteArray.mk #[100, 101, 101, 100])).2).2).2).1, ((((((itemV ((dnext (usesN (dnext (polsN (roll p0)) 8)) 6)) (ByteArray.mk #[100, 101, 101, 100])).2).2).2).2).1, ()))))), ((p3).1, (((p3).2).1, ((((p3).2).2).1, (((((p3).2).2).2).1, ((((((p3).2).2).2).2).1, ())))))]) (llen ([((itemV ((dnext (usesN (dnext (polsN (roll p0)) 8)) 6)) (ByteArray.mk #[100, 101, 101, 100])).1, (((itemV ((dnext (usesN (dnext (polsN (roll p0)) 8)) 6)) (ByteArray.mk #[100, 101, 101, 100])).2).1, ((((itemV ((dnext (usesN (dnext (polsN (roll p0)) 8)) 6)) (ByteArray.mk #[100, 101, 101, 100])).2).2).1, (((((itemV ((dnext (usesN (dnext (polsN (roll p0)) 8)) 6)) (ByteArray.mk #[100, 101, 101, 100])).2).2).2).1, ((((((itemV ((dnext (usesN (dnext (polsN (roll p0)) 8)) 6)) (ByteArray.mk #[100, 101, 101, 100])).2).2).2).2).1, ()))))), ((p3).1, (((p3).2).1, ((((p3).2).2).1, (((((p3).2).2).2).1, ((((((p3).2).2).2).2).1, ())))))])) (0 : Int)))
             (some (.t .bool awakeT35, []))
             (none))
            (none))
           (none)))
         (none))
        (none))
       (none))
      (br ((dOk (dnext (polsN (roll p0)) 8)))
       (br ((oneOk (usesN (dnext (polsN (roll p0)) 8)) 6))
        (br ((done (usesN (dnext (polsN (roll p0)) 8)) 6))
         (br (cApp (usesV (dnext (polsN (roll p0)) 8)) ([(p4.1, (p4.2.1, ()))]) 16)
          (br ((BestOk ((polsV (roll p0)).1, (((polsV (roll p0)).2).1, ())) ((usesV (dnext (polsN (roll p0)) 8)) ++ ([(p4.1, (p4.2.1, ()))])) 0 0 0 && rngOk ([2, p1, 1]) (llen ([2, p1, 1])) (0 : Int)))
           (br ((dOkS ((dnext (usesN (dnext (polsN (roll p0)) 8)) 6)) (ByteArray.mk #[100, 101, 101, 100])))
            (br ((lenOk5 (((usesV (dnext (polsN (roll p0)) 8)) ++ ([(p4.1, (p4.2.1, ()))]))) && polLen (((polsV (roll p0)).1, (((polsV (roll p0)).2).1, ()))) && ([((itemV ((dnext (usesN (dnext (polsN (roll p0)) 8)) 6)) (ByteArray.mk #[100, 101, 101, 100])).1, (((itemV ((dnext (usesN (dnext (polsN (roll p0)) 8)) 6)) (ByteArray.mk #[100, 101, 101, 100])).2).1, ((((itemV ((dnext (usesN (dnext (polsN (roll p0)) 8)) 6)) (ByteArray.mk #[100, 101, 101, 100])).2).2).1, (((((itemV ((dnext (usesN (dnext (polsN (roll p0)) 8)) 6)) (ByteArray.mk #[100, 101, 101, 100])).2).2).2).1, ((((((itemV ((dnext (usesN (dnext (polsN (roll p0)) 8)) 6)) (ByteArray.mk #[100, 101, 101, 100])).2).2).2).2).1, ()))))), ((p3).1, (((p3).2).1, ((((p3).2).2).1, (((((p3).2).2).2).1, ((((((p3).2).2).2).2).1, ())))))]).all itB && rngOk ([((itemV ((dnext (usesN (dnext (polsN (roll p0)) 8)) 6)) (ByteArray.mk #[100, 101, 101, 100])).1, (((itemV ((dnext (usesN (dnext (polsN (roll p0)) 8)) 6)) (ByteArray.mk #[100, 101, 101, 100])).2).1, ((((itemV ((dnext (usesN (dnext (polsN (roll p0)) 8)) 6)) (ByteArray.mk #[100, 101, 101, 100])).2).2).1, (((((itemV ((dnext (usesN (dnext (polsN (roll p0)) 8)) 6)) (ByteArray.mk #[100, 101, 101, 100])).2).2).2).1, ((((((itemV ((dnext (usesN (dnext (polsN (roll p0)) 8)) 6)) (ByteArray.mk #[100, 101, 101, 100])).2).2).2).2).1, ()))))), ((p3).1, (((p3).2).1, ((((p3).2).2).1, (((((p3).2).2).2).1, ((((((p3).2).2).2).2).1, ())))))]) (llen ([((itemV ((dnext (usesN (dnext (polsN (roll p0)) 8)) 6)) (ByteArray.mk #[100, 101, 101, 100])).1, (((itemV ((dnext (usesN (dnext (polsN (roll p0)) 8)) 6)) (ByteArray.mk #[100, 101, 101, 100])).2).1, ((((itemV ((dnext (usesN (dnext (polsN (roll p0)) 8)) 6)) (ByteArray.mk #[100, 101, 101, 100])).2).2).1, (((((itemV ((dnext (usesN (dnext (polsN (roll p0)) 8)) 6)) (ByteArray.mk #[100, 101, 101, 100])).2).2).2).1, ((((((itemV ((dnext (usesN (dnext (polsN (roll p0)) 8)) 6)) (ByteArray.mk #[100, 101, 101, 100])).2).2).2).2).1, ()))))), ((p3).1, (((p3).2).1, ((((p3).2).2).1, (((((p3).2).2).2).1, ((((((p3).2).2).2).2).1, ())))))])) (0 : Int)))
             (some (.t .bool awakeT35, []))
             (none))
            (none))
           (none))
          (none))
         (br ((BestOk ((polsV (roll p0)).1, (((polsV (roll p0)).2).1, ())) (usesV (dnext (polsN (roll p0)) 8)) 0 0 0 && rngOk ([2, p1, 1]) (llen ([2, p1, 1])) (0 : Int)))
          (br ((dOkS ((dnext (usesN (dnext (polsN (roll p0)) 8)) 6)) (ByteArray.mk #[100, 101, 101, 100])))
           (br ((lenOk5 ((usesV (dnext (polsN (roll p0)) 8))) && polLen (((polsV (roll p0)).1, (((polsV (roll p0)).2).1, ()))) && ([((itemV ((dnext (usesN (dnext (polsN (roll p0)) 8)) 6)) (ByteArray.mk #[100, 101, 101, 100])).1, (((itemV ((dnext (usesN (dnext (polsN (roll p0)) 8)) 6)) (ByteArray.mk #[100, 101, 101, 100])).2).1, ((((itemV ((dnext (usesN (dnext (polsN (roll p0)) 8)) 6)) (ByteArray.mk #[100, 101, 101, 100])).2).2).1, (((((itemV ((dnext (usesN (dnext (polsN (roll p0)) 8)) 6)) (ByteArray.mk #[100, 101, 101, 100])).2).2).2).1, ((((((itemV ((dnext (usesN (dnext (polsN (roll p0)) 8)) 6)) (ByteArray.mk #[100, 101, 101, 100])).2).2).2).2).1, ()))))), ((p3).1, (((p3).2).1, ((((p3).2).2).1, (((((p3).2).2).2).1, ((((((p3).2).2).2).2).1, ())))))]).all itB && rngOk ([((itemV ((dnext (usesN (dnext (polsN (roll p0)) 8)) 6)) (ByteArray.mk #[100, 101, 101, 100])).1, (((itemV ((dnext (usesN (dnext (polsN (roll p0)) 8)) 6)) (ByteArray.mk #[100, 101, 101, 100])).2).1, ((((itemV ((dnext (usesN (dnext (polsN (roll p0)) 8)) 6)) (ByteArray.mk #[100, 101, 101, 100])).2).2).1, (((((itemV ((dnext (usesN (dnext (polsN (roll p0)) 8)) 6)) (ByteArray.mk #[100, 101, 101, 100])).2).2).2).1, ((((((itemV ((dnext (usesN (dnext (polsN (roll p0)) 8)) 6)) (ByteArray.mk #[100, 101, 101, 100])).2).2).2).2).1, ()))))), ((p3).1, (((p3).2).1, ((((p3).2).2).1, (((((p3).2).2).2).1, ((((((p3).2).2).2).2).1, ())))))]) (llen ([((itemV ((dnext (usesN (dnext (polsN (roll p0)) 8)) 6)) (ByteArray.mk #[100, 101, 101, 100])).1, (((itemV ((dnext (usesN (dnext (polsN (roll p0)) 8)) 6)) (ByteArray.mk #[100, 101, 101, 100])).2).1, ((((itemV ((dnext (usesN (dnext (polsN (roll p0)) 8)) 6)) (ByteArray.mk #[100, 101, 101, 100])).2).2).1, (((((itemV ((dnext (usesN (dnext (polsN (roll p0)) 8)) 6)) (ByteArray.mk #[100, 101, 101, 100])).2).2).2).1, ((((((itemV ((dnext (usesN (dnext (polsN (roll p0)) 8)) 6)) (ByteArray.mk #[100, 101, 101, 100])).2).2).2).2).1, ()))))), ((p3).1, (((p3).2).1, ((((p3).2).2).1, (((((p3).2).2).2).1, ((((((p3).2).2).2).2).1, ())))))])) (0 : Int)))
            (some (.t .bool awakeT35, []))
            (none))
           (none))
          (none)))
        (none))
       (none)))
     (none))
    (none)))
theorem e_f8 (p0 : (List Int)) (p1 : Int) (p2 : Int) (p3 : Item) (p4 : Keep) : runF g_f8 tc_f8 rv_f8 false [.t (.sl tI) p0, .t tI p1, .t tI p2, .t tyItem p3, .t tyKeep p4] [] = r_f8 p0 p1 p2 p3 p4 := by kernel_rfl
theorem ok_f8 : Option.map (trC Tryz.prog) Tryz.f8.body = some tc_f8.er := by kernel_rfl
theorem rok_f8 : trVs Tryz.prog Tryz.f8.results.toList = some (rv_f8.map Prod.fst) := by kernel_rfl
theorem gk_f8 : GOk Tryz.prog g_f8 := gok_of _ (by
 intro p hp
 simp only [List.mem_cons, List.not_mem_nil, or_false] at hp
 rcases hp with rfl | rfl | rfl | rfl | rfl | rfl | rfl | rfl | rfl | rfl | rfl | rfl | rfl | rfl | rfl | rfl | rfl | rfl
 ·exact ⟨en_f9, ms_f9⟩
 ·exact ⟨en_f11, ms_f11⟩
 ·exact ⟨en_f14, ms_f14⟩
 ·exact ⟨en_f30, ms_f30⟩
 ·exact ⟨en_f31, ms_f31⟩
 ·exact ⟨en_f32, ms_f32⟩
 ·exact ⟨en_f33, ms_f33⟩
 ·exact ⟨en_f34, ms_f34⟩
 ·exact ⟨en_f35, ms_f35⟩
 ·exact ⟨en_f36, ms_f36⟩
 ·exact ⟨en_f38, ms_f38⟩
 ·exact ⟨en_f40, ms_f40⟩
 ·exact ⟨en_f41, ms_f41⟩
 ·exact ⟨en_f42, ms_f42⟩
 ·exact ⟨en_f43, ms_f43⟩
 ·exact ⟨en_f44, ms_f44⟩
 ·exact ⟨en_f45, ms_f45⟩
 ·exact ⟨en_f46, ms_f46⟩)
theorem l_f8_0 (x1 : Int) (x2 : Int) (x13 : (List Keep)) (x15 : Int) (x73 : (List Int)) (x74 : Int) (x75 : Int) (x87 : (List Keep)) (x88 : Int) (x89 : Int) (y8 : Item) (y9 : Keep) (y12 : Policy) (y53 : Dice) (h : (BestOk y12 x13 0 0 0 && rngOk x87 x88 x89) = true) : lp_f8_0 x1 x2 x13 x15 x73 x74 x75 x87 x88 x89 y8 y9 y12 y53 = la_f8_0 x1 x2 x13 x15 x73 x74 x75 x87 x88 x89 y8 y9 y12 y53 := by
 rw [Bool.and_eq_true] at h
 obtain ⟨hb, hr⟩ := h
 obtain ⟨rfl, h3, k, rfl, hk⟩ := rng_k hr
 clear hr
 have hb2 : ∀ p a b, BestOk y12 x13 p a b = true := fun _ _ _ => hb
 refine range_ind x87 (fun k => lp_f8_0 x1 x2 x13 x15 x73 x74 x75 x87 (x87.length : Int) (k : Int) y8 y9 y12 y53 = la_f8_0 x1 x2 x13 x15 x73 x74 x75 x87 (x87.length : Int) (k : Int) y8 y9 y12 y53) ?_ ?_ k hk
 ·rw [ln_f8_0]
  simp [n_f8_0, la_f8_0, ilt_nat, br_false]
 ·intro k hk ih
  rw [ln_f8_0]
  simp only [n_f8_0, ilt_nat, cIx_nat, hk, decide_true, br_true, Int.toNat_natCast, hb2, eq_three, beq_self_eq_true, Bool.not_true, br_false, bneq_selfR, ine_selfR, add1 (show k < 4611686018427387904 by omega), ih]
  rfl
theorem l_f8_1 (x1 : Int) (x2 : Int) (x13 : (List Keep)) (x73 : (List Int)) (x74 : Int) (x75 : Int) (y8 : Item) (y9 : Keep) (y12 : Policy) (y53 : Dice) (h : (BestOk y12 x13 0 0 0 && rngOk x73 x74 x75) = true) : lp_f8_1 x1 x2 x13 x73 x74 x75 y8 y9 y12 y53 = la_f8_1 x1 x2 x13 x73 x74 x75 y8 y9 y12 y53 := by
 rw [Bool.and_eq_true] at h
 obtain ⟨hb, hr⟩ := h
 obtain ⟨rfl, h3, k, rfl, hk⟩ := rng_k hr
 clear hr
 refine range_ind x73 (fun k => lp_f8_1 x1 x2 x13 x73 (x73.length : Int) (k : Int) y8 y9 y12 y53 = la_f8_1 x1 x2 x13 x73 (x73.length : Int) (k : Int) y8 y9 y12 y53) ?_ ?_ k hk
 ·rw [ln_f8_1]
  simp [n_f8_1, la_f8_1, ilt_nat, br_false]
 ·intro k hk ih
  rw [ln_f8_1]
  have hr2 : ∀ a b : Keep, rngOk [a, b] (llen [a, b]) 0 = true := fun a b => rng_0 (by simp)
  simp only [n_f8_1, ilt_nat, cIx_nat, hk, decide_true, br_true, hb, hr2, Bool.and_self, show dmodOk x1 200 = true from rfl, show dmodOk x2 300 = true from rfl, add1 (show k < 4611686018427387904 by omega), ih]
  rfl
theorem l_f8_2 (x1 : Int) (x2 : Int) (x13 : (List Keep)) (x136 : (List Item)) (x137 : Int) (x138 : Int) (x187 : (List Int)) (x188 : Int) (x189 : Int) (y9 : Keep) (y12 : Policy) (y26 : Item) (h : (fineLen y12 y26 && lenOk5 x13 && rngOk x187 x188 x189) = true) : lp_f8_2 x1 x2 x13 x136 x137 x138 x187 x188 x189 y9 y12 y26 = la_f8_2 x1 x2 x13 x136 x137 x138 x187 x188 x189 y9 y12 y26 := by
 rw [Bool.and_eq_true, Bool.and_eq_true] at h
 obtain ⟨⟨hf, hl⟩, hr⟩ := h
 obtain ⟨rfl, h3, k, rfl, hk⟩ := rng_k hr
 clear hr
 have hs1 : ∀ n, schOk y12 y26 x13 n = true := fun n => by unfold schOk; rw [hf, hl]; rfl
 have hs2 : ∀ n, schOk2 y12 y26 x13 n = true := fun n => by unfold schOk2; rw [hf, hl]; rfl
 refine range_ind x187 (fun k => lp_f8_2 x1 x2 x13 x136 x137 x138 x187 (x187.length : Int) (k : Int) y9 y12 y26 = la_f8_2 x1 x2 x13 x136 x137 x138 x187 (x187.length : Int) (k : Int) y9 y12 y26) ?_ ?_ k hk
 ·rw [ln_f8_2]
  simp [n_f8_2, la_f8_2, ilt_nat, br_false]
 ·intro k hk ih
  rw [ln_f8_2]
  simp only [n_f8_2, ilt_nat, cIx_nat, hk, decide_true, br_true, hs1, hs2, ine_selfR, br_false, schF_len, sameK_self, Bool.not_true, add1 (show k < 4611686018427387904 by omega), ih]
  rfl
theorem lgt_last (l : List Link) (x : Link) : lgt tyLink (l ++ [x]) (Int.toNat (llen l)) = x := by
 unfold llen
 rw [Int.toNat_natCast, lgt_get (y := tyLink) (by simp), List.getElem_append_right (Nat.le_refl _)]
 simp
theorem l_f8_3 (x1 : Int) (x2 : Int) (x13 : (List Keep)) (x136 : (List Item)) (x137 : Int) (x138 : Int) (y9 : Keep) (y12 : Policy) (h : (lenOk5 x13 && polLen y12 && x136.all itB && rngOk x136 x137 x138) = true) : lp_f8_3 x1 x2 x13 x136 x137 x138 y9 y12 = la_f8_3 x1 x2 x13 x136 x137 x138 y9 y12 := by
 rw [Bool.and_eq_true, Bool.and_eq_true, Bool.and_eq_true] at h
 obtain ⟨⟨⟨hl, hp⟩, ha⟩, hr⟩ := h
 obtain ⟨rfl, h3, k, rfl, hk⟩ := rng_k hr
 clear hr
 refine range_ind x136 (fun k => lp_f8_3 x1 x2 x13 x136 (x136.length : Int) (k : Int) y9 y12 = la_f8_3 x1 x2 x13 x136 (x136.length : Int) (k : Int) y9 y12) ?_ ?_ k hk
 ·rw [ln_f8_3]
  simp [n_f8_3, la_f8_3, ilt_nat, br_false]
 ·intro k hk ih
  rw [ln_f8_3]
  have hx := List.all_eq_true.1 ha x136[k] (List.getElem_mem hk)
  unfold itB at hx
  rw [Bool.and_eq_true, decide_eq_true_eq] at hx
  have hg := lgt_get (y := tyItem) hk
  simp only [n_f8_3, ilt_nat, cIx_nat, hk, decide_true, br_true, Int.toNat_natCast, hg]
  generalize x136[k] = X at hx
  have f : fineLen y12 X = true := by unfold fineLen; rw [hp, hx.1]; rfl
  have hr2 : ∀ a b : Int, rngOk [a, b] (llen [a, b]) 0 = true := fun a b => rng_0 (by simp)
  have c1 : ∀ l : Link, applyOk X [l] = true := fun l => by
   unfold applyOk lenOk5
   rw [Bool.and_eq_true]
   exact ⟨decide_eq_true (by omega), decide_eq_true (by simp)⟩
  have c2 : ∀ l : Link, ine (llen (applyF X [l]).2.2.2.1) (iadd .i64 (llen X.2.2.2.1) 1) = false := fun l => by
   have : llen (applyF X [l]).2.2.2.1 = llen X.2.2.2.1 + 1 := by
    show (((X.2.2.2.1 ++ [l]).length : Nat) : Int) = ((X.2.2.2.1.length : Nat) : Int) + 1
    rw [List.length_append, List.length_singleton]
    omega
   rw [this, iadd_in (by unfold llen; omega)]
   exact ine_selfR _
  have c3 : ∀ l : Link, cIx (applyF X [l]).2.2.2.1 (llen X.2.2.2.1) = true := fun l => by
   show cIx (X.2.2.2.1 ++ [l]) ((X.2.2.2.1.length : Nat) : Int) = true
   rw [cIx_nat]
   exact decide_eq_true (by simp)
  have c4 : ∀ l : Link, lgt tyLink (applyF X [l]).2.2.2.1 (Int.toNat (llen X.2.2.2.1)) = l := fun l => lgt_last _ _
  have c3b : ∀ l : Link, decide (List.length X.2.2.2.1 < (applyF X [l]).2.2.2.1.length) = true := fun l => decide_eq_true (by show X.2.2.2.1.length < (X.2.2.2.1 ++ [l]).length; simp)
  have c4b : ∀ l : Link, lgt tyLink (applyF X [l]).2.2.2.1 (List.length X.2.2.2.1) = l := fun l => lgt_last _ _
  have c5 : ∀ l : Link, ine (applyF X [l]).2.2.2.2.1 X.2.2.2.2.1 = false := fun l => ine_selfR _
  have c6 : ∀ a : Int, ieq a a = true := fun a => by simp [ieq]
  simp only [f, hl, hr2, c1, c2, c3, c4, c3b, c4b, c5, c6, ine_selfR, bneq_selfR, br_true, br_false, Bool.and_self, Bool.not_true, show dmodOk x1 60 = true from rfl, add1 (show k < 4611686018427387904 by omega), ih]
  rfl
theorem lo_f8_0 : ∀ S l p, g_f8.L 0 (fgt fg_f8_0 S) = some (true, l) → pickA l = some p → loopF (roundF g_f8 fg_f8_0 tb_f8_0) S = some p :=
 lok_of (s := sh_f8_0) ⟨by decide, by decide⟩ (by kernel_rfl) fun x y hok p hp => by
 simp only [pickA_br, pickA_one] at hp
 exact (l_f8_0 x.1 x.2.1 x.2.2.2.2.2.2.1 x.2.2.2.2.2.2.2.1 x.2.2.2.2.2.2.2.2.1 x.2.2.2.2.2.2.2.2.2.1 x.2.2.2.2.2.2.2.2.2.2.1 x.2.2.2.2.2.2.2.2.2.2.2.1 x.2.2.2.2.2.2.2.2.2.2.2.2.1 x.2.2.2.2.2.2.2.2.2.2.2.2.2.1 y.1 y.2.1 y.2.2.1 y.2.2.2.1 (by simpa using hok)).trans hp
theorem lo_f8_1 : ∀ S l p, g_f8.L 1 (fgt fg_f8_1 S) = some (true, l) → pickA l = some p → loopF (roundF g_f8 fg_f8_1 tb_f8_1) S = some p :=
 lok_of (s := sh_f8_1) ⟨by decide, by decide⟩ (by kernel_rfl) fun x y hok p hp => by
 simp only [pickA_br, pickA_one] at hp
 exact (l_f8_1 x.1 x.2.1 x.2.2.2.2.2.2.1 x.2.2.2.2.2.2.2.1 x.2.2.2.2.2.2.2.2.1 x.2.2.2.2.2.2.2.2.2.1 y.1 y.2.1 y.2.2.1 y.2.2.2.1 (by simpa using hok)).trans hp
theorem lo_f8_2 : ∀ S l p, g_f8.L 2 (fgt fg_f8_2 S) = some (true, l) → pickA l = some p → loopF (roundF g_f8 fg_f8_2 tb_f8_2) S = some p :=
 lok_of (s := sh_f8_2) ⟨by decide, by decide⟩ (by kernel_rfl) fun x y hok p hp => by
 simp only [pickA_br, pickA_one] at hp
 exact (l_f8_2 x.1 x.2.1 x.2.2.2.2.1 x.2.2.2.2.2.2.1 x.2.2.2.2.2.2.2.1 x.2.2.2.2.2.2.2.2.1 x.2.2.2.2.2.2.2.2.2.1 x.2.2.2.2.2.2.2.2.2.2.1 x.2.2.2.2.2.2.2.2.2.2.2.1 y.1 y.2.1 y.2.2.1 (by simpa using hok)).trans hp
theorem lo_f8_3 : ∀ S l p, g_f8.L 3 (fgt fg_f8_3 S) = some (true, l) → pickA l = some p → loopF (roundF g_f8 fg_f8_3 tb_f8_3) S = some p :=
 lok_of (s := sh_f8_3) ⟨by decide, by decide⟩ (by kernel_rfl) fun x y hok p hp => by
 simp only [pickA_br, pickA_one] at hp
 exact (l_f8_3 x.1 x.2.1 x.2.2.2.2.1 x.2.2.2.2.2.1 x.2.2.2.2.2.2.1 x.2.2.2.2.2.2.2.1 y.1 y.2.1 (by simpa using hok)).trans hp
theorem lk_f8 : tc_f8.lok g_f8 := by
 repeat (first | exact trivial | exact lo_f8_0 | exact lo_f8_1 | exact lo_f8_2 | exact lo_f8_3 | refine ⟨?_, ?_⟩)
theorem s_f8 (p0 : List Int) (p1 p2 : Int) (p3 : Item) (p4 : Keep) (h : laOk p0 p1 p2 p3 p4 = true) : r_f8 p0 p1 p2 p3 p4 = some (.t .bool (lawAll35 p0 p1 p2 p3 p4), []) := by
 have h : nameOk p3.1 = true := h
 simp only [r_f8]
 refine br_intro (fun _ => rfl) (fun g1 => br_intro (fun _ => rfl) (fun g2 => ?_))
 simp only [igt, llen, decide_eq_false_iff_not] at g2
 have hd := not_light g1
 obtain ⟨hp, hl1, hl2, hN⟩ := pols_ok hd
 have hE : dOk (dnext (polsN (roll p0)) 8) = true := dOk_next hN
 have hU := dOk_uses hE
 have hV : dOk (dnext (usesN (dnext (polsN (roll p0)) 8)) 6) = true := dOk_next hU
 have o8 : oneOk (polsN (roll p0)) 8 = true := by simp [oneOk, nextOk, hN]
 have o6 : oneOk (usesN (dnext (polsN (roll p0)) 8)) 6 = true := by simp [oneOk, nextOk, hU]
 have c1 : ∀ r : Rule, cApp (polsV (roll p0)).1 [r] 48 = true := fun r => cApp_ok (by simp; omega) (by omega)
 have hul := uses_len (dnext (polsN (roll p0)) 8)
 have c2 : ∀ u : Keep, cApp (usesV (dnext (polsN (roll p0)) 8)) [u] 16 = true := fun u => cApp_ok (by simp; omega) (by omega)
 have l1 : lenOk5 (usesV (dnext (polsN (roll p0)) 8)) = true := decide_eq_true (by omega)
 have l2 : ∀ u : Keep, lenOk5 (usesV (dnext (polsN (roll p0)) 8) ++ [u]) = true := fun u => decide_eq_true (by rw [List.length_append, List.length_singleton]; omega)
 have q1 : polLen ((polsV (roll p0)).1, ((polsV (roll p0)).2.1, ())) = true := (pol_len hp).1
 have q2 : ∀ r : Rule, polLen ((polsV (roll p0)).1 ++ [r], ((polsV (roll p0)).2.1, ())) = true := fun r => by
  unfold polLen lenOk5
  rw [Bool.and_eq_true]
  exact ⟨decide_eq_true (by simp; omega), decide_eq_true (by simp; omega)⟩
 have hI : ((itemV (dnext (usesN (dnext (polsN (roll p0)) 8)) 6) (ByteArray.mk #[100, 101, 101, 100]))).2.2.2.1.length ≤ 3 := (itLk_len _).2
 have hit : ([itemV (dnext (usesN (dnext (polsN (roll p0)) 8)) 6) (ByteArray.mk #[100, 101, 101, 100]), p3] : List Item).all itB = true := by
  have a1 : itB (itemV (dnext (usesN (dnext (polsN (roll p0)) 8)) 6) (ByteArray.mk #[100, 101, 101, 100])) = true := by
   unfold itB
   rw [Bool.and_eq_true]
   exact ⟨rfl, decide_eq_true (by omega)⟩
  have a2 : itB p3 = true := by
   unfold itB
   rw [Bool.and_eq_true]
   exact ⟨h, decide_eq_true (by omega)⟩
  rw [List.all_cons, a1, List.all_cons, a2]
  rfl
 have r2 : ∀ a b : Item, rngOk [a, b] (llen [a, b]) 0 = true := fun a b => rng_0 (by simp)
 have r3 : ∀ a b c : Int, rngOk [a, b, c] (llen [a, b, c]) 0 = true := fun a b c => rng_0 (by simp)
 have b1 : BestOk ((polsV (roll p0)).1, ((polsV (roll p0)).2.1, ())) (usesV (dnext (polsN (roll p0)) 8)) 0 0 0 = true := by unfold BestOk; rw [q1, l1]; rfl
 have b2 : ∀ u, BestOk ((polsV (roll p0)).1, ((polsV (roll p0)).2.1, ())) (usesV (dnext (polsN (roll p0)) 8) ++ [u]) 0 0 0 = true := fun u => by unfold BestOk; rw [q1, l2]; rfl
 have b3 : ∀ r, BestOk ((polsV (roll p0)).1 ++ [r], ((polsV (roll p0)).2.1, ())) (usesV (dnext (polsN (roll p0)) 8)) 0 0 0 = true := fun r => by unfold BestOk; rw [q2, l1]; rfl
 have b4 : ∀ r u, BestOk ((polsV (roll p0)).1 ++ [r], ((polsV (roll p0)).2.1, ())) (usesV (dnext (polsN (roll p0)) 8) ++ [u]) 0 0 0 = true := fun r u => by unfold BestOk; rw [q2, l2]; rfl
 have ds : dOkS (dnext (usesN (dnext (polsN (roll p0)) 8)) 6) (ByteArray.mk #[100, 101, 101, 100]) = true := hV
 simp only [hd, hN, hE, hU, o8, o6, c1, c2, l1, l2, q1, q2, b1, b2, b3, b4, hit, r2, r3, ds, br_true, Bool.and_self]
 cases done (polsN (roll p0)) 8 <;> cases done (usesN (dnext (polsN (roll p0)) 8)) 6 <;> rfl
def sp_f8 : Ent := spec (.pr (.sl tI) (.pr tI (.pr tI (.pr tyItem (.pr tyKeep .nil))))) (fun x => (laOk x.1 x.2.1 x.2.2.1 x.2.2.2.1 x.2.2.2.2.1)) (fun x => (.t .bool (lawAll35 x.1 x.2.1 x.2.2.1 x.2.2.2.1 x.2.2.2.2.1)))
theorem ms_f8 : Meets Tryz.prog 8 (strip sp_f8) := by
 obtain ⟨c, hc, hi⟩ := Option.map_eq_some_iff.1 ok_f8
 exact meets_spec (R := runF g_f8 tc_f8 rv_f8 false) (meets_of (by decide) Tryz.func8 hc hi Tryz.ntmps8 rok_f8 gk_f8 lk_f8 mixed) fun x hok => (e_f8 x.1 x.2.1 x.2.2.1 x.2.2.2.1 x.2.2.2.2.1).trans (s_f8 x.1 x.2.1 x.2.2.1 x.2.2.2.1 x.2.2.2.2.1 hok)
theorem okw_RenewalAll (z0 : List Int) (z1 z2 : Int) (z3 : Item) (z4 : Keep) (w0 : Ty.wf (.sl (.int .i64)) z0) (w1 : Ty.wf (.int .i64) z1) (w2 : Ty.wf (.int .i64) z2) (w3 : Ty.wf tyItem z3) (w4 : Ty.wf tyKeep z4) : laOk z0 z1 z2 z3 z4 = true := decide_eq_true w3.1
end
theorem walkRenewalAll (z0 : (List Int)) (z1 : Int) (z2 : Int) (z3 : Item) (z4 : Keep) (W : World) (v0 : Value) (v1 : Value) (v2 : Value) (v3 : Value) (v4 : Value) (c0 : C noX W (fun _ => .no) (V.t (.sl tI) z0).d v0) (c1 : C noX W (fun _ => .no) (V.t tI z1).d v1) (c2 : C noX W (fun _ => .no) (V.t tI z2).d v2) (c3 : C noX W (fun _ => .no) (V.t tyItem z3).d v3) (c4 : C noX W (fun _ => .no) (V.t tyKeep z4).d v4) (w0 : Ty.wf (.sl tI) z0) (w1 : Ty.wf tI z1) (w2 : Ty.wf tI z2) (w3 : Ty.wf tyItem z3) (w4 : Ty.wf tyKeep z4) :
  Calls Tryz.prog 8 #[v0, v1, v2, v3, v4] W fun r w' => r = .returned (.bool true) ∧ Below W.heap.size W w' :=
 calls_true (by decide) ms_f8 (args := [.t (.sl tI) z0, .t tI z1, .t tI z2, .t tyItem z3, .t tyKeep z4]) (strip_spec (x := (z0, z1, z2, z3, z4, ())) rfl (okw_RenewalAll z0 z1 z2 z3 z4 w0 w1 w2 w3 w4)) (by simp only [V.ds, Cs]; exact ⟨_, _, rfl, c0, _, _, rfl, c1, _, _, rfl, c2, _, _, rfl, c3, _, _, rfl, c4, rfl⟩)
end Go.Proofs.YtfehjdaielifiaaGreat.K
