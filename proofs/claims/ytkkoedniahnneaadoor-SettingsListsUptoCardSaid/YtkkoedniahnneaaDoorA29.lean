/-
 Get, Sections and Set as words: the answer's; Sections of the program.
-/
import Derived.Test.YtkkoedniahnneaaDoorA27
import Derived.Test.YtkkoedniahnneaaDoorA26
import Derived.Test.YtkkoedniahnneaaDoorKX
set_option linter.unusedSimpArgs false
set_option linter.unusedVariables false
namespace Go.Proofs.YtkkoedniahnneaaDoor.K
open Go.RowKit
noncomputable section
def cP (p : Prop) : Bool := @decide p (Classical.propDecidable _)
theorem cP_of {p : Prop} (h : cP p = true) : p := @of_decide_eq_true _ (Classical.propDecidable _) h
theorem cP_in {p : Prop} (h : p) : cP p = true := @decide_eq_true _ (Classical.propDecidable _) h
def hitI (l : List Setting) (a b : ByteArray) (i : Int) : Option Setting := hitP (fun x => isSN x a b) (l.take (i + 1).toNat)
def fg_f46_0 : Fg := ⟨[(0, some (.sl tySetting)), (1, some .str), (2, some .str), (8, some tI)], []⟩
def tb_f46_0 : TC := (.sq (.sq (.reg [(oV 12 8), (oP 13 (.bin false .geq (.t 12) (cI 0)))]) (.cd (.t 13) .sk (.fg ⟨[], []⟩ (.ex 0)))) (.sq (.bk 1 (.sq (.reg [(oV 16 0), (oV 17 8), (oP 18 (.ix 4 (.t 16) (.t 17))), (oP 19 (.fa 0 (.t 18))), (oL 20 19), (oV 21 1), (oP 22 (.bin false .eql (.t 20) (.t 21))), (oV 23 22), (oQ 24 23 true (.mv (.t 0))), (oQ 25 23 true (.mv (.t 8))), (oQ 26 23 true (.ix 4 (.t 24) (.t 25))), (oQ 27 23 true (.fa 1 (.t 26))), (oG 28 23 true (.m (.ld false 1 (.t 27)))), (oQ 29 23 true (.mv (.t 2))), (oQ 30 23 true (.bin false .eql (.t 28) (.t 29))), (oP 31 (.pick (.t 23) (.t 30) (cB false)))]) (.cd (.t 31) (.sq (.reg [(oV 32 0), (oV 33 8), (oP 34 (.ix 4 (.t 32) (.t 33))), (oP 35 (.fa 2 (.t 34))), (oL 36 35), (oV 6 36), (oP 7 (.mv (cB true)))]) (.fg ⟨[(6, some .str), (7, some .bool)], []⟩ .rt)) .sk))) (.reg [(oV 14 8), (oP 15 (.bin false .sub (.t 14) (cI 1))), (oV 8 15)])))
def tc_f46 : TC := (.sq (.reg [(oP 6 (.mv (.c (.v (.string (ByteArray.mk #[])))))), (oP 7 (.mv (cB false)))]) (.sq (.sq (.reg [(oV 9 0), (oP 10 (.len false (.t 9))), (oP 11 (.bin false .sub (.t 10) (cI 1))), (oV 8 11)]) (.bk 0 (.lp 0 fg_f46_0 tb_f46_0))) (.sq (.reg [(oP 6 (.mv (.c (.v (.string (ByteArray.mk #[])))))), (oP 7 (.mv (cB false)))]) .rt)))
def rv_f46 : List (RV × Option Ty) := [((.t 6), some .str), ((.t 7), some .bool)]
abbrev sh_f46_0 : Sh := ⟨[(0, .ty (.sl tySetting)), (1, .ty .str), (2, .ty .str), (8, .ty tI)], []⟩
def st_f46_0 (x0 : (List Setting)) (x1 : ByteArray) (x2 : ByteArray) (x8 : Int) : VS := sh_f46_0.st (x0, x1, x2, x8, ()) ()
abbrev sh_f46_0_ret : Sh := ⟨[(6, .ty .str), (7, .ty .bool)], []⟩
def st_f46_0_ret (x6 : ByteArray) (x7 : Bool) : VS := sh_f46_0_ret.st (x6, x7, ()) ()
abbrev sh_f46_0_e0 : Sh := ⟨[], []⟩
def st_f46_0_e0  : VS := sh_f46_0_e0.st () ()
-- loop 0: (x0 : (List Setting)) (x1 : ByteArray) (x2 : ByteArray) (x8 : Int); out: ('ret',) (x6 : ByteArray) (x7 : Bool); ('exit', 0)
def L_f46_0 : VS → Option (Bool × List (Bool × Exit × VS)) := mkL sh_f46_0 (fun x y => (cP (-1 ≤ x.2.2.2.1 ∧ x.2.2.2.1 < x.1.length ∧ x.1.length ≤ 100000))) (fun x y => [(((hitI x.1 x.2.1 x.2.2.1 x.2.2.2.1).isSome), .ret, st_f46_0_ret (((hitI x.1 x.2.1 x.2.2.1 x.2.2.2.1).getD zSet).2.2.1) (true)), (true, .exit 0, st_f46_0_e0)])
def g_f46 : G := ⟨TYs, [], 37, EL [], keeps, (Ls [L_f46_0]), IL [], RL []⟩
def b_f46_0 (x0 : (List Setting)) (x1 : ByteArray) (x2 : ByteArray) (x8 : Int) : Option (Exit × VS) :=
 br ((ige x8 0))
  (br (cIx x0 x8)
   (br ((seq ((lgt tySetting x0 (Int.toNat x8)).1) x1))
    (br (cIx x0 x8)
     (br ((seq (((lgt tySetting x0 (Int.toNat x8)).2).1) x2))
      (br (cIx x0 x8)
       (some (.ret, st_f46_0_ret ((((lgt tySetting x0 (Int.toNat x8)).2).2).1) true))
       (none))
      (some (.normal, st_f46_0 x0 x1 x2 (isub .i64 x8 1))))
     (none))
    (some (.normal, st_f46_0 x0 x1 x2 (isub .i64 x8 1))))
   (none))
  (some (.exit 0, st_f46_0_e0))
noncomputable def lp_f46_0 (x0 : (List Setting)) (x1 : ByteArray) (x2 : ByteArray) (x8 : Int) : Option (Exit × VS) := loopF (roundF g_f46 fg_f46_0 tb_f46_0) (st_f46_0 x0 x1 x2 x8)
noncomputable def n_f46_0 (x0 : (List Setting)) (x1 : ByteArray) (x2 : ByteArray) (x8 : Int) : Option (Exit × VS) :=
 br ((ige x8 0))
  (br (cIx x0 x8)
   (br ((seq ((lgt tySetting x0 (Int.toNat x8)).1) x1))
    (br (cIx x0 x8)
     (br ((seq (((lgt tySetting x0 (Int.toNat x8)).2).1) x2))
      (br (cIx x0 x8)
       (some (.ret, st_f46_0_ret ((((lgt tySetting x0 (Int.toNat x8)).2).2).1) true))
       (none))
      (lp_f46_0 x0 x1 x2 (isub .i64 x8 1)))
     (none))
    (lp_f46_0 x0 x1 x2 (isub .i64 x8 1)))
   (none))
  (some (.exit 0, st_f46_0_e0))
def la_f46_0 (x0 : (List Setting)) (x1 : ByteArray) (x2 : ByteArray) (x8 : Int) : Option (Exit × VS) := br ((hitI x0 x1 x2 x8).isSome) (some (.ret, st_f46_0_ret (((hitI x0 x1 x2 x8).getD zSet).2.2.1) (true))) <| some (.exit 0, st_f46_0_e0)
theorem be_f46_0 (x0 : (List Setting)) (x1 : ByteArray) (x2 : ByteArray) (x8 : Int) : roundF g_f46 fg_f46_0 tb_f46_0 (st_f46_0 x0 x1 x2 x8) = b_f46_0 x0 x1 x2 x8 := by kernel_rfl
theorem ln_f46_0 (x0 : (List Setting)) (x1 : ByteArray) (x2 : ByteArray) (x8 : Int) : lp_f46_0 x0 x1 x2 x8 = n_f46_0 x0 x1 x2 x8 := (loopF_nxt _ _).trans (by
 rw [be_f46_0]
 simp only [b_f46_0, n_f46_0, nxt_br, nxt_n, nxt_r, nxt_e, nxt_0]
 rfl)
def r_f46 (p0 : (List Setting)) (p1 : ByteArray) (p2 : ByteArray) : Option (V × List VO) :=
 br ((cP (-1 ≤ (isub .i64 (llen p0) 1) ∧ (isub .i64 (llen p0) 1) < p0.length ∧ p0.length ≤ 100000)))
  (br (((hitI p0 p1 p2 (isub .i64 (llen p0) 1)).isSome))
   (some (.tu [(.t .str (((hitI p0 p1 p2 (isub .i64 (llen p0) 1)).getD zSet).2.2.1)), (.t .bool (true))], []))
   (some (.tu [(.t .str (ByteArray.mk #[])), (.t .bool false)], [])))
  (none)
theorem e_f46 (p0 : (List Setting)) (p1 : ByteArray) (p2 : ByteArray) : runF g_f46 tc_f46 rv_f46 false [.t (.sl tySetting) p0, .t .str p1, .t .str p2] [] = r_f46 p0 p1 p2 := by kernel_rfl
theorem ok_f46 : Option.map (trC Tryd.prog) Tryd.f46.body = some tc_f46.er := by kernel_rfl
theorem rok_f46 : trVs Tryd.prog Tryd.f46.results.toList = some (rv_f46.map Prod.fst) := by kernel_rfl
theorem en_f46 : Entered Tryd.prog 46 := .inr ⟨by decide, _, Tryd.func46, by kernel_rfl, by kernel_rfl⟩
theorem gk_f46 : GOk Tryd.prog g_f46 := gok_of _ (fun p hp => by cases hp)
theorem get_tree {β : Type} (a b : Bool) (L R : Option β) : br a (br b L R) R = br (a && b) L R := by cases a <;> cases b <;> rfl
theorem l_f46_0 (x0 : (List Setting)) (x1 : ByteArray) (x2 : ByteArray) (x8 : Int) (h : (cP (-1 ≤ x8 ∧ x8 < x0.length ∧ x0.length ≤ 100000)) = true) : lp_f46_0 x0 x1 x2 x8 = la_f46_0 x0 x1 x2 x8 := by
 obtain ⟨h1, h2, h3⟩ := cP_of h
 clear h
 obtain ⟨n, hn⟩ : ∃ n : Nat, x8 + 1 = (n : Int) := ⟨(x8 + 1).toNat, by omega⟩
 induction n generalizing x8 with
 | zero =>
  rw [ln_f46_0]
  have e : ige x8 0 = false := decide_eq_false (by omega)
  have e2 : hitI x0 x1 x2 x8 = none := by
   unfold hitI
   rw [hn]
   rfl
  simp only [n_f46_0, la_f46_0, e, e2, br_false, Option.isSome_none]
 | succ n ih =>
  obtain rfl : x8 = (n : Int) := by omega
  have hk : n < x0.length := by omega
  rw [ln_f46_0]
  have e : ige (n : Int) 0 = true := decide_eq_true (by omega)
  have e1 : isub .i64 (n : Int) 1 = (n : Int) - 1 := isub_in (by omega)
  have e2 : hitI x0 x1 x2 (n : Int) = if isSN x0[n] x1 x2 then some x0[n] else hitI x0 x1 x2 ((n : Int) - 1) := by
   unfold hitI
   rw [show ((n : Int) + 1).toNat = n + 1 by omega, show ((n : Int) - 1 + 1).toNat = n by omega, take_snoc (List.getElem?_eq_getElem hk), hitP_snoc]
  have ih := ih ((n : Int) - 1) (by omega) (by omega) (by omega)
  simp only [n_f46_0, e, cIx_nat, hk, decide_true, br_true, Int.toNat_natCast, lgt_get (y := tySetting) hk, e1, ih]
  rw [get_tree]
  show br (isSN x0[n] x1 x2) _ _ = _
  unfold la_f46_0
  rw [e2]
  cases isSN x0[n] x1 x2 <;> rfl
theorem lo_f46_0 : ∀ S l p, g_f46.L 0 (fgt fg_f46_0 S) = some (true, l) → pickA l = some p → loopF (roundF g_f46 fg_f46_0 tb_f46_0) S = some p :=
 lok_of (s := sh_f46_0) ⟨by decide, by decide⟩ (by kernel_rfl) fun x y hok p hp => by
 simp only [pickA_br, pickA_one] at hp
 exact (l_f46_0 x.1 x.2.1 x.2.2.1 x.2.2.2.1 (by simpa using hok)).trans hp
theorem lk_f46 : tc_f46.lok g_f46 := by
 repeat (first | exact trivial | exact lo_f46_0 | refine ⟨?_, ?_⟩)
theorem s_f46 (l : List Setting) (a b : ByteArray) (h : getOk l a b = true) : r_f46 l a b = some (.tu [.t .str (getF l a b).1, .t .bool (getF l a b).2], []) := by
 have h : l.length ≤ 100000 := of_decide_eq_true h
 have e1 : isub .i64 (llen l) 1 = (l.length : Int) - 1 := isub_in (by simp only [llen]; omega)
 unfold r_f46
 rw [e1]
 refine brY (cP_in ⟨by omega, by omega, h⟩) ?_
 rw [getF_hit]
 have e2 : hitI l a b ((l.length : Int) - 1) = hitP (fun x => isSN x a b) l := by
  unfold hitI
  rw [show ((l.length : Int) - 1 + 1).toNat = l.length by omega, List.take_length]
 rw [e2]
 cases hitP (fun x => isSN x a b) l <;> rfl
def sp_f46 : Ent := spec (.pr (.sl tySetting) (.pr .str (.pr .str .nil))) (fun x => (getOk x.1 x.2.1 x.2.2.1)) (fun x => (.tu [(.t .str ((getF x.1 x.2.1 x.2.2.1).1)), (.t .bool ((getF x.1 x.2.1 x.2.2.1).2))]))
theorem ms_f46 : Meets Tryd.prog 46 (strip sp_f46) := by
 obtain ⟨c, hc, hi⟩ := Option.map_eq_some_iff.1 ok_f46
 exact meets_spec (R := runF g_f46 tc_f46 rv_f46 false) (meets_of (by decide) Tryd.func46 hc hi Tryd.ntmps46 rok_f46 gk_f46 lk_f46 mixed) fun x hok => (e_f46 x.1 x.2.1 x.2.2.1).trans (s_f46 x.1 x.2.1 x.2.2.1 hok)
def secH (out : List ByteArray) (a : ByteArray) : Bool := out.any fun y => seq y a
def secZ : List ByteArray → List Setting → List ByteArray
 | out, [] => out
 | out, x :: l => secZ (bif secH out x.1 then out else out ++ [x.1]) l
def secF (l : List Setting) : List ByteArray := secZ [] l
theorem secZ_len : ∀ (l : List Setting) (out : List ByteArray), (secZ out l).length ≤ out.length + l.length
 | [], _ => Nat.le_refl _
 | x :: l, out => by
  have := secZ_len l (bif secH out x.1 then out else out ++ [x.1])
  unfold secZ
  cases h : secH out x.1 with
  | true => rw [h, cond_true] at this; rw [cond_true, List.length_cons]; omega
  | false => rw [h, cond_false, List.length_append, List.length_singleton] at this; rw [cond_false, List.length_cons]; omega
theorem secZ_app : ∀ (a b : List Setting) (out : List ByteArray), secZ out (a ++ b) = secZ (secZ out a) b
 | [], _, _ => rfl
 | x :: a, b, out => secZ_app a b _
theorem secZ_has : ∀ (l : List Setting) (out : List ByteArray) (a : ByteArray), secH (secZ out l) a = (secH out a || l.any fun y => seq y.1 a)
 | [], _, _ => by simp [secZ]
 | x :: l, out, a => by
  unfold secZ
  rw [secZ_has l _ a, List.any_cons, ← Bool.or_assoc]
  congr 1
  cases h : secH out x.1 with
  | true =>
   rw [cond_true]
   cases hx : seq x.1 a with
   | false => rw [Bool.or_false]
   | true => rw [← seq_iff'.1 hx, h]; rfl
  | false =>
   rw [cond_false]
   unfold secH
   rw [List.any_append, List.any_cons, List.any_nil, Bool.or_false]
def secOk (l : List Setting) : Bool := decide (l.length ≤ 100000)
def sc0 (x0 : List Setting) (x4 : Int) (x6 : Int) : Bool := cP (0 ≤ x6 ∧ x6 ≤ x4 ∧ x4 < x0.length ∧ x0.length ≤ 100000)
def sc1 (x0 : List Setting) (x4 : Int) (y3 : List ByteArray) : Bool := cP (0 ≤ x4 ∧ x4 ≤ x0.length ∧ x0.length ≤ 100000 ∧ y3 = secF (x0.take x4.toNat))
def dr_f49_0 : List DO := [(.mk (oV 18 5) []), (.mk (oV 19 18) [0]), (.mk (oQ 20 19 false (.mv (.t 0))) [1]), (.mk (oQ 21 19 false (.mv (.t 6))) [1]), (.mk (oQ 22 19 false (.ix 4 (.t 20) (.t 21))) [2, 3, 1]), (.mk (oQ 23 19 false (.fa 0 (.t 22))) [4, 1]), (.mk (oG 24 19 false (.m (.ld false 1 (.t 23)))) [5, 1]), (.mk (oQ 25 19 false (.mv (.t 0))) [1]), (.mk (oQ 26 19 false (.mv (.t 4))) [1]), (.mk (oQ 27 19 false (.ix 4 (.t 25) (.t 26))) [7, 8, 1]), (.mk (oQ 28 19 false (.fa 0 (.t 27))) [9, 1]), (.mk (oG 29 19 false (.m (.ld false 1 (.t 28)))) [10, 1]), (.mk (oQ 30 19 false (.bin false .eql (.t 24) (.t 29))) [6, 11, 1]), (.mk (oP 31 (.pick (.t 19) (cB true) (.t 30))) [1, 12]), (.mk (oV 5 31) [13, 1, 0, 1, 2, 3, 4, 5, 6, 7, 8, 9, 10, 11, 12, 13])]
def fg_f49_0 : Fg := ⟨[(0, some (.sl tySetting)), (3, none), (4, some tI), (5, some .bool), (6, some tI)], [(3, none), (41, none)]⟩
def tb_f49_0 : TC := (.sq (.sq (.reg [(oV 13 6), (oV 14 4), (oP 15 (.bin false .lss (.t 13) (.t 14)))]) (.cd (.t 15) .sk (.fg ⟨[(0, some (.sl tySetting)), (3, none), (4, some tI), (5, some .bool)], [(3, none), (41, none)]⟩ (.ex 2)))) (.sq (.bk 3 (.dr dr_f49_0 [(0, []), (1, []), (2, []), (3, []), (4, []), (5, []), (6, []), (7, []), (8, []), (9, []), (10, []), (11, []), (12, []), (13, []), (14, [])] (.of [0, 1, 2, 3, 4, 5, 6, 7, 8, 9, 10, 11, 12, 13, 14]))) (.reg [(oV 16 6), (oP 17 (.bin false .add (.t 16) (cI 1))), (oV 6 17)])))
def fg_f49_1 : Fg := ⟨[(0, some (.sl tySetting)), (3, none), (4, some tI)], [(3, none), (41, none)]⟩
def tb_f49_1 : TC := (.sq (.sq (.reg [(oV 7 4), (oV 8 0), (oP 9 (.len false (.t 8))), (oP 10 (.bin false .lss (.t 7) (.t 9)))]) (.cd (.t 10) .sk (.fg ⟨[(3, none)], [(3, none), (41, none)]⟩ (.ex 0)))) (.sq (.bk 1 (.sq (.reg [(oP 5 (.mv (cB false)))]) (.sq (.sq (.reg [(oP 6 (.mv (cI 0)))]) (.bk 2 (.lp 0 fg_f49_0 tb_f49_0))) (.sq (.reg [(oV 32 5), (oP 33 (.nt (.t 32)))]) (.cd (.t 33) (.reg [(oV 34 3), (oV 35 0), (oV 36 4), (oP 37 (.ix 4 (.t 35) (.t 36))), (oP 38 (.fa 0 (.t 37))), (oL 39 38), (oM 40 (.bs 9 1 1 [(.v (.string (ByteArray.mk #[])))] [(0, 1, (.t 39))])), (oM 41 (.app 9 1 16 (.t 34) (.t 40))), (oV 3 41)]) .sk))))) (.reg [(oV 11 4), (oP 12 (.bin false .add (.t 11) (cI 1))), (oV 4 12)])))
def tc_f49 : TC := (.sq (.reg [(oP 2 (.mv (.c (.v (.slice none 0 0)))))]) (.sq (.reg [(oP 3 (.mv (.c (.v (.slice none 0 0)))))]) (.sq (.sq (.reg [(oP 4 (.mv (cI 0)))]) (.bk 0 (.nw 3 9 (.lp 1 fg_f49_1 tb_f49_1)))) (.sq (.reg [(oV 42 3), (oV 2 42)]) .rt))))
def rv_f49 : List (RV × Option Ty) := [((.t 2), some (.sl .str))]
abbrev sh_f49_0 : Sh := ⟨[(0, .ty (.sl tySetting)), (3, .ms 3), (4, .ty tI), (5, .ty .bool), (6, .ty tI)], [(3, .arr 9 .str), (41, .no)]⟩
def st_f49_0 (x0 : (List Setting)) (x4 : Int) (x5 : Bool) (x6 : Int) (y3 : (List ByteArray)) : VS := sh_f49_0.st (x0, (), x4, x5, x6, ()) (y3, (), ())
abbrev sh_f49_0_e2 : Sh := ⟨[(0, .ty (.sl tySetting)), (3, .ms 3), (4, .ty tI), (5, .ty .bool)], [(3, .arr 9 .str), (41, .no)]⟩
def st_f49_0_e2 (x0 : (List Setting)) (x4 : Int) (x5 : Bool) (y3 : (List ByteArray)) : VS := sh_f49_0_e2.st (x0, (), x4, x5, ()) (y3, (), ())
-- loop 0: (x0 : (List Setting)) (x4 : Int) (x5 : Bool) (x6 : Int) (y3 : (List ByteArray)); out: ('exit', 2) (x0 : (List Setting)) (x4 : Int) (x5 : Bool) (y3 : (List ByteArray))
abbrev sh_f49_1 : Sh := ⟨[(0, .ty (.sl tySetting)), (3, .ms 3), (4, .ty tI)], [(3, .arr 9 .str), (41, .no)]⟩
def st_f49_1 (x0 : (List Setting)) (x4 : Int) (y3 : (List ByteArray)) : VS := sh_f49_1.st (x0, (), x4, ()) (y3, (), ())
abbrev sh_f49_1_e0 : Sh := ⟨[(3, .ms 3)], [(3, .arr 9 .str), (41, .no)]⟩
def st_f49_1_e0 (y3 : (List ByteArray)) : VS := sh_f49_1_e0.st ((), ()) (y3, (), ())
-- loop 1: (x0 : (List Setting)) (x4 : Int) (y3 : (List ByteArray)); out: ('exit', 0) (y3 : (List ByteArray))
def L_f49_0 : VS → Option (Bool × List (Bool × Exit × VS)) := mkL sh_f49_0 (fun x y => (sc0 x.1 x.2.2.1 x.2.2.2.2.1)) (fun x y => [(true, .exit 2, st_f49_0_e2 (x.1) (x.2.2.1) (x.2.2.2.1 || ((x.1.take x.2.2.1.toNat).drop x.2.2.2.2.1.toNat).any fun y => seq y.1 (lgt tySetting x.1 (Int.toNat x.2.2.1)).1) (y.1))])
def L_f49_1 : VS → Option (Bool × List (Bool × Exit × VS)) := mkL sh_f49_1 (fun x y => (sc1 x.1 x.2.2.1 y.1)) (fun x y => [(true, .exit 0, st_f49_1_e0 (secF x.1))])
def g_f49 : G := ⟨TYs, [], 43, EL [], keeps, (Ls [L_f49_0, L_f49_1]), IL [], RL []⟩
def b_f49_0 (x0 : (List Setting)) (x4 : Int) (x5 : Bool) (x6 : Int) (y3 : (List ByteArray)) : Option (Exit × VS) :=
 br ((ilt x6 x4))
  (br (x5)
   (some (.normal, st_f49_0 x0 x4 true (iadd .i64 x6 1) y3))
   (br (cIx x0 x6)
    (br (cIx x0 x4)
     (some (.normal, st_f49_0 x0 x4 (seq ((lgt tySetting x0 (Int.toNat x6)).1) ((lgt tySetting x0 (Int.toNat x4)).1)) (iadd .i64 x6 1) y3))
     (none))
    (none)))
  (some (.exit 2, st_f49_0_e2 x0 x4 x5 y3))
noncomputable def lp_f49_0 (x0 : (List Setting)) (x4 : Int) (x5 : Bool) (x6 : Int) (y3 : (List ByteArray)) : Option (Exit × VS) := loopF (roundF g_f49 fg_f49_0 tb_f49_0) (st_f49_0 x0 x4 x5 x6 y3)
noncomputable def n_f49_0 (x0 : (List Setting)) (x4 : Int) (x5 : Bool) (x6 : Int) (y3 : (List ByteArray)) : Option (Exit × VS) :=
 br ((ilt x6 x4))
  (br (x5)
   (lp_f49_0 x0 x4 true (iadd .i64 x6 1) y3)
   (br (cIx x0 x6)
    (br (cIx x0 x4)
     (lp_f49_0 x0 x4 (seq ((lgt tySetting x0 (Int.toNat x6)).1) ((lgt tySetting x0 (Int.toNat x4)).1)) (iadd .i64 x6 1) y3)
     (none))
    (none)))
  (some (.exit 2, st_f49_0_e2 x0 x4 x5 y3))
def la_f49_0 (x0 : (List Setting)) (x4 : Int) (x5 : Bool) (x6 : Int) (y3 : (List ByteArray)) : Option (Exit × VS) := some (.exit 2, st_f49_0_e2 (x0) (x4) (x5 || ((x0.take x4.toNat).drop x6.toNat).any fun y => seq y.1 (lgt tySetting x0 (Int.toNat x4)).1) (y3))
theorem be_f49_0 (x0 : (List Setting)) (x4 : Int) (x5 : Bool) (x6 : Int) (y3 : (List ByteArray)) : roundF g_f49 fg_f49_0 tb_f49_0 (st_f49_0 x0 x4 x5 x6 y3) = b_f49_0 x0 x4 x5 x6 y3 := by kernel_rfl
theorem ln_f49_0 (x0 : (List Setting)) (x4 : Int) (x5 : Bool) (x6 : Int) (y3 : (List ByteArray)) : lp_f49_0 x0 x4 x5 x6 y3 = n_f49_0 x0 x4 x5 x6 y3 := (loopF_nxt _ _).trans (by
 rw [be_f49_0]
 simp only [b_f49_0, n_f49_0, nxt_br, nxt_n, nxt_r, nxt_e, nxt_0]
 rfl)
def b_f49_1 (x0 : (List Setting)) (x4 : Int) (y3 : (List ByteArray)) : Option (Exit × VS) :=
 br ((ilt x4 (llen x0)))
  (br ((sc0 x0 x4 (0 : Int)))
   (br ((!(false || ((x0.take x4.toNat).drop (0 : Int).toNat).any fun y => seq y.1 (lgt tySetting x0 (Int.toNat x4)).1)))
    (br (cIx (x0) (x4))
     (br (cApp (y3) ([(lgt tySetting (x0) (Int.toNat (x4))).1]) 16)
      (some (.normal, st_f49_1 (x0) (iadd .i64 (x4) 1) ((y3) ++ ([(lgt tySetting (x0) (Int.toNat (x4))).1]))))
      (none))
     (none))
    (some (.normal, st_f49_1 (x0) (iadd .i64 (x4) 1) (y3))))
   (none))
  (some (.exit 0, st_f49_1_e0 y3))
noncomputable def lp_f49_1 (x0 : (List Setting)) (x4 : Int) (y3 : (List ByteArray)) : Option (Exit × VS) := loopF (roundF g_f49 fg_f49_1 tb_f49_1) (st_f49_1 x0 x4 y3)
noncomputable def n_f49_1 (x0 : (List Setting)) (x4 : Int) (y3 : (List ByteArray)) : Option (Exit × VS) :=
 br ((ilt x4 (llen x0)))
  (br ((sc0 x0 x4 (0 : Int)))
   (br ((!(false || ((x0.take x4.toNat).drop (0 : Int).toNat).any fun y => seq y.1 (lgt tySetting x0 (Int.toNat x4)).1)))
    (br (cIx (x0) (x4))
     (br (cApp (y3) ([(lgt tySetting (x0) (Int.toNat (x4))).1]) 16)
      (lp_f49_1 (x0) (iadd .i64 (x4) 1) ((y3) ++ ([(lgt tySetting (x0) (Int.toNat (x4))).1])))
      (none))
     (none))
    (lp_f49_1 (x0) (iadd .i64 (x4) 1) (y3)))
   (none))
  (some (.exit 0, st_f49_1_e0 y3))
def la_f49_1 (x0 : (List Setting)) (x4 : Int) (y3 : (List ByteArray)) : Option (Exit × VS) := some (.exit 0, st_f49_1_e0 (secF x0))
theorem be_f49_1 (x0 : (List Setting)) (x4 : Int) (y3 : (List ByteArray)) : roundF g_f49 fg_f49_1 tb_f49_1 (st_f49_1 x0 x4 y3) = b_f49_1 x0 x4 y3 := by kernel_rfl
theorem ln_f49_1 (x0 : (List Setting)) (x4 : Int) (y3 : (List ByteArray)) : lp_f49_1 x0 x4 y3 = n_f49_1 x0 x4 y3 := (loopF_nxt _ _).trans (by
 rw [be_f49_1]
 simp only [b_f49_1, n_f49_1, nxt_br, nxt_n, nxt_r, nxt_e, nxt_0]
 rfl)
def r_f49 (p0 : (List Setting)) : Option (V × List VO) :=
 br ((sc1 p0 (0 : Int) ([] : List ByteArray)))
  (some (.t (.sl .str) (secF p0), []))
  (none)
theorem e_f49 (p0 : (List Setting)) : runF g_f49 tc_f49 rv_f49 false [.t (.sl tySetting) p0] [] = r_f49 p0 := by kernel_rfl
theorem ok_f49 : Option.map (trC Tryd.prog) Tryd.f49.body = some tc_f49.er := by kernel_rfl
theorem rok_f49 : trVs Tryd.prog Tryd.f49.results.toList = some (rv_f49.map Prod.fst) := by kernel_rfl
theorem en_f49 : Entered Tryd.prog 49 := .inr ⟨by decide, _, Tryd.func49, by kernel_rfl, by kernel_rfl⟩
theorem gk_f49 : GOk Tryd.prog g_f49 := gok_of _ (fun p hp => by cases hp)
theorem l_f49_0 (x0 : (List Setting)) (x4 : Int) (x5 : Bool) (x6 : Int) (y3 : (List ByteArray)) (h : (sc0 x0 x4 x6) = true) : lp_f49_0 x0 x4 x5 x6 y3 = la_f49_0 x0 x4 x5 x6 y3 := by
 obtain ⟨h1, h2, h3, h4⟩ := cP_of h
 clear h
 obtain ⟨m, rfl⟩ := Int.eq_ofNat_of_zero_le (Int.le_trans h1 h2)
 obtain ⟨k, rfl⟩ := Int.eq_ofNat_of_zero_le h1
 have hm : m < x0.length := by omega
 have hl : (x0.take m).length = m := by rw [List.length_take]; omega
 refine range_ind (x0.take m) (fun k => ∀ x5, lp_f49_0 x0 (m : Int) x5 (k : Int) y3 = la_f49_0 x0 (m : Int) x5 (k : Int) y3) ?_ ?_ k (by omega) x5
 ·intro x5
  rw [hl, ln_f49_0]
  simp only [n_f49_0, la_f49_0, ilt_nat, Nat.lt_irrefl, decide_false, br_false, Int.toNat_natCast]
  rw [List.drop_eq_nil_of_le (by omega), List.any_nil, Bool.or_false]
 ·intro k hk ih x5
  rw [hl] at hk
  have hk2 : k < x0.length := by omega
  have hd : (x0.take m).drop k = x0[k] :: (x0.take m).drop (k + 1) := by
   rw [List.drop_eq_getElem_cons (by omega), List.getElem_take]
  rw [ln_f49_0]
  simp only [n_f49_0, ilt_nat, hk, cIx_nat, hk2, hm, decide_true, br_true, Int.toNat_natCast, lgt_get (y := tySetting) hk2, lgt_get (y := tySetting) hm, add1 (show k < 4611686018427387904 by omega), ih, la_f49_0, hd, List.any_cons]
  cases x5 with
  | true => simp [br_true]
  | false => simp [br_false]
theorem l_f49_1 (x0 : (List Setting)) (x4 : Int) (y3 : (List ByteArray)) (h : (sc1 x0 x4 y3) = true) : lp_f49_1 x0 x4 y3 = la_f49_1 x0 x4 y3 := by
 obtain ⟨h1, h2, h3, h4⟩ := cP_of h
 clear h
 obtain ⟨k, rfl⟩ := Int.eq_ofNat_of_zero_le h1
 subst h4
 refine range_ind x0 (fun k => lp_f49_1 x0 (k : Int) (secF (x0.take k)) = la_f49_1 x0 (k : Int) (secF (x0.take k))) ?_ ?_ k (by omega)
 ·rw [ln_f49_1]
  simp only [n_f49_1, la_f49_1, ilt_nat, llen, Nat.lt_irrefl, decide_false, br_false, List.take_length]
 ·intro k hk ih
  have hz := secZ_len (x0.take k) []
  rw [List.length_nil, List.length_take] at hz
  have hh := secZ_has (x0.take k) [] x0[k].1
  rw [show secH [] x0[k].1 = false from rfl, Bool.false_or] at hh
  have hs : secF (x0.take (k + 1)) = bif secH (secF (x0.take k)) x0[k].1 then secF (x0.take k) else secF (x0.take k) ++ [x0[k].1] := by
   unfold secF
   rw [take_snoc (List.getElem?_eq_getElem hk), secZ_app]
   rfl
  rw [ln_f49_1]
  have e : ilt (k : Int) (llen x0) = true := decide_eq_true (by simp only [llen]; omega)
  have e1 : sc0 x0 (k : Int) 0 = true := cP_in ⟨by omega, by omega, by omega, h3⟩
  have e2 : cApp (secF (x0.take k)) [x0[k].1] 16 = true := cAppN (by decide) (by unfold secF; rw [List.length_singleton]; omega)
  simp only [n_f49_1, e, e1, cIx_nat, hk, decide_true, br_true, Int.toNat_natCast, lgt_get (y := tySetting) hk, e2, add1 (show k < 4611686018427387904 by omega), Int.toNat_zero, List.drop_zero, Bool.false_or, ← hh]
  show br (!secH (secF (x0.take k)) x0[k].1) _ _ = _
  rw [hs] at ih
  cases h : secH (secF (x0.take k)) x0[k].1 with
  | true => rw [h, cond_true] at ih; rw [Bool.not_true, br_false, ih]; rfl
  | false => rw [h, cond_false] at ih; rw [Bool.not_false, br_true, ih]; rfl
theorem lo_f49_0 : ∀ S l p, g_f49.L 0 (fgt fg_f49_0 S) = some (true, l) → pickA l = some p → loopF (roundF g_f49 fg_f49_0 tb_f49_0) S = some p :=
 lok_of (s := sh_f49_0) ⟨by decide, by decide⟩ (by kernel_rfl) fun x y hok p hp => by
 simp only [pickA_br, pickA_one] at hp
 exact (l_f49_0 x.1 x.2.2.1 x.2.2.2.1 x.2.2.2.2.1 y.1 (by simpa using hok)).trans hp
theorem lo_f49_1 : ∀ S l p, g_f49.L 1 (fgt fg_f49_1 S) = some (true, l) → pickA l = some p → loopF (roundF g_f49 fg_f49_1 tb_f49_1) S = some p :=
 lok_of (s := sh_f49_1) ⟨by decide, by decide⟩ (by kernel_rfl) fun x y hok p hp => by
 simp only [pickA_br, pickA_one] at hp
 exact (l_f49_1 x.1 x.2.2.1 y.1 (by simpa using hok)).trans hp
theorem lk_f49 : tc_f49.lok g_f49 := by
 repeat (first | exact trivial | exact lo_f49_0 | exact lo_f49_1 | refine ⟨?_, ?_⟩)
theorem s_f49 (l : List Setting) (h : secOk l = true) : r_f49 l = some (.t (.sl .str) (secF l), []) := by
 refine brY (cP_in ⟨by omega, by omega, of_decide_eq_true h, rfl⟩) rfl
def sp_f49 : Ent := spec (.pr (.sl tySetting) .nil) (fun x => (secOk x.1)) (fun x => (.t (.sl .str) (secF x.1)))
theorem ms_f49 : Meets Tryd.prog 49 (strip sp_f49) := by
 obtain ⟨c, hc, hi⟩ := Option.map_eq_some_iff.1 ok_f49
 exact meets_spec (R := runF g_f49 tc_f49 rv_f49 false) (meets_of (by decide) Tryd.func49 hc hi Tryd.ntmps49 rok_f49 gk_f49 lk_f49 mixed) fun x hok => (e_f49 x.1).trans (s_f49 x.1 hok)
end
end Go.Proofs.YtkkoedniahnneaaDoor.K
