/-
 Sections of the program; Set of the answer.
-/
import Derived.Test.YtkkoedniahnneaaDoorA29
set_option linter.unusedSimpArgs false
set_option linter.unusedVariables false
namespace Go.Proofs.YtkkoedniahnneaaDoor.K
open Go.RowKit
noncomputable section
theorem seq_comm (a b : ByteArray) : seq a b = seq b a := by rw [seq_dec, seq_dec, Bool.eq_iff_iff, decide_eq_true_eq, decide_eq_true_eq]; exact ⟨Eq.symm, Eq.symm⟩
def spl_f87 : Ent := lendE sp_f87
theorem msl_f87 : Meets Tryd.prog 87 (strip spl_f87) := meets_lend ms_f87
def sc2 (x6 : List Setting) (x7 x8 : Int) (y3 : List ByteArray) : Bool := cP (0 ≤ x8 ∧ x8 ≤ x6.length ∧ x7 = x6.length ∧ x6.length ≤ 100000 ∧ y3 = secF (x6.take x8.toNat))
def fg_f48_0 : Fg := ⟨[(3, none), (6, some (.sl tySetting)), (7, some tI), (8, some tI)], [(3, none), (21, none)]⟩
def tb_f48_0 : TC := (.sq (.reg [(oP 9 (.bin false .lss (.t 8) (.t 7)))]) (.sq (.cd (.t 9) .sk (.fg ⟨[(3, none)], [(3, none), (21, none)]⟩ (.ex 0))) (.sq (.bk 1 (.sq (.reg [(oP 10 (.ix 4 (.t 6) (.t 8))), (oM 11 (.ld true 4 (.t 10))), (oM 5 (.new [(.v (.string (ByteArray.mk #[]))), (.v (.string (ByteArray.mk #[]))), (.v (.string (ByteArray.mk #[]))), (.v (.int .i64 0))])), (.mk none none (.m (.st 4 (.t 5) (.t 11))))]) (.sq (.reg [(oV 12 3), (oP 13 (.fa 0 (.t 5))), (oL 14 13), (oC 15 87 [(.t 12), (.t 14)]), (oP 16 (.nt (.t 15)))]) (.cd (.t 16) (.reg [(oV 17 3), (oP 18 (.fa 0 (.t 5))), (oL 19 18), (oM 20 (.bs 9 1 1 [(.v (.string (ByteArray.mk #[])))] [(0, 1, (.t 19))])), (oM 21 (.app 9 1 16 (.t 17) (.t 20))), (oV 3 21)]) .sk)))) (.reg [(oP 22 (.bin false .add (.t 8) (cI 1))), (oV 8 22)]))))
def tc_f48 : TC := (.sq (.reg [(oP 2 (.mv (.c (.v (.slice none 0 0)))))]) (.sq (.reg [(oP 3 (.mv (.c (.v (.slice none 0 0)))))]) (.sq (.sq (.reg [(oV 6 0), (oP 7 (.len false (.t 6))), (oP 8 (.mv (cI 0)))]) (.bk 0 (.nw 3 9 (.lp 0 fg_f48_0 tb_f48_0)))) (.sq (.reg [(oV 23 3), (oV 2 23)]) .rt))))
def rv_f48 : List (RV × Option Ty) := [((.t 2), some (.sl .str))]
abbrev sh_f48_0 : Sh := ⟨[(3, .ms 3), (6, .ty (.sl tySetting)), (7, .ty tI), (8, .ty tI)], [(3, .arr 9 .str), (21, .no)]⟩
def st_f48_0 (x6 : (List Setting)) (x7 : Int) (x8 : Int) (y3 : (List ByteArray)) : VS := sh_f48_0.st ((), x6, x7, x8, ()) (y3, (), ())
abbrev sh_f48_0_e0 : Sh := ⟨[(3, .ms 3)], [(3, .arr 9 .str), (21, .no)]⟩
def st_f48_0_e0 (y3 : (List ByteArray)) : VS := sh_f48_0_e0.st ((), ()) (y3, (), ())
-- loop 0: (x6 : (List Setting)) (x7 : Int) (x8 : Int) (y3 : (List ByteArray)); out: ('exit', 0) (y3 : (List ByteArray))
def L_f48_0 : VS → Option (Bool × List (Bool × Exit × VS)) := mkL sh_f48_0 (fun x y => (sc2 x.2.1 x.2.2.1 x.2.2.2.1 y.1)) (fun x y => [(true, .exit 0, st_f48_0_e0 (secF x.2.1))])
def g_f48 : G := ⟨TYs, [], 24, EL [(87, spl_f87)], (87 :: keeps), (Ls [L_f48_0]), IL [], RL []⟩
def b_f48_0 (x6 : (List Setting)) (x7 : Int) (x8 : Int) (y3 : (List ByteArray)) : Option (Exit × VS) :=
 br ((ilt x8 x7))
  (br (cIx x6 x8)
   (br ((idxSOk y3 ((lgt tySetting x6 (Int.toNat x8)).1)))
    (br ((!(hasS y3 ((lgt tySetting x6 (Int.toNat x8)).1))))
     (br (cApp y3 ([(lgt tySetting x6 (Int.toNat x8)).1]) 16)
      (some (.normal, st_f48_0 x6 x7 (iadd .i64 x8 1) (y3 ++ ([(lgt tySetting x6 (Int.toNat x8)).1]))))
      (none))
     (some (.normal, st_f48_0 x6 x7 (iadd .i64 x8 1) y3)))
    (none))
   (none))
  (some (.exit 0, st_f48_0_e0 y3))
noncomputable def lp_f48_0 (x6 : (List Setting)) (x7 : Int) (x8 : Int) (y3 : (List ByteArray)) : Option (Exit × VS) := loopF (roundF g_f48 fg_f48_0 tb_f48_0) (st_f48_0 x6 x7 x8 y3)
noncomputable def n_f48_0 (x6 : (List Setting)) (x7 : Int) (x8 : Int) (y3 : (List ByteArray)) : Option (Exit × VS) :=
 br ((ilt x8 x7))
  (br (cIx x6 x8)
   (br ((idxSOk y3 ((lgt tySetting x6 (Int.toNat x8)).1)))
    (br ((!(hasS y3 ((lgt tySetting x6 (Int.toNat x8)).1))))
     (br (cApp y3 ([(lgt tySetting x6 (Int.toNat x8)).1]) 16)
      (lp_f48_0 x6 x7 (iadd .i64 x8 1) (y3 ++ ([(lgt tySetting x6 (Int.toNat x8)).1])))
      (none))
     (lp_f48_0 x6 x7 (iadd .i64 x8 1) y3))
    (none))
   (none))
  (some (.exit 0, st_f48_0_e0 y3))
def la_f48_0 (x6 : (List Setting)) (x7 : Int) (x8 : Int) (y3 : (List ByteArray)) : Option (Exit × VS) := some (.exit 0, st_f48_0_e0 (secF x6))
theorem be_f48_0 (x6 : (List Setting)) (x7 : Int) (x8 : Int) (y3 : (List ByteArray)) : roundF g_f48 fg_f48_0 tb_f48_0 (st_f48_0 x6 x7 x8 y3) = b_f48_0 x6 x7 x8 y3 := by kernel_rfl
theorem ln_f48_0 (x6 : (List Setting)) (x7 : Int) (x8 : Int) (y3 : (List ByteArray)) : lp_f48_0 x6 x7 x8 y3 = n_f48_0 x6 x7 x8 y3 := (loopF_nxt _ _).trans (by
 rw [be_f48_0]
 simp only [b_f48_0, n_f48_0, nxt_br, nxt_n, nxt_r, nxt_e, nxt_0]
 rfl)
def r_f48 (p0 : (List Setting)) : Option (V × List VO) :=
 br ((sc2 p0 (llen p0) (0 : Int) ([] : List ByteArray)))
  (some (.t (.sl .str) (secF p0), []))
  (none)
theorem e_f48 (p0 : (List Setting)) : runF g_f48 tc_f48 rv_f48 false [.t (.sl tySetting) p0] [] = r_f48 p0 := by kernel_rfl
theorem ok_f48 : Option.map (trC Tryd.prog) Tryd.f48.body = some tc_f48.er := by kernel_rfl
theorem rok_f48 : trVs Tryd.prog Tryd.f48.results.toList = some (rv_f48.map Prod.fst) := by kernel_rfl
theorem en_f48 : Entered Tryd.prog 48 := .inr ⟨by decide, _, Tryd.func48, by kernel_rfl, by kernel_rfl⟩
theorem gk_f48 : GOk Tryd.prog g_f48 := gok_of _ (by
 intro p hp
 simp only [List.mem_cons, List.not_mem_nil, or_false] at hp
 rcases hp with rfl
 ·exact ⟨en_f87, msl_f87⟩)
theorem l_f48_0 (x6 : (List Setting)) (x7 : Int) (x8 : Int) (y3 : (List ByteArray)) (h : (sc2 x6 x7 x8 y3) = true) : lp_f48_0 x6 x7 x8 y3 = la_f48_0 x6 x7 x8 y3 := by
 obtain ⟨h1, h2, rfl, h3, h4⟩ := cP_of h
 clear h
 obtain ⟨k, rfl⟩ := Int.eq_ofNat_of_zero_le h1
 subst h4
 refine range_ind x6 (fun k => lp_f48_0 x6 (x6.length : Int) (k : Int) (secF (x6.take k)) = la_f48_0 x6 (x6.length : Int) (k : Int) (secF (x6.take k))) ?_ ?_ k (by omega)
 ·rw [ln_f48_0]
  simp only [n_f48_0, la_f48_0, ilt_nat, Nat.lt_irrefl, decide_false, br_false, List.take_length]
 ·intro k hk ih
  have hz := secZ_len (x6.take k) []
  rw [List.length_nil, List.length_take] at hz
  have hs : secF (x6.take (k + 1)) = bif secH (secF (x6.take k)) x6[k].1 then secF (x6.take k) else secF (x6.take k) ++ [x6[k].1] := by
   unfold secF
   rw [take_snoc (List.getElem?_eq_getElem hk), secZ_app]
   rfl
  have hq : hasS (secF (x6.take k)) x6[k].1 = secH (secF (x6.take k)) x6[k].1 := by
   unfold hasS secH
   congr 1
   funext y
   exact seq_comm _ _
  rw [ln_f48_0]
  have e1 : idxSOk (secF (x6.take k)) x6[k].1 = true := decide_eq_true (by unfold secF; omega)
  have e2 : cApp (secF (x6.take k)) [x6[k].1] 16 = true := cAppN (by decide) (by unfold secF; rw [List.length_singleton]; omega)
  simp only [n_f48_0, ilt_nat, e1, cIx_nat, hk, decide_true, br_true, Int.toNat_natCast, lgt_get (y := tySetting) hk, e2, add1 (show k < 4611686018427387904 by omega), hq]
  rw [hs] at ih
  cases h : secH (secF (x6.take k)) x6[k].1 with
  | true => rw [h, cond_true] at ih; rw [Bool.not_true, br_false, ih]; rfl
  | false => rw [h, cond_false] at ih; rw [Bool.not_false, br_true, ih]; rfl
theorem lo_f48_0 : ∀ S l p, g_f48.L 0 (fgt fg_f48_0 S) = some (true, l) → pickA l = some p → loopF (roundF g_f48 fg_f48_0 tb_f48_0) S = some p :=
 lok_of (s := sh_f48_0) ⟨by decide, by decide⟩ (by kernel_rfl) fun x y hok p hp => by
 simp only [pickA_br, pickA_one] at hp
 exact (l_f48_0 x.2.1 x.2.2.1 x.2.2.2.1 y.1 (by simpa using hok)).trans hp
theorem lk_f48 : tc_f48.lok g_f48 := by
 repeat (first | exact trivial | exact lo_f48_0 | refine ⟨?_, ?_⟩)
theorem s_f48 (l : List Setting) (h : secOk l = true) : r_f48 l = some (.t (.sl .str) (secF l), []) := by
 refine brY (cP_in ⟨by omega, by omega, rfl, of_decide_eq_true h, rfl⟩) rfl
def sp_f48 : Ent := spec (.pr (.sl tySetting) .nil) (fun x => (secOk x.1)) (fun x => (.t (.sl .str) (secF x.1)))
theorem ms_f48 : Meets Tryd.prog 48 (strip sp_f48) := by
 obtain ⟨c, hc, hi⟩ := Option.map_eq_some_iff.1 ok_f48
 exact meets_spec (R := runF g_f48 tc_f48 rv_f48 false) (meets_of (by decide) Tryd.func48 hc hi Tryd.ntmps48 rok_f48 gk_f48 lk_f48 mixed) fun x hok => (e_f48 x.1).trans (s_f48 x.1 hok)
def mkV (p : Setting → Bool) (v : ByteArray) (x : Setting) : Setting := bif p x then putV v x else x
theorem lastI_snoc (p : Setting → Bool) (r : List Setting) (x : Setting) : lastI p (r ++ [x]) = if p x then (r.length : Int) else lastI p r := by
 unfold lastI
 rw [idxP_snoc]
 cases p x <;> rfl
def setOkF (l : List Setting) (a b v : ByteArray) : Bool := decide (l.length ≤ 100000) && rgtOk (newS a b v)
def posN (n : Nat) (a : ByteArray) (l : List Setting) : Nat := match idxP (fun x => seq x.1 a) l with
 | some i => i + 1
 | none => n
theorem posN_snoc (n : Nat) (a : ByteArray) (r : List Setting) (x : Setting) : posN n a (r ++ [x]) = if seq x.1 a then r.length + 1 else posN n a r := by
 unfold posN
 rw [idxP_snoc]
 cases seq x.1 a <;> rfl
def se0 (x0 : List Setting) (x1 x2 x3 : ByteArray) (x12 x13 : Int) (y24 : List Setting) : Bool := cP (0 ≤ x13 ∧ x13 ≤ x0.length ∧ x0.length ≤ 100000 ∧ x12 = lastI (fun q => isSN q x1 x2) (x0.take x13.toNat) ∧ y24 = (x0.take x13.toNat).map (mkV (fun q => isSN q x1 x2) x3) ++ x0.drop x13.toNat)
def se1 (x0 : List Setting) (x12 x14 : Int) (y24 : List Setting) : Bool := cP (0 ≤ x14 ∧ x14 ≤ x12 ∧ x12 < x0.length ∧ x0.length ≤ 100000 ∧ y24.length = x0.length ∧ y24.take x14.toNat = x0.take x14.toNat ∧ ∀ i : Nat, (i : Int) < x12 → (y24[i]?.getD zSet).1 = (x0[i]?.getD zSet).1 ∧ (y24[i]?.getD zSet).2.1 = (x0[i]?.getD zSet).2.1 ∧ (y24[i]?.getD zSet).2.2.2.1 = (x0[i]?.getD zSet).2.2.2.1)
def se2 (x0 : List Setting) (x1 : ByteArray) (x15 x16 : Int) : Bool := cP (0 ≤ x16 ∧ x16 ≤ x0.length ∧ x0.length ≤ 100000 ∧ x15 = ((posN x0.length x1 (x0.take x16.toNat) : Nat) : Int))
def dr_f47_0 : List DO := [(.mk (oM 89 (.bs 45 4 0 [] [])) []), (.mk (oV 90 0) []), (.mk (oV 91 15) []), (.mk (oP 92 (.slc 4 (.t 90) none (some (.t 91)) none)) [1, 2]), (.mk (oM 93 (.app 45 4 56 (.t 89) (.t 92))) [0, 3]), (.mk (oM 94 (.ld true 4 (.t 10))) []), (.mk (oM 95 (.bs 45 4 1 [(.v (.string (ByteArray.mk #[]))), (.v (.string (ByteArray.mk #[]))), (.v (.string (ByteArray.mk #[]))), (.v (.int .i64 0))] [(0, 4, (.t 94))])) [5]), (.mk (oM 96 (.app 45 4 56 (.t 93) (.t 95))) [4, 6, 4]), (.mk (oV 97 0) []), (.mk (oV 98 15) []), (.mk (oP 99 (.slc 4 (.t 97) (some (.t 98)) none none)) [8, 9]), (.mk (oM 100 (.app 45 4 56 (.t 96) (.t 99))) [7, 10, 7]), (.mk (oV 8 100) [11, 11, 0, 1, 2, 3, 4, 5, 6, 7, 8, 9, 10, 11]), (.mk (oP 9 (.mv (cI 0))) [12, 0, 1, 2, 3, 4, 5, 6, 7, 8, 9, 10, 11, 12])]
def fg_f47_0 : Fg := ⟨[(0, some (.sl tySetting)), (1, some .str), (2, some .str), (3, some .str), (10, none), (11, none), (12, some tI), (13, some tI)], [(10, some tySetting), (24, none), (26, none)]⟩
def tb_f47_0 : TC := (.sq (.sq (.reg [(oV 27 13), (oV 28 0), (oP 29 (.len false (.t 28))), (oP 30 (.bin false .lss (.t 27) (.t 29)))]) (.cd (.t 30) .sk (.fg ⟨[(0, some (.sl tySetting)), (1, some .str), (10, none), (11, none), (12, some tI)], [(10, some tySetting), (24, none), (26, none)]⟩ (.ex 0)))) (.sq (.bk 1 (.sq (.reg [(oV 33 0), (oV 34 13), (oP 35 (.ix 4 (.t 33) (.t 34))), (oP 36 (.fa 0 (.t 35))), (oL 37 36), (oV 38 1), (oP 39 (.bin false .eql (.t 37) (.t 38))), (oV 40 39), (oQ 41 40 true (.mv (.t 0))), (oQ 42 40 true (.mv (.t 13))), (oQ 43 40 true (.ix 4 (.t 41) (.t 42))), (oQ 44 40 true (.fa 1 (.t 43))), (oG 45 40 true (.m (.ld false 1 (.t 44)))), (oQ 46 40 true (.mv (.t 2))), (oQ 47 40 true (.bin false .eql (.t 45) (.t 46))), (oP 48 (.pick (.t 40) (.t 47) (cB false)))]) (.cd (.t 48) (.reg [(oV 49 11), (oV 50 13), (oV 51 3), (oV 52 13), (oP 53 (.ix 4 (.t 49) (.t 50))), (oP 54 (.fa 2 (.t 53))), (.mk none none (.m (.st 1 (.t 54) (.t 51)))), (oV 12 52)]) .sk))) (.reg [(oV 31 13), (oP 32 (.bin false .add (.t 31) (cI 1))), (oV 13 32)])))
def fg_f47_1 : Fg := ⟨[(0, some (.sl tySetting)), (11, none), (12, some tI), (14, some tI)], [(24, none), (26, none)]⟩
def tb_f47_1 : TC := (.sq (.sq (.reg [(oV 57 14), (oV 58 12), (oP 59 (.bin false .lss (.t 57) (.t 58)))]) (.cd (.t 59) .sk (.fg ⟨[(11, none)], [(24, none), (26, none)]⟩ (.ex 2)))) (.sq (.bk 3 (.reg [(oV 62 11), (oV 63 14), (oV 64 0), (oV 65 14), (oP 66 (.ix 4 (.t 64) (.t 65))), (oP 67 (.fa 2 (.t 66))), (oL 68 67), (oP 69 (.ix 4 (.t 62) (.t 63))), (oP 70 (.fa 2 (.t 69))), (.mk none none (.m (.st 1 (.t 70) (.t 68))))])) (.reg [(oV 60 14), (oP 61 (.bin false .add (.t 60) (cI 1))), (oV 14 61)])))
def fg_f47_2 : Fg := ⟨[(0, some (.sl tySetting)), (1, some .str), (10, none), (15, some tI), (16, some tI)], [(10, some tySetting)]⟩
def tb_f47_2 : TC := (.sq (.sq (.reg [(oV 74 16), (oV 75 0), (oP 76 (.len false (.t 75))), (oP 77 (.bin false .lss (.t 74) (.t 76)))]) (.cd (.t 77) .sk (.fg ⟨[(0, some (.sl tySetting)), (10, none), (15, some tI)], [(10, some tySetting)]⟩ (.ex 4)))) (.sq (.bk 5 (.sq (.reg [(oV 80 0), (oV 81 16), (oP 82 (.ix 4 (.t 80) (.t 81))), (oP 83 (.fa 0 (.t 82))), (oL 84 83), (oV 85 1), (oP 86 (.bin false .eql (.t 84) (.t 85)))]) (.cd (.t 86) (.reg [(oV 87 16), (oP 88 (.bin false .add (.t 87) (cI 1))), (oV 15 88)]) .sk))) (.reg [(oV 78 16), (oP 79 (.bin false .add (.t 78) (cI 1))), (oV 16 79)])))
def tc_f47 : TC := (.sq (.reg [(oP 8 (.mv (.c (.v (.slice none 0 0))))), (oP 9 (.mv (cI 0)))]) (.sq (.reg [(oV 17 1), (oV 18 2), (oV 19 3), (oP 20 (.bd [(.v (.string (ByteArray.mk #[]))), (.v (.string (ByteArray.mk #[]))), (.v (.string (ByteArray.mk #[]))), (.v (.int .i64 0))] [(0, 1, (.t 17)), (1, 1, (.t 18)), (2, 1, (.t 19))])), (oM 10 (.new [(.v (.string (ByteArray.mk #[]))), (.v (.string (ByteArray.mk #[]))), (.v (.string (ByteArray.mk #[]))), (.v (.int .i64 0))])), (.mk none none (.m (.st 4 (.t 10) (.t 20))))]) (.sq (.sq (.reg [(oM 21 (.ld true 4 (.t 10))), (oC 22 62 [(.t 21)]), (oP 23 (.nt (.t 22)))]) (.cd (.t 23) (.sq (.reg [(oP 8 (.mv (.c (.v (.slice none 0 0))))), (oP 9 (.mv (cI 1)))]) .rt) .sk)) (.sq (.reg [(oM 24 (.bs 45 4 0 [] [])), (oV 25 0), (oM 26 (.app 45 4 56 (.t 24) (.t 25))), (oV 11 26)]) (.sq (.reg [(oP 12 (.mv (cI (-1))))]) (.sq (.sq (.reg [(oP 13 (.mv (cI 0)))]) (.bk 0 (.lp 0 fg_f47_0 tb_f47_0))) (.sq (.sq (.reg [(oV 55 12), (oP 56 (.bin false .geq (.t 55) (cI 0)))]) (.cd (.t 56) (.sq (.sq (.reg [(oP 14 (.mv (cI 0)))]) (.bk 2 (.lp 1 fg_f47_1 tb_f47_1))) (.sq (.reg [(oV 71 11), (oV 8 71), (oP 9 (.mv (cI 0)))]) .rt)) .sk)) (.sq (.reg [(oV 72 0), (oP 73 (.len false (.t 72))), (oV 15 73)]) (.sq (.sq (.reg [(oP 16 (.mv (cI 0)))]) (.bk 4 (.lp 2 fg_f47_2 tb_f47_2))) (.sq (.dr dr_f47_0 [(0, [89, 5089, 10089, 15089]), (1, []), (2, []), (3, []), (4, [89, 93, 5093, 10093, 15093]), (5, [10]), (6, []), (7, [89, 93, 96, 5096, 10096, 15096]), (8, []), (9, []), (10, []), (11, [89, 93, 96, 100, 5100, 10100, 15100]), (12, [89, 93, 96, 100]), (13, [])] (.of [1, 2, 3, 5, 6, 8, 9, 10, 0, 4, 7, 11, 12, 13])) .rt))))))))))
def rv_f47 : List (RV × Option Ty) := [((.t 8), some (.sl tySetting)), ((.t 9), some tI)]
abbrev sh_f47_0 : Sh := ⟨[(0, .ty (.sl tySetting)), (1, .ty .str), (2, .ty .str), (3, .ty .str), (10, .ptr 10 0), (11, .ms 24), (12, .ty tI), (13, .ty tI)], [(10, .box tySetting), (24, .arr 45 tySetting), (26, .no)]⟩
def st_f47_0 (x0 : (List Setting)) (x1 : ByteArray) (x2 : ByteArray) (x3 : ByteArray) (x12 : Int) (x13 : Int) (y10 : Setting) (y24 : (List Setting)) : VS := sh_f47_0.st (x0, x1, x2, x3, (), (), x12, x13, ()) (y10, y24, (), ())
abbrev sh_f47_0_e0 : Sh := ⟨[(0, .ty (.sl tySetting)), (1, .ty .str), (10, .ptr 10 0), (11, .ms 24), (12, .ty tI)], [(10, .box tySetting), (24, .arr 45 tySetting), (26, .no)]⟩
def st_f47_0_e0 (x0 : (List Setting)) (x1 : ByteArray) (x12 : Int) (y10 : Setting) (y24 : (List Setting)) : VS := sh_f47_0_e0.st (x0, x1, (), (), x12, ()) (y10, y24, (), ())
-- loop 0: (x0 : (List Setting)) (x1 : ByteArray) (x2 : ByteArray) (x3 : ByteArray) (x12 : Int) (x13 : Int) (y10 : Setting) (y24 : (List Setting)); out: ('exit', 0) (x0 : (List Setting)) (x1 : ByteArray) (x12 : Int) (y10 : Setting) (y24 : (List Setting))
abbrev sh_f47_1 : Sh := ⟨[(0, .ty (.sl tySetting)), (11, .ms 24), (12, .ty tI), (14, .ty tI)], [(24, .arr 45 tySetting), (26, .no)]⟩
def st_f47_1 (x0 : (List Setting)) (x12 : Int) (x14 : Int) (y24 : (List Setting)) : VS := sh_f47_1.st (x0, (), x12, x14, ()) (y24, (), ())
abbrev sh_f47_1_e2 : Sh := ⟨[(11, .ms 24)], [(24, .arr 45 tySetting), (26, .no)]⟩
def st_f47_1_e2 (y24 : (List Setting)) : VS := sh_f47_1_e2.st ((), ()) (y24, (), ())
-- loop 1: (x0 : (List Setting)) (x12 : Int) (x14 : Int) (y24 : (List Setting)); out: ('exit', 2) (y24 : (List Setting))
abbrev sh_f47_2 : Sh := ⟨[(0, .ty (.sl tySetting)), (1, .ty .str), (10, .ptr 10 0), (15, .ty tI), (16, .ty tI)], [(10, .box tySetting)]⟩
def st_f47_2 (x0 : (List Setting)) (x1 : ByteArray) (x15 : Int) (x16 : Int) (y10 : Setting) : VS := sh_f47_2.st (x0, x1, (), x15, x16, ()) (y10, ())
abbrev sh_f47_2_e4 : Sh := ⟨[(0, .ty (.sl tySetting)), (10, .ptr 10 0), (15, .ty tI)], [(10, .box tySetting)]⟩
def st_f47_2_e4 (x0 : (List Setting)) (x15 : Int) (y10 : Setting) : VS := sh_f47_2_e4.st (x0, (), x15, ()) (y10, ())
-- loop 2: (x0 : (List Setting)) (x1 : ByteArray) (x15 : Int) (x16 : Int) (y10 : Setting); out: ('exit', 4) (x0 : (List Setting)) (x15 : Int) (y10 : Setting)
def L_f47_0 : VS → Option (Bool × List (Bool × Exit × VS)) := mkL sh_f47_0 (fun x y => (se0 x.1 x.2.1 x.2.2.1 x.2.2.2.1 x.2.2.2.2.2.2.1 x.2.2.2.2.2.2.2.1 y.2.1)) (fun x y => [(true, .exit 0, st_f47_0_e0 (x.1) (x.2.1) (lastI (fun q => isSN q x.2.1 x.2.2.1) x.1) (y.1) (x.1.map (mkV (fun q => isSN q x.2.1 x.2.2.1) x.2.2.2.1)))])
def L_f47_1 : VS → Option (Bool × List (Bool × Exit × VS)) := mkL sh_f47_1 (fun x y => (se1 x.1 x.2.2.1 x.2.2.2.1 y.1)) (fun x y => [(true, .exit 2, st_f47_1_e2 (x.1.take x.2.2.1.toNat ++ y.1.drop x.2.2.1.toNat))])
def L_f47_2 : VS → Option (Bool × List (Bool × Exit × VS)) := mkL sh_f47_2 (fun x y => (se2 x.1 x.2.1 x.2.2.2.1 x.2.2.2.2.1)) (fun x y => [(true, .exit 4, st_f47_2_e4 (x.1) (((posS x.1 x.2.1 : Nat) : Int)) (y.1))])
def g_f47 : G := ⟨TYs, [24, 89], 101, EL [(62, sp_f62)], keeps, (Ls [L_f47_0, L_f47_1, L_f47_2]), IL [], RL []⟩
def b_f47_0 (x0 : (List Setting)) (x1 : ByteArray) (x2 : ByteArray) (x3 : ByteArray) (x12 : Int) (x13 : Int) (y10 : Setting) (y24 : (List Setting)) : Option (Exit × VS) :=
 br ((ilt x13 (llen x0)))
  (br (cIx x0 x13)
   (br ((seq ((lgt tySetting x0 (Int.toNat x13)).1) x1))
    (br (cIx x0 x13)
     (br ((seq (((lgt tySetting x0 (Int.toNat x13)).2).1) x2))
      (br (cIx y24 x13)
       (br (cLd y24 (Int.toNat x13))
        (some (.normal, st_f47_0 x0 x1 x2 x3 x13 (iadd .i64 x13 1) y10 (List.set y24 (Int.toNat x13) ((lgt tySetting y24 (Int.toNat x13)).1, (((lgt tySetting y24 (Int.toNat x13)).2).1, (x3, (((lgt tySetting y24 (Int.toNat x13)).2).2).2))))))
        (none))
       (none))
      (some (.normal, st_f47_0 x0 x1 x2 x3 x12 (iadd .i64 x13 1) y10 y24)))
     (none))
    (some (.normal, st_f47_0 x0 x1 x2 x3 x12 (iadd .i64 x13 1) y10 y24)))
   (none))
  (some (.exit 0, st_f47_0_e0 x0 x1 x12 y10 y24))
noncomputable def lp_f47_0 (x0 : (List Setting)) (x1 : ByteArray) (x2 : ByteArray) (x3 : ByteArray) (x12 : Int) (x13 : Int) (y10 : Setting) (y24 : (List Setting)) : Option (Exit × VS) := loopF (roundF g_f47 fg_f47_0 tb_f47_0) (st_f47_0 x0 x1 x2 x3 x12 x13 y10 y24)
noncomputable def n_f47_0 (x0 : (List Setting)) (x1 : ByteArray) (x2 : ByteArray) (x3 : ByteArray) (x12 : Int) (x13 : Int) (y10 : Setting) (y24 : (List Setting)) : Option (Exit × VS) :=
 br ((ilt x13 (llen x0)))
  (br (cIx x0 x13)
   (br ((seq ((lgt tySetting x0 (Int.toNat x13)).1) x1))
    (br (cIx x0 x13)
     (br ((seq (((lgt tySetting x0 (Int.toNat x13)).2).1) x2))
      (br (cIx y24 x13)
       (br (cLd y24 (Int.toNat x13))
        (lp_f47_0 x0 x1 x2 x3 x13 (iadd .i64 x13 1) y10 (List.set y24 (Int.toNat x13) ((lgt tySetting y24 (Int.toNat x13)).1, (((lgt tySetting y24 (Int.toNat x13)).2).1, (x3, (((lgt tySetting y24 (Int.toNat x13)).2).2).2)))))
        (none))
       (none))
      (lp_f47_0 x0 x1 x2 x3 x12 (iadd .i64 x13 1) y10 y24))
     (none))
    (lp_f47_0 x0 x1 x2 x3 x12 (iadd .i64 x13 1) y10 y24))
   (none))
  (some (.exit 0, st_f47_0_e0 x0 x1 x12 y10 y24))
def la_f47_0 (x0 : (List Setting)) (x1 : ByteArray) (x2 : ByteArray) (x3 : ByteArray) (x12 : Int) (x13 : Int) (y10 : Setting) (y24 : (List Setting)) : Option (Exit × VS) := some (.exit 0, st_f47_0_e0 (x0) (x1) (lastI (fun q => isSN q x1 x2) x0) (y10) (x0.map (mkV (fun q => isSN q x1 x2) x3)))
theorem be_f47_0 (x0 : (List Setting)) (x1 : ByteArray) (x2 : ByteArray) (x3 : ByteArray) (x12 : Int) (x13 : Int) (y10 : Setting) (y24 : (List Setting)) : roundF g_f47 fg_f47_0 tb_f47_0 (st_f47_0 x0 x1 x2 x3 x12 x13 y10 y24) = b_f47_0 x0 x1 x2 x3 x12 x13 y10 y24 := by kernel_rfl
theorem ln_f47_0 (x0 : (List Setting)) (x1 : ByteArray) (x2 : ByteArray) (x3 : ByteArray) (x12 : Int) (x13 : Int) (y10 : Setting) (y24 : (List Setting)) : lp_f47_0 x0 x1 x2 x3 x12 x13 y10 y24 = n_f47_0 x0 x1 x2 x3 x12 x13 y10 y24 := (loopF_nxt _ _).trans (by
 rw [be_f47_0]
 simp only [b_f47_0, n_f47_0, nxt_br, nxt_n, nxt_r, nxt_e, nxt_0]
 rfl)
def b_f47_1 (x0 : (List Setting)) (x12 : Int) (x14 : Int) (y24 : (List Setting)) : Option (Exit × VS) :=
 br ((ilt x14 x12))
  (br (cIx x0 x14)
   (br (cIx y24 x14)
    (br (cLd y24 (Int.toNat x14))
     (some (.normal, st_f47_1 x0 x12 (iadd .i64 x14 1) (List.set y24 (Int.toNat x14) ((lgt tySetting y24 (Int.toNat x14)).1, (((lgt tySetting y24 (Int.toNat x14)).2).1, ((((lgt tySetting x0 (Int.toNat x14)).2).2).1, (((lgt tySetting y24 (Int.toNat x14)).2).2).2))))))
     (none))
    (none))
   (none))
  (some (.exit 2, st_f47_1_e2 y24))
noncomputable def lp_f47_1 (x0 : (List Setting)) (x12 : Int) (x14 : Int) (y24 : (List Setting)) : Option (Exit × VS) := loopF (roundF g_f47 fg_f47_1 tb_f47_1) (st_f47_1 x0 x12 x14 y24)
noncomputable def n_f47_1 (x0 : (List Setting)) (x12 : Int) (x14 : Int) (y24 : (List Setting)) : Option (Exit × VS) :=
 br ((ilt x14 x12))
  (br (cIx x0 x14)
   (br (cIx y24 x14)
    (br (cLd y24 (Int.toNat x14))
     (lp_f47_1 x0 x12 (iadd .i64 x14 1) (List.set y24 (Int.toNat x14) ((lgt tySetting y24 (Int.toNat x14)).1, (((lgt tySetting y24 (Int.toNat x14)).2).1, ((((lgt tySetting x0 (Int.toNat x14)).2).2).1, (((lgt tySetting y24 (Int.toNat x14)).2).2).2)))))
     (none))
    (none))
   (none))
  (some (.exit 2, st_f47_1_e2 y24))
def la_f47_1 (x0 : (List Setting)) (x12 : Int) (x14 : Int) (y24 : (List Setting)) : Option (Exit × VS) := some (.exit 2, st_f47_1_e2 (x0.take x12.toNat ++ y24.drop x12.toNat))
theorem be_f47_1 (x0 : (List Setting)) (x12 : Int) (x14 : Int) (y24 : (List Setting)) : roundF g_f47 fg_f47_1 tb_f47_1 (st_f47_1 x0 x12 x14 y24) = b_f47_1 x0 x12 x14 y24 := by kernel_rfl
theorem ln_f47_1 (x0 : (List Setting)) (x12 : Int) (x14 : Int) (y24 : (List Setting)) : lp_f47_1 x0 x12 x14 y24 = n_f47_1 x0 x12 x14 y24 := (loopF_nxt _ _).trans (by
 rw [be_f47_1]
 simp only [b_f47_1, n_f47_1, nxt_br, nxt_n, nxt_r, nxt_e, nxt_0]
 rfl)
def b_f47_2 (x0 : (List Setting)) (x1 : ByteArray) (x15 : Int) (x16 : Int) (y10 : Setting) : Option (Exit × VS) :=
 br ((ilt x16 (llen x0)))
  (br (cIx x0 x16)
   (br ((seq ((lgt tySetting x0 (Int.toNat x16)).1) x1))
    (some (.normal, st_f47_2 x0 x1 (iadd .i64 x16 1) (iadd .i64 x16 1) y10))
    (some (.normal, st_f47_2 x0 x1 x15 (iadd .i64 x16 1) y10)))
   (none))
  (some (.exit 4, st_f47_2_e4 x0 x15 y10))
noncomputable def lp_f47_2 (x0 : (List Setting)) (x1 : ByteArray) (x15 : Int) (x16 : Int) (y10 : Setting) : Option (Exit × VS) := loopF (roundF g_f47 fg_f47_2 tb_f47_2) (st_f47_2 x0 x1 x15 x16 y10)
noncomputable def n_f47_2 (x0 : (List Setting)) (x1 : ByteArray) (x15 : Int) (x16 : Int) (y10 : Setting) : Option (Exit × VS) :=
 br ((ilt x16 (llen x0)))
  (br (cIx x0 x16)
   (br ((seq ((lgt tySetting x0 (Int.toNat x16)).1) x1))
    (lp_f47_2 x0 x1 (iadd .i64 x16 1) (iadd .i64 x16 1) y10)
    (lp_f47_2 x0 x1 x15 (iadd .i64 x16 1) y10))
   (none))
  (some (.exit 4, st_f47_2_e4 x0 x15 y10))
def la_f47_2 (x0 : (List Setting)) (x1 : ByteArray) (x15 : Int) (x16 : Int) (y10 : Setting) : Option (Exit × VS) := some (.exit 4, st_f47_2_e4 (x0) (((posS x0 x1 : Nat) : Int)) (y10))
theorem be_f47_2 (x0 : (List Setting)) (x1 : ByteArray) (x15 : Int) (x16 : Int) (y10 : Setting) : roundF g_f47 fg_f47_2 tb_f47_2 (st_f47_2 x0 x1 x15 x16 y10) = b_f47_2 x0 x1 x15 x16 y10 := by kernel_rfl
theorem ln_f47_2 (x0 : (List Setting)) (x1 : ByteArray) (x15 : Int) (x16 : Int) (y10 : Setting) : lp_f47_2 x0 x1 x15 x16 y10 = n_f47_2 x0 x1 x15 x16 y10 := (loopF_nxt _ _).trans (by
 rw [be_f47_2]
 simp only [b_f47_2, n_f47_2, nxt_br, nxt_n, nxt_r, nxt_e, nxt_0]
 rfl)
def r_f47 (p0 : (List Setting)) (p1 : ByteArray) (p2 : ByteArray) (p3 : ByteArray) : Option (V × List VO) :=
 br ((rgtOk (p1, (p2, (p3, (0, ()))))))
  (br ((!(rgtB (p1, (p2, (p3, (0, ())))))))
   (some (.tu [(.t (.sl tySetting) ([] : List Setting)), (.t tI 1)], []))
   (br (cApp ([] : List Setting) p0 56)
    (br ((se0 p0 p1 p2 p3 (-1) (0 : Int) (([] : List Setting) ++ p0)))
     (br ((ige (lastI (fun q => isSN q p1 p2) p0) 0))
      (br ((se1 (p0) (lastI (fun q => isSN q p1 p2) p0) (0 : Int) (p0.map (mkV (fun q => isSN q p1 p2) p3))))
       (some (.tu [(.t (.sl tySetting) ((p0).take (lastI (fun q => isSN q p1 p2) p0).toNat ++ (p0.map (mkV (fun q => isSN q p1 p2) p3)).drop (lastI (fun q => isSN q p1 p2) p0).toNat)), (.t tI 0)], []))
       (none))
      (br ((se2 (p0) (p1) (llen (p0)) (0 : Int)))
       (br (cSl ((p0)) 0 (((posS (p0) (p1) : Nat) : Int)) ((List.length ((p0)) : Nat) : Int))
        (br (cSl ((p0)) (((posS (p0) (p1) : Nat) : Int)) ((List.length ((p0)) : Nat) : Int) ((List.length ((p0)) : Nat) : Int))
         (br (cApp ([] : List Setting) (lsl ((p0)) 0 (((posS (p0) (p1) : Nat) : Int))) 56)
          (br (cApp (([] : List Setting) ++ (lsl ((p0)) 0 (((posS (p0) (p1) : Nat) : Int)))) ([((((p1, (p2, (p3, (0, ())))))).1, (((((p1, (p2, (p3, (0, ())))))).2).1, ((((((p1, (p2, (p3, (0, ())))))).2).2).1, (((((((p1, (p2, (p3, (0, ())))))).2).2).2).1, ()))))]) 56)
           (br (cApp ((([] : List Setting) ++ (lsl ((p0)) 0 (((posS (p0) (p1) : Nat) : Int)))) ++ ([((((p1, (p2, (p3, (0, ())))))).1, (((((p1, (p2, (p3, (0, ())))))).2).1, ((((((p1, (p2, (p3, (0, ())))))).2).2).1, (((((((p1, (p2, (p3, (0, ())))))).2).2).2).1, ()))))])) (lsl ((p0)) (((posS (p0) (p1) : Nat) : Int)) ((List.length ((p0)) : Nat) : Int)) 56)
            (some (.tu [(.t (.sl tySetting) (((([] : List Setting) ++ (lsl ((p0)) 0 (((posS (p0) (p1) : Nat) : Int)))) ++ ([((((p1, (p2, (p3, (0, ())))))).1, (((((p1, (p2, (p3, (0, ())))))).2).1, ((((((p1, (p2, (p3, (0, ())))))).2).2).1, (((((((p1, (p2, (p3, (0, ())))))).2).2).2).1, ()))))])) ++ (lsl ((p0)) (((posS (p0) (p1) : Nat) : Int)) ((List.length ((p0)) : Nat) : Int)))), (.t tI 0)], []))
            (none))
           (none))
          (none))
         (none))
        (none))
       (none)))
     (none))
    (none)))
  (none)
theorem e_f47 (p0 : (List Setting)) (p1 : ByteArray) (p2 : ByteArray) (p3 : ByteArray) : runF g_f47 tc_f47 rv_f47 false [.t (.sl tySetting) p0, .t .str p1, .t .str p2, .t .str p3] [] = r_f47 p0 p1 p2 p3 := by kernel_rfl
theorem ok_f47 : Option.map (trC Tryd.prog) Tryd.f47.body = some tc_f47.er := by kernel_rfl
theorem rok_f47 : trVs Tryd.prog Tryd.f47.results.toList = some (rv_f47.map Prod.fst) := by kernel_rfl
theorem en_f47 : Entered Tryd.prog 47 := .inr ⟨by decide, _, Tryd.func47, by kernel_rfl, by kernel_rfl⟩
theorem gk_f47 : GOk Tryd.prog g_f47 := gok_of _ (by
 intro p hp
 simp only [List.mem_cons, List.not_mem_nil, or_false] at hp
 rcases hp with rfl
 ·exact ⟨en_f62, ms_f62⟩)
theorem set_tree {β : Type} (a b : Bool) (L R : Option β) : br a (br b L R) R = br (a && b) L R := by cases a <;> cases b <;> rfl
theorem ige_t (n : Nat) : ige (n : Int) 0 = true := decide_eq_true (by omega)
theorem mkV_no {p : Setting → Bool} {v : ByteArray} {x : Setting} (h : p x = false) : mkV p v x = x := by unfold mkV; rw [h]; rfl
theorem mkV_yes {p : Setting → Bool} {v : ByteArray} {x : Setting} (h : p x = true) : mkV p v x = putV v x := by unfold mkV; rw [h]; rfl
theorem set_mid {α : Type} {a b : List α} {k : Nat} {x y : α} (h : a.length = k) : (a ++ x :: b).set k y = a ++ y :: b := by
 subst h
 simp
theorem l_f47_0 (x0 : (List Setting)) (x1 : ByteArray) (x2 : ByteArray) (x3 : ByteArray) (x12 : Int) (x13 : Int) (y10 : Setting) (y24 : (List Setting)) (h : (se0 x0 x1 x2 x3 x12 x13 y24) = true) : lp_f47_0 x0 x1 x2 x3 x12 x13 y10 y24 = la_f47_0 x0 x1 x2 x3 x12 x13 y10 y24 := by
 obtain ⟨h1, h2, h3, h4, h5⟩ := cP_of h
 clear h
 obtain ⟨k, rfl⟩ := Int.eq_ofNat_of_zero_le h1
 rw [Int.toNat_natCast] at h4 h5
 subst h4 h5
 refine range_ind x0 (fun k => lp_f47_0 x0 x1 x2 x3 (lastI (fun q => isSN q x1 x2) (x0.take k)) (k : Int) y10 ((x0.take k).map (mkV (fun q => isSN q x1 x2) x3) ++ x0.drop k) = la_f47_0 x0 x1 x2 x3 (lastI (fun q => isSN q x1 x2) (x0.take k)) (k : Int) y10 ((x0.take k).map (mkV (fun q => isSN q x1 x2) x3) ++ x0.drop k)) ?_ ?_ k (by omega)
 ·rw [ln_f47_0]
  simp only [n_f47_0, la_f47_0, ilt_nat, llen, Nat.lt_irrefl, decide_false, br_false, List.take_length, List.drop_length, List.append_nil]
 ·intro k hk ih
  have hl : ((x0.take k).map (mkV (fun q => isSN q x1 x2) x3)).length = k := by rw [List.length_map, List.length_take]; omega
  have hd := List.drop_eq_getElem_cons hk
  have ht := take_snoc (List.getElem?_eq_getElem hk)
  have hlen : ((x0.take k).map (mkV (fun q => isSN q x1 x2) x3) ++ x0.drop k).length = x0.length := by rw [List.length_append, hl, List.length_drop]; omega
  have hg : ((x0.take k).map (mkV (fun q => isSN q x1 x2) x3) ++ x0.drop k)[k]'(by omega) = x0[k] := by
   rw [List.getElem_append_right (by omega)]
   simp only [hl, Nat.sub_self, List.getElem_drop, Nat.add_zero]
  rw [ht, List.map_append, List.map_singleton, lastI_snoc, List.append_assoc, List.singleton_append, List.length_take, Nat.min_eq_left (Nat.le_of_lt hk)] at ih
  rw [ln_f47_0]
  have e : ilt (k : Int) (llen x0) = true := decide_eq_true (by simp only [llen]; omega)
  have ei : cIx x0 (k : Int) = true := by rw [cIx_nat]; exact decide_eq_true hk
  have ei2 : cIx ((x0.take k).map (mkV (fun q => isSN q x1 x2) x3) ++ x0.drop k) (k : Int) = true := by rw [cIx_nat]; exact decide_eq_true (by omega)
  have ec : cLd ((x0.take k).map (mkV (fun q => isSN q x1 x2) x3) ++ x0.drop k) k = true := decide_eq_true (by omega)
  unfold n_f47_0
  rw [e, ei, ei2, Int.toNat_natCast, ec, lgt_get (y := tySetting) hk, lgt_get (y := tySetting) (by omega : k < ((x0.take k).map (mkV (fun q => isSN q x1 x2) x3) ++ x0.drop k).length), hg, br_true, br_true, br_true, br_true, add1 (show k < 4611686018427387904 by omega), set_tree]
  show br (isSN x0[k] x1 x2) _ _ = _
  cases hq : isSN x0[k] x1 x2 with
  | true =>
   rw [br_true]
   rw [mkV_yes (p := fun q => isSN q x1 x2) hq, if_pos hq] at ih
   rw [hd, set_mid hl]
   exact ih
  | false =>
   rw [br_false]
   rw [mkV_no (p := fun q => isSN q x1 x2) hq, if_neg (by rw [hq]; simp), ← hd] at ih
   exact ih
theorem put_same {x y : Setting} (f1 : y.1 = x.1) (f2 : y.2.1 = x.2.1) (f3 : y.2.2.2.1 = x.2.2.2.1) : (y.1, (y.2.1, (x.2.2.1, y.2.2.2))) = x := by
 obtain ⟨a, b, c, d, u⟩ := x
 obtain ⟨a', b', c', d', u'⟩ := y
 simp only [] at f1 f2 f3
 subst f1 f2 f3
 rfl
theorem l_f47_1 (x0 : (List Setting)) (x12 : Int) (x14 : Int) (y24 : (List Setting)) (h : (se1 x0 x12 x14 y24) = true) : lp_f47_1 x0 x12 x14 y24 = la_f47_1 x0 x12 x14 y24 := by
 obtain ⟨h1, h2, h3, h4, h5, h6, h7⟩ := cP_of h
 clear h
 obtain ⟨k, rfl⟩ := Int.eq_ofNat_of_zero_le h1
 obtain ⟨m, rfl⟩ := Int.eq_ofNat_of_zero_le (Int.le_trans h1 h2)
 rw [Int.toNat_natCast] at h6
 have hm : m < x0.length := by omega
 obtain ⟨n, hn⟩ : ∃ n, n = m - k := ⟨_, rfl⟩
 induction n generalizing k y24 with
 | zero =>
  obtain rfl : k = m := by omega
  rw [ln_f47_1]
  have e : ilt (k : Int) (k : Int) = false := decide_eq_false (by omega)
  have e2 : x0.take k ++ y24.drop k = y24 := by rw [← h6, List.take_append_drop]
  unfold n_f47_1
  rw [e, br_false]
  unfold la_f47_1
  rw [Int.toNat_natCast, e2]
 | succ n ih =>
  have hk : k < x0.length := by omega
  have hky : k < y24.length := by omega
  obtain ⟨f1, f2, f3⟩ := h7 k (by omega)
  simp only [List.getElem?_eq_getElem hk, List.getElem?_eq_getElem hky, Option.getD_some] at f1 f2 f3
  have hs := put_same f1 f2 f3
  rw [ln_f47_1]
  have e : ilt (k : Int) (m : Int) = true := decide_eq_true (by omega)
  have ei : cIx x0 (k : Int) = true := by rw [cIx_nat]; exact decide_eq_true hk
  have ei2 : cIx y24 (k : Int) = true := by rw [cIx_nat]; exact decide_eq_true hky
  have ec : cLd y24 k = true := decide_eq_true hky
  unfold n_f47_1
  rw [e, ei, ei2, Int.toNat_natCast, ec, lgt_get (y := tySetting) hk, lgt_get (y := tySetting) hky, br_true, br_true, br_true, br_true, add1 (show k < 4611686018427387904 by omega), hs]
  rw [ih (y24.set k x0[k]) (by rw [List.length_set]; exact h5) (k + 1) (by omega) ?_ ?_ (by omega) (by omega)]
  ·unfold la_f47_1
   rw [Int.toNat_natCast, List.drop_set_of_lt (by omega)]
  ·rw [take_snoc (List.getElem?_eq_getElem hk), take_snoc (x := x0[k]) (by rw [List.getElem?_set_self hky]), List.take_set_of_le (Nat.le_refl _), h6]
  ·intro i hi
   by_cases hik : i = k
   ·subst hik
    rw [List.getElem?_set_self hky, List.getElem?_eq_getElem hk]
    exact ⟨rfl, rfl, rfl⟩
   ·rw [List.getElem?_set_ne (fun e => hik e.symm)]
    exact h7 i hi
theorem l_f47_2 (x0 : (List Setting)) (x1 : ByteArray) (x15 : Int) (x16 : Int) (y10 : Setting) (h : (se2 x0 x1 x15 x16) = true) : lp_f47_2 x0 x1 x15 x16 y10 = la_f47_2 x0 x1 x15 x16 y10 := by
 obtain ⟨h1, h2, h3, h4⟩ := cP_of h
 clear h
 obtain ⟨k, rfl⟩ := Int.eq_ofNat_of_zero_le h1
 rw [Int.toNat_natCast] at h4
 subst h4
 refine range_ind x0 (fun k => lp_f47_2 x0 x1 ((posN x0.length x1 (x0.take k) : Nat) : Int) (k : Int) y10 = la_f47_2 x0 x1 ((posN x0.length x1 (x0.take k) : Nat) : Int) (k : Int) y10) ?_ ?_ k (by omega)
 ·rw [ln_f47_2]
  simp only [n_f47_2, la_f47_2, ilt_nat, llen, Nat.lt_irrefl, decide_false, br_false, List.take_length]
  rfl
 ·intro k hk ih
  rw [take_snoc (List.getElem?_eq_getElem hk), posN_snoc, List.length_take, Nat.min_eq_left (Nat.le_of_lt hk)] at ih
  rw [ln_f47_2]
  have e : ilt (k : Int) (llen x0) = true := decide_eq_true (by simp only [llen]; omega)
  have ei : cIx x0 (k : Int) = true := by rw [cIx_nat]; exact decide_eq_true hk
  unfold n_f47_2
  rw [e, ei, Int.toNat_natCast, lgt_get (y := tySetting) hk, br_true, br_true, add1 (show k < 4611686018427387904 by omega)]
  cases hq : seq x0[k].1 x1 with
  | true => rw [hq, if_pos rfl] at ih; rw [br_true]; exact ih
  | false => rw [hq, if_neg (by simp)] at ih; rw [br_false]; exact ih
theorem lo_f47_0 : ∀ S l p, g_f47.L 0 (fgt fg_f47_0 S) = some (true, l) → pickA l = some p → loopF (roundF g_f47 fg_f47_0 tb_f47_0) S = some p :=
 lok_of (s := sh_f47_0) ⟨by decide, by decide⟩ (by kernel_rfl) fun x y hok p hp => by
 simp only [pickA_br, pickA_one] at hp
 exact (l_f47_0 x.1 x.2.1 x.2.2.1 x.2.2.2.1 x.2.2.2.2.2.2.1 x.2.2.2.2.2.2.2.1 y.1 y.2.1 (by simpa using hok)).trans hp
theorem lo_f47_1 : ∀ S l p, g_f47.L 1 (fgt fg_f47_1 S) = some (true, l) → pickA l = some p → loopF (roundF g_f47 fg_f47_1 tb_f47_1) S = some p :=
 lok_of (s := sh_f47_1) ⟨by decide, by decide⟩ (by kernel_rfl) fun x y hok p hp => by
 simp only [pickA_br, pickA_one] at hp
 exact (l_f47_1 x.1 x.2.2.1 x.2.2.2.1 y.1 (by simpa using hok)).trans hp
theorem lo_f47_2 : ∀ S l p, g_f47.L 2 (fgt fg_f47_2 S) = some (true, l) → pickA l = some p → loopF (roundF g_f47 fg_f47_2 tb_f47_2) S = some p :=
 lok_of (s := sh_f47_2) ⟨by decide, by decide⟩ (by kernel_rfl) fun x y hok p hp => by
 simp only [pickA_br, pickA_one] at hp
 exact (l_f47_2 x.1 x.2.1 x.2.2.2.1 x.2.2.2.2.1 y.1 (by simpa using hok)).trans hp
theorem lk_f47 : tc_f47.lok g_f47 := by
 repeat (first | exact trivial | exact lo_f47_0 | exact lo_f47_1 | exact lo_f47_2 | refine ⟨?_, ?_⟩)
theorem lsl_nat {l : List Setting} {a b : Nat} : lsl l (a : Int) (b : Int) = (l.drop a).take (b - a) := by
 unfold lsl
 rw [Int.toNat_natCast, Int.toNat_natCast]
theorem s_f47 (l : List Setting) (a b v : ByteArray) (h : setOkF l a b v = true) : r_f47 l a b v = some (.tu [.t (.sl tySetting) (setF l a b v).1, .t tI (setF l a b v).2], []) := by
 obtain ⟨h1, h2⟩ := Bool.and_eq_true_iff.1 h
 have h1 : l.length ≤ 100000 := of_decide_eq_true h1
 unfold r_f47 setF
 refine brY h2 ?_
 show br (!rgtB (newS a b v)) _ _ = _
 cases hr : rgtB (newS a b v) with
 | false => rfl
 | true =>
  rw [Bool.not_true, br_false, cond_true]
  refine brY (cAppN (by decide) (by rw [List.length_nil]; omega)) (brY (cP_in ⟨by omega, by omega, h1, rfl, rfl⟩) ?_)
  unfold setL
  rcases idxP_dec (fun x => isSN x a b) l with ⟨e1, e2⟩ | ⟨pre, m, post, rfl, e2, e3, e1⟩
  ·have el : lastI (fun q => isSN q a b) l = -1 := by unfold lastI; rw [e1]
   have hp := posS_le l a
   rw [el, e1]
   rw [show ige (-1) 0 = false from rfl, br_false]
   refine brY (cP_in ⟨by omega, by omega, h1, rfl⟩) ?_
   generalize posS l a = q at hp
   have hq0 : lsl l 0 (q : Int) = l.take q := by
    unfold lsl
    simp
   have hq1 : lsl l (q : Int) ((List.length l : Nat) : Int) = l.drop q := by
    rw [lsl_nat, List.take_of_length_le (by rw [List.length_drop]; exact Nat.le_refl _)]
   rw [hq0, hq1, List.nil_append]
   refine brY (decide_eq_true (by omega)) (brY (decide_eq_true (by omega)) (brY (cAppN (by decide) (by rw [List.length_nil, List.length_take]; omega)) (brY (cAppN (by decide) (by rw [List.length_take, List.length_singleton]; omega)) (brY (cAppN (by decide) (by rw [List.length_append, List.length_take, List.length_singleton, List.length_drop]; omega)) ?_))))
   rw [List.append_assoc]
   rfl
  ·have el : lastI (fun q => isSN q a b) (pre ++ m :: post) = (pre.length : Int) := by unfold lastI; rw [e1]
   have em : (pre ++ m :: post).map (mkV (fun q => isSN q a b) v) = pre.map (mkV (fun q => isSN q a b) v) ++ putV v m :: post := by
    rw [List.map_append, List.map_cons, mkV_yes (p := fun q => isSN q a b) e2]
    congr 2
    conv => rhs; rw [← List.map_id post]
    exact List.map_congr_left fun x hx => mkV_no (p := fun q => isSN q a b) (e3 x hx)
   rw [el, e1, ige_t, br_true]
   refine brY (cP_in ⟨by omega, by omega, by simp; omega, h1, by simp, rfl, ?_⟩) ?_
   ·intro i _
    rw [List.getElem?_map]
    cases (pre ++ m :: post)[i]? with
    | none => exact ⟨rfl, rfl, rfl⟩
    | some x =>
     simp only [Option.map_some, Option.getD_some]
     cases hx : isSN x a b with
     | true => rw [mkV_yes (p := fun q => isSN q a b) hx]; exact ⟨rfl, rfl, rfl⟩
     | false => rw [mkV_no (p := fun q => isSN q a b) hx]; exact ⟨rfl, rfl, rfl⟩
   ·rw [Int.toNat_natCast, em]
    have q1 : (pre ++ m :: post).take pre.length = pre := List.take_left' rfl
    have q2 : (pre ++ m :: post).drop (pre.length + 1) = post := by
     rw [show pre ++ m :: post = (pre ++ [m]) ++ post by simp, List.drop_left' (by simp)]
    have q3 : (pre ++ m :: post)[pre.length]?.getD zSet = m := by simp
    have q4 : (pre.map (mkV (fun q => isSN q a b) v) ++ putV v m :: post).drop pre.length = putV v m :: post := List.drop_left' (by simp)
    rw [q1, q4]
    simp only [q1, q2, q3]
def sp_f47 : Ent := spec (.pr (.sl tySetting) (.pr .str (.pr .str (.pr .str .nil)))) (fun x => (setOkF x.1 x.2.1 x.2.2.1 x.2.2.2.1)) (fun x => (.tu [(.t (.sl tySetting) ((setF x.1 x.2.1 x.2.2.1 x.2.2.2.1).1)), (.t tI ((setF x.1 x.2.1 x.2.2.1 x.2.2.2.1).2))]))
theorem ms_f47 : Meets Tryd.prog 47 (strip sp_f47) := by
 obtain ⟨c, hc, hi⟩ := Option.map_eq_some_iff.1 ok_f47
 exact meets_spec (R := runF g_f47 tc_f47 rv_f47 false) (meets_of (by decide) Tryd.func47 hc hi Tryd.ntmps47 rok_f47 gk_f47 lk_f47 mixed) fun x hok => (e_f47 x.1 x.2.1 x.2.2.1 x.2.2.2.1).trans (s_f47 x.1 x.2.1 x.2.2.1 x.2.2.2.1 hok)
end
end Go.Proofs.YtkkoedniahnneaaDoor.K
