import Derived.Test.YtkngeegkjhipeaaGreatN4
set_option linter.unusedSimpArgs false
set_option linter.unusedVariables false
set_option linter.unusedSectionVars false
namespace Go.Proofs.YtkngeegkjhipeaaGreat.K
open Go.RowKit
noncomputable section
def encT (x : ValT) : List Int := encV (Val.of x)
def encL (l : List ValT) : List Int := encVs (l.map Val.of)
theorem Qgo : encL [] = [] := rfl
theorem QbZ (x : ValT) (l : List ValT) : encL (x :: l) = encT x ++ encL l := rfl
theorem QnA (x : ValT) : encT x = icv .u8 x.1 :: (lenL (x.2.1.length + (encVs x.2.2.2.1).length) ++ (x.2.1 ++ encVs x.2.2.2.1)) := rfl
theorem Qnz (x : ValT) : x.2.1.length + (encVs x.2.2.2.1).length ≤ (encT x).length := QIX x.1 x.2.1 x.2.2.1 x.2.2.2.1
theorem Qjn : ∀ (l : List ValT) (k : Nat) (hk : k < l.length), (encL (l.take k)).length + (encT l[k]).length ≤ (encL l).length
 | [], k, hk => by simp at hk
 | x :: l, 0, _ => by
  rw [List.take_zero, Qgo, QbZ, List.length_append]
  simp
 | x :: l, k + 1, hk => by
  simp only [List.length_cons] at hk
  have := Qjn l k (by omega)
  simp only [List.take_succ_cons, QbZ, List.length_append, List.getElem_cons_succ]
  omega
theorem Qgi (n : Nat) : (lenL n).length ≤ 9 := by
 unfold lenL
 split
 ·simp
 ·rw [List.length_cons, Qqw]
  have := QqA 8 n
  omega
def encLF (n : Nat) (x : ValT) : Bool := okT n x && decide ((encT x).length ≤ 100000000)
def encOk (x : ValT) : Bool := okT 12 x && decide ((encT x).length ≤ 100000000)
theorem Qn1 (x : ValT) (h : encOk x = true) : ∃ N, encLF N x = true := ⟨12, h⟩
theorem QFy : Qag Tryz.prog 151 := .inr ⟨by decide, _, Tryz.func151, by kernel_rfl, by kernel_rfl⟩
def Qf6 [Fuel] : Ent := spec (.pr Qah .nil) (fun x => (encLF fuel x.1)) (fun x => (.t (.sl (.int .u8)) (encT x.1)))
theorem QI5 : Qag Tryz.prog 151 := QFy
section
variable [Fuel] [Nonempty (PLift (Meets Tryz.prog 151 (strip Qf6)))]
theorem QHO : Meets Tryz.prog 151 (strip Qf6) := (Classical.choice (inferInstance : Nonempty (PLift (Meets Tryz.prog 151 (strip Qf6))))).down
def encIn [Fuel] (x : ValT) : Bool := encLF (fuel + 1) x
noncomputable def QFJ : List DO := dT Tryz.f151 6
def QfJ : Fg := ⟨[(1, none), (3, none), (4, some tI)], [(1, some Qah), (3, none), (5, none), (8, none), (23, none)]⟩
noncomputable def Qhg : TC := (.sq (.sq (.reg (rT Tryz.f151 3)) (.cd (.t 13) .sk (.fg ⟨[(1, none), (3, none)], [(1, some Qah), (3, none), (5, none), (8, none), (23, none)]⟩ (.ex 0)))) (.sq (.bk 1 (.reg (rT Tryz.f151 4))) (.reg (rT Tryz.f151 5))))
noncomputable def QtH : TC := (.sq (.reg (rT Tryz.f151 0)) (.sq (.reg (rT Tryz.f151 1)) (.sq (.sq (.reg (rT Tryz.f151 2)) (.bk 0 (.nw 3 5 (.lp 0 QfJ Qhg)))) (.sq (.dr QFJ [(0, [1]), (1, [1]), (2, []), (3, [27, 5027, 10027, 15027]), (4, [3, 5, 8, 23]), (5, [3, 5, 8, 23]), (6, []), (7, [27, 31, 5031, 10031, 15031]), (8, [3, 5, 8, 23]), (9, [3, 5, 8, 23, 27, 31, 33, 5033, 10033, 15033]), (10, [27, 31, 33])] (.of [0, 1, 2, 4, 5, 6, 8, 3, 7, 9, 10])) .rt))))
def QBS : List (RV × Option Ty) := [((.t 2), some (.sl (.int .u8)))]
abbrev Qms : Sh := ⟨[(1, .ptr 1 0), (3, .ms 5), (4, .ty tI)], [(1, .box Qah), (3, .no), (5, .arr 5 (.int .u8)), (8, .no), (23, .no)]⟩
def QlX (x4 : Int) (y1 : ValT) (y5 : List Int) : VS := Qms.st ((), (), x4, ()) (y1, (), y5, (), (), ())
abbrev Qry : Sh := ⟨[(1, .ptr 1 0), (3, .ms 5)], [(1, .box Qah), (3, .no), (5, .arr 5 (.int .u8)), (8, .no), (23, .no)]⟩
def Qdp (y1 : ValT) (y5 : List Int) : VS := Qry.st ((), (), ()) (y1, (), y5, (), (), ())
def QKn : VS → Option (Bool × List (Bool × Exit × VS)) := mkL Qms (fun x y => (decide (0 ≤ x.2.2.1 ∧ x.2.2.1 ≤ y.1.2.2.2.1.length ∧ y.2.2.1.length + (encL ((List.map Val.un y.1.2.2.2.1).drop x.2.2.1.toNat)).length ≤ 1000000000) && encIn y.1)) (fun x y => [(true, .exit 0, Qdp (y.1) (y.2.2.1 ++ encL ((List.map Val.un y.1.2.2.2.1).drop x.2.2.1.toNat)))])
def QjP : G := ⟨TYs, [5, 27], 34, EL [(151, Qf6), (169, QAO)], keeps, (Ls [QKn]), IL [], RL []⟩
def Qx8 (x4 : Int) (y1 : ValT) (y5 : List Int) : Option (Exit × VS) :=
 let a2 := List.map Val.un y1.2.2.2.1
 let a1 := lgt Qah a2 (Int.toNat x4)
 br (ilt x4 (llen a2)) (br (cIx a2 x4) (br (encLF fuel a1) (br (cApp y5 (encT a1) 1) (some (.normal, QlX (iadd .i64 x4 1) y1 (y5 ++ (encT a1)))) none) none) none) (some (.exit 0, Qdp y1 y5))
noncomputable def QhN (x4 : Int) (y1 : ValT) (y5 : List Int) : Option (Exit × VS) := loopF (Qai QjP QfJ Qhg) (QlX x4 y1 y5)
noncomputable def QkE (x4 : Int) (y1 : ValT) (y5 : List Int) : Option (Exit × VS) :=
 let a2 := List.map Val.un y1.2.2.2.1
 let a1 := lgt Qah a2 (Int.toNat x4)
 br (ilt x4 (llen a2)) (br (cIx a2 x4) (br (encLF fuel a1) (br (cApp y5 (encT a1) 1) (QhN (iadd .i64 x4 1) y1 (y5 ++ (encT a1))) none) none) none) (some (.exit 0, Qdp y1 y5))
def Qh7 (x4 : Int) (y1 : ValT) (y5 : List Int) : Option (Exit × VS) := some (.exit 0, Qdp (y1) (y5 ++ encL ((List.map Val.un y1.2.2.2.1).drop x4.toNat)))
theorem QGl (x4 : Int) (y1 : ValT) (y5 : List Int) : Qai QjP QfJ Qhg (QlX x4 y1 y5) = Qx8 x4 y1 y5 := by kernel_rfl
theorem Qss (x4 : Int) (y1 : ValT) (y5 : List Int) : QhN x4 y1 y5 = QkE x4 y1 y5 := (Qap _ _).trans (by
 rw [QGl]
 simp only [Qx8, QkE, QaE, nxt_n, nxt_r, nxt_e, nxt_0]
 rfl)
def QCR (p0 : ValT) : Option (V × List VO) :=
 let a2 := List.map Val.un p0.2.2.2.1
 let a3 := (a2.drop (0 : Int).toNat)
 let a1 := (llen ((([] : List Int) ++ p0.2.1) ++ encL a3))
 let a4 := icv .u8 ((p0).1)
 br (cApp ([] : List Int) p0.2.1 1) (br (decide (0 ≤ (0 : Int) ∧ (0 : Int) ≤ p0.2.2.2.1.length ∧ (([] : List Int) ++ p0.2.1).length + (encL a3).length ≤ 1000000000) && encIn p0) (br (QsJ a1) (br (cApp ([a4]) (lenR a1) 1) (br (cApp (([a4]) ++ (lenR a1)) ((([] : List Int) ++ p0.2.1) ++ encL a3) 1) (some (.t (.sl (.int .u8)) ((([a4]) ++ (lenR a1)) ++ ((([] : List Int) ++ p0.2.1) ++ encL a3)), [])) none) none) none) none) none
theorem e_f151 (p0 : ValT) : runF QjP QtH QBS false [.t Qah p0] [] = QCR p0 := by kernel_rfl
theorem QPR : GOk Tryz.prog QjP := Qal _ (gA (gC QI5 QHO (gC QQp QNA gN)))
theorem QIv (x4 : Int) (y1 : ValT) (y5 : List Int) (h : (decide (0 ≤ x4 ∧ x4 ≤ y1.2.2.2.1.length ∧ y5.length + (encL ((List.map Val.un y1.2.2.2.1).drop x4.toNat)).length ≤ 1000000000) && encIn y1) = true) : QhN x4 y1 y5 = Qh7 x4 y1 y5 := by
 simp only [Bool.and_eq_true, decide_eq_true_eq] at h
 obtain ⟨⟨h0, h1, h2⟩, hc⟩ := h
 obtain ⟨k, rfl⟩ := Int.eq_ofNat_of_zero_le h0
 simp only [encIn, encLF, Bool.and_eq_true, decide_eq_true_eq] at hc
 obtain ⟨hc, hf⟩ := hc
 have hm := Qu9 hc
 have hl := (Qcj hc).2.2.2.2.2.1
 rw [Int.toNat_natCast] at h2
 have hel := Qnz y1
 have hE : encL (List.map Val.un y1.2.2.2.1) = encVs y1.2.2.2.1 := by rw [encL, Qcs]
 revert y5
 refine Qav (List.map Val.un y1.2.2.2.1) (fun k => ∀ y5 : List Int, y5.length + (encL ((List.map Val.un y1.2.2.2.1).drop k)).length ≤ 1000000000 → QhN (k : Int) y1 y5 = Qh7 (k : Int) y1 y5) ?_ ?_ k (by rw [List.length_map]; omega)
 ·intro y5 _
  rw [Qss]
  simp only [QkE, show ilt ((List.map Val.un y1.2.2.2.1).length : Int) (llen (List.map Val.un y1.2.2.2.1)) = false from decide_eq_false (by simp only [llen]; omega), Qae]
  simp only [Qh7, Int.toNat_natCast, List.drop_length, Qgo, List.append_nil]
 ·intro k hk ih y5 hy
  rw [Qss]
  have hk2 : k < y1.2.2.2.1.length := by rw [List.length_map] at hk; exact hk
  have hs := Qjn (List.map Val.un y1.2.2.2.1) k hk
  rw [hE] at hs
  rw [List.drop_eq_getElem_cons hk, QbZ, List.length_append] at hy
  have hd : encLF fuel (List.map Val.un y1.2.2.2.1)[k] = true := by rw [encLF, hm k hk, decide_eq_true (by omega)]; rfl
  simp only [QkE, show ilt (k : Int) (llen (List.map Val.un y1.2.2.2.1)) = true from decide_eq_true (by simp only [llen]; omega), QaA, hk, decide_true, Qac, Int.toNat_natCast, add1 (show k < 4611686018427387904 by omega), QaF (y := Qah) hk, hd]
  rw [cAppN (by omega) (by omega), Qac, ih _ (by rw [List.length_append]; omega)]
  simp only [Qh7, Int.toNat_natCast, List.drop_eq_getElem_cons hk, QbZ, List.append_assoc]
theorem QD7 : ∀ S l p, QjP.L 0 (fgt QfJ S) = some (true, l) → pickA l = some p → loopF (Qai QjP QfJ Qhg) S = some p :=
 QaG (s := Qms) ⟨by decide, by decide⟩ (by kernel_rfl) fun x y hok p hp => by
 simp only [Qas, Qao] at hp
 exact (QIv x.2.2.1 y.1 y.2.2.1 (by simpa using hok)).trans hp
theorem QOE : QtH.lok QjP := by
 repeat (first | exact trivial | exact QD7 | refine ⟨?_, ?_⟩)
theorem s_f151 (x : ValT) (h : encLF (fuel + 1) x = true) : QCR x = some (.t (.sl (.int .u8)) (encT x), []) := by
 have hin : encIn x = true := h
 simp only [encLF, Bool.and_eq_true, decide_eq_true_eq] at h
 obtain ⟨h, hf⟩ := h
 have hel := Qnz x
 have hE : encL (List.map Val.un x.2.2.2.1) = encVs x.2.2.2.1 := by rw [encL, Qcs]
 have hll := Qgi (x.2.1.length + (encVs x.2.2.2.1).length)
 simp only [QCR, hin, Bool.and_true, List.nil_append, Int.toNat_zero, List.drop_zero, hE]
 rw [cAppN (by omega) (by simp only [List.length_nil]; omega), Qac, decide_eq_true ⟨by omega, by omega, by omega⟩, Qac]
 have e1 : QsJ (llen (x.2.1 ++ encVs x.2.2.2.1)) = true := decide_eq_true (by simp only [llen, List.length_append]; omega)
 have e2 : lenR (llen (x.2.1 ++ encVs x.2.2.2.1)) = lenL (x.2.1.length + (encVs x.2.2.2.1).length) := by simp only [lenR, llen, List.length_append, Int.toNat_natCast]
 rw [e1, Qac, e2, cAppN (by omega) (by simp only [List.length_singleton]; omega), Qac, cAppN (by omega) (by simp only [List.length_append, List.length_singleton]; omega), Qac, QnA]
 simp only [List.singleton_append, List.cons_append, List.nil_append]
theorem QOe : Meets Tryz.prog 151 (runF QjP QtH QBS false) := mG Tryz.func151 (by kernel_rfl) Tryz.ntmps151 (by kernel_rfl) QPR QOE
end
theorem QjF : ∀ N : Nat, Meets Tryz.prog 151 (strip (@Qf6 ⟨N⟩))
 | 0 => QbH fun x => by first | rfl | simp [encLF]
 | N + 1 => by
  letI : Fuel := ⟨N⟩
  haveI : Nonempty (PLift (Meets Tryz.prog 151 (strip Qf6))) := ⟨⟨QjF N⟩⟩
  exact Qaf QOe fun x hok => (e_f151 x.1).trans (s_f151 x.1 hok)
def QAZ : Ent := spec (.pr Qah .nil) (fun x => (encOk x.1)) (fun x => (.t (.sl (.int .u8)) (encT x.1)))
theorem QNL : Meets Tryz.prog 151 (strip QAZ) := QbI QjF fun x hok => Qn1 x.1 hok
def encE (x : ValT) : List Int × Int := if 4096 < (encT x).length then ([], 3) else (encT x, 0)
theorem QxJ {x : ValT} (h : okT 12 x = true) : igt (dpV x) 16 = false := by
 have := QpS (v := Val.of x) h
 exact decide_eq_false (by show ¬ ((depV (Val.of x) : Int) > 16); omega)
noncomputable def QtP : TC := (.sq (.reg (rT Tryz.f136 0)) (.sq (.sq (.reg (rT Tryz.f136 1)) (.cd (.t 7) (.sq (.reg (rT Tryz.f136 2)) .rt) .sk)) (.sq (.sq (.reg (rT Tryz.f136 3)) (.cd (.t 10) (.sq (.reg (rT Tryz.f136 4)) .rt) .sk)) (.sq (.reg (rT Tryz.f136 5)) (.sq (.sq (.reg (rT Tryz.f136 6)) (.cd (.t 15) (.sq (.reg (rT Tryz.f136 7)) .rt) .sk)) (.sq (.reg (rT Tryz.f136 8)) .rt))))))
def QB0 : List (RV × Option Ty) := [((.t 2), some (.sl (.int .u8))), ((.t 3), some tI)]
def Qxl : G := ⟨TYs, [], 17, EL [(149, QA1), (150, QA0), (151, QAZ)], keeps, (fun _ _ => none), IL [], RL []⟩
def QCY (p0 : ValT) : Option (V × List VO) := br (frmOk p0) (br (!(frmV p0)) (some (.tu [(.t (.sl (.int .u8)) ([] : List Int)), (.t tI 1)], [])) (br (dpOk p0) (br (igt (dpV p0) 16) (some (.tu [(.t (.sl (.int .u8)) ([] : List Int)), (.t tI 3)], [])) (br (encOk p0) (br (igt (llen (encT p0)) 4096) (some (.tu [(.t (.sl (.int .u8)) ([] : List Int)), (.t tI 3)], [])) (some (.tu [(.t (.sl (.int .u8)) (encT p0)), (.t tI 0)], []))) none)) none)) none
theorem e_f136 (p0 : ValT) : runF Qxl QtP QB0 false [.t Qah p0] [] = QCY p0 := by kernel_rfl
theorem QQD : Qag Tryz.prog 136 := .inr ⟨by decide, _, Tryz.func136, by kernel_rfl, by kernel_rfl⟩
theorem QPZ : GOk Tryz.prog Qxl := Qal _ (gA (gC QFA QNN (gC QFz QNM (gC QFy QNL gN))))
theorem QOM : QtP.lok Qxl := by repeat (first | exact trivial | refine ⟨?_, ?_⟩)
theorem s_f136 (x : ValT) (h : encOk x = true) : QCY x = some (.tu [.t (.sl (.int .u8)) (encE x).1, .t tI (encE x).2], []) := by
 have h' := h
 simp only [encOk, Bool.and_eq_true, decide_eq_true_eq] at h'
 obtain ⟨h1, h2⟩ := h'
 simp only [QCY, show frmOk x = true from h1, show dpOk x = true from h1, h, QxJ h1, frmV, Bool.not_true, Qac, Qae]
 unfold encE
 refine QaP (fun g => ?_) (fun g => ?_)
 ·simp only [igt, llen, decide_eq_true_eq] at g
  rw [if_pos (by omega)]
 ·simp only [igt, llen, decide_eq_false_iff_not] at g
  rw [if_neg (by omega)]
def QA8 : Ent := spec (.pr Qah .nil) (fun x => (encOk x.1)) (fun x => (.tu [(.t (.sl (.int .u8)) ((encE x.1).1)), (.t tI ((encE x.1).2))]))
theorem QNT : Meets Tryz.prog 136 (strip QA8) := Qaf (R := runF Qxl QtP QB0 false) (mG Tryz.func136 (by kernel_rfl) Tryz.ntmps136 (by kernel_rfl) QPZ QOM) fun x hok => (e_f136 x.1).trans (s_f136 x.1 hok)
def conV (x : ValT) : List Int := x.2.1 ++ encVs x.2.2.2.1
theorem QxT (x : ValT) : (conV x).length = x.2.1.length + (encVs x.2.2.2.1).length := List.length_append
theorem Qjk (x : ValT) (h : encOk x = true) : ∃ N, encLF N x = true := ⟨12, h⟩
def eleV (b : List Int) (x : ValT) : List Int := b ++ encT x
theorem QMW (b : List Int) (x : ValT) : lenA (b ++ [icv .u8 x.1]) (llen (conV x)) ++ conV x = eleV b x := by
 simp only [lenA, eleV, QnA, llen, Int.toNat_natCast, conV, List.length_append, List.append_assoc, List.singleton_append, List.cons_append, List.nil_append]
theorem QFr : Qag Tryz.prog 174 := .inr ⟨by decide, _, Tryz.func174, by kernel_rfl, by kernel_rfl⟩
def Qf2 [Fuel] : Ent := spec (.pr Qah .nil) (fun x => (encLF fuel x.1)) (fun x => (.t (.sl (.int .u8)) (conV x.1)))
theorem QIZ : Qag Tryz.prog 174 := QFr
section
variable [Fuel] [Nonempty (PLift (Meets Tryz.prog 174 (strip Qf2)))]
theorem QHI : Meets Tryz.prog 174 (strip Qf2) := (Classical.choice (inferInstance : Nonempty (PLift (Meets Tryz.prog 174 (strip Qf2))))).down
def QnG [Fuel] (b : List Int) (x : ValT) : Bool := decide (b.length ≤ 500000000) && encLF fuel x
noncomputable def QoD : TC := (.ad [(50000, 49000)] (.sq (.reg (rT Tryz.f159 0)) (.sq (.reg (rT Tryz.f159 1)) (.sq (.reg (rT Tryz.f159 2)) .rt))))
def Qwc : List (RV × Option Ty) := [((.t 4), none)]
def Qqo : G := ⟨TYs, [], 19, EL [(174, Qf2), (175, Quc)], (175 :: keeps), (fun _ _ => none), IL [], RL []⟩
def Qu6 (p0 : List Int) (p1 : ValT) : Option (V × List VO) :=
 let a1 := lenA (p0 ++ ([(icv .u8 p1.1)])) (llen (conV p1))
 br (encLF fuel p1) (br (cApp p0 ([(icv .u8 p1.1)]) 1) (br (Qng (p0 ++ ([(icv .u8 p1.1)])) (llen (conV p1))) (br (cApp a1 (conV p1) 1) (some (.ms 50001, [.no, .arr 5 (.int .u8) (a1 ++ (conV p1))])) none) none) none) none
theorem QQT (p0 : List Int) (p1 : ValT) : runF Qqo QoD Qwc true [.ms 50000, .t Qah p1] [.arr 5 (.int .u8) p0] = Qu6 p0 p1 := by kernel_rfl
theorem QI1 : Qag Tryz.prog 159 := .inr ⟨by decide, _, Tryz.func159, by kernel_rfl, by kernel_rfl⟩
theorem QIO : GOk Tryz.prog Qqo := Qal _ (gA (gC QIZ QHI (gC QFq QDI gN)))
theorem QIi : QoD.lok Qqo := by repeat (first | exact trivial | refine ⟨?_, ?_⟩)
theorem QNc (b : List Int) (x : ValT) (h : QnG b x = true) : Qu6 b x = some (.ms 50001, [.no, .arr 5 (.int .u8) (eleV b x)]) := by
 simp only [QnG, Bool.and_eq_true, decide_eq_true_eq] at h
 obtain ⟨h1, h2⟩ := h
 have h3 := h2
 simp only [encLF, Bool.and_eq_true, decide_eq_true_eq] at h3
 have hel := Qnz x
 have hcl := QxT x
 have hll := Qgi (conV x).length
 simp only [Qu6, h2, Qac]
 rw [cAppN (by omega) (by simp only [List.length_singleton]; omega), Qac, show Qng (b ++ [icv .u8 x.1]) (llen (conV x)) = true from decide_eq_true (by simp only [llen, List.length_append, List.length_singleton]; omega), Qac, cAppN (by omega) (by simp only [lenA, llen, Int.toNat_natCast, List.length_append, List.length_singleton]; omega), Qac, QMW]
def Qv7 : Ent := specS [.ms 50000, .ty Qah] [.arr 5 (.int .u8)] (fun x y => (QnG y.1 x.2.1)) (fun x y => (.ms 50001)) (fun x y => [.no, .arr 5 (.int .u8) (eleV y.1 x.2.1)])
theorem QHK : Meets Tryz.prog 159 (strip Qv7) := QaI (R := runF Qqo QoD Qwc true) (mG Tryz.func159 (by kernel_rfl) Tryz.ntmps159 (by kernel_rfl) QIO QIi) fun x y hok => (QQT y.1 x.2.1).trans (QNc y.1 x.2.1 hok)
def conIn [Fuel] (l : List ValT) : Bool := decide (l.length ≤ 100000 ∧ (encL l).length ≤ 100000000) && l.all (okT fuel)
def QfC : Fg := ⟨[(3, none), (12, some (.sl Qah)), (13, some tI), (14, some tI)], [(3, none), (20, none), (5020, none), (10020, none), (15020, none)]⟩
noncomputable def Qg9 : TC := (.mv [(20, 3)] (.sq (.reg (rT Tryz.f174 5)) (.sq (.cd (.t 15) .sk (.fg ⟨[(3, none)], [(3, none), (20, none), (5020, none), (10020, none), (15020, none)]⟩ (.ex 0))) (.sq (.bk 1 (.sq (.reg (rT Tryz.f174 6)) (.reg (rT Tryz.f174 7)))) (.reg (rT Tryz.f174 8))))))
noncomputable def Qto : TC := (.sq (.reg (rT Tryz.f174 0)) (.sq (.sq (.reg (rT Tryz.f174 1)) (.cd (.t 8) (.sq (.reg (rT Tryz.f174 2)) .rt) .sk)) (.sq (.reg (rT Tryz.f174 3)) (.sq (.sq (.reg (rT Tryz.f174 4)) (.bk 0 (.nw 3 5 (.lp 0 QfC Qg9)))) (.sq (.reg (rT Tryz.f174 9)) .rt)))))
def QBz : List (RV × Option Ty) := [((.t 2), some (.sl (.int .u8)))]
abbrev Qml : Sh := ⟨[(3, .ms 3), (12, .ty (.sl Qah)), (13, .ty tI), (14, .ty tI)], [(3, .arr 5 (.int .u8)), (20, .no), (5020, .no), (10020, .no), (15020, .no)]⟩
def QlQ (x12 : List ValT) (x13 x14 : Int) (y3 : List Int) : VS := Qml.st ((), x12, x13, x14, ()) (y3, (), (), (), (), ())
abbrev Qrr : Sh := ⟨[(3, .ms 3)], [(3, .arr 5 (.int .u8)), (20, .no), (5020, .no), (10020, .no), (15020, .no)]⟩
def Qdk (y3 : List Int) : VS := Qrr.st ((), ()) (y3, (), (), (), (), ())
def QKg : VS → Option (Bool × List (Bool × Exit × VS)) := mkL Qml (fun x y => (rngOk x.2.1 x.2.2.1 x.2.2.2.1 && conIn x.2.1 && decide (y.1.length + (encL (x.2.1.drop x.2.2.2.1.toNat)).length ≤ 200000000))) (fun x y => [(true, .exit 0, Qdk (y.1 ++ encL (x.2.1.drop x.2.2.2.1.toNat)))])
def QjK : G := ⟨TYs, [], 23, EL [(159, Qv7)], (159 :: keeps), (Ls [QKg]), IL [], RL []⟩
def Qx1 (x12 : List ValT) (x13 x14 : Int) (y3 : List Int) : Option (Exit × VS) :=
 let a1 := lgt Qah x12 (Int.toNat x14)
 br (ilt x14 x13) (br (cIx x12 x14) (br (QnG y3 a1) (some (.normal, QlQ x12 x13 (iadd .i64 x14 1) (eleV y3 a1))) none) none) (some (.exit 0, Qdk y3))
noncomputable def QhJ (x12 : List ValT) (x13 x14 : Int) (y3 : List Int) : Option (Exit × VS) := loopF (Qai QjK QfC Qg9) (QlQ x12 x13 x14 y3)
noncomputable def QkA (x12 : List ValT) (x13 x14 : Int) (y3 : List Int) : Option (Exit × VS) :=
 let a1 := lgt Qah x12 (Int.toNat x14)
 br (ilt x14 x13) (br (cIx x12 x14) (br (QnG y3 a1) (QhJ x12 x13 (iadd .i64 x14 1) (eleV y3 a1)) none) none) (some (.exit 0, Qdk y3))
def Qh3 (x12 : List ValT) (x13 x14 : Int) (y3 : List Int) : Option (Exit × VS) := some (.exit 0, Qdk (y3 ++ encL (x12.drop x14.toNat)))
theorem QGe (x12 : List ValT) (x13 x14 : Int) (y3 : List Int) : Qai QjK QfC Qg9 (QlQ x12 x13 x14 y3) = Qx1 x12 x13 x14 y3 := by kernel_rfl
theorem Qsn (x12 : List ValT) (x13 x14 : Int) (y3 : List Int) : QhJ x12 x13 x14 y3 = QkA x12 x13 x14 y3 := (Qap _ _).trans (by
 rw [QGe]
 simp only [Qx1, QkA, QaE, nxt_n, nxt_r, nxt_e, nxt_0]
 rfl)
def QCA (p0 : ValT) : Option (V × List VO) :=
 let a1 := List.map Val.un p0.2.2.2.1
 let a2 := (a1.drop (0 : Int).toNat)
 br (!p0.2.2.1) (some (.t (.sl (.int .u8)) p0.2.1, [])) (br (rngOk a1 (llen a1) (0 : Int) && conIn a1 && decide (([] : List Int).length + (encL a2).length ≤ 200000000)) (some (.t (.sl (.int .u8)) (([] : List Int) ++ encL a2), [])) none)
theorem e_f174 (p0 : ValT) : runF QjK Qto QBz false [.t Qah p0] [] = QCA p0 := by kernel_rfl
theorem QPy : GOk Tryz.prog QjK := Qal _ (gA (gC QI1 QHK gN))
theorem QIo (x12 : List ValT) (x13 x14 : Int) (y3 : List Int) (h : (rngOk x12 x13 x14 && conIn x12 && decide (y3.length + (encL (x12.drop x14.toNat)).length ≤ 200000000)) = true) : QhJ x12 x13 x14 y3 = Qh3 x12 x13 x14 y3 := by
 simp only [Bool.and_eq_true, decide_eq_true_eq] at h
 obtain ⟨⟨h0, hc⟩, h2⟩ := h
 obtain ⟨rfl, h3, k, rfl, hk⟩ := rng_k h0
 clear h0
 rw [Int.toNat_natCast] at h2
 simp only [conIn, Bool.and_eq_true, List.all_eq_true, decide_eq_true_eq] at hc
 obtain ⟨⟨hc0, hc1⟩, hc2⟩ := hc
 revert y3
 refine Qav x12 (fun k => ∀ y3 : List Int, y3.length + (encL (x12.drop k)).length ≤ 200000000 → QhJ x12 (x12.length : Int) (k : Int) y3 = Qh3 x12 (x12.length : Int) (k : Int) y3) ?_ ?_ k hk
 ·intro y3 _
  rw [Qsn]
  simp only [QkA, Qaz, Nat.lt_irrefl, decide_false, Qae]
  simp only [Qh3, Int.toNat_natCast, List.drop_length, Qgo, List.append_nil]
 ·intro k hk ih y3 hy
  rw [Qsn]
  have hx := hc2 x12[k] (List.getElem_mem hk)
  have hs := Qjn x12 k hk
  rw [List.drop_eq_getElem_cons hk, QbZ, List.length_append] at hy
  have hd : QnG y3 x12[k] = true := by rw [QnG, encLF, hx, decide_eq_true (show y3.length ≤ 500000000 by omega), decide_eq_true (show (encT x12[k]).length ≤ 100000000 by omega)]; rfl
  simp only [QkA, Qaz, QaA, hk, decide_true, Qac, Int.toNat_natCast, add1 (show k < 4611686018427387904 by omega), QaF (y := Qah) hk, hd, eleV]
  rw [ih _ (by rw [List.length_append]; omega)]
  simp only [Qh3, Int.toNat_natCast, List.drop_eq_getElem_cons hk, QbZ, List.append_assoc]
theorem QD0 : ∀ S l p, QjK.L 0 (fgt QfC S) = some (true, l) → pickA l = some p → loopF (Qai QjK QfC Qg9) S = some p :=
 QaG (s := Qml) ⟨by decide, by decide⟩ (by kernel_rfl) fun x y hok p hp => by
 simp only [Qas, Qao] at hp
 exact (QIo x.2.1 x.2.2.1 x.2.2.2.1 y.1 (by simpa using hok)).trans hp
theorem QOl : Qto.lok QjK := by
 repeat (first | exact trivial | exact QD0 | refine ⟨?_, ?_⟩)
theorem s_f174 (x : ValT) (h : encLF (fuel + 1) x = true) : QCA x = some (.t (.sl (.int .u8)) (conV x), []) := by
 simp only [encLF, Bool.and_eq_true, decide_eq_true_eq] at h
 obtain ⟨h, hf⟩ := h
 obtain ⟨h1, h2, h3, h4, h5, h6, h7⟩ := Qcj h
 have hel := Qnz x
 have hE : encL (List.map Val.un x.2.2.2.1) = encVs x.2.2.2.1 := by rw [encL, Qcs]
 have hu : conIn (List.map Val.un x.2.2.2.1) = true := by
  simp only [conIn, Bool.and_eq_true, decide_eq_true_eq, List.length_map, List.all_eq_true, List.mem_map, hE]
  refine ⟨⟨h6, by omega⟩, ?_⟩
  rintro y ⟨v, hv, rfl⟩
  rw [Qr5]
  exact h7 v hv
 simp only [QCA, rng_0 (show (List.map Val.un x.2.2.2.1).length ≤ 100000 by rw [List.length_map]; exact h6), hu, Bool.and_self, Bool.true_and, Int.toNat_zero, List.drop_zero, hE, List.nil_append, List.length_nil]
 cases hq : x.2.2.1 with
 | true =>
  rw [Bool.not_true, Qae, decide_eq_true (by omega), Qac]
  simp only [conV, h3 hq, List.nil_append]
 | false =>
  rw [Bool.not_false, Qac]
  simp only [conV, h4 hq, encVs, List.append_nil]
theorem QOa : Meets Tryz.prog 174 (runF QjK Qto QBz false) := mG Tryz.func174 (by kernel_rfl) Tryz.ntmps174 (by kernel_rfl) QPy QOl
end
theorem Qfr : ∀ N : Nat, Meets Tryz.prog 174 (strip (@Qf2 ⟨N⟩))
 | 0 => QbH fun x => by first | rfl | simp [encLF]
 | N + 1 => by
  letI : Fuel := ⟨N⟩
  haveI : Nonempty (PLift (Meets Tryz.prog 174 (strip Qf2))) := ⟨⟨Qfr N⟩⟩
  exact Qaf QOa fun x hok => (e_f174 x.1).trans (s_f174 x.1 hok)
def QAK : Ent := spec (.pr Qah .nil) (fun x => (encOk x.1)) (fun x => (.t (.sl (.int .u8)) (conV x.1)))
theorem QNw : Meets Tryz.prog 174 (strip QAK) := QbI Qfr fun x hok => Qjk x.1 hok
def eleN (x : ValT) : List Int := encT x
noncomputable def QoE : TC := (.sq (.reg (rT Tryz.f159 0)) (.sq (.reg (rT Tryz.f159 1)) (.sq (.reg (rT Tryz.f159 2)) .rt)))
def Qwd : List (RV × Option Ty) := [((.t 4), none)]
def Qqp : G := ⟨TYs, [], 19, EL [(174, QAK), (175, Quc)], (175 :: keeps), (fun _ _ => none), IL [], RL []⟩
def Qu7 (p1 : ValT) : Option (V × List VO) :=
 let a1 := (lenA (([] : List Int) ++ ([(icv .u8 p1.1)])) (llen (conV p1)))
 br (encOk p1) (br (cApp ([] : List Int) ([(icv .u8 p1.1)]) 1) (br (Qng (([] : List Int) ++ ([(icv .u8 p1.1)])) (llen (conV p1))) (br (cApp a1 (conV p1) 1) (some (.ms 50000, [.arr 5 (.int .u8) (a1 ++ (conV p1))])) none) none) none) none
theorem QQU (p1 : ValT) : runF Qqp QoE Qwd true [.c (.slice none 0 0), .t Qah p1] [] = Qu7 p1 := by kernel_rfl
theorem QI2 : Qag Tryz.prog 159 := .inr ⟨by decide, _, Tryz.func159, by kernel_rfl, by kernel_rfl⟩
theorem QIP : GOk Tryz.prog Qqp := Qal _ (gA (gC QFr QNw (gC QFq QDI gN)))
theorem QIj : QoE.lok Qqp := by repeat (first | exact trivial | refine ⟨?_, ?_⟩)
theorem QNd (x : ValT) (h : encOk x = true) : Qu7 x = some (.ms 50000, [.arr 5 (.int .u8) (eleN x)]) := by
 have h3 := h
 simp only [encOk, Bool.and_eq_true, decide_eq_true_eq] at h3
 have hel := Qnz x
 have hcl := QxT x
 have hll := Qgi (conV x).length
 simp only [Qu7, h, Qac]
 rw [cAppN (by omega) (by simp), Qac, show Qng ([] ++ [icv .u8 x.1]) (llen (conV x)) = true from decide_eq_true (by simp only [llen, List.length_append, List.length_singleton, List.length_nil]; omega), Qac, cAppN (by omega) (by simp only [lenA, llen, Int.toNat_natCast, List.length_append, List.length_singleton, List.length_nil]; omega), Qac, QMW]
 rfl
def Qv8 : Ent := specB [.nl, .ty Qah] [] (fun x y => (encOk x.2.1)) (fun x y => (.ms 50000)) (fun x y => [.arr 5 (.int .u8) (eleN x.2.1)])
theorem QHL : Meets Tryz.prog 159 (strip Qv8) := Qca (QaI (R := runF Qqp QoE Qwd true) (mG Tryz.func159 (by kernel_rfl) Tryz.ntmps159 (by kernel_rfl) QIP QIj) fun x y hok => (QQU x.2.1).trans (QNd x.2.1 hok))
noncomputable def QtN : TC := (.sq (.reg (rT Tryz.f138 0)) (.sq (.sq (.reg (rT Tryz.f138 1)) (.cd (.t 7) (.sq (.reg (rT Tryz.f138 2)) .rt) .sk)) (.sq (.sq (.reg (rT Tryz.f138 3)) (.cd (.t 10) (.sq (.reg (rT Tryz.f138 4)) .rt) .sk)) (.sq (.reg (rT Tryz.f138 5)) (.sq (.sq (.reg (rT Tryz.f138 6)) (.cd (.t 15) (.sq (.reg (rT Tryz.f138 7)) .rt) .sk)) (.sq (.reg (rT Tryz.f138 8)) .rt))))))
def QBY : List (RV × Option Ty) := [((.t 2), some (.sl (.int .u8))), ((.t 3), some tI)]
def Qxk : G := ⟨TYs, [], 17, EL [(157, QAV), (158, QAU), (159, Qv8)], keeps, (fun _ _ => none), IL [], RL []⟩
def QCW (p0 : ValT) : Option (V × List VO) := br (frmOk p0) (br (!(frmV p0)) (some (.tu [(.t (.sl (.int .u8)) ([] : List Int)), (.t tI 1)], [])) (br (dpOk p0) (br (igt (dpV p0) 16) (some (.tu [(.t (.sl (.int .u8)) ([] : List Int)), (.t tI 3)], [])) (br (encOk p0) (br (igt (llen (eleN p0)) 4096) (some (.tu [(.t (.sl (.int .u8)) ([] : List Int)), (.t tI 3)], [])) (some (.tu [(.t (.sl (.int .u8)) (eleN p0)), (.t tI 0)], []))) none)) none)) none
theorem e_f138 (p0 : ValT) : runF Qxk QtN QBY false [.t Qah p0] [] = QCW p0 := by kernel_rfl
theorem QQB : Qag Tryz.prog 138 := .inr ⟨by decide, _, Tryz.func138, by kernel_rfl, by kernel_rfl⟩
theorem QPX : GOk Tryz.prog Qxk := Qal _ (gA (gC QFv QNH (gC QFu QNG (gC QI2 QHL gN))))
theorem QOK : QtN.lok Qxk := by repeat (first | exact trivial | refine ⟨?_, ?_⟩)
theorem s_f138 (x : ValT) (h : encOk x = true) : QCW x = some (.tu [.t (.sl (.int .u8)) (encE x).1, .t tI (encE x).2], []) := by
 have h' := h
 simp only [encOk, Bool.and_eq_true, decide_eq_true_eq] at h'
 obtain ⟨h1, h2⟩ := h'
 simp only [QCW, show frmOk x = true from h1, show dpOk x = true from h1, h, QxJ h1, frmV, eleN, Bool.not_true, Qac, Qae]
 unfold encE
 refine QaP (fun g => ?_) (fun g => ?_)
 ·simp only [igt, llen, decide_eq_true_eq] at g
  rw [if_pos (by omega)]
 ·simp only [igt, llen, decide_eq_false_iff_not] at g
  rw [if_neg (by omega)]
def QA6 : Ent := spec (.pr Qah .nil) (fun x => (encOk x.1)) (fun x => (.tu [(.t (.sl (.int .u8)) ((encE x.1).1)), (.t tI ((encE x.1).2))]))
theorem QNR : Meets Tryz.prog 138 (strip QA6) := Qaf (R := runF Qxk QtN QBY false) (mG Tryz.func138 (by kernel_rfl) Tryz.ntmps138 (by kernel_rfl) QPX QOK) fun x hok => (e_f138 x.1).trans (s_f138 x.1 hok)
def lstT (l : List ValT) : ValT := (48, (([] : List Int), (true, (List.map Val.of l, ()))))
noncomputable def Qty : TC := (.sq (.reg (rT Tryz.f161 0)) (.sq (.reg (rT Tryz.f161 1)) .rt))
def QBJ : List (RV × Option Ty) := [((.c 2 true 4), some Qah)]
def Qxc : G := ⟨TYs, [], 6, EL [(176, QAJ)], keeps, (fun _ _ => none), IL [], RL []⟩
def QCJ (p0 : List ValT) : Option (V × List VO) := br (copOk p0) (some (.t Qah (48, (([] : List Int), (true, ((List.map Val.of (copV p0)), ())))), [])) none
theorem e_f161 (p0 : List ValT) : runF Qxc Qty QBJ false [.t (.sl Qah) p0] [] = QCJ p0 := by kernel_rfl
theorem QvJ : Qag Tryz.prog 161 := .inr ⟨by decide, _, Tryz.func161, by kernel_rfl, by kernel_rfl⟩
theorem QPI : GOk Tryz.prog Qxc := Qal _ (gA (gC QFp QNv gN))
theorem QOv : Qty.lok Qxc := by repeat (first | exact trivial | refine ⟨?_, ?_⟩)
theorem s_f161 (l : List ValT) (h : copOk l = true) : QCJ l = some (.t Qah (lstT l), []) := by
 simp only [QCJ, h, Qac]
 rfl
def QoX : Ent := spec (.pr (.sl Qah) .nil) (fun x => (copOk x.1)) (fun x => (.t Qah (lstT x.1)))
theorem Qvf : Meets Tryz.prog 161 (strip QoX) := Qaf (R := runF Qxc Qty QBJ false) (mG Tryz.func161 (by kernel_rfl) Tryz.ntmps161 (by kernel_rfl) QPI QOv) fun x hok => (e_f161 x.1).trans (s_f161 x.1 hok)
noncomputable def Qtu : TC := (.sq (.reg (rT Tryz.f165 0)) (.sq (.reg (rT Tryz.f165 1)) .rt))
def QBF : List (RV × Option Ty) := [((.c 2 true 4), some Qah)]
def Qw9 : G := ⟨TYs, [], 5, EL [(161, QoX)], keeps, (fun _ _ => none), IL [], RL []⟩
def QCG (p0 : List ValT) : Option (V × List VO) := br (copOk p0) (some (.t Qah (lstT p0), [])) none
theorem e_f165 (p0 : List ValT) : runF Qw9 Qtu QBF false [.t (.sl Qah) p0] [] = QCG p0 := by kernel_rfl
theorem QQr : Qag Tryz.prog 165 := .inr ⟨by decide, _, Tryz.func165, by kernel_rfl, by kernel_rfl⟩
theorem QPE : GOk Tryz.prog Qw9 := Qal _ (gA (gC QvJ Qvf gN))
theorem QOr : Qtu.lok Qw9 := by repeat (first | exact trivial | refine ⟨?_, ?_⟩)
theorem s_f165 (l : List ValT) (h : copOk l = true) : QCG l = some (.t Qah (lstT l), []) := by
 simp only [QCG, h, Qac]
def QAQ : Ent := spec (.pr (.sl Qah) .nil) (fun x => (copOk x.1)) (fun x => (.t Qah (lstT x.1)))
theorem QNC : Meets Tryz.prog 165 (strip QAQ) := Qaf (R := runF Qw9 Qtu QBF false) (mG Tryz.func165 (by kernel_rfl) Tryz.ntmps165 (by kernel_rfl) QPE QOr) fun x hok => (e_f165 x.1).trans (s_f165 x.1 hok)
noncomputable def QtF : TC := (.sq (.reg (rT Tryz.f153 0)) (.sq (.reg (rT Tryz.f153 1)) .rt))
def QBQ : List (RV × Option Ty) := [((.c 2 true 4), some Qah)]
def Qxh : G := ⟨TYs, [], 6, EL [(170, QAN)], keeps, (fun _ _ => none), IL [], RL []⟩
def QCP (p0 : List ValT) : Option (V × List VO) := br (copOk p0) (some (.t Qah (48, (([] : List Int), (true, ((List.map Val.of (copV p0)), ())))), [])) none
theorem e_f153 (p0 : List ValT) : runF Qxh QtF QBQ false [.t (.sl Qah) p0] [] = QCP p0 := by kernel_rfl
theorem QFx : Qag Tryz.prog 153 := .inr ⟨by decide, _, Tryz.func153, by kernel_rfl, by kernel_rfl⟩
theorem QPP : GOk Tryz.prog Qxh := Qal _ (gA (gC QFs QNz gN))
theorem QOC : QtF.lok Qxh := by repeat (first | exact trivial | refine ⟨?_, ?_⟩)
theorem s_f153 (l : List ValT) (h : copOk l = true) : QCP l = some (.t Qah (lstT l), []) := by
 simp only [QCP, h, Qac]
 rfl
def Quf : Ent := spec (.pr (.sl Qah) .nil) (fun x => (copOk x.1)) (fun x => (.t Qah (lstT x.1)))
theorem QDL : Meets Tryz.prog 153 (strip Quf) := Qaf (R := runF Qxh QtF QBQ false) (mG Tryz.func153 (by kernel_rfl) Tryz.ntmps153 (by kernel_rfl) QPP QOC) fun x hok => (e_f153 x.1).trans (s_f153 x.1 hok)
end
end Go.Proofs.YtkngeegkjhipeaaGreat.K
