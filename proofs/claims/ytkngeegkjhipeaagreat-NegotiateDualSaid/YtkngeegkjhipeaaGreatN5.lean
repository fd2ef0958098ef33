import Derived.Test.YtkngeegkjhipeaaGreatN4
set_option linter.unusedSimpArgs false
set_option linter.unusedVariables false
set_option linter.unusedSectionVars false
namespace Go.Proofs.YtkngeegkjhipeaaGreat.K
open Go.RowKit
noncomputable section
def encT (x : ValT) : List Int := encV (Val.of x)
def encL (l : List ValT) : List Int := encVs (l.map Val.of)
theorem Qgn : encL [] = [] := rfl
theorem QbZ (x : ValT) (l : List ValT) : encL (x :: l) = encT x ++ encL l := rfl
theorem Qny (x : ValT) : encT x = icv .u8 x.1 :: (lenL (x.2.1.length + (encVs x.2.2.2.1).length) ++ (x.2.1 ++ encVs x.2.2.2.1)) := rfl
theorem Qnx (x : ValT) : x.2.1.length + (encVs x.2.2.2.1).length ≤ (encT x).length := QIV x.1 x.2.1 x.2.2.1 x.2.2.2.1
theorem Qjn : ∀ (l : List ValT) (k : Nat) (hk : k < l.length), (encL (l.take k)).length + (encT l[k]).length ≤ (encL l).length
 | [], k, hk => by simp at hk
 | x :: l, 0, _ => by
  rw [List.take_zero, Qgn, QbZ, List.length_append]
  simp
 | x :: l, k + 1, hk => by
  simp only [List.length_cons] at hk
  have := Qjn l k (by omega)
  simp only [List.take_succ_cons, QbZ, List.length_append, List.getElem_cons_succ]
  omega
theorem Qgh (n : Nat) : (lenL n).length ≤ 9 := by
 unfold lenL
 split
 ·simp
 ·rw [List.length_cons, Qqx]
  have := QqB 8 n
  omega
def encLF (n : Nat) (x : ValT) : Bool := okT n x && decide ((encT x).length ≤ 100000000)
def encOk (x : ValT) : Bool := okT 12 x && decide ((encT x).length ≤ 100000000)
theorem QnZ (x : ValT) (h : encOk x = true) : ∃ N, encLF N x = true := ⟨12, h⟩
theorem QFu : Qag Tryz.prog 151 := .inr ⟨by decide, _, Tryz.func151, by kernel_rfl, by kernel_rfl⟩
def Qf5 [Fuel] : Ent := spec (.pr Qah .nil) (fun x => (encLF fuel x.1)) (fun x => (.t (.sl (.int .u8)) (encT x.1)))
theorem QI3 : Qag Tryz.prog 151 := QFu
section
variable [Fuel] [Nonempty (PLift (Meets Tryz.prog 151 (strip Qf5)))]
theorem QHJ : Meets Tryz.prog 151 (strip Qf5) := (Classical.choice (inferInstance : Nonempty (PLift (Meets Tryz.prog 151 (strip Qf5))))).down
def encIn [Fuel] (x : ValT) : Bool := encLF (fuel + 1) x
noncomputable def QFF : List DO := dT Tryz.f151 6
def QfI : Fg := ⟨[(1, none), (3, none), (4, some tI)], [(1, some Qah), (3, none), (5, none), (8, none), (23, none)]⟩
noncomputable def Qhg : TC := (.sq (.sq (.reg (rT Tryz.f151 3)) (.cd (.t 13) .sk (.fg ⟨[(1, none), (3, none)], [(1, some Qah), (3, none), (5, none), (8, none), (23, none)]⟩ (.ex 0)))) (.sq (.bk 1 (.reg (rT Tryz.f151 4))) (.reg (rT Tryz.f151 5))))
noncomputable def QtI : TC := (.sq (.reg (rT Tryz.f151 0)) (.sq (.reg (rT Tryz.f151 1)) (.sq (.sq (.reg (rT Tryz.f151 2)) (.bk 0 (.nw 3 5 (.lp 0 QfI Qhg)))) (.sq (.dr QFF [(0, [1]), (1, [1]), (2, []), (3, [27, 5027, 10027, 15027]), (4, [3, 5, 8, 23]), (5, [3, 5, 8, 23]), (6, []), (7, [27, 31, 5031, 10031, 15031]), (8, [3, 5, 8, 23]), (9, [3, 5, 8, 23, 27, 31, 33, 5033, 10033, 15033]), (10, [27, 31, 33])] (.of [0, 1, 2, 4, 5, 6, 8, 3, 7, 9, 10])) .rt))))
def QBM : List (RV × Option Ty) := [((.t 2), some (.sl (.int .u8)))]
abbrev Qms : Sh := ⟨[(1, .ptr 1 0), (3, .ms 5), (4, .ty tI)], [(1, .box Qah), (3, .no), (5, .arr 5 (.int .u8)), (8, .no), (23, .no)]⟩
def QlX (x4 : Int) (y1 : ValT) (y5 : List Int) : VS := Qms.st ((), (), x4, ()) (y1, (), y5, (), (), ())
abbrev Qry : Sh := ⟨[(1, .ptr 1 0), (3, .ms 5)], [(1, .box Qah), (3, .no), (5, .arr 5 (.int .u8)), (8, .no), (23, .no)]⟩
def Qdm (y1 : ValT) (y5 : List Int) : VS := Qry.st ((), (), ()) (y1, (), y5, (), (), ())
def QKm : VS → Option (Bool × List (Bool × Exit × VS)) := mkL Qms (fun x y => (decide (0 ≤ x.2.2.1 ∧ x.2.2.1 ≤ y.1.2.2.2.1.length ∧ y.2.2.1.length + (encL ((List.map Val.un y.1.2.2.2.1).drop x.2.2.1.toNat)).length ≤ 1000000000) && encIn y.1)) (fun x y => [(true, .exit 0, Qdm (y.1) (y.2.2.1 ++ encL ((List.map Val.un y.1.2.2.2.1).drop x.2.2.1.toNat)))])
def QjP : G := ⟨TYs, [5, 27], 34, EL [(151, Qf5), (169, QAI)], keeps, (Ls [QKm]), IL [], RL []⟩
def Qx3 (x4 : Int) (y1 : ValT) (y5 : List Int) : Option (Exit × VS) :=
 let a2 := List.map Val.un y1.2.2.2.1
 let a1 := lgt Qah a2 (Int.toNat x4)
 br (ilt x4 (llen a2)) (br (cIx a2 x4) (br (encLF fuel a1) (br (cApp y5 (encT a1) 1) (some (.normal, QlX (iadd .i64 x4 1) y1 (y5 ++ (encT a1)))) none) none) none) (some (.exit 0, Qdm y1 y5))
noncomputable def QhO (x4 : Int) (y1 : ValT) (y5 : List Int) : Option (Exit × VS) := loopF (Qaj QjP QfI Qhg) (QlX x4 y1 y5)
noncomputable def QkG (x4 : Int) (y1 : ValT) (y5 : List Int) : Option (Exit × VS) :=
 let a2 := List.map Val.un y1.2.2.2.1
 let a1 := lgt Qah a2 (Int.toNat x4)
 br (ilt x4 (llen a2)) (br (cIx a2 x4) (br (encLF fuel a1) (br (cApp y5 (encT a1) 1) (QhO (iadd .i64 x4 1) y1 (y5 ++ (encT a1))) none) none) none) (some (.exit 0, Qdm y1 y5))
def Qh9 (x4 : Int) (y1 : ValT) (y5 : List Int) : Option (Exit × VS) := some (.exit 0, Qdm (y1) (y5 ++ encL ((List.map Val.un y1.2.2.2.1).drop x4.toNat)))
theorem QGg (x4 : Int) (y1 : ValT) (y5 : List Int) : Qaj QjP QfI Qhg (QlX x4 y1 y5) = Qx3 x4 y1 y5 := by kernel_rfl
theorem Qst (x4 : Int) (y1 : ValT) (y5 : List Int) : QhO x4 y1 y5 = QkG x4 y1 y5 := (Qaq _ _).trans (by
 rw [QGg]
 simp only [Qx3, QkG, QaE, nxt_n, nxt_r, nxt_e, nxt_0]
 rfl)
def QCL (p0 : ValT) : Option (V × List VO) :=
 let a2 := List.map Val.un p0.2.2.2.1
 let a3 := (a2.drop (0 : Int).toNat)
 let a1 := (llen ((([] : List Int) ++ p0.2.1) ++ encL a3))
 let a4 := icv .u8 ((p0).1)
 br (cApp ([] : List Int) p0.2.1 1) (br (decide (0 ≤ (0 : Int) ∧ (0 : Int) ≤ p0.2.2.2.1.length ∧ (([] : List Int) ++ p0.2.1).length + (encL a3).length ≤ 1000000000) && encIn p0) (br (QsK a1) (br (cApp ([a4]) (lenR a1) 1) (br (cApp (([a4]) ++ (lenR a1)) ((([] : List Int) ++ p0.2.1) ++ encL a3) 1) (some (.t (.sl (.int .u8)) ((([a4]) ++ (lenR a1)) ++ ((([] : List Int) ++ p0.2.1) ++ encL a3)), [])) none) none) none) none) none
theorem e_f151 (p0 : ValT) : runF QjP QtI QBM false [.t Qah p0] [] = QCL p0 := by kernel_rfl
theorem QPV : GOk Tryz.prog QjP := Qan _ (gA (gC QI3 QHJ (gC QQt QNC gN)))
theorem QIr (x4 : Int) (y1 : ValT) (y5 : List Int) (h : (decide (0 ≤ x4 ∧ x4 ≤ y1.2.2.2.1.length ∧ y5.length + (encL ((List.map Val.un y1.2.2.2.1).drop x4.toNat)).length ≤ 1000000000) && encIn y1) = true) : QhO x4 y1 y5 = Qh9 x4 y1 y5 := by
 simp only [Bool.and_eq_true, decide_eq_true_eq] at h
 obtain ⟨⟨h0, h1, h2⟩, hc⟩ := h
 obtain ⟨k, rfl⟩ := Int.eq_ofNat_of_zero_le h0
 simp only [encIn, encLF, Bool.and_eq_true, decide_eq_true_eq] at hc
 obtain ⟨hc, hf⟩ := hc
 have hm := Qvb hc
 have hl := (Qch hc).2.2.2.2.2.1
 rw [Int.toNat_natCast] at h2
 have hel := Qnx y1
 have hE : encL (List.map Val.un y1.2.2.2.1) = encVs y1.2.2.2.1 := by rw [encL, Qcq]
 revert y5
 refine Qav (List.map Val.un y1.2.2.2.1) (fun k => ∀ y5 : List Int, y5.length + (encL ((List.map Val.un y1.2.2.2.1).drop k)).length ≤ 1000000000 → QhO (k : Int) y1 y5 = Qh9 (k : Int) y1 y5) ?_ ?_ k (by rw [List.length_map]; omega)
 ·intro y5 _
  rw [Qst]
  simp only [QkG, show ilt ((List.map Val.un y1.2.2.2.1).length : Int) (llen (List.map Val.un y1.2.2.2.1)) = false from decide_eq_false (by simp only [llen]; omega), Qae]
  simp only [Qh9, Int.toNat_natCast, List.drop_length, Qgn, List.append_nil]
 ·intro k hk ih y5 hy
  rw [Qst]
  have hk2 : k < y1.2.2.2.1.length := by rw [List.length_map] at hk; exact hk
  have hs := Qjn (List.map Val.un y1.2.2.2.1) k hk
  rw [hE] at hs
  rw [List.drop_eq_getElem_cons hk, QbZ, List.length_append] at hy
  have hd : encLF fuel (List.map Val.un y1.2.2.2.1)[k] = true := by rw [encLF, hm k hk, decide_eq_true (by omega)]; rfl
  simp only [QkG, show ilt (k : Int) (llen (List.map Val.un y1.2.2.2.1)) = true from decide_eq_true (by simp only [llen]; omega), Qay, hk, decide_true, Qac, Int.toNat_natCast, add1 (show k < 4611686018427387904 by omega), QaG (y := Qah) hk, hd]
  rw [cAppN (by omega) (by omega), Qac, ih _ (by rw [List.length_append]; omega)]
  simp only [Qh9, Int.toNat_natCast, List.drop_eq_getElem_cons hk, QbZ, List.append_assoc]
theorem QD3 : ∀ S l p, QjP.L 0 (fgt QfI S) = some (true, l) → pickA l = some p → loopF (Qaj QjP QfI Qhg) S = some p :=
 QaF (s := Qms) ⟨by decide, by decide⟩ (by kernel_rfl) fun x y hok p hp => by
 simp only [Qas, Qap] at hp
 exact (QIr x.2.2.1 y.1 y.2.2.1 (by simpa using hok)).trans hp
theorem QOG : QtI.lok QjP := by
 repeat (first | exact trivial | exact QD3 | refine ⟨?_, ?_⟩)
theorem s_f151 (x : ValT) (h : encLF (fuel + 1) x = true) : QCL x = some (.t (.sl (.int .u8)) (encT x), []) := by
 have hin : encIn x = true := h
 simp only [encLF, Bool.and_eq_true, decide_eq_true_eq] at h
 obtain ⟨h, hf⟩ := h
 have hel := Qnx x
 have hE : encL (List.map Val.un x.2.2.2.1) = encVs x.2.2.2.1 := by rw [encL, Qcq]
 have hll := Qgh (x.2.1.length + (encVs x.2.2.2.1).length)
 simp only [QCL, hin, Bool.and_true, List.nil_append, Int.toNat_zero, List.drop_zero, hE]
 rw [cAppN (by omega) (by simp only [List.length_nil]; omega), Qac, decide_eq_true ⟨by omega, by omega, by omega⟩, Qac]
 have e1 : QsK (llen (x.2.1 ++ encVs x.2.2.2.1)) = true := decide_eq_true (by simp only [llen, List.length_append]; omega)
 have e2 : lenR (llen (x.2.1 ++ encVs x.2.2.2.1)) = lenL (x.2.1.length + (encVs x.2.2.2.1).length) := by simp only [lenR, llen, List.length_append, Int.toNat_natCast]
 rw [e1, Qac, e2, cAppN (by omega) (by simp only [List.length_singleton]; omega), Qac, cAppN (by omega) (by simp only [List.length_append, List.length_singleton]; omega), Qac, Qny]
 simp only [List.singleton_append, List.cons_append, List.nil_append]
theorem QOg : Meets Tryz.prog 151 (runF QjP QtI QBM false) := mG Tryz.func151 (by kernel_rfl) Tryz.ntmps151 (by kernel_rfl) QPV QOG
end
theorem QjF : ∀ N : Nat, Meets Tryz.prog 151 (strip (@Qf5 ⟨N⟩))
 | 0 => QbJ fun x => by first | rfl | simp [encLF]
 | N + 1 => by
  letI : Fuel := ⟨N⟩
  haveI : Nonempty (PLift (Meets Tryz.prog 151 (strip Qf5))) := ⟨⟨QjF N⟩⟩
  exact Qaf QOg fun x hok => (e_f151 x.1).trans (s_f151 x.1 hok)
def QAT : Ent := spec (.pr Qah .nil) (fun x => (encOk x.1)) (fun x => (.t (.sl (.int .u8)) (encT x.1)))
theorem QNN : Meets Tryz.prog 151 (strip QAT) := QbK QjF fun x hok => QnZ x.1 hok
def encE (x : ValT) : List Int × Int := if 4096 < (encT x).length then ([], 3) else (encT x, 0)
theorem QxE {x : ValT} (h : okT 12 x = true) : igt (dpV x) 16 = false := by
 have := QpQ (v := Val.of x) h
 exact decide_eq_false (by show ¬ ((depV (Val.of x) : Int) > 16); omega)
noncomputable def QtQ : TC := (.sq (.reg (rT Tryz.f136 0)) (.sq (.sq (.reg (rT Tryz.f136 1)) (.cd (.t 7) (.sq (.reg (rT Tryz.f136 2)) .rt) .sk)) (.sq (.sq (.reg (rT Tryz.f136 3)) (.cd (.t 10) (.sq (.reg (rT Tryz.f136 4)) .rt) .sk)) (.sq (.reg (rT Tryz.f136 5)) (.sq (.sq (.reg (rT Tryz.f136 6)) (.cd (.t 15) (.sq (.reg (rT Tryz.f136 7)) .rt) .sk)) (.sq (.reg (rT Tryz.f136 8)) .rt))))))
def QBU : List (RV × Option Ty) := [((.t 2), some (.sl (.int .u8))), ((.t 3), some tI)]
def Qxh : G := ⟨TYs, [], 17, EL [(149, QAV), (150, QAU), (151, QAT)], keeps, (fun _ _ => none), IL [], RL []⟩
def QCS (p0 : ValT) : Option (V × List VO) := br (frmOk p0) (br (!(frmV p0)) (some (.tu [(.t (.sl (.int .u8)) ([] : List Int)), (.t tI 1)], [])) (br (dpOk p0) (br (igt (dpV p0) 16) (some (.tu [(.t (.sl (.int .u8)) ([] : List Int)), (.t tI 3)], [])) (br (encOk p0) (br (igt (llen (encT p0)) 4096) (some (.tu [(.t (.sl (.int .u8)) ([] : List Int)), (.t tI 3)], [])) (some (.tu [(.t (.sl (.int .u8)) (encT p0)), (.t tI 0)], []))) none)) none)) none
theorem e_f136 (p0 : ValT) : runF Qxh QtQ QBU false [.t Qah p0] [] = QCS p0 := by kernel_rfl
theorem QQH : Qag Tryz.prog 136 := .inr ⟨by decide, _, Tryz.func136, by kernel_rfl, by kernel_rfl⟩
theorem QP3 : GOk Tryz.prog Qxh := Qan _ (gA (gC QFw QNP (gC QFv QNO (gC QFu QNN gN))))
theorem QOO : QtQ.lok Qxh := by repeat (first | exact trivial | refine ⟨?_, ?_⟩)
theorem s_f136 (x : ValT) (h : encOk x = true) : QCS x = some (.tu [.t (.sl (.int .u8)) (encE x).1, .t tI (encE x).2], []) := by
 have h' := h
 simp only [encOk, Bool.and_eq_true, decide_eq_true_eq] at h'
 obtain ⟨h1, h2⟩ := h'
 simp only [QCS, show frmOk x = true from h1, show dpOk x = true from h1, h, QxE h1, frmV, Bool.not_true, Qac, Qae]
 unfold encE
 refine QaP (fun g => ?_) (fun g => ?_)
 ·simp only [igt, llen, decide_eq_true_eq] at g
  rw [if_pos (by omega)]
 ·simp only [igt, llen, decide_eq_false_iff_not] at g
  rw [if_neg (by omega)]
def QA2 : Ent := spec (.pr Qah .nil) (fun x => (encOk x.1)) (fun x => (.tu [(.t (.sl (.int .u8)) ((encE x.1).1)), (.t tI ((encE x.1).2))]))
theorem QNV : Meets Tryz.prog 136 (strip QA2) := Qaf (R := runF Qxh QtQ QBU false) (mG Tryz.func136 (by kernel_rfl) Tryz.ntmps136 (by kernel_rfl) QP3 QOO) fun x hok => (e_f136 x.1).trans (s_f136 x.1 hok)
def conV (x : ValT) : List Int := x.2.1 ++ encVs x.2.2.2.1
theorem QxO (x : ValT) : (conV x).length = x.2.1.length + (encVs x.2.2.2.1).length := List.length_append
theorem Qjk (x : ValT) (h : encOk x = true) : ∃ N, encLF N x = true := ⟨12, h⟩
def eleV (b : List Int) (x : ValT) : List Int := b ++ encT x
theorem QMY (b : List Int) (x : ValT) : lenA (b ++ [icv .u8 x.1]) (llen (conV x)) ++ conV x = eleV b x := by
 simp only [lenA, eleV, Qny, llen, Int.toNat_natCast, conV, List.length_append, List.append_assoc, List.singleton_append, List.cons_append, List.nil_append]
theorem QFn : Qag Tryz.prog 174 := .inr ⟨by decide, _, Tryz.func174, by kernel_rfl, by kernel_rfl⟩
def Qf1 [Fuel] : Ent := spec (.pr Qah .nil) (fun x => (encLF fuel x.1)) (fun x => (.t (.sl (.int .u8)) (conV x.1)))
theorem QIX : Qag Tryz.prog 174 := QFn
section
variable [Fuel] [Nonempty (PLift (Meets Tryz.prog 174 (strip Qf1)))]
theorem QHD : Meets Tryz.prog 174 (strip Qf1) := (Classical.choice (inferInstance : Nonempty (PLift (Meets Tryz.prog 174 (strip Qf1))))).down
def QnE [Fuel] (b : List Int) (x : ValT) : Bool := decide (b.length ≤ 500000000) && encLF fuel x
noncomputable def QoA : TC := (.ad [(50000, 49000)] (.sq (.reg (rT Tryz.f159 0)) (.sq (.reg (rT Tryz.f159 1)) (.sq (.reg (rT Tryz.f159 2)) .rt))))
def Qwb : List (RV × Option Ty) := [((.t 4), none)]
def Qqp : G := ⟨TYs, [], 19, EL [(174, Qf1), (175, Que)], (175 :: keeps), (fun _ _ => none), IL [], RL []⟩
def Qu8 (p0 : List Int) (p1 : ValT) : Option (V × List VO) :=
 let a1 := lenA (p0 ++ ([(icv .u8 p1.1)])) (llen (conV p1))
 br (encLF fuel p1) (br (cApp p0 ([(icv .u8 p1.1)]) 1) (br (Qnf (p0 ++ ([(icv .u8 p1.1)])) (llen (conV p1))) (br (cApp a1 (conV p1) 1) (some (.ms 50001, [.no, .arr 5 (.int .u8) (a1 ++ (conV p1))])) none) none) none) none
theorem QQX (p0 : List Int) (p1 : ValT) : runF Qqp QoA Qwb true [.ms 50000, .t Qah p1] [.arr 5 (.int .u8) p0] = Qu8 p0 p1 := by kernel_rfl
theorem QIZ : Qag Tryz.prog 159 := .inr ⟨by decide, _, Tryz.func159, by kernel_rfl, by kernel_rfl⟩
theorem QIM : GOk Tryz.prog Qqp := Qan _ (gA (gC QIX QHD (gC QFm QDE gN)))
theorem QIe : QoA.lok Qqp := by repeat (first | exact trivial | refine ⟨?_, ?_⟩)
theorem QNe (b : List Int) (x : ValT) (h : QnE b x = true) : Qu8 b x = some (.ms 50001, [.no, .arr 5 (.int .u8) (eleV b x)]) := by
 simp only [QnE, Bool.and_eq_true, decide_eq_true_eq] at h
 obtain ⟨h1, h2⟩ := h
 have h3 := h2
 simp only [encLF, Bool.and_eq_true, decide_eq_true_eq] at h3
 have hel := Qnx x
 have hcl := QxO x
 have hll := Qgh (conV x).length
 simp only [Qu8, h2, Qac]
 rw [cAppN (by omega) (by simp only [List.length_singleton]; omega), Qac, show Qnf (b ++ [icv .u8 x.1]) (llen (conV x)) = true from decide_eq_true (by simp only [llen, List.length_append, List.length_singleton]; omega), Qac, cAppN (by omega) (by simp only [lenA, llen, Int.toNat_natCast, List.length_append, List.length_singleton]; omega), Qac, QMY]
def Qv7 : Ent := specS [.ms 50000, .ty Qah] [.arr 5 (.int .u8)] (fun x y => (QnE y.1 x.2.1)) (fun x y => (.ms 50001)) (fun x y => [.no, .arr 5 (.int .u8) (eleV y.1 x.2.1)])
theorem QHF : Meets Tryz.prog 159 (strip Qv7) := QaI (R := runF Qqp QoA Qwb true) (mG Tryz.func159 (by kernel_rfl) Tryz.ntmps159 (by kernel_rfl) QIM QIe) fun x y hok => (QQX y.1 x.2.1).trans (QNe y.1 x.2.1 hok)
def conIn [Fuel] (l : List ValT) : Bool := decide (l.length ≤ 100000 ∧ (encL l).length ≤ 100000000) && l.all (okT fuel)
def QfB : Fg := ⟨[(3, none), (12, some (.sl Qah)), (13, some tI), (14, some tI)], [(3, none), (20, none), (5020, none), (10020, none), (15020, none)]⟩
noncomputable def Qg9 : TC := (.mv [(20, 3)] (.sq (.reg (rT Tryz.f174 5)) (.sq (.cd (.t 15) .sk (.fg ⟨[(3, none)], [(3, none), (20, none), (5020, none), (10020, none), (15020, none)]⟩ (.ex 0))) (.sq (.bk 1 (.sq (.reg (rT Tryz.f174 6)) (.reg (rT Tryz.f174 7)))) (.reg (rT Tryz.f174 8))))))
noncomputable def Qtp : TC := (.sq (.reg (rT Tryz.f174 0)) (.sq (.sq (.reg (rT Tryz.f174 1)) (.cd (.t 8) (.sq (.reg (rT Tryz.f174 2)) .rt) .sk)) (.sq (.reg (rT Tryz.f174 3)) (.sq (.sq (.reg (rT Tryz.f174 4)) (.bk 0 (.nw 3 5 (.lp 0 QfB Qg9)))) (.sq (.reg (rT Tryz.f174 9)) .rt)))))
def QBt : List (RV × Option Ty) := [((.t 2), some (.sl (.int .u8)))]
abbrev Qml : Sh := ⟨[(3, .ms 3), (12, .ty (.sl Qah)), (13, .ty tI), (14, .ty tI)], [(3, .arr 5 (.int .u8)), (20, .no), (5020, .no), (10020, .no), (15020, .no)]⟩
def QlQ (x12 : List ValT) (x13 x14 : Int) (y3 : List Int) : VS := Qml.st ((), x12, x13, x14, ()) (y3, (), (), (), (), ())
abbrev Qrr : Sh := ⟨[(3, .ms 3)], [(3, .arr 5 (.int .u8)), (20, .no), (5020, .no), (10020, .no), (15020, .no)]⟩
def Qdh (y3 : List Int) : VS := Qrr.st ((), ()) (y3, (), (), (), (), ())
def QKf : VS → Option (Bool × List (Bool × Exit × VS)) := mkL Qml (fun x y => (rngOk x.2.1 x.2.2.1 x.2.2.2.1 && conIn x.2.1 && decide (y.1.length + (encL (x.2.1.drop x.2.2.2.1.toNat)).length ≤ 200000000))) (fun x y => [(true, .exit 0, Qdh (y.1 ++ encL (x.2.1.drop x.2.2.2.1.toNat)))])
def QjK : G := ⟨TYs, [], 23, EL [(159, Qv7)], (159 :: keeps), (Ls [QKf]), IL [], RL []⟩
def QxW (x12 : List ValT) (x13 x14 : Int) (y3 : List Int) : Option (Exit × VS) :=
 let a1 := lgt Qah x12 (Int.toNat x14)
 br (ilt x14 x13) (br (cIx x12 x14) (br (QnE y3 a1) (some (.normal, QlQ x12 x13 (iadd .i64 x14 1) (eleV y3 a1))) none) none) (some (.exit 0, Qdh y3))
noncomputable def QhK (x12 : List ValT) (x13 x14 : Int) (y3 : List Int) : Option (Exit × VS) := loopF (Qaj QjK QfB Qg9) (QlQ x12 x13 x14 y3)
noncomputable def QkC (x12 : List ValT) (x13 x14 : Int) (y3 : List Int) : Option (Exit × VS) :=
 let a1 := lgt Qah x12 (Int.toNat x14)
 br (ilt x14 x13) (br (cIx x12 x14) (br (QnE y3 a1) (QhK x12 x13 (iadd .i64 x14 1) (eleV y3 a1)) none) none) (some (.exit 0, Qdh y3))
def Qh5 (x12 : List ValT) (x13 x14 : Int) (y3 : List Int) : Option (Exit × VS) := some (.exit 0, Qdh (y3 ++ encL (x12.drop x14.toNat)))
theorem QF9 (x12 : List ValT) (x13 x14 : Int) (y3 : List Int) : Qaj QjK QfB Qg9 (QlQ x12 x13 x14 y3) = QxW x12 x13 x14 y3 := by kernel_rfl
theorem Qso (x12 : List ValT) (x13 x14 : Int) (y3 : List Int) : QhK x12 x13 x14 y3 = QkC x12 x13 x14 y3 := (Qaq _ _).trans (by
 rw [QF9]
 simp only [QxW, QkC, QaE, nxt_n, nxt_r, nxt_e, nxt_0]
 rfl)
def QCu (p0 : ValT) : Option (V × List VO) :=
 let a1 := List.map Val.un p0.2.2.2.1
 let a2 := (a1.drop (0 : Int).toNat)
 br (!p0.2.2.1) (some (.t (.sl (.int .u8)) p0.2.1, [])) (br (rngOk a1 (llen a1) (0 : Int) && conIn a1 && decide (([] : List Int).length + (encL a2).length ≤ 200000000)) (some (.t (.sl (.int .u8)) (([] : List Int) ++ encL a2), [])) none)
theorem e_f174 (p0 : ValT) : runF QjK Qtp QBt false [.t Qah p0] [] = QCu p0 := by kernel_rfl
theorem QPC : GOk Tryz.prog QjK := Qan _ (gA (gC QIZ QHF gN))
theorem QIk (x12 : List ValT) (x13 x14 : Int) (y3 : List Int) (h : (rngOk x12 x13 x14 && conIn x12 && decide (y3.length + (encL (x12.drop x14.toNat)).length ≤ 200000000)) = true) : QhK x12 x13 x14 y3 = Qh5 x12 x13 x14 y3 := by
 simp only [Bool.and_eq_true, decide_eq_true_eq] at h
 obtain ⟨⟨h0, hc⟩, h2⟩ := h
 obtain ⟨rfl, h3, k, rfl, hk⟩ := rng_k h0
 clear h0
 rw [Int.toNat_natCast] at h2
 simp only [conIn, Bool.and_eq_true, List.all_eq_true, decide_eq_true_eq] at hc
 obtain ⟨⟨hc0, hc1⟩, hc2⟩ := hc
 revert y3
 refine Qav x12 (fun k => ∀ y3 : List Int, y3.length + (encL (x12.drop k)).length ≤ 200000000 → QhK x12 (x12.length : Int) (k : Int) y3 = Qh5 x12 (x12.length : Int) (k : Int) y3) ?_ ?_ k hk
 ·intro y3 _
  rw [Qso]
  simp only [QkC, Qaz, Nat.lt_irrefl, decide_false, Qae]
  simp only [Qh5, Int.toNat_natCast, List.drop_length, Qgn, List.append_nil]
 ·intro k hk ih y3 hy
  rw [Qso]
  have hx := hc2 x12[k] (List.getElem_mem hk)
  have hs := Qjn x12 k hk
  rw [List.drop_eq_getElem_cons hk, QbZ, List.length_append] at hy
  have hd : QnE y3 x12[k] = true := by rw [QnE, encLF, hx, decide_eq_true (show y3.length ≤ 500000000 by omega), decide_eq_true (show (encT x12[k]).length ≤ 100000000 by omega)]; rfl
  simp only [QkC, Qaz, Qay, hk, decide_true, Qac, Int.toNat_natCast, add1 (show k < 4611686018427387904 by omega), QaG (y := Qah) hk, hd, eleV]
  rw [ih _ (by rw [List.length_append]; omega)]
  simp only [Qh5, Int.toNat_natCast, List.drop_eq_getElem_cons hk, QbZ, List.append_assoc]
theorem QDW : ∀ S l p, QjK.L 0 (fgt QfB S) = some (true, l) → pickA l = some p → loopF (Qaj QjK QfB Qg9) S = some p :=
 QaF (s := Qml) ⟨by decide, by decide⟩ (by kernel_rfl) fun x y hok p hp => by
 simp only [Qas, Qap] at hp
 exact (QIk x.2.1 x.2.2.1 x.2.2.2.1 y.1 (by simpa using hok)).trans hp
theorem QOn : Qtp.lok QjK := by
 repeat (first | exact trivial | exact QDW | refine ⟨?_, ?_⟩)
theorem s_f174 (x : ValT) (h : encLF (fuel + 1) x = true) : QCu x = some (.t (.sl (.int .u8)) (conV x), []) := by
 simp only [encLF, Bool.and_eq_true, decide_eq_true_eq] at h
 obtain ⟨h, hf⟩ := h
 obtain ⟨h1, h2, h3, h4, h5, h6, h7⟩ := Qch h
 have hel := Qnx x
 have hE : encL (List.map Val.un x.2.2.2.1) = encVs x.2.2.2.1 := by rw [encL, Qcq]
 have hu : conIn (List.map Val.un x.2.2.2.1) = true := by
  simp only [conIn, Bool.and_eq_true, decide_eq_true_eq, List.length_map, List.all_eq_true, List.mem_map, hE]
  refine ⟨⟨h6, by omega⟩, ?_⟩
  rintro y ⟨v, hv, rfl⟩
  rw [Qr6]
  exact h7 v hv
 simp only [QCu, rng_0 (show (List.map Val.un x.2.2.2.1).length ≤ 100000 by rw [List.length_map]; exact h6), hu, Bool.and_self, Bool.true_and, Int.toNat_zero, List.drop_zero, hE, List.nil_append, List.length_nil]
 cases hq : x.2.2.1 with
 | true =>
  rw [Bool.not_true, Qae, decide_eq_true (by omega), Qac]
  simp only [conV, h3 hq, List.nil_append]
 | false =>
  rw [Bool.not_false, Qac]
  simp only [conV, h4 hq, encVs, List.append_nil]
theorem QOc : Meets Tryz.prog 174 (runF QjK Qtp QBt false) := mG Tryz.func174 (by kernel_rfl) Tryz.ntmps174 (by kernel_rfl) QPC QOn
end
theorem Qfr : ∀ N : Nat, Meets Tryz.prog 174 (strip (@Qf1 ⟨N⟩))
 | 0 => QbJ fun x => by first | rfl | simp [encLF]
 | N + 1 => by
  letI : Fuel := ⟨N⟩
  haveI : Nonempty (PLift (Meets Tryz.prog 174 (strip Qf1))) := ⟨⟨Qfr N⟩⟩
  exact Qaf QOc fun x hok => (e_f174 x.1).trans (s_f174 x.1 hok)
def QAE : Ent := spec (.pr Qah .nil) (fun x => (encOk x.1)) (fun x => (.t (.sl (.int .u8)) (conV x.1)))
theorem QNy : Meets Tryz.prog 174 (strip QAE) := QbK Qfr fun x hok => Qjk x.1 hok
def eleN (x : ValT) : List Int := encT x
noncomputable def QoB : TC := (.sq (.reg (rT Tryz.f159 0)) (.sq (.reg (rT Tryz.f159 1)) (.sq (.reg (rT Tryz.f159 2)) .rt)))
def Qwc : List (RV × Option Ty) := [((.t 4), none)]
def Qqq : G := ⟨TYs, [], 19, EL [(174, QAE), (175, Que)], (175 :: keeps), (fun _ _ => none), IL [], RL []⟩
def Qu9 (p1 : ValT) : Option (V × List VO) :=
 let a1 := (lenA (([] : List Int) ++ ([(icv .u8 p1.1)])) (llen (conV p1)))
 br (encOk p1) (br (cApp ([] : List Int) ([(icv .u8 p1.1)]) 1) (br (Qnf (([] : List Int) ++ ([(icv .u8 p1.1)])) (llen (conV p1))) (br (cApp a1 (conV p1) 1) (some (.ms 50000, [.arr 5 (.int .u8) (a1 ++ (conV p1))])) none) none) none) none
theorem QQY (p1 : ValT) : runF Qqq QoB Qwc true [.c (.slice none 0 0), .t Qah p1] [] = Qu9 p1 := by kernel_rfl
theorem QI0 : Qag Tryz.prog 159 := .inr ⟨by decide, _, Tryz.func159, by kernel_rfl, by kernel_rfl⟩
theorem QIN : GOk Tryz.prog Qqq := Qan _ (gA (gC QFn QNy (gC QFm QDE gN)))
theorem QIf : QoB.lok Qqq := by repeat (first | exact trivial | refine ⟨?_, ?_⟩)
theorem QNf (x : ValT) (h : encOk x = true) : Qu9 x = some (.ms 50000, [.arr 5 (.int .u8) (eleN x)]) := by
 have h3 := h
 simp only [encOk, Bool.and_eq_true, decide_eq_true_eq] at h3
 have hel := Qnx x
 have hcl := QxO x
 have hll := Qgh (conV x).length
 simp only [Qu9, h, Qac]
 rw [cAppN (by omega) (by simp), Qac, show Qnf ([] ++ [icv .u8 x.1]) (llen (conV x)) = true from decide_eq_true (by simp only [llen, List.length_append, List.length_singleton, List.length_nil]; omega), Qac, cAppN (by omega) (by simp only [lenA, llen, Int.toNat_natCast, List.length_append, List.length_singleton, List.length_nil]; omega), Qac, QMY]
 rfl
def Qv8 : Ent := specB [.nl, .ty Qah] [] (fun x y => (encOk x.2.1)) (fun x y => (.ms 50000)) (fun x y => [.arr 5 (.int .u8) (eleN x.2.1)])
theorem QHG : Meets Tryz.prog 159 (strip Qv8) := Qb8 (QaI (R := runF Qqq QoB Qwc true) (mG Tryz.func159 (by kernel_rfl) Tryz.ntmps159 (by kernel_rfl) QIN QIf) fun x y hok => (QQY x.2.1).trans (QNf x.2.1 hok))
noncomputable def QtO : TC := (.sq (.reg (rT Tryz.f138 0)) (.sq (.sq (.reg (rT Tryz.f138 1)) (.cd (.t 7) (.sq (.reg (rT Tryz.f138 2)) .rt) .sk)) (.sq (.sq (.reg (rT Tryz.f138 3)) (.cd (.t 10) (.sq (.reg (rT Tryz.f138 4)) .rt) .sk)) (.sq (.reg (rT Tryz.f138 5)) (.sq (.sq (.reg (rT Tryz.f138 6)) (.cd (.t 15) (.sq (.reg (rT Tryz.f138 7)) .rt) .sk)) (.sq (.reg (rT Tryz.f138 8)) .rt))))))
def QBS : List (RV × Option Ty) := [((.t 2), some (.sl (.int .u8))), ((.t 3), some tI)]
def Qxg : G := ⟨TYs, [], 17, EL [(157, QAP), (158, QAO), (159, Qv8)], keeps, (fun _ _ => none), IL [], RL []⟩
def QCQ (p0 : ValT) : Option (V × List VO) := br (frmOk p0) (br (!(frmV p0)) (some (.tu [(.t (.sl (.int .u8)) ([] : List Int)), (.t tI 1)], [])) (br (dpOk p0) (br (igt (dpV p0) 16) (some (.tu [(.t (.sl (.int .u8)) ([] : List Int)), (.t tI 3)], [])) (br (encOk p0) (br (igt (llen (eleN p0)) 4096) (some (.tu [(.t (.sl (.int .u8)) ([] : List Int)), (.t tI 3)], [])) (some (.tu [(.t (.sl (.int .u8)) (eleN p0)), (.t tI 0)], []))) none)) none)) none
theorem e_f138 (p0 : ValT) : runF Qxg QtO QBS false [.t Qah p0] [] = QCQ p0 := by kernel_rfl
theorem QQF : Qag Tryz.prog 138 := .inr ⟨by decide, _, Tryz.func138, by kernel_rfl, by kernel_rfl⟩
theorem QP1 : GOk Tryz.prog Qxg := Qan _ (gA (gC QFr QNJ (gC QFq QNI (gC QI0 QHG gN))))
theorem QOM : QtO.lok Qxg := by repeat (first | exact trivial | refine ⟨?_, ?_⟩)
theorem s_f138 (x : ValT) (h : encOk x = true) : QCQ x = some (.tu [.t (.sl (.int .u8)) (encE x).1, .t tI (encE x).2], []) := by
 have h' := h
 simp only [encOk, Bool.and_eq_true, decide_eq_true_eq] at h'
 obtain ⟨h1, h2⟩ := h'
 simp only [QCQ, show frmOk x = true from h1, show dpOk x = true from h1, h, QxE h1, frmV, eleN, Bool.not_true, Qac, Qae]
 unfold encE
 refine QaP (fun g => ?_) (fun g => ?_)
 ·simp only [igt, llen, decide_eq_true_eq] at g
  rw [if_pos (by omega)]
 ·simp only [igt, llen, decide_eq_false_iff_not] at g
  rw [if_neg (by omega)]
def QA0 : Ent := spec (.pr Qah .nil) (fun x => (encOk x.1)) (fun x => (.tu [(.t (.sl (.int .u8)) ((encE x.1).1)), (.t tI ((encE x.1).2))]))
theorem QNT : Meets Tryz.prog 138 (strip QA0) := Qaf (R := runF Qxg QtO QBS false) (mG Tryz.func138 (by kernel_rfl) Tryz.ntmps138 (by kernel_rfl) QP1 QOM) fun x hok => (e_f138 x.1).trans (s_f138 x.1 hok)
def lstT (l : List ValT) : ValT := (48, (([] : List Int), (true, (List.map Val.of l, ()))))
noncomputable def Qtz : TC := (.sq (.reg (rT Tryz.f161 0)) (.sq (.reg (rT Tryz.f161 1)) .rt))
def QBD : List (RV × Option Ty) := [((.c 2 true 4), some Qah)]
def Qw8 : G := ⟨TYs, [], 6, EL [(176, QAD)], keeps, (fun _ _ => none), IL [], RL []⟩
def QCD (p0 : List ValT) : Option (V × List VO) := br (copOk p0) (some (.t Qah (48, (([] : List Int), (true, ((List.map Val.of (copV p0)), ())))), [])) none
theorem e_f161 (p0 : List ValT) : runF Qw8 Qtz QBD false [.t (.sl Qah) p0] [] = QCD p0 := by kernel_rfl
theorem QvL : Qag Tryz.prog 161 := .inr ⟨by decide, _, Tryz.func161, by kernel_rfl, by kernel_rfl⟩
theorem QPM : GOk Tryz.prog Qw8 := Qan _ (gA (gC QFl QNx gN))
theorem QOx : Qtz.lok Qw8 := by repeat (first | exact trivial | refine ⟨?_, ?_⟩)
theorem s_f161 (l : List ValT) (h : copOk l = true) : QCD l = some (.t Qah (lstT l), []) := by
 simp only [QCD, h, Qac]
 rfl
def QoU : Ent := spec (.pr (.sl Qah) .nil) (fun x => (copOk x.1)) (fun x => (.t Qah (lstT x.1)))
theorem Qvh : Meets Tryz.prog 161 (strip QoU) := Qaf (R := runF Qw8 Qtz QBD false) (mG Tryz.func161 (by kernel_rfl) Tryz.ntmps161 (by kernel_rfl) QPM QOx) fun x hok => (e_f161 x.1).trans (s_f161 x.1 hok)
noncomputable def Qtv : TC := (.sq (.reg (rT Tryz.f165 0)) (.sq (.reg (rT Tryz.f165 1)) .rt))
def QBz : List (RV × Option Ty) := [((.c 2 true 4), some Qah)]
def Qw5 : G := ⟨TYs, [], 5, EL [(161, QoU)], keeps, (fun _ _ => none), IL [], RL []⟩
def QCA (p0 : List ValT) : Option (V × List VO) := br (copOk p0) (some (.t Qah (lstT p0), [])) none
theorem e_f165 (p0 : List ValT) : runF Qw5 Qtv QBz false [.t (.sl Qah) p0] [] = QCA p0 := by kernel_rfl
theorem QQv : Qag Tryz.prog 165 := .inr ⟨by decide, _, Tryz.func165, by kernel_rfl, by kernel_rfl⟩
theorem QPI : GOk Tryz.prog Qw5 := Qan _ (gA (gC QvL Qvh gN))
theorem QOt : Qtv.lok Qw5 := by repeat (first | exact trivial | refine ⟨?_, ?_⟩)
theorem s_f165 (l : List ValT) (h : copOk l = true) : QCA l = some (.t Qah (lstT l), []) := by
 simp only [QCA, h, Qac]
def QAK : Ent := spec (.pr (.sl Qah) .nil) (fun x => (copOk x.1)) (fun x => (.t Qah (lstT x.1)))
theorem QNE : Meets Tryz.prog 165 (strip QAK) := Qaf (R := runF Qw5 Qtv QBz false) (mG Tryz.func165 (by kernel_rfl) Tryz.ntmps165 (by kernel_rfl) QPI QOt) fun x hok => (e_f165 x.1).trans (s_f165 x.1 hok)
noncomputable def QtG : TC := (.sq (.reg (rT Tryz.f153 0)) (.sq (.reg (rT Tryz.f153 1)) .rt))
def QBK : List (RV × Option Ty) := [((.c 2 true 4), some Qah)]
def Qxd : G := ⟨TYs, [], 6, EL [(170, QAH)], keeps, (fun _ _ => none), IL [], RL []⟩
def QCJ (p0 : List ValT) : Option (V × List VO) := br (copOk p0) (some (.t Qah (48, (([] : List Int), (true, ((List.map Val.of (copV p0)), ())))), [])) none
theorem e_f153 (p0 : List ValT) : runF Qxd QtG QBK false [.t (.sl Qah) p0] [] = QCJ p0 := by kernel_rfl
theorem QFt : Qag Tryz.prog 153 := .inr ⟨by decide, _, Tryz.func153, by kernel_rfl, by kernel_rfl⟩
theorem QPT : GOk Tryz.prog Qxd := Qan _ (gA (gC QFo QNB gN))
theorem QOE : QtG.lok Qxd := by repeat (first | exact trivial | refine ⟨?_, ?_⟩)
theorem s_f153 (l : List ValT) (h : copOk l = true) : QCJ l = some (.t Qah (lstT l), []) := by
 simp only [QCJ, h, Qac]
 rfl
def Quh : Ent := spec (.pr (.sl Qah) .nil) (fun x => (copOk x.1)) (fun x => (.t Qah (lstT x.1)))
theorem QDH : Meets Tryz.prog 153 (strip Quh) := Qaf (R := runF Qxd QtG QBK false) (mG Tryz.func153 (by kernel_rfl) Tryz.ntmps153 (by kernel_rfl) QPT QOE) fun x hok => (e_f153 x.1).trans (s_f153 x.1 hok)
end
end Go.Proofs.YtkngeegkjhipeaaGreat.K
