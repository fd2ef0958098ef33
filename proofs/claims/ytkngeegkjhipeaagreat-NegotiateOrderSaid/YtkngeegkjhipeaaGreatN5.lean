import Derived.Test.YtkngeegkjhipeaaGreatN4
set_option linter.unusedSimpArgs false
set_option linter.unusedVariables false
set_option linter.unusedSectionVars false
namespace Go.Proofs.YtkngeegkjhipeaaGreat.K
open Go.RowKit
noncomputable section
def encT (x : ValT) : List Int := encV (Val.of x)
def encL (l : List ValT) : List Int := encVs (l.map Val.of)
theorem Qgo : encL [] = [] := rfl
theorem Qb1 (x : ValT) (l : List ValT) : encL (x :: l) = encT x ++ encL l := rfl
theorem QnO (x : ValT) : encT x = icv .u8 x.1 :: (lenL (x.2.1.length + (encVs x.2.2.2.1).length) ++ (x.2.1 ++ encVs x.2.2.2.1)) := rfl
theorem QnN (x : ValT) : x.2.1.length + (encVs x.2.2.2.1).length ≤ (encT x).length := QJA x.1 x.2.1 x.2.2.1 x.2.2.2.1
theorem Qjt : ∀ (l : List ValT) (k : Nat) (hk : k < l.length), (encL (l.take k)).length + (encT l[k]).length ≤ (encL l).length
 | [], k, hk => by simp at hk
 | x :: l, 0, _ => by
  rw [List.take_zero, Qgo, Qb1, List.length_append]
  simp
 | x :: l, k + 1, hk => by
  simp only [List.length_cons] at hk
  have := Qjt l k (by omega)
  simp only [List.take_succ_cons, Qb1, List.length_append, List.getElem_cons_succ]
  omega
theorem Qgi (n : Nat) : (lenL n).length ≤ 9 := by
 unfold lenL
 split
 ·simp
 ·rw [List.length_cons, QqP]
  have := QqT 8 n
  omega
def encLF (n : Nat) (x : ValT) : Bool := okT n x && decide ((encT x).length ≤ 100000000)
def encOk (x : ValT) : Bool := okT 12 x && decide ((encT x).length ≤ 100000000)
theorem Qof (x : ValT) (h : encOk x = true) : ∃ N, encLF N x = true := ⟨12, h⟩
theorem QGc : Qag Tryz.prog 151 := .inr ⟨by decide, _, Tryz.func151, by kernel_rfl, by kernel_rfl⟩
def Qf6 [Fuel] : Ent := spec (.pr Qai .nil) (fun x => (encLF fuel x.1)) (fun x => (.t (.sl (.int .u8)) (encT x.1)))
theorem QJI : Qag Tryz.prog 151 := QGc
section
variable [Fuel] [Nonempty (PLift (Meets Tryz.prog 151 (strip Qf6)))]
theorem QIq : Meets Tryz.prog 151 (strip Qf6) := (Classical.choice (inferInstance : Nonempty (PLift (Meets Tryz.prog 151 (strip Qf6))))).down
def encIn [Fuel] (x : ValT) : Bool := encLF (fuel + 1) x
noncomputable def QGn : List DO := dT Tryz.f151 6
def QfH : Fg := ⟨[(1, none), (3, none), (4, some tI)], [(1, some Qai), (3, none), (5, none), (8, none), (23, none)]⟩
noncomputable def Qhh : TC := (.sq (.sq (.reg (rT Tryz.f151 3)) (.cd (.t 13) .sk (.fg ⟨[(1, none), (3, none)], [(1, some Qai), (3, none), (5, none), (8, none), (23, none)]⟩ (.ex 0)))) (.sq (.bk 1 (.reg (rT Tryz.f151 4))) (.reg (rT Tryz.f151 5))))
noncomputable def Qt9 : TC := (.sq (.reg (rT Tryz.f151 0)) (.sq (.reg (rT Tryz.f151 1)) (.sq (.sq (.reg (rT Tryz.f151 2)) (.bk 0 (.nw 3 5 (.lp 0 QfH Qhh)))) (.sq (.dr QGn [(0, [1]), (1, [1]), (2, []), (3, [27, 5027, 10027, 15027]), (4, [3, 5, 8, 23]), (5, [3, 5, 8, 23]), (6, []), (7, [27, 31, 5031, 10031, 15031]), (8, [3, 5, 8, 23]), (9, [3, 5, 8, 23, 27, 31, 33, 5033, 10033, 15033]), (10, [27, 31, 33])] (.of [0, 1, 2, 4, 5, 6, 8, 3, 7, 9, 10])) .rt))))
def QCt : List (RV × Option Ty) := [((.t 2), some (.sl (.int .u8)))]
abbrev QmB : Sh := ⟨[(1, .ptr 1 0), (3, .ms 5), (4, .ty tI)], [(1, .box Qai), (3, .no), (5, .arr 5 (.int .u8)), (8, .no), (23, .no)]⟩
def Ql6 (x4 : Int) (y1 : ValT) (y5 : List Int) : VS := QmB.st ((), (), x4, ()) (y1, (), y5, (), (), ())
abbrev QrQ : Sh := ⟨[(1, .ptr 1 0), (3, .ms 5)], [(1, .box Qai), (3, .no), (5, .arr 5 (.int .u8)), (8, .no), (23, .no)]⟩
def Qdm (y1 : ValT) (y5 : List Int) : VS := QrQ.st ((), (), ()) (y1, (), y5, (), (), ())
def QK2 : VS → Option (Bool × List (Bool × Exit × VS)) := mkL QmB (fun x y => (decide (0 ≤ x.2.2.1 ∧ x.2.2.1 ≤ y.1.2.2.2.1.length ∧ y.2.2.1.length + (encL ((List.map Val.un y.1.2.2.2.1).drop x.2.2.1.toNat)).length ≤ 1000000000) && encIn y.1)) (fun x y => [(true, .exit 0, Qdm (y.1) (y.2.2.1 ++ encL ((List.map Val.un y.1.2.2.2.1).drop x.2.2.1.toNat)))])
def QjV : G := ⟨TYs, [5, 27], 34, EL [(151, Qf6), (169, QBo)], keeps, (Ls [QK2]), IL [], RL []⟩
def QyG (x4 : Int) (y1 : ValT) (y5 : List Int) : Option (Exit × VS) :=
 let a2 := List.map Val.un y1.2.2.2.1
 let a1 := lgt Qai a2 (Int.toNat x4)
 br (ilt x4 (llen a2)) (br (cIx a2 x4) (br (encLF fuel a1) (br (cApp y5 (encT a1) 1) (some (.normal, Ql6 (iadd .i64 x4 1) y1 (y5 ++ (encT a1)))) none) none) none) (some (.exit 0, Qdm y1 y5))
noncomputable def QhR (x4 : Int) (y1 : ValT) (y5 : List Int) : Option (Exit × VS) := loopF (Qaj QjV QfH Qhh) (Ql6 x4 y1 y5)
noncomputable def QkM (x4 : Int) (y1 : ValT) (y5 : List Int) : Option (Exit × VS) :=
 let a2 := List.map Val.un y1.2.2.2.1
 let a1 := lgt Qai a2 (Int.toNat x4)
 br (ilt x4 (llen a2)) (br (cIx a2 x4) (br (encLF fuel a1) (br (cApp y5 (encT a1) 1) (QhR (iadd .i64 x4 1) y1 (y5 ++ (encT a1))) none) none) none) (some (.exit 0, Qdm y1 y5))
def Qic (x4 : Int) (y1 : ValT) (y5 : List Int) : Option (Exit × VS) := some (.exit 0, Qdm (y1) (y5 ++ encL ((List.map Val.un y1.2.2.2.1).drop x4.toNat)))
theorem QGX (x4 : Int) (y1 : ValT) (y5 : List Int) : Qaj QjV QfH Qhh (Ql6 x4 y1 y5) = QyG x4 y1 y5 := by kernel_rfl
theorem QsT (x4 : Int) (y1 : ValT) (y5 : List Int) : QhR x4 y1 y5 = QkM x4 y1 y5 := (Qaq _ _).trans (by
 rw [QGX]
 simp only [QyG, QkM, QaE, nxt_n, nxt_r, nxt_e, nxt_0]
 rfl)
def QDs (p0 : ValT) : Option (V × List VO) :=
 let a2 := List.map Val.un p0.2.2.2.1
 let a3 := (a2.drop (0 : Int).toNat)
 let a1 := (llen ((([] : List Int) ++ p0.2.1) ++ encL a3))
 let a4 := icv .u8 ((p0).1)
 br (cApp ([] : List Int) p0.2.1 1) (br (decide (0 ≤ (0 : Int) ∧ (0 : Int) ≤ p0.2.2.2.1.length ∧ (([] : List Int) ++ p0.2.1).length + (encL a3).length ≤ 1000000000) && encIn p0) (br (Qta a1) (br (cApp ([a4]) (lenR a1) 1) (br (cApp (([a4]) ++ (lenR a1)) ((([] : List Int) ++ p0.2.1) ++ encL a3) 1) (some (.t (.sl (.int .u8)) ((([a4]) ++ (lenR a1)) ++ ((([] : List Int) ++ p0.2.1) ++ encL a3)), [])) none) none) none) none) none
theorem e_f151 (p0 : ValT) : runF QjV Qt9 QCt false [.t Qai p0] [] = QDs p0 := by kernel_rfl
theorem QQJ : GOk Tryz.prog QjV := Qao _ (gA (gC QJI QIq (gC QRg QOp gN)))
theorem QI9 (x4 : Int) (y1 : ValT) (y5 : List Int) (h : (decide (0 ≤ x4 ∧ x4 ≤ y1.2.2.2.1.length ∧ y5.length + (encL ((List.map Val.un y1.2.2.2.1).drop x4.toNat)).length ≤ 1000000000) && encIn y1) = true) : QhR x4 y1 y5 = Qic x4 y1 y5 := by
 simp only [Bool.and_eq_true, decide_eq_true_eq] at h
 obtain ⟨⟨h0, h1, h2⟩, hc⟩ := h
 obtain ⟨k, rfl⟩ := Int.eq_ofNat_of_zero_le h0
 simp only [encIn, encLF, Bool.and_eq_true, decide_eq_true_eq] at hc
 obtain ⟨hc, hf⟩ := hc
 have hm := QvF hc
 have hl := (Qci hc).2.2.2.2.2.1
 rw [Int.toNat_natCast] at h2
 have hel := QnN y1
 have hE : encL (List.map Val.un y1.2.2.2.1) = encVs y1.2.2.2.1 := by rw [encL, Qcq]
 revert y5
 refine Qav (List.map Val.un y1.2.2.2.1) (fun k => ∀ y5 : List Int, y5.length + (encL ((List.map Val.un y1.2.2.2.1).drop k)).length ≤ 1000000000 → QhR (k : Int) y1 y5 = Qic (k : Int) y1 y5) ?_ ?_ k (by rw [List.length_map]; omega)
 ·intro y5 _
  rw [QsT]
  simp only [QkM, show ilt ((List.map Val.un y1.2.2.2.1).length : Int) (llen (List.map Val.un y1.2.2.2.1)) = false from decide_eq_false (by simp only [llen]; omega), Qae]
  simp only [Qic, Int.toNat_natCast, List.drop_length, Qgo, List.append_nil]
 ·intro k hk ih y5 hy
  rw [QsT]
  have hk2 : k < y1.2.2.2.1.length := by rw [List.length_map] at hk; exact hk
  have hs := Qjt (List.map Val.un y1.2.2.2.1) k hk
  rw [hE] at hs
  rw [List.drop_eq_getElem_cons hk, Qb1, List.length_append] at hy
  have hd : encLF fuel (List.map Val.un y1.2.2.2.1)[k] = true := by rw [encLF, hm k hk, decide_eq_true (by omega)]; rfl
  simp only [QkM, show ilt (k : Int) (llen (List.map Val.un y1.2.2.2.1)) = true from decide_eq_true (by simp only [llen]; omega), Qay, hk, decide_true, Qac, Int.toNat_natCast, add1 (show k < 4611686018427387904 by omega), QaG (y := Qai) hk, hd]
  rw [cAppN (by omega) (by omega), Qac, ih _ (by rw [List.length_append]; omega)]
  simp only [Qic, Int.toNat_natCast, List.drop_eq_getElem_cons hk, Qb1, List.append_assoc]
theorem QEJ : ∀ S l p, QjV.L 0 (fgt QfH S) = some (true, l) → pickA l = some p → loopF (Qaj QjV QfH Qhh) S = some p :=
 QaF (s := QmB) ⟨by decide, by decide⟩ (by kernel_rfl) fun x y hok p hp => by
 simp only [Qar, Qap] at hp
 exact (QI9 x.2.2.1 y.1 y.2.2.1 (by simpa using hok)).trans hp
theorem QPu : Qt9.lok QjV := by
 repeat (first | exact trivial | exact QEJ | refine ⟨?_, ?_⟩)
theorem s_f151 (x : ValT) (h : encLF (fuel + 1) x = true) : QDs x = some (.t (.sl (.int .u8)) (encT x), []) := by
 have hin : encIn x = true := h
 simp only [encLF, Bool.and_eq_true, decide_eq_true_eq] at h
 obtain ⟨h, hf⟩ := h
 have hel := QnN x
 have hE : encL (List.map Val.un x.2.2.2.1) = encVs x.2.2.2.1 := by rw [encL, Qcq]
 have hll := Qgi (x.2.1.length + (encVs x.2.2.2.1).length)
 simp only [QDs, hin, Bool.and_true, List.nil_append, Int.toNat_zero, List.drop_zero, hE]
 rw [cAppN (by omega) (by simp only [List.length_nil]; omega), Qac, decide_eq_true ⟨by omega, by omega, by omega⟩, Qac]
 have e1 : Qta (llen (x.2.1 ++ encVs x.2.2.2.1)) = true := decide_eq_true (by simp only [llen, List.length_append]; omega)
 have e2 : lenR (llen (x.2.1 ++ encVs x.2.2.2.1)) = lenL (x.2.1.length + (encVs x.2.2.2.1).length) := by simp only [lenR, llen, List.length_append, Int.toNat_natCast]
 rw [e1, Qac, e2, cAppN (by omega) (by simp only [List.length_singleton]; omega), Qac, cAppN (by omega) (by simp only [List.length_append, List.length_singleton]; omega), Qac, QnO]
 simp only [List.singleton_append, List.cons_append, List.nil_append]
theorem QO3 : Meets Tryz.prog 151 (runF QjV Qt9 QCt false) := mG Tryz.func151 (by kernel_rfl) Tryz.ntmps151 (by kernel_rfl) QQJ QPu
end
theorem QjL : ∀ N : Nat, Meets Tryz.prog 151 (strip (@Qf6 ⟨N⟩))
 | 0 => QbJ fun x => by first | rfl | simp [encLF]
 | N + 1 => by
  letI : Fuel := ⟨N⟩
  haveI : Nonempty (PLift (Meets Tryz.prog 151 (strip Qf6))) := ⟨⟨QjL N⟩⟩
  exact Qaf QO3 fun x hok => (e_f151 x.1).trans (s_f151 x.1 hok)
def QBz : Ent := spec (.pr Qai .nil) (fun x => (encOk x.1)) (fun x => (.t (.sl (.int .u8)) (encT x.1)))
theorem QOA : Meets Tryz.prog 151 (strip QBz) := QbK QjL fun x hok => Qof x.1 hok
def encE (x : ValT) : List Int × Int := if 4096 < (encT x).length then ([], 3) else (encT x, 0)
theorem Qyi {x : ValT} (h : okT 12 x = true) : igt (dpV x) 16 = false := by
 have := Qqa (v := Val.of x) h
 exact decide_eq_false (by show ¬ ((depV (Val.of x) : Int) > 16); omega)
noncomputable def Quh : TC := (.sq (.reg (rT Tryz.f136 0)) (.sq (.sq (.reg (rT Tryz.f136 1)) (.cd (.t 7) (.sq (.reg (rT Tryz.f136 2)) .rt) .sk)) (.sq (.sq (.reg (rT Tryz.f136 3)) (.cd (.t 10) (.sq (.reg (rT Tryz.f136 4)) .rt) .sk)) (.sq (.reg (rT Tryz.f136 5)) (.sq (.sq (.reg (rT Tryz.f136 6)) (.cd (.t 15) (.sq (.reg (rT Tryz.f136 7)) .rt) .sk)) (.sq (.reg (rT Tryz.f136 8)) .rt))))))
def QCB : List (RV × Option Ty) := [((.t 2), some (.sl (.int .u8))), ((.t 3), some tI)]
def QxV : G := ⟨TYs, [], 17, EL [(149, QBB), (150, QBA), (151, QBz)], keeps, (fun _ _ => none), IL [], RL []⟩
def QDz (p0 : ValT) : Option (V × List VO) := br (frmOk p0) (br (!(frmV p0)) (some (.tu [(.t (.sl (.int .u8)) ([] : List Int)), (.t tI 1)], [])) (br (dpOk p0) (br (igt (dpV p0) 16) (some (.tu [(.t (.sl (.int .u8)) ([] : List Int)), (.t tI 3)], [])) (br (encOk p0) (br (igt (llen (encT p0)) 4096) (some (.tu [(.t (.sl (.int .u8)) ([] : List Int)), (.t tI 3)], [])) (some (.tu [(.t (.sl (.int .u8)) (encT p0)), (.t tI 0)], []))) none)) none)) none
theorem e_f136 (p0 : ValT) : runF QxV Quh QCB false [.t Qai p0] [] = QDz p0 := by kernel_rfl
theorem QRu : Qag Tryz.prog 136 := .inr ⟨by decide, _, Tryz.func136, by kernel_rfl, by kernel_rfl⟩
theorem QQR : GOk Tryz.prog QxV := Qao _ (gA (gC QGe QOC (gC QGd QOB (gC QGc QOA gN))))
theorem QPC : Quh.lok QxV := by repeat (first | exact trivial | refine ⟨?_, ?_⟩)
theorem s_f136 (x : ValT) (h : encOk x = true) : QDz x = some (.tu [.t (.sl (.int .u8)) (encE x).1, .t tI (encE x).2], []) := by
 have h' := h
 simp only [encOk, Bool.and_eq_true, decide_eq_true_eq] at h'
 obtain ⟨h1, h2⟩ := h'
 simp only [QDz, show frmOk x = true from h1, show dpOk x = true from h1, h, Qyi h1, frmV, Bool.not_true, Qac, Qae]
 unfold encE
 refine QaP (fun g => ?_) (fun g => ?_)
 ·simp only [igt, llen, decide_eq_true_eq] at g
  rw [if_pos (by omega)]
 ·simp only [igt, llen, decide_eq_false_iff_not] at g
  rw [if_neg (by omega)]
def QBI : Ent := spec (.pr Qai .nil) (fun x => (encOk x.1)) (fun x => (.tu [(.t (.sl (.int .u8)) ((encE x.1).1)), (.t tI ((encE x.1).2))]))
theorem QOI : Meets Tryz.prog 136 (strip QBI) := Qaf (R := runF QxV Quh QCB false) (mG Tryz.func136 (by kernel_rfl) Tryz.ntmps136 (by kernel_rfl) QQR QPC) fun x hok => (e_f136 x.1).trans (s_f136 x.1 hok)
def conV (x : ValT) : List Int := x.2.1 ++ encVs x.2.2.2.1
theorem Qyr (x : ValT) : (conV x).length = x.2.1.length + (encVs x.2.2.2.1).length := List.length_append
theorem Qjq (x : ValT) (h : encOk x = true) : ∃ N, encLF N x = true := ⟨12, h⟩
def eleV (b : List Int) (x : ValT) : List Int := b ++ encT x
theorem QNK (b : List Int) (x : ValT) : lenA (b ++ [icv .u8 x.1]) (llen (conV x)) ++ conV x = eleV b x := by
 simp only [lenA, eleV, QnO, llen, Int.toNat_natCast, conV, List.length_append, List.append_assoc, List.singleton_append, List.cons_append, List.nil_append]
theorem QF5 : Qag Tryz.prog 174 := .inr ⟨by decide, _, Tryz.func174, by kernel_rfl, by kernel_rfl⟩
def Qf2 [Fuel] : Ent := spec (.pr Qai .nil) (fun x => (encLF fuel x.1)) (fun x => (.t (.sl (.int .u8)) (conV x.1)))
theorem QJC : Qag Tryz.prog 174 := QF5
section
variable [Fuel] [Nonempty (PLift (Meets Tryz.prog 174 (strip Qf2)))]
theorem QIk : Meets Tryz.prog 174 (strip Qf2) := (Classical.choice (inferInstance : Nonempty (PLift (Meets Tryz.prog 174 (strip Qf2))))).down
def QnU [Fuel] (b : List Int) (x : ValT) : Bool := decide (b.length ≤ 500000000) && encLF fuel x
noncomputable def QoQ : TC := (.ad [(50000, 49000)] (.sq (.reg (rT Tryz.f159 0)) (.sq (.reg (rT Tryz.f159 1)) (.sq (.reg (rT Tryz.f159 2)) .rt))))
def QwI : List (RV × Option Ty) := [((.t 4), none)]
def QqH : G := ⟨TYs, [], 19, EL [(174, Qf2), (175, QuH)], (175 :: keeps), (fun _ _ => none), IL [], RL []⟩
def QvC (p0 : List Int) (p1 : ValT) : Option (V × List VO) :=
 let a1 := lenA (p0 ++ ([(icv .u8 p1.1)])) (llen (conV p1))
 br (encLF fuel p1) (br (cApp p0 ([(icv .u8 p1.1)]) 1) (br (Qnr (p0 ++ ([(icv .u8 p1.1)])) (llen (conV p1))) (br (cApp a1 (conV p1) 1) (some (.ms 50001, [.no, .arr 5 (.int .u8) (a1 ++ (conV p1))])) none) none) none) none
theorem QRK (p0 : List Int) (p1 : ValT) : runF QqH QoQ QwI true [.ms 50000, .t Qai p1] [.arr 5 (.int .u8) p0] = QvC p0 p1 := by kernel_rfl
theorem QJE : Qag Tryz.prog 159 := .inr ⟨by decide, _, Tryz.func159, by kernel_rfl, by kernel_rfl⟩
theorem QJr : GOk Tryz.prog QqH := Qao _ (gA (gC QJC QIk (gC QF4 QEk gN)))
theorem QIW : QoQ.lok QqH := by repeat (first | exact trivial | refine ⟨?_, ?_⟩)
theorem QN0 (b : List Int) (x : ValT) (h : QnU b x = true) : QvC b x = some (.ms 50001, [.no, .arr 5 (.int .u8) (eleV b x)]) := by
 simp only [QnU, Bool.and_eq_true, decide_eq_true_eq] at h
 obtain ⟨h1, h2⟩ := h
 have h3 := h2
 simp only [encLF, Bool.and_eq_true, decide_eq_true_eq] at h3
 have hel := QnN x
 have hcl := Qyr x
 have hll := Qgi (conV x).length
 simp only [QvC, h2, Qac]
 rw [cAppN (by omega) (by simp only [List.length_singleton]; omega), Qac, show Qnr (b ++ [icv .u8 x.1]) (llen (conV x)) = true from decide_eq_true (by simp only [llen, List.length_append, List.length_singleton]; omega), Qac, cAppN (by omega) (by simp only [lenA, llen, Int.toNat_natCast, List.length_append, List.length_singleton]; omega), Qac, QNK]
def QwE : Ent := specS [.ms 50000, .ty Qai] [.arr 5 (.int .u8)] (fun x y => (QnU y.1 x.2.1)) (fun x y => (.ms 50001)) (fun x y => [.no, .arr 5 (.int .u8) (eleV y.1 x.2.1)])
theorem QIm : Meets Tryz.prog 159 (strip QwE) := QaI (R := runF QqH QoQ QwI true) (mG Tryz.func159 (by kernel_rfl) Tryz.ntmps159 (by kernel_rfl) QJr QIW) fun x y hok => (QRK y.1 x.2.1).trans (QN0 y.1 x.2.1 hok)
def conIn [Fuel] (l : List ValT) : Bool := decide (l.length ≤ 100000 ∧ (encL l).length ≤ 100000000) && l.all (okT fuel)
def QfA : Fg := ⟨[(3, none), (12, some (.sl Qai)), (13, some tI), (14, some tI)], [(3, none), (20, none), (5020, none), (10020, none), (15020, none)]⟩
noncomputable def Qha : TC := (.mv [(20, 3)] (.sq (.reg (rT Tryz.f174 5)) (.sq (.cd (.t 15) .sk (.fg ⟨[(3, none)], [(3, none), (20, none), (5020, none), (10020, none), (15020, none)]⟩ (.ex 0))) (.sq (.bk 1 (.sq (.reg (rT Tryz.f174 6)) (.reg (rT Tryz.f174 7)))) (.reg (rT Tryz.f174 8))))))
noncomputable def QtQ : TC := (.sq (.reg (rT Tryz.f174 0)) (.sq (.sq (.reg (rT Tryz.f174 1)) (.cd (.t 8) (.sq (.reg (rT Tryz.f174 2)) .rt) .sk)) (.sq (.reg (rT Tryz.f174 3)) (.sq (.sq (.reg (rT Tryz.f174 4)) (.bk 0 (.nw 3 5 (.lp 0 QfA Qha)))) (.sq (.reg (rT Tryz.f174 9)) .rt)))))
def QCa : List (RV × Option Ty) := [((.t 2), some (.sl (.int .u8)))]
abbrev Qmu : Sh := ⟨[(3, .ms 3), (12, .ty (.sl Qai)), (13, .ty tI), (14, .ty tI)], [(3, .arr 5 (.int .u8)), (20, .no), (5020, .no), (10020, .no), (15020, .no)]⟩
def QlZ (x12 : List ValT) (x13 x14 : Int) (y3 : List Int) : VS := Qmu.st ((), x12, x13, x14, ()) (y3, (), (), (), (), ())
abbrev QrJ : Sh := ⟨[(3, .ms 3)], [(3, .arr 5 (.int .u8)), (20, .no), (5020, .no), (10020, .no), (15020, .no)]⟩
def Qdh (y3 : List Int) : VS := QrJ.st ((), ()) (y3, (), (), (), (), ())
def QKV : VS → Option (Bool × List (Bool × Exit × VS)) := mkL Qmu (fun x y => (rngOk x.2.1 x.2.2.1 x.2.2.2.1 && conIn x.2.1 && decide (y.1.length + (encL (x.2.1.drop x.2.2.2.1.toNat)).length ≤ 200000000))) (fun x y => [(true, .exit 0, Qdh (y.1 ++ encL (x.2.1.drop x.2.2.2.1.toNat)))])
def QjQ : G := ⟨TYs, [], 23, EL [(159, QwE)], (159 :: keeps), (Ls [QKV]), IL [], RL []⟩
def Qyz (x12 : List ValT) (x13 x14 : Int) (y3 : List Int) : Option (Exit × VS) :=
 let a1 := lgt Qai x12 (Int.toNat x14)
 br (ilt x14 x13) (br (cIx x12 x14) (br (QnU y3 a1) (some (.normal, QlZ x12 x13 (iadd .i64 x14 1) (eleV y3 a1))) none) none) (some (.exit 0, Qdh y3))
noncomputable def QhN (x12 : List ValT) (x13 x14 : Int) (y3 : List Int) : Option (Exit × VS) := loopF (Qaj QjQ QfA Qha) (QlZ x12 x13 x14 y3)
noncomputable def QkI (x12 : List ValT) (x13 x14 : Int) (y3 : List Int) : Option (Exit × VS) :=
 let a1 := lgt Qai x12 (Int.toNat x14)
 br (ilt x14 x13) (br (cIx x12 x14) (br (QnU y3 a1) (QhN x12 x13 (iadd .i64 x14 1) (eleV y3 a1)) none) none) (some (.exit 0, Qdh y3))
def Qh8 (x12 : List ValT) (x13 x14 : Int) (y3 : List Int) : Option (Exit × VS) := some (.exit 0, Qdh (y3 ++ encL (x12.drop x14.toNat)))
theorem QGQ (x12 : List ValT) (x13 x14 : Int) (y3 : List Int) : Qaj QjQ QfA Qha (QlZ x12 x13 x14 y3) = Qyz x12 x13 x14 y3 := by kernel_rfl
theorem QsO (x12 : List ValT) (x13 x14 : Int) (y3 : List Int) : QhN x12 x13 x14 y3 = QkI x12 x13 x14 y3 := (Qaq _ _).trans (by
 rw [QGQ]
 simp only [Qyz, QkI, QaE, nxt_n, nxt_r, nxt_e, nxt_0]
 rfl)
def QDb (p0 : ValT) : Option (V × List VO) :=
 let a1 := List.map Val.un p0.2.2.2.1
 let a2 := (a1.drop (0 : Int).toNat)
 br (!p0.2.2.1) (some (.t (.sl (.int .u8)) p0.2.1, [])) (br (rngOk a1 (llen a1) (0 : Int) && conIn a1 && decide (([] : List Int).length + (encL a2).length ≤ 200000000)) (some (.t (.sl (.int .u8)) (([] : List Int) ++ encL a2), [])) none)
theorem e_f174 (p0 : ValT) : runF QjQ QtQ QCa false [.t Qai p0] [] = QDb p0 := by kernel_rfl
theorem QQq : GOk Tryz.prog QjQ := Qao _ (gA (gC QJE QIm gN))
theorem QI2 (x12 : List ValT) (x13 x14 : Int) (y3 : List Int) (h : (rngOk x12 x13 x14 && conIn x12 && decide (y3.length + (encL (x12.drop x14.toNat)).length ≤ 200000000)) = true) : QhN x12 x13 x14 y3 = Qh8 x12 x13 x14 y3 := by
 simp only [Bool.and_eq_true, decide_eq_true_eq] at h
 obtain ⟨⟨h0, hc⟩, h2⟩ := h
 obtain ⟨rfl, h3, k, rfl, hk⟩ := rng_k h0
 clear h0
 rw [Int.toNat_natCast] at h2
 simp only [conIn, Bool.and_eq_true, List.all_eq_true, decide_eq_true_eq] at hc
 obtain ⟨⟨hc0, hc1⟩, hc2⟩ := hc
 revert y3
 refine Qav x12 (fun k => ∀ y3 : List Int, y3.length + (encL (x12.drop k)).length ≤ 200000000 → QhN x12 (x12.length : Int) (k : Int) y3 = Qh8 x12 (x12.length : Int) (k : Int) y3) ?_ ?_ k hk
 ·intro y3 _
  rw [QsO]
  simp only [QkI, Qaz, Nat.lt_irrefl, decide_false, Qae]
  simp only [Qh8, Int.toNat_natCast, List.drop_length, Qgo, List.append_nil]
 ·intro k hk ih y3 hy
  rw [QsO]
  have hx := hc2 x12[k] (List.getElem_mem hk)
  have hs := Qjt x12 k hk
  rw [List.drop_eq_getElem_cons hk, Qb1, List.length_append] at hy
  have hd : QnU y3 x12[k] = true := by rw [QnU, encLF, hx, decide_eq_true (show y3.length ≤ 500000000 by omega), decide_eq_true (show (encT x12[k]).length ≤ 100000000 by omega)]; rfl
  simp only [QkI, Qaz, Qay, hk, decide_true, Qac, Int.toNat_natCast, add1 (show k < 4611686018427387904 by omega), QaG (y := Qai) hk, hd, eleV]
  rw [ih _ (by rw [List.length_append]; omega)]
  simp only [Qh8, Int.toNat_natCast, List.drop_eq_getElem_cons hk, Qb1, List.append_assoc]
theorem QEC : ∀ S l p, QjQ.L 0 (fgt QfA S) = some (true, l) → pickA l = some p → loopF (Qaj QjQ QfA Qha) S = some p :=
 QaF (s := Qmu) ⟨by decide, by decide⟩ (by kernel_rfl) fun x y hok p hp => by
 simp only [Qar, Qap] at hp
 exact (QI2 x.2.1 x.2.2.1 x.2.2.2.1 y.1 (by simpa using hok)).trans hp
theorem QPb : QtQ.lok QjQ := by
 repeat (first | exact trivial | exact QEC | refine ⟨?_, ?_⟩)
theorem s_f174 (x : ValT) (h : encLF (fuel + 1) x = true) : QDb x = some (.t (.sl (.int .u8)) (conV x), []) := by
 simp only [encLF, Bool.and_eq_true, decide_eq_true_eq] at h
 obtain ⟨h, hf⟩ := h
 obtain ⟨h1, h2, h3, h4, h5, h6, h7⟩ := Qci h
 have hel := QnN x
 have hE : encL (List.map Val.un x.2.2.2.1) = encVs x.2.2.2.1 := by rw [encL, Qcq]
 have hu : conIn (List.map Val.un x.2.2.2.1) = true := by
  simp only [conIn, Bool.and_eq_true, decide_eq_true_eq, List.length_map, List.all_eq_true, List.mem_map, hE]
  refine ⟨⟨h6, by omega⟩, ?_⟩
  rintro y ⟨v, hv, rfl⟩
  rw [Qsw]
  exact h7 v hv
 simp only [QDb, rng_0 (show (List.map Val.un x.2.2.2.1).length ≤ 100000 by rw [List.length_map]; exact h6), hu, Bool.and_self, Bool.true_and, Int.toNat_zero, List.drop_zero, hE, List.nil_append, List.length_nil]
 cases hq : x.2.2.1 with
 | true =>
  rw [Bool.not_true, Qae, decide_eq_true (by omega), Qac]
  simp only [conV, h3 hq, List.nil_append]
 | false =>
  rw [Bool.not_false, Qac]
  simp only [conV, h4 hq, encVs, List.append_nil]
theorem QOZ : Meets Tryz.prog 174 (runF QjQ QtQ QCa false) := mG Tryz.func174 (by kernel_rfl) Tryz.ntmps174 (by kernel_rfl) QQq QPb
end
theorem Qfr : ∀ N : Nat, Meets Tryz.prog 174 (strip (@Qf2 ⟨N⟩))
 | 0 => QbJ fun x => by first | rfl | simp [encLF]
 | N + 1 => by
  letI : Fuel := ⟨N⟩
  haveI : Nonempty (PLift (Meets Tryz.prog 174 (strip Qf2))) := ⟨⟨Qfr N⟩⟩
  exact Qaf QOZ fun x hok => (e_f174 x.1).trans (s_f174 x.1 hok)
def QBk : Ent := spec (.pr Qai .nil) (fun x => (encOk x.1)) (fun x => (.t (.sl (.int .u8)) (conV x.1)))
theorem QOl : Meets Tryz.prog 174 (strip QBk) := QbK Qfr fun x hok => Qjq x.1 hok
def eleN (x : ValT) : List Int := encT x
noncomputable def QoR : TC := (.sq (.reg (rT Tryz.f159 0)) (.sq (.reg (rT Tryz.f159 1)) (.sq (.reg (rT Tryz.f159 2)) .rt)))
def QwJ : List (RV × Option Ty) := [((.t 4), none)]
def QqI : G := ⟨TYs, [], 19, EL [(174, QBk), (175, QuH)], (175 :: keeps), (fun _ _ => none), IL [], RL []⟩
def QvD (p1 : ValT) : Option (V × List VO) :=
 let a1 := (lenA (([] : List Int) ++ ([(icv .u8 p1.1)])) (llen (conV p1)))
 br (encOk p1) (br (cApp ([] : List Int) ([(icv .u8 p1.1)]) 1) (br (Qnr (([] : List Int) ++ ([(icv .u8 p1.1)])) (llen (conV p1))) (br (cApp a1 (conV p1) 1) (some (.ms 50000, [.arr 5 (.int .u8) (a1 ++ (conV p1))])) none) none) none) none
theorem QRL (p1 : ValT) : runF QqI QoR QwJ true [.c (.slice none 0 0), .t Qai p1] [] = QvD p1 := by kernel_rfl
theorem QJF : Qag Tryz.prog 159 := .inr ⟨by decide, _, Tryz.func159, by kernel_rfl, by kernel_rfl⟩
theorem QJs : GOk Tryz.prog QqI := Qao _ (gA (gC QF5 QOl (gC QF4 QEk gN)))
theorem QIX : QoR.lok QqI := by repeat (first | exact trivial | refine ⟨?_, ?_⟩)
theorem QN1 (x : ValT) (h : encOk x = true) : QvD x = some (.ms 50000, [.arr 5 (.int .u8) (eleN x)]) := by
 have h3 := h
 simp only [encOk, Bool.and_eq_true, decide_eq_true_eq] at h3
 have hel := QnN x
 have hcl := Qyr x
 have hll := Qgi (conV x).length
 simp only [QvD, h, Qac]
 rw [cAppN (by omega) (by simp), Qac, show Qnr ([] ++ [icv .u8 x.1]) (llen (conV x)) = true from decide_eq_true (by simp only [llen, List.length_append, List.length_singleton, List.length_nil]; omega), Qac, cAppN (by omega) (by simp only [lenA, llen, Int.toNat_natCast, List.length_append, List.length_singleton, List.length_nil]; omega), Qac, QNK]
 rfl
def QwF : Ent := specB [.nl, .ty Qai] [] (fun x y => (encOk x.2.1)) (fun x y => (.ms 50000)) (fun x y => [.arr 5 (.int .u8) (eleN x.2.1)])
theorem QIn : Meets Tryz.prog 159 (strip QwF) := Qca (QaI (R := runF QqI QoR QwJ true) (mG Tryz.func159 (by kernel_rfl) Tryz.ntmps159 (by kernel_rfl) QJs QIX) fun x y hok => (QRL x.2.1).trans (QN1 x.2.1 hok))
noncomputable def Quf : TC := (.sq (.reg (rT Tryz.f138 0)) (.sq (.sq (.reg (rT Tryz.f138 1)) (.cd (.t 7) (.sq (.reg (rT Tryz.f138 2)) .rt) .sk)) (.sq (.sq (.reg (rT Tryz.f138 3)) (.cd (.t 10) (.sq (.reg (rT Tryz.f138 4)) .rt) .sk)) (.sq (.reg (rT Tryz.f138 5)) (.sq (.sq (.reg (rT Tryz.f138 6)) (.cd (.t 15) (.sq (.reg (rT Tryz.f138 7)) .rt) .sk)) (.sq (.reg (rT Tryz.f138 8)) .rt))))))
def QCz : List (RV × Option Ty) := [((.t 2), some (.sl (.int .u8))), ((.t 3), some tI)]
def QxU : G := ⟨TYs, [], 17, EL [(157, QBv), (158, QBu), (159, QwF)], keeps, (fun _ _ => none), IL [], RL []⟩
def QDx (p0 : ValT) : Option (V × List VO) := br (frmOk p0) (br (!(frmV p0)) (some (.tu [(.t (.sl (.int .u8)) ([] : List Int)), (.t tI 1)], [])) (br (dpOk p0) (br (igt (dpV p0) 16) (some (.tu [(.t (.sl (.int .u8)) ([] : List Int)), (.t tI 3)], [])) (br (encOk p0) (br (igt (llen (eleN p0)) 4096) (some (.tu [(.t (.sl (.int .u8)) ([] : List Int)), (.t tI 3)], [])) (some (.tu [(.t (.sl (.int .u8)) (eleN p0)), (.t tI 0)], []))) none)) none)) none
theorem e_f138 (p0 : ValT) : runF QxU Quf QCz false [.t Qai p0] [] = QDx p0 := by kernel_rfl
theorem QRs : Qag Tryz.prog 138 := .inr ⟨by decide, _, Tryz.func138, by kernel_rfl, by kernel_rfl⟩
theorem QQP : GOk Tryz.prog QxU := Qao _ (gA (gC QF9 QOw (gC QF8 QOv (gC QJF QIn gN))))
theorem QPA : Quf.lok QxU := by repeat (first | exact trivial | refine ⟨?_, ?_⟩)
theorem s_f138 (x : ValT) (h : encOk x = true) : QDx x = some (.tu [.t (.sl (.int .u8)) (encE x).1, .t tI (encE x).2], []) := by
 have h' := h
 simp only [encOk, Bool.and_eq_true, decide_eq_true_eq] at h'
 obtain ⟨h1, h2⟩ := h'
 simp only [QDx, show frmOk x = true from h1, show dpOk x = true from h1, h, Qyi h1, frmV, eleN, Bool.not_true, Qac, Qae]
 unfold encE
 refine QaP (fun g => ?_) (fun g => ?_)
 ·simp only [igt, llen, decide_eq_true_eq] at g
  rw [if_pos (by omega)]
 ·simp only [igt, llen, decide_eq_false_iff_not] at g
  rw [if_neg (by omega)]
def QBG : Ent := spec (.pr Qai .nil) (fun x => (encOk x.1)) (fun x => (.tu [(.t (.sl (.int .u8)) ((encE x.1).1)), (.t tI ((encE x.1).2))]))
theorem QOG : Meets Tryz.prog 138 (strip QBG) := Qaf (R := runF QxU Quf QCz false) (mG Tryz.func138 (by kernel_rfl) Tryz.ntmps138 (by kernel_rfl) QQP QPA) fun x hok => (e_f138 x.1).trans (s_f138 x.1 hok)
def lstT (l : List ValT) : ValT := (48, (([] : List Int), (true, (List.map Val.of l, ()))))
noncomputable def Qt0 : TC := (.sq (.reg (rT Tryz.f161 0)) (.sq (.reg (rT Tryz.f161 1)) .rt))
def QCk : List (RV × Option Ty) := [((.c 2 true 4), some Qai)]
def QxM : G := ⟨TYs, [], 6, EL [(176, QBj)], keeps, (fun _ _ => none), IL [], RL []⟩
def QDk (p0 : List ValT) : Option (V × List VO) := br (copOk p0) (some (.t Qai (48, (([] : List Int), (true, ((List.map Val.of (copV p0)), ())))), [])) none
theorem e_f161 (p0 : List ValT) : runF QxM Qt0 QCk false [.t (.sl Qai) p0] [] = QDk p0 := by kernel_rfl
theorem Qwf : Qag Tryz.prog 161 := .inr ⟨by decide, _, Tryz.func161, by kernel_rfl, by kernel_rfl⟩
theorem QQA : GOk Tryz.prog QxM := Qao _ (gA (gC QF3 QOk gN))
theorem QPl : Qt0.lok QxM := by repeat (first | exact trivial | refine ⟨?_, ?_⟩)
theorem s_f161 (l : List ValT) (h : copOk l = true) : QDk l = some (.t Qai (lstT l), []) := by
 simp only [QDk, h, Qac]
 rfl
def Qpc : Ent := spec (.pr (.sl Qai) .nil) (fun x => (copOk x.1)) (fun x => (.t Qai (lstT x.1)))
theorem QvL : Meets Tryz.prog 161 (strip Qpc) := Qaf (R := runF QxM Qt0 QCk false) (mG Tryz.func161 (by kernel_rfl) Tryz.ntmps161 (by kernel_rfl) QQA QPl) fun x hok => (e_f161 x.1).trans (s_f161 x.1 hok)
noncomputable def QtW : TC := (.sq (.reg (rT Tryz.f165 0)) (.sq (.reg (rT Tryz.f165 1)) .rt))
def QCg : List (RV × Option Ty) := [((.c 2 true 4), some Qai)]
def QxJ : G := ⟨TYs, [], 5, EL [(161, Qpc)], keeps, (fun _ _ => none), IL [], RL []⟩
def QDh (p0 : List ValT) : Option (V × List VO) := br (copOk p0) (some (.t Qai (lstT p0), [])) none
theorem e_f165 (p0 : List ValT) : runF QxJ QtW QCg false [.t (.sl Qai) p0] [] = QDh p0 := by kernel_rfl
theorem QRi : Qag Tryz.prog 165 := .inr ⟨by decide, _, Tryz.func165, by kernel_rfl, by kernel_rfl⟩
theorem QQw : GOk Tryz.prog QxJ := Qao _ (gA (gC Qwf QvL gN))
theorem QPh : QtW.lok QxJ := by repeat (first | exact trivial | refine ⟨?_, ?_⟩)
theorem s_f165 (l : List ValT) (h : copOk l = true) : QDh l = some (.t Qai (lstT l), []) := by
 simp only [QDh, h, Qac]
def QBq : Ent := spec (.pr (.sl Qai) .nil) (fun x => (copOk x.1)) (fun x => (.t Qai (lstT x.1)))
theorem QOr : Meets Tryz.prog 165 (strip QBq) := Qaf (R := runF QxJ QtW QCg false) (mG Tryz.func165 (by kernel_rfl) Tryz.ntmps165 (by kernel_rfl) QQw QPh) fun x hok => (e_f165 x.1).trans (s_f165 x.1 hok)
noncomputable def Qt7 : TC := (.sq (.reg (rT Tryz.f153 0)) (.sq (.reg (rT Tryz.f153 1)) .rt))
def QCr : List (RV × Option Ty) := [((.c 2 true 4), some Qai)]
def QxR : G := ⟨TYs, [], 6, EL [(170, QBn)], keeps, (fun _ _ => none), IL [], RL []⟩
def QDq (p0 : List ValT) : Option (V × List VO) := br (copOk p0) (some (.t Qai (48, (([] : List Int), (true, ((List.map Val.of (copV p0)), ())))), [])) none
theorem e_f153 (p0 : List ValT) : runF QxR Qt7 QCr false [.t (.sl Qai) p0] [] = QDq p0 := by kernel_rfl
theorem QGb : Qag Tryz.prog 153 := .inr ⟨by decide, _, Tryz.func153, by kernel_rfl, by kernel_rfl⟩
theorem QQH : GOk Tryz.prog QxR := Qao _ (gA (gC QF6 QOo gN))
theorem QPs : Qt7.lok QxR := by repeat (first | exact trivial | refine ⟨?_, ?_⟩)
theorem s_f153 (l : List ValT) (h : copOk l = true) : QDq l = some (.t Qai (lstT l), []) := by
 simp only [QDq, h, Qac]
 rfl
def QuK : Ent := spec (.pr (.sl Qai) .nil) (fun x => (copOk x.1)) (fun x => (.t Qai (lstT x.1)))
theorem QEn : Meets Tryz.prog 153 (strip QuK) := Qaf (R := runF QxR Qt7 QCr false) (mG Tryz.func153 (by kernel_rfl) Tryz.ntmps153 (by kernel_rfl) QQH QPs) fun x hok => (e_f153 x.1).trans (s_f153 x.1 hok)
end
end Go.Proofs.YtkngeegkjhipeaaGreat.K
