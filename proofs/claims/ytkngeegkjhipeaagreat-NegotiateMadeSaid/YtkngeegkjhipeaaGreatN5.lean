import Derived.Test.YtkngeegkjhipeaaGreatN4
set_option linter.unusedSimpArgs false
set_option linter.unusedVariables false
set_option linter.unusedSectionVars false
namespace Go.Proofs.YtkngeegkjhipeaaGreat.K
open Go.RowKit
noncomputable section
def encT (x : ValT) : List Int := encV (Val.of x)
def encL (l : List ValT) : List Int := encVs (l.map Val.of)
theorem QgX : encL [] = [] := rfl
theorem Qcc (x : ValT) (l : List ValT) : encL (x :: l) = encT x ++ encL l := rfl
theorem Qpf (x : ValT) : encT x = icv .u8 x.1 :: (lenL (x.2.1.length + (encVs x.2.2.2.1).length) ++ (x.2.1 ++ encVs x.2.2.2.1)) := rfl
theorem Qpe (x : ValT) : x.2.1.length + (encVs x.2.2.2.1).length ≤ (encT x).length := QMM x.1 x.2.1 x.2.2.1 x.2.2.2.1
theorem Qkq : ∀ (l : List ValT) (k : Nat) (hk : k < l.length), (encL (l.take k)).length + (encT l[k]).length ≤ (encL l).length
 | [], k, hk => by simp at hk
 | x :: l, 0, _ => by
  rw [List.take_zero, QgX, Qcc, List.length_append]
  simp
 | x :: l, k + 1, hk => by
  simp only [List.length_cons] at hk
  have := Qkq l k (by omega)
  simp only [List.take_succ_cons, Qcc, List.length_append, List.getElem_cons_succ]
  omega
theorem QgR (n : Nat) : (lenL n).length ≤ 9 := by
 unfold lenL
 split
 ·simp
 ·rw [List.length_cons, QsR]
  have := QsU 8 n
  omega
def encLF (n : Nat) (x : ValT) : Bool := okT n x && decide ((encT x).length ≤ 100000000)
def encOk (x : ValT) : Bool := okT 12 x && decide ((encT x).length ≤ 100000000)
theorem QpJ (x : ValT) (h : encOk x = true) : ∃ N, encLF N x = true := ⟨12, h⟩
theorem QI7 : Qai Tryz.prog 151 := .inr ⟨by decide, _, Tryz.func151, by kernel_rfl, by kernel_rfl⟩
def QgF [Fuel] : Ent := spec (.pr Qak .nil) (fun x => (encLF fuel x.1)) (fun x => (.t (.sl (.int .u8)) (encT x.1)))
theorem QMU : Qai Tryz.prog 151 := QI7
section
variable [Fuel] [Nonempty (PLift (Meets Tryz.prog 151 (strip QgF)))]
theorem QLu : Meets Tryz.prog 151 (strip QgF) := (Classical.choice (inferInstance : Nonempty (PLift (Meets Tryz.prog 151 (strip QgF))))).down
def encIn [Fuel] (x : ValT) : Bool := encLF (fuel + 1) x
noncomputable def QJk : List DO := dT Tryz.f151 6
def Qgj : Fg := ⟨[(1, none), (3, none), (4, some tI)], [(1, some Qak), (3, none), (5, none), (8, none), (23, none)]⟩
noncomputable def QhR : TC := (.sq (.sq (.reg (rT Tryz.f151 3)) (.cd (.t 13) .sk (.fg ⟨[(1, none), (3, none)], [(1, some Qak), (3, none), (5, none), (8, none), (23, none)]⟩ (.ex 0)))) (.sq (.bk 1 (.reg (rT Tryz.f151 4))) (.reg (rT Tryz.f151 5))))
noncomputable def Qwk : TC := (.sq (.reg (rT Tryz.f151 0)) (.sq (.reg (rT Tryz.f151 1)) (.sq (.sq (.reg (rT Tryz.f151 2)) (.bk 0 (.nw 3 5 (.lp 0 Qgj QhR)))) (.sq (.dr QJk [(0, [1]), (1, [1]), (2, []), (3, [27, 5027, 10027, 15027]), (4, [3, 5, 8, 23]), (5, [3, 5, 8, 23]), (6, []), (7, [27, 31, 5031, 10031, 15031]), (8, [3, 5, 8, 23]), (9, [3, 5, 8, 23, 27, 31, 33, 5033, 10033, 15033]), (10, [27, 31, 33])] (.of [0, 1, 2, 4, 5, 6, 8, 3, 7, 9, 10])) .rt))))
def QFo : List (RV × Option Ty) := [((.t 2), some (.sl (.int .u8)))]
abbrev Qn8 : Sh := ⟨[(1, .ptr 1 0), (3, .ms 5), (4, .ty tI)], [(1, .box Qak), (3, .no), (5, .arr 5 (.int .u8)), (8, .no), (23, .no)]⟩
def QnF (x4 : Int) (y1 : ValT) (y5 : List Int) : VS := Qn8.st ((), (), x4, ()) (y1, (), y5, (), (), ())
abbrev Qt6 : Sh := ⟨[(1, .ptr 1 0), (3, .ms 5)], [(1, .box Qak), (3, .no), (5, .arr 5 (.int .u8)), (8, .no), (23, .no)]⟩
def QdL (y1 : ValT) (y5 : List Int) : VS := Qt6.st ((), (), ()) (y1, (), y5, (), (), ())
def QOC : VS → Option (Bool × List (Bool × Exit × VS)) := mkL Qn8 (fun x y => (decide (0 ≤ x.2.2.1 ∧ x.2.2.1 ≤ y.1.2.2.2.1.length ∧ y.2.2.1.length + (encL ((List.map Val.un y.1.2.2.2.1).drop x.2.2.1.toNat)).length ≤ 1000000000) && encIn y.1)) (fun x y => [(true, .exit 0, QdL (y.1) (y.2.2.1 ++ encL ((List.map Val.un y.1.2.2.2.1).drop x.2.2.1.toNat)))])
def QkV : G := ⟨TYs, [5, 27], 34, EL [(151, QgF), (169, QEh)], keeps, (Ls [QOC]), IL [], RL []⟩
def QBu (x4 : Int) (y1 : ValT) (y5 : List Int) : Option (Exit × VS) :=
 let a2 := List.map Val.un y1.2.2.2.1
 let a1 := lgt Qak a2 (Int.toNat x4)
 br (ilt x4 (llen a2)) (br (cIx a2 x4) (br (encLF fuel a1) (br (cApp y5 (encT a1) 1) (some (.normal, QnF (iadd .i64 x4 1) y1 (y5 ++ (encT a1)))) none) none) none) (some (.exit 0, QdL y1 y5))
noncomputable def Qiv (x4 : Int) (y1 : ValT) (y5 : List Int) : Option (Exit × VS) := loopF (Qaj QkV Qgj QhR) (QnF x4 y1 y5)
noncomputable def Ql0 (x4 : Int) (y1 : ValT) (y5 : List Int) : Option (Exit × VS) :=
 let a2 := List.map Val.un y1.2.2.2.1
 let a1 := lgt Qak a2 (Int.toNat x4)
 br (ilt x4 (llen a2)) (br (cIx a2 x4) (br (encLF fuel a1) (br (cApp y5 (encT a1) 1) (Qiv (iadd .i64 x4 1) y1 (y5 ++ (encT a1))) none) none) none) (some (.exit 0, QdL y1 y5))
def QiQ (x4 : Int) (y1 : ValT) (y5 : List Int) : Option (Exit × VS) := some (.exit 0, QdL (y1) (y5 ++ encL ((List.map Val.un y1.2.2.2.1).drop x4.toNat)))
theorem QJS (x4 : Int) (y1 : ValT) (y5 : List Int) : Qaj QkV Qgj QhR (QnF x4 y1 y5) = QBu x4 y1 y5 := by kernel_rfl
theorem Qu7 (x4 : Int) (y1 : ValT) (y5 : List Int) : Qiv x4 y1 y5 = Ql0 x4 y1 y5 := (Qap _ _).trans (by
 rw [QJS]
 simp only [QBu, Ql0, QaB, nxt_n, nxt_r, nxt_e, nxt_0]
 rfl)
def QGq (p0 : ValT) : Option (V × List VO) :=
 let a2 := List.map Val.un p0.2.2.2.1
 let a3 := (a2.drop (0 : Int).toNat)
 let a1 := (llen ((([] : List Int) ++ p0.2.1) ++ encL a3))
 let a4 := icv .u8 ((p0).1)
 br (cApp ([] : List Int) p0.2.1 1) (br (decide (0 ≤ (0 : Int) ∧ (0 : Int) ≤ p0.2.2.2.1.length ∧ (([] : List Int) ++ p0.2.1).length + (encL a3).length ≤ 1000000000) && encIn p0) (br (Qvo a1) (br (cApp ([a4]) (lenR a1) 1) (br (cApp (([a4]) ++ (lenR a1)) ((([] : List Int) ++ p0.2.1) ++ encL a3) 1) (some (.t (.sl (.int .u8)) ((([a4]) ++ (lenR a1)) ++ ((([] : List Int) ++ p0.2.1) ++ encL a3)), [])) none) none) none) none) none
theorem e_f151 (p0 : ValT) : runF QkV Qwk QFo false [.t Qak p0] [] = QGq p0 := by kernel_rfl
theorem QUH : GOk Tryz.prog QkV := Qal _ (gA (gC QMU QLu (gC QVg QSc gN)))
theorem QMo (x4 : Int) (y1 : ValT) (y5 : List Int) (h : (decide (0 ≤ x4 ∧ x4 ≤ y1.2.2.2.1.length ∧ y5.length + (encL ((List.map Val.un y1.2.2.2.1).drop x4.toNat)).length ≤ 1000000000) && encIn y1) = true) : Qiv x4 y1 y5 = QiQ x4 y1 y5 := by
 simp only [Bool.and_eq_true, decide_eq_true_eq] at h
 obtain ⟨⟨h0, h1, h2⟩, hc⟩ := h
 obtain ⟨k, rfl⟩ := Int.eq_ofNat_of_zero_le h0
 simp only [encIn, encLF, Bool.and_eq_true, decide_eq_true_eq] at hc
 obtain ⟨hc, hf⟩ := hc
 have hm := Qx6 hc
 have hl := (Qcv hc).2.2.2.2.2.1
 rw [Int.toNat_natCast] at h2
 have hel := Qpe y1
 have hE : encL (List.map Val.un y1.2.2.2.1) = encVs y1.2.2.2.1 := by rw [encL, QcD]
 revert y5
 refine Qas (List.map Val.un y1.2.2.2.1) (fun k => ∀ y5 : List Int, y5.length + (encL ((List.map Val.un y1.2.2.2.1).drop k)).length ≤ 1000000000 → Qiv (k : Int) y1 y5 = QiQ (k : Int) y1 y5) ?_ ?_ k (by rw [List.length_map]; omega)
 ·intro y5 _
  rw [Qu7]
  simp only [Ql0, show ilt ((List.map Val.un y1.2.2.2.1).length : Int) (llen (List.map Val.un y1.2.2.2.1)) = false from decide_eq_false (by simp only [llen]; omega), Qaf]
  simp only [QiQ, Int.toNat_natCast, List.drop_length, QgX, List.append_nil]
 ·intro k hk ih y5 hy
  rw [Qu7]
  have hk2 : k < y1.2.2.2.1.length := by rw [List.length_map] at hk; exact hk
  have hs := Qkq (List.map Val.un y1.2.2.2.1) k hk
  rw [hE] at hs
  rw [List.drop_eq_getElem_cons hk, Qcc, List.length_append] at hy
  have hd : encLF fuel (List.map Val.un y1.2.2.2.1)[k] = true := by rw [encLF, hm k hk, decide_eq_true (by omega)]; rfl
  simp only [Ql0, show ilt (k : Int) (llen (List.map Val.un y1.2.2.2.1)) = true from decide_eq_true (by simp only [llen]; omega), Qaw, hk, decide_true, Qac, Int.toNat_natCast, add1 (show k < 4611686018427387904 by omega), QaE (y := Qak) hk, hd]
  rw [cAppN (by omega) (by omega), Qac, ih _ (by rw [List.length_append]; omega)]
  simp only [QiQ, Int.toNat_natCast, List.drop_eq_getElem_cons hk, Qcc, List.append_assoc]
theorem QHI : ∀ S l p, QkV.L 0 (fgt Qgj S) = some (true, l) → pickA l = some p → loopF (Qaj QkV Qgj QhR) S = some p :=
 QaD (s := Qn8) ⟨by decide, by decide⟩ (by kernel_rfl) fun x y hok p hp => by
 simp only [Qar, Qao] at hp
 exact (QMo x.2.2.1 y.1 y.2.2.1 (by simpa using hok)).trans hp
theorem QTg : Qwk.lok QkV := by
 repeat (first | exact trivial | exact QHI | refine ⟨?_, ?_⟩)
theorem s_f151 (x : ValT) (h : encLF (fuel + 1) x = true) : QGq x = some (.t (.sl (.int .u8)) (encT x), []) := by
 have hin : encIn x = true := h
 simp only [encLF, Bool.and_eq_true, decide_eq_true_eq] at h
 obtain ⟨h, hf⟩ := h
 have hel := Qpe x
 have hE : encL (List.map Val.un x.2.2.2.1) = encVs x.2.2.2.1 := by rw [encL, QcD]
 have hll := QgR (x.2.1.length + (encVs x.2.2.2.1).length)
 simp only [QGq, hin, Bool.and_true, List.nil_append, Int.toNat_zero, List.drop_zero, hE]
 rw [cAppN (by omega) (by simp only [List.length_nil]; omega), Qac, decide_eq_true ⟨by omega, by omega, by omega⟩, Qac]
 have e1 : Qvo (llen (x.2.1 ++ encVs x.2.2.2.1)) = true := decide_eq_true (by simp only [llen, List.length_append]; omega)
 have e2 : lenR (llen (x.2.1 ++ encVs x.2.2.2.1)) = lenL (x.2.1.length + (encVs x.2.2.2.1).length) := by simp only [lenR, llen, List.length_append, Int.toNat_natCast]
 rw [e1, Qac, e2, cAppN (by omega) (by simp only [List.length_singleton]; omega), Qac, cAppN (by omega) (by simp only [List.length_append, List.length_singleton]; omega), Qac, Qpf]
 simp only [List.singleton_append, List.cons_append, List.nil_append]
theorem QSQ : Meets Tryz.prog 151 (runF QkV Qwk QFo false) := mG Tryz.func151 (by kernel_rfl) Tryz.ntmps151 (by kernel_rfl) QUH QTg
end
theorem QkL : ∀ N : Nat, Meets Tryz.prog 151 (strip (@QgF ⟨N⟩))
 | 0 => QbT fun x => by first | rfl | simp [encLF]
 | N + 1 => by
  letI : Fuel := ⟨N⟩
  haveI : Nonempty (PLift (Meets Tryz.prog 151 (strip QgF))) := ⟨⟨QkL N⟩⟩
  exact Qag QSQ fun x hok => (e_f151 x.1).trans (s_f151 x.1 hok)
def QEt : Ent := spec (.pr Qak .nil) (fun x => (encOk x.1)) (fun x => (.t (.sl (.int .u8)) (encT x.1)))
theorem QSn : Meets Tryz.prog 151 (strip QEt) := QbU QkL fun x hok => QpJ x.1 hok
def encE (x : ValT) : List Int × Int := if 4096 < (encT x).length then ([], 3) else (encT x, 0)
theorem QA4 {x : ValT} (h : okT 12 x = true) : igt (dpV x) 16 = false := by
 have := Qr0 (v := Val.of x) h
 exact decide_eq_false (by show ¬ ((depV (Val.of x) : Int) > 16); omega)
noncomputable def Qws : TC := (.sq (.reg (rT Tryz.f136 0)) (.sq (.sq (.reg (rT Tryz.f136 1)) (.cd (.t 7) (.sq (.reg (rT Tryz.f136 2)) .rt) .sk)) (.sq (.sq (.reg (rT Tryz.f136 3)) (.cd (.t 10) (.sq (.reg (rT Tryz.f136 4)) .rt) .sk)) (.sq (.reg (rT Tryz.f136 5)) (.sq (.sq (.reg (rT Tryz.f136 6)) (.cd (.t 15) (.sq (.reg (rT Tryz.f136 7)) .rt) .sk)) (.sq (.reg (rT Tryz.f136 8)) .rt))))))
def QFw : List (RV × Option Ty) := [((.t 2), some (.sl (.int .u8))), ((.t 3), some tI)]
def QAE : G := ⟨TYs, [], 17, EL [(149, QEv), (150, QEu), (151, QEt)], keeps, (fun _ _ => none), IL [], RL []⟩
def QGx (p0 : ValT) : Option (V × List VO) := br (frmOk p0) (br (!(frmV p0)) (some (.tu [(.t (.sl (.int .u8)) ([] : List Int)), (.t tI 1)], [])) (br (dpOk p0) (br (igt (dpV p0) 16) (some (.tu [(.t (.sl (.int .u8)) ([] : List Int)), (.t tI 3)], [])) (br (encOk p0) (br (igt (llen (encT p0)) 4096) (some (.tu [(.t (.sl (.int .u8)) ([] : List Int)), (.t tI 3)], [])) (some (.tu [(.t (.sl (.int .u8)) (encT p0)), (.t tI 0)], []))) none)) none)) none
theorem e_f136 (p0 : ValT) : runF QAE Qws QFw false [.t Qak p0] [] = QGx p0 := by kernel_rfl
theorem QVu : Qai Tryz.prog 136 := .inr ⟨by decide, _, Tryz.func136, by kernel_rfl, by kernel_rfl⟩
theorem QUP : GOk Tryz.prog QAE := Qal _ (gA (gC QI9 QSp (gC QI8 QSo (gC QI7 QSn gN))))
theorem QTo : Qws.lok QAE := by repeat (first | exact trivial | refine ⟨?_, ?_⟩)
theorem s_f136 (x : ValT) (h : encOk x = true) : QGx x = some (.tu [.t (.sl (.int .u8)) (encE x).1, .t tI (encE x).2], []) := by
 have h' := h
 simp only [encOk, Bool.and_eq_true, decide_eq_true_eq] at h'
 obtain ⟨h1, h2⟩ := h'
 simp only [QGx, show frmOk x = true from h1, show dpOk x = true from h1, h, QA4 h1, frmV, Bool.not_true, Qac, Qaf]
 unfold encE
 refine QaP (fun g => ?_) (fun g => ?_)
 ·simp only [igt, llen, decide_eq_true_eq] at g
  rw [if_pos (by omega)]
 ·simp only [igt, llen, decide_eq_false_iff_not] at g
  rw [if_neg (by omega)]
def QEC : Ent := spec (.pr Qak .nil) (fun x => (encOk x.1)) (fun x => (.tu [(.t (.sl (.int .u8)) ((encE x.1).1)), (.t tI ((encE x.1).2))]))
theorem QSv : Meets Tryz.prog 136 (strip QEC) := Qag (R := runF QAE Qws QFw false) (mG Tryz.func136 (by kernel_rfl) Tryz.ntmps136 (by kernel_rfl) QUP QTo) fun x hok => (e_f136 x.1).trans (s_f136 x.1 hok)
def conV (x : ValT) : List Int := x.2.1 ++ encVs x.2.2.2.1
theorem QBe (x : ValT) : (conV x).length = x.2.1.length + (encVs x.2.2.2.1).length := List.length_append
theorem Qkn (x : ValT) (h : encOk x = true) : ∃ N, encLF N x = true := ⟨12, h⟩
def eleV (b : List Int) (x : ValT) : List Int := b ++ encT x
theorem QRD (b : List Int) (x : ValT) : lenA (b ++ [icv .u8 x.1]) (llen (conV x)) ++ conV x = eleV b x := by
 simp only [lenA, eleV, Qpf, llen, Int.toNat_natCast, conV, List.length_append, List.append_assoc, List.singleton_append, List.cons_append, List.nil_append]
theorem QI0 : Qai Tryz.prog 174 := .inr ⟨by decide, _, Tryz.func174, by kernel_rfl, by kernel_rfl⟩
def QgB [Fuel] : Ent := spec (.pr Qak .nil) (fun x => (encLF fuel x.1)) (fun x => (.t (.sl (.int .u8)) (conV x.1)))
theorem QMO : Qai Tryz.prog 174 := QI0
section
variable [Fuel] [Nonempty (PLift (Meets Tryz.prog 174 (strip QgB)))]
theorem QLo : Meets Tryz.prog 174 (strip QgB) := (Classical.choice (inferInstance : Nonempty (PLift (Meets Tryz.prog 174 (strip QgB))))).down
def Qpl [Fuel] (b : List Int) (x : ValT) : Bool := decide (b.length ≤ 500000000) && encLF fuel x
noncomputable def Qqo : TC := (.ad [(50000, 49000)] (.sq (.reg (rT Tryz.f159 0)) (.sq (.reg (rT Tryz.f159 1)) (.sq (.reg (rT Tryz.f159 2)) .rt))))
def Qzd : List (RV × Option Ty) := [((.t 4), none)]
def QsK : G := ⟨TYs, [], 19, EL [(174, QgB), (175, QwR)], (175 :: keeps), (fun _ _ => none), IL [], RL []⟩
def Qx2 (p0 : List Int) (p1 : ValT) : Option (V × List VO) :=
 let a1 := lenA (p0 ++ ([(icv .u8 p1.1)])) (llen (conV p1))
 br (encLF fuel p1) (br (cApp p0 ([(icv .u8 p1.1)]) 1) (br (QoX (p0 ++ ([(icv .u8 p1.1)])) (llen (conV p1))) (br (cApp a1 (conV p1) 1) (some (.ms 50001, [.no, .arr 5 (.int .u8) (a1 ++ (conV p1))])) none) none) none) none
theorem QVK (p0 : List Int) (p1 : ValT) : runF QsK Qqo Qzd true [.ms 50000, .t Qak p1] [.arr 5 (.int .u8) p0] = Qx2 p0 p1 := by kernel_rfl
theorem QMQ : Qai Tryz.prog 159 := .inr ⟨by decide, _, Tryz.func159, by kernel_rfl, by kernel_rfl⟩
theorem QMD : GOk Tryz.prog QsK := Qal _ (gA (gC QMO QLo (gC QIZ QHh gN)))
theorem QMb : Qqo.lok QsK := by repeat (first | exact trivial | refine ⟨?_, ?_⟩)
theorem QRP (b : List Int) (x : ValT) (h : Qpl b x = true) : Qx2 b x = some (.ms 50001, [.no, .arr 5 (.int .u8) (eleV b x)]) := by
 simp only [Qpl, Bool.and_eq_true, decide_eq_true_eq] at h
 obtain ⟨h1, h2⟩ := h
 have h3 := h2
 simp only [encLF, Bool.and_eq_true, decide_eq_true_eq] at h3
 have hel := Qpe x
 have hcl := QBe x
 have hll := QgR (conV x).length
 simp only [Qx2, h2, Qac]
 rw [cAppN (by omega) (by simp only [List.length_singleton]; omega), Qac, show QoX (b ++ [icv .u8 x.1]) (llen (conV x)) = true from decide_eq_true (by simp only [llen, List.length_append, List.length_singleton]; omega), Qac, cAppN (by omega) (by simp only [lenA, llen, Int.toNat_natCast, List.length_append, List.length_singleton]; omega), Qac, QRD]
def Qza : Ent := specS [.ms 50000, .ty Qak] [.arr 5 (.int .u8)] (fun x y => (Qpl y.1 x.2.1)) (fun x y => (.ms 50001)) (fun x y => [.no, .arr 5 (.int .u8) (eleV y.1 x.2.1)])
theorem QLq : Meets Tryz.prog 159 (strip Qza) := QaK (R := runF QsK Qqo Qzd true) (mG Tryz.func159 (by kernel_rfl) Tryz.ntmps159 (by kernel_rfl) QMD QMb) fun x y hok => (QVK y.1 x.2.1).trans (QRP y.1 x.2.1 hok)
def conIn [Fuel] (l : List ValT) : Bool := decide (l.length ≤ 100000 ∧ (encL l).length ≤ 100000000) && l.all (okT fuel)
def Qgc : Fg := ⟨[(3, none), (12, some (.sl Qak)), (13, some tI), (14, some tI)], [(3, none), (20, none), (5020, none), (10020, none), (15020, none)]⟩
noncomputable def QhK : TC := (.mv [(20, 3)] (.sq (.reg (rT Tryz.f174 5)) (.sq (.cd (.t 15) .sk (.fg ⟨[(3, none)], [(3, none), (20, none), (5020, none), (10020, none), (15020, none)]⟩ (.ex 0))) (.sq (.bk 1 (.sq (.reg (rT Tryz.f174 6)) (.reg (rT Tryz.f174 7)))) (.reg (rT Tryz.f174 8))))))
noncomputable def Qv1 : TC := (.sq (.reg (rT Tryz.f174 0)) (.sq (.sq (.reg (rT Tryz.f174 1)) (.cd (.t 8) (.sq (.reg (rT Tryz.f174 2)) .rt) .sk)) (.sq (.reg (rT Tryz.f174 3)) (.sq (.sq (.reg (rT Tryz.f174 4)) (.bk 0 (.nw 3 5 (.lp 0 Qgc QhK)))) (.sq (.reg (rT Tryz.f174 9)) .rt)))))
def QE5 : List (RV × Option Ty) := [((.t 2), some (.sl (.int .u8)))]
abbrev Qn1 : Sh := ⟨[(3, .ms 3), (12, .ty (.sl Qak)), (13, .ty tI), (14, .ty tI)], [(3, .arr 5 (.int .u8)), (20, .no), (5020, .no), (10020, .no), (15020, .no)]⟩
def Qny (x12 : List ValT) (x13 x14 : Int) (y3 : List Int) : VS := Qn1.st ((), x12, x13, x14, ()) (y3, (), (), (), (), ())
abbrev QtZ : Sh := ⟨[(3, .ms 3)], [(3, .arr 5 (.int .u8)), (20, .no), (5020, .no), (10020, .no), (15020, .no)]⟩
def QdG (y3 : List Int) : VS := QtZ.st ((), ()) (y3, (), (), (), (), ())
def QOv : VS → Option (Bool × List (Bool × Exit × VS)) := mkL Qn1 (fun x y => (rngOk x.2.1 x.2.2.1 x.2.2.2.1 && conIn x.2.1 && decide (y.1.length + (encL (x.2.1.drop x.2.2.2.1.toNat)).length ≤ 200000000))) (fun x y => [(true, .exit 0, QdG (y.1 ++ encL (x.2.1.drop x.2.2.2.1.toNat)))])
def QkQ : G := ⟨TYs, [], 23, EL [(159, Qza)], (159 :: keeps), (Ls [QOv]), IL [], RL []⟩
def QBn (x12 : List ValT) (x13 x14 : Int) (y3 : List Int) : Option (Exit × VS) :=
 let a1 := lgt Qak x12 (Int.toNat x14)
 br (ilt x14 x13) (br (cIx x12 x14) (br (Qpl y3 a1) (some (.normal, Qny x12 x13 (iadd .i64 x14 1) (eleV y3 a1))) none) none) (some (.exit 0, QdG y3))
noncomputable def Qir (x12 : List ValT) (x13 x14 : Int) (y3 : List Int) : Option (Exit × VS) := loopF (Qaj QkQ Qgc QhK) (Qny x12 x13 x14 y3)
noncomputable def QlW (x12 : List ValT) (x13 x14 : Int) (y3 : List Int) : Option (Exit × VS) :=
 let a1 := lgt Qak x12 (Int.toNat x14)
 br (ilt x14 x13) (br (cIx x12 x14) (br (Qpl y3 a1) (Qir x12 x13 (iadd .i64 x14 1) (eleV y3 a1)) none) none) (some (.exit 0, QdG y3))
def QiM (x12 : List ValT) (x13 x14 : Int) (y3 : List Int) : Option (Exit × VS) := some (.exit 0, QdG (y3 ++ encL (x12.drop x14.toNat)))
theorem QJL (x12 : List ValT) (x13 x14 : Int) (y3 : List Int) : Qaj QkQ Qgc QhK (Qny x12 x13 x14 y3) = QBn x12 x13 x14 y3 := by kernel_rfl
theorem Qu2 (x12 : List ValT) (x13 x14 : Int) (y3 : List Int) : Qir x12 x13 x14 y3 = QlW x12 x13 x14 y3 := (Qap _ _).trans (by
 rw [QJL]
 simp only [QBn, QlW, QaB, nxt_n, nxt_r, nxt_e, nxt_0]
 rfl)
def QF9 (p0 : ValT) : Option (V × List VO) :=
 let a1 := List.map Val.un p0.2.2.2.1
 let a2 := (a1.drop (0 : Int).toNat)
 br (!p0.2.2.1) (some (.t (.sl (.int .u8)) p0.2.1, [])) (br (rngOk a1 (llen a1) (0 : Int) && conIn a1 && decide (([] : List Int).length + (encL a2).length ≤ 200000000)) (some (.t (.sl (.int .u8)) (([] : List Int) ++ encL a2), [])) none)
theorem e_f174 (p0 : ValT) : runF QkQ Qv1 QE5 false [.t Qak p0] [] = QF9 p0 := by kernel_rfl
theorem QUo : GOk Tryz.prog QkQ := Qal _ (gA (gC QMQ QLq gN))
theorem QMh (x12 : List ValT) (x13 x14 : Int) (y3 : List Int) (h : (rngOk x12 x13 x14 && conIn x12 && decide (y3.length + (encL (x12.drop x14.toNat)).length ≤ 200000000)) = true) : Qir x12 x13 x14 y3 = QiM x12 x13 x14 y3 := by
 simp only [Bool.and_eq_true, decide_eq_true_eq] at h
 obtain ⟨⟨h0, hc⟩, h2⟩ := h
 obtain ⟨rfl, h3, k, rfl, hk⟩ := rng_k h0
 clear h0
 rw [Int.toNat_natCast] at h2
 simp only [conIn, Bool.and_eq_true, List.all_eq_true, decide_eq_true_eq] at hc
 obtain ⟨⟨hc0, hc1⟩, hc2⟩ := hc
 revert y3
 refine Qas x12 (fun k => ∀ y3 : List Int, y3.length + (encL (x12.drop k)).length ≤ 200000000 → Qir x12 (x12.length : Int) (k : Int) y3 = QiM x12 (x12.length : Int) (k : Int) y3) ?_ ?_ k hk
 ·intro y3 _
  rw [Qu2]
  simp only [QlW, QaA, Nat.lt_irrefl, decide_false, Qaf]
  simp only [QiM, Int.toNat_natCast, List.drop_length, QgX, List.append_nil]
 ·intro k hk ih y3 hy
  rw [Qu2]
  have hx := hc2 x12[k] (List.getElem_mem hk)
  have hs := Qkq x12 k hk
  rw [List.drop_eq_getElem_cons hk, Qcc, List.length_append] at hy
  have hd : Qpl y3 x12[k] = true := by rw [Qpl, encLF, hx, decide_eq_true (show y3.length ≤ 500000000 by omega), decide_eq_true (show (encT x12[k]).length ≤ 100000000 by omega)]; rfl
  simp only [QlW, QaA, Qaw, hk, decide_true, Qac, Int.toNat_natCast, add1 (show k < 4611686018427387904 by omega), QaE (y := Qak) hk, hd, eleV]
  rw [ih _ (by rw [List.length_append]; omega)]
  simp only [QiM, Int.toNat_natCast, List.drop_eq_getElem_cons hk, Qcc, List.append_assoc]
theorem QHB : ∀ S l p, QkQ.L 0 (fgt Qgc S) = some (true, l) → pickA l = some p → loopF (Qaj QkQ Qgc QhK) S = some p :=
 QaD (s := Qn1) ⟨by decide, by decide⟩ (by kernel_rfl) fun x y hok p hp => by
 simp only [Qar, Qao] at hp
 exact (QMh x.2.1 x.2.2.1 x.2.2.2.1 y.1 (by simpa using hok)).trans hp
theorem QSX : Qv1.lok QkQ := by
 repeat (first | exact trivial | exact QHB | refine ⟨?_, ?_⟩)
theorem s_f174 (x : ValT) (h : encLF (fuel + 1) x = true) : QF9 x = some (.t (.sl (.int .u8)) (conV x), []) := by
 simp only [encLF, Bool.and_eq_true, decide_eq_true_eq] at h
 obtain ⟨h, hf⟩ := h
 obtain ⟨h1, h2, h3, h4, h5, h6, h7⟩ := Qcv h
 have hel := Qpe x
 have hE : encL (List.map Val.un x.2.2.2.1) = encVs x.2.2.2.1 := by rw [encL, QcD]
 have hu : conIn (List.map Val.un x.2.2.2.1) = true := by
  simp only [conIn, Bool.and_eq_true, decide_eq_true_eq, List.length_map, List.all_eq_true, List.mem_map, hE]
  refine ⟨⟨h6, by omega⟩, ?_⟩
  rintro y ⟨v, hv, rfl⟩
  rw [QuJ]
  exact h7 v hv
 simp only [QF9, rng_0 (show (List.map Val.un x.2.2.2.1).length ≤ 100000 by rw [List.length_map]; exact h6), hu, Bool.and_self, Bool.true_and, Int.toNat_zero, List.drop_zero, hE, List.nil_append, List.length_nil]
 cases hq : x.2.2.1 with
 | true =>
  rw [Bool.not_true, Qaf, decide_eq_true (by omega), Qac]
  simp only [conV, h3 hq, List.nil_append]
 | false =>
  rw [Bool.not_false, Qac]
  simp only [conV, h4 hq, encVs, List.append_nil]
theorem QSM : Meets Tryz.prog 174 (runF QkQ Qv1 QE5 false) := mG Tryz.func174 (by kernel_rfl) Tryz.ntmps174 (by kernel_rfl) QUo QSX
end
theorem Qf3 : ∀ N : Nat, Meets Tryz.prog 174 (strip (@QgB ⟨N⟩))
 | 0 => QbT fun x => by first | rfl | simp [encLF]
 | N + 1 => by
  letI : Fuel := ⟨N⟩
  haveI : Nonempty (PLift (Meets Tryz.prog 174 (strip QgB))) := ⟨⟨Qf3 N⟩⟩
  exact Qag QSM fun x hok => (e_f174 x.1).trans (s_f174 x.1 hok)
def QEc : Ent := spec (.pr Qak .nil) (fun x => (encOk x.1)) (fun x => (.t (.sl (.int .u8)) (conV x.1)))
theorem QR8 : Meets Tryz.prog 174 (strip QEc) := QbU Qf3 fun x hok => Qkn x.1 hok
def eleN (x : ValT) : List Int := encT x
noncomputable def Qqp : TC := (.sq (.reg (rT Tryz.f159 0)) (.sq (.reg (rT Tryz.f159 1)) (.sq (.reg (rT Tryz.f159 2)) .rt)))
def Qze : List (RV × Option Ty) := [((.t 4), none)]
def QsL : G := ⟨TYs, [], 19, EL [(174, QEc), (175, QwR)], (175 :: keeps), (fun _ _ => none), IL [], RL []⟩
def Qx3 (p1 : ValT) : Option (V × List VO) :=
 let a1 := (lenA (([] : List Int) ++ ([(icv .u8 p1.1)])) (llen (conV p1)))
 br (encOk p1) (br (cApp ([] : List Int) ([(icv .u8 p1.1)]) 1) (br (QoX (([] : List Int) ++ ([(icv .u8 p1.1)])) (llen (conV p1))) (br (cApp a1 (conV p1) 1) (some (.ms 50000, [.arr 5 (.int .u8) (a1 ++ (conV p1))])) none) none) none) none
theorem QVL (p1 : ValT) : runF QsL Qqp Qze true [.c (.slice none 0 0), .t Qak p1] [] = Qx3 p1 := by kernel_rfl
theorem QMR : Qai Tryz.prog 159 := .inr ⟨by decide, _, Tryz.func159, by kernel_rfl, by kernel_rfl⟩
theorem QME : GOk Tryz.prog QsL := Qal _ (gA (gC QI0 QR8 (gC QIZ QHh gN)))
theorem QMc : Qqp.lok QsL := by repeat (first | exact trivial | refine ⟨?_, ?_⟩)
theorem QRQ (x : ValT) (h : encOk x = true) : Qx3 x = some (.ms 50000, [.arr 5 (.int .u8) (eleN x)]) := by
 have h3 := h
 simp only [encOk, Bool.and_eq_true, decide_eq_true_eq] at h3
 have hel := Qpe x
 have hcl := QBe x
 have hll := QgR (conV x).length
 simp only [Qx3, h, Qac]
 rw [cAppN (by omega) (by simp), Qac, show QoX ([] ++ [icv .u8 x.1]) (llen (conV x)) = true from decide_eq_true (by simp only [llen, List.length_append, List.length_singleton, List.length_nil]; omega), Qac, cAppN (by omega) (by simp only [lenA, llen, Int.toNat_natCast, List.length_append, List.length_singleton, List.length_nil]; omega), Qac, QRD]
 rfl
def Qzb : Ent := specB [.nl, .ty Qak] [] (fun x y => (encOk x.2.1)) (fun x y => (.ms 50000)) (fun x y => [.arr 5 (.int .u8) (eleN x.2.1)])
theorem QLr : Meets Tryz.prog 159 (strip Qzb) := Qcn (QaK (R := runF QsL Qqp Qze true) (mG Tryz.func159 (by kernel_rfl) Tryz.ntmps159 (by kernel_rfl) QME QMc) fun x y hok => (QVL x.2.1).trans (QRQ x.2.1 hok))
noncomputable def Qwq : TC := (.sq (.reg (rT Tryz.f138 0)) (.sq (.sq (.reg (rT Tryz.f138 1)) (.cd (.t 7) (.sq (.reg (rT Tryz.f138 2)) .rt) .sk)) (.sq (.sq (.reg (rT Tryz.f138 3)) (.cd (.t 10) (.sq (.reg (rT Tryz.f138 4)) .rt) .sk)) (.sq (.reg (rT Tryz.f138 5)) (.sq (.sq (.reg (rT Tryz.f138 6)) (.cd (.t 15) (.sq (.reg (rT Tryz.f138 7)) .rt) .sk)) (.sq (.reg (rT Tryz.f138 8)) .rt))))))
def QFu : List (RV × Option Ty) := [((.t 2), some (.sl (.int .u8))), ((.t 3), some tI)]
def QAD : G := ⟨TYs, [], 17, EL [(157, QEp), (158, QEo), (159, Qzb)], keeps, (fun _ _ => none), IL [], RL []⟩
def QGv (p0 : ValT) : Option (V × List VO) := br (frmOk p0) (br (!(frmV p0)) (some (.tu [(.t (.sl (.int .u8)) ([] : List Int)), (.t tI 1)], [])) (br (dpOk p0) (br (igt (dpV p0) 16) (some (.tu [(.t (.sl (.int .u8)) ([] : List Int)), (.t tI 3)], [])) (br (encOk p0) (br (igt (llen (eleN p0)) 4096) (some (.tu [(.t (.sl (.int .u8)) ([] : List Int)), (.t tI 3)], [])) (some (.tu [(.t (.sl (.int .u8)) (eleN p0)), (.t tI 0)], []))) none)) none)) none
theorem e_f138 (p0 : ValT) : runF QAD Qwq QFu false [.t Qak p0] [] = QGv p0 := by kernel_rfl
theorem QVs : Qai Tryz.prog 138 := .inr ⟨by decide, _, Tryz.func138, by kernel_rfl, by kernel_rfl⟩
theorem QUN : GOk Tryz.prog QAD := Qal _ (gA (gC QI4 QSj (gC QI3 QSi (gC QMR QLr gN))))
theorem QTm : Qwq.lok QAD := by repeat (first | exact trivial | refine ⟨?_, ?_⟩)
theorem s_f138 (x : ValT) (h : encOk x = true) : QGv x = some (.tu [.t (.sl (.int .u8)) (encE x).1, .t tI (encE x).2], []) := by
 have h' := h
 simp only [encOk, Bool.and_eq_true, decide_eq_true_eq] at h'
 obtain ⟨h1, h2⟩ := h'
 simp only [QGv, show frmOk x = true from h1, show dpOk x = true from h1, h, QA4 h1, frmV, eleN, Bool.not_true, Qac, Qaf]
 unfold encE
 refine QaP (fun g => ?_) (fun g => ?_)
 ·simp only [igt, llen, decide_eq_true_eq] at g
  rw [if_pos (by omega)]
 ·simp only [igt, llen, decide_eq_false_iff_not] at g
  rw [if_neg (by omega)]
def QEA : Ent := spec (.pr Qak .nil) (fun x => (encOk x.1)) (fun x => (.tu [(.t (.sl (.int .u8)) ((encE x.1).1)), (.t tI ((encE x.1).2))]))
theorem QSt : Meets Tryz.prog 138 (strip QEA) := Qag (R := runF QAD Qwq QFu false) (mG Tryz.func138 (by kernel_rfl) Tryz.ntmps138 (by kernel_rfl) QUN QTm) fun x hok => (e_f138 x.1).trans (s_f138 x.1 hok)
def lstT (l : List ValT) : ValT := (48, (([] : List Int), (true, (List.map Val.of l, ()))))
noncomputable def Qwb : TC := (.sq (.reg (rT Tryz.f161 0)) (.sq (.reg (rT Tryz.f161 1)) .rt))
def QFf : List (RV × Option Ty) := [((.c 2 true 4), some Qak)]
def QAv : G := ⟨TYs, [], 6, EL [(176, QEb)], keeps, (fun _ _ => none), IL [], RL []⟩
def QGi (p0 : List ValT) : Option (V × List VO) := br (copOk p0) (some (.t Qak (48, (([] : List Int), (true, ((List.map Val.of (copV p0)), ())))), [])) none
theorem e_f161 (p0 : List ValT) : runF QAv Qwb QFf false [.t (.sl Qak) p0] [] = QGi p0 := by kernel_rfl
theorem QyG : Qai Tryz.prog 161 := .inr ⟨by decide, _, Tryz.func161, by kernel_rfl, by kernel_rfl⟩
theorem QUy : GOk Tryz.prog QAv := Qal _ (gA (gC QIY QR7 gN))
theorem QS7 : Qwb.lok QAv := by repeat (first | exact trivial | refine ⟨?_, ?_⟩)
theorem s_f161 (l : List ValT) (h : copOk l = true) : QGi l = some (.t Qak (lstT l), []) := by
 simp only [QGi, h, Qac]
 rfl
def QqS : Ent := spec (.pr (.sl Qak) .nil) (fun x => (copOk x.1)) (fun x => (.t Qak (lstT x.1)))
theorem Qyc : Meets Tryz.prog 161 (strip QqS) := Qag (R := runF QAv Qwb QFf false) (mG Tryz.func161 (by kernel_rfl) Tryz.ntmps161 (by kernel_rfl) QUy QS7) fun x hok => (e_f161 x.1).trans (s_f161 x.1 hok)
noncomputable def Qv7 : TC := (.sq (.reg (rT Tryz.f165 0)) (.sq (.reg (rT Tryz.f165 1)) .rt))
def QFb : List (RV × Option Ty) := [((.c 2 true 4), some Qak)]
def QAs : G := ⟨TYs, [], 5, EL [(161, QqS)], keeps, (fun _ _ => none), IL [], RL []⟩
def QGf (p0 : List ValT) : Option (V × List VO) := br (copOk p0) (some (.t Qak (lstT p0), [])) none
theorem e_f165 (p0 : List ValT) : runF QAs Qv7 QFb false [.t (.sl Qak) p0] [] = QGf p0 := by kernel_rfl
theorem QVi : Qai Tryz.prog 165 := .inr ⟨by decide, _, Tryz.func165, by kernel_rfl, by kernel_rfl⟩
theorem QUu : GOk Tryz.prog QAs := Qal _ (gA (gC QyG Qyc gN))
theorem QS3 : Qv7.lok QAs := by repeat (first | exact trivial | refine ⟨?_, ?_⟩)
theorem s_f165 (l : List ValT) (h : copOk l = true) : QGf l = some (.t Qak (lstT l), []) := by
 simp only [QGf, h, Qac]
def QEj : Ent := spec (.pr (.sl Qak) .nil) (fun x => (copOk x.1)) (fun x => (.t Qak (lstT x.1)))
theorem QSe : Meets Tryz.prog 165 (strip QEj) := Qag (R := runF QAs Qv7 QFb false) (mG Tryz.func165 (by kernel_rfl) Tryz.ntmps165 (by kernel_rfl) QUu QS3) fun x hok => (e_f165 x.1).trans (s_f165 x.1 hok)
noncomputable def Qwi : TC := (.sq (.reg (rT Tryz.f153 0)) (.sq (.reg (rT Tryz.f153 1)) .rt))
def QFm : List (RV × Option Ty) := [((.c 2 true 4), some Qak)]
def QAA : G := ⟨TYs, [], 6, EL [(170, QEf)], keeps, (fun _ _ => none), IL [], RL []⟩
def QGo (p0 : List ValT) : Option (V × List VO) := br (copOk p0) (some (.t Qak (48, (([] : List Int), (true, ((List.map Val.of (copV p0)), ())))), [])) none
theorem e_f153 (p0 : List ValT) : runF QAA Qwi QFm false [.t (.sl Qak) p0] [] = QGo p0 := by kernel_rfl
theorem QI6 : Qai Tryz.prog 153 := .inr ⟨by decide, _, Tryz.func153, by kernel_rfl, by kernel_rfl⟩
theorem QUF : GOk Tryz.prog QAA := Qal _ (gA (gC QI1 QSb gN))
theorem QTe : Qwi.lok QAA := by repeat (first | exact trivial | refine ⟨?_, ?_⟩)
theorem s_f153 (l : List ValT) (h : copOk l = true) : QGo l = some (.t Qak (lstT l), []) := by
 simp only [QGo, h, Qac]
 rfl
def QwU : Ent := spec (.pr (.sl Qak) .nil) (fun x => (copOk x.1)) (fun x => (.t Qak (lstT x.1)))
theorem QHk : Meets Tryz.prog 153 (strip QwU) := Qag (R := runF QAA Qwi QFm false) (mG Tryz.func153 (by kernel_rfl) Tryz.ntmps153 (by kernel_rfl) QUF QTe) fun x hok => (e_f153 x.1).trans (s_f153 x.1 hok)
end
end Go.Proofs.YtkngeegkjhipeaaGreat.K
