import Derived.Test.YtkngeegkjhipeaaGreatN2
set_option linter.unusedSimpArgs false
set_option linter.unusedVariables false
set_option linter.unusedSectionVars false
namespace Go.Proofs.YtkngeegkjhipeaaGreat.K
open Go.RowKit
noncomputable section
def okT (n : Nat) (x : ValT) : Bool := okV n (Val.of x)
theorem QuJ {n : Nat} {v : Val} : okT n v.un = okV n v := by rw [okT, Val.of_un]
theorem Qcv {n : Nat} {x : ValT} (h : okT (n + 1) x = true) :
  (x.1 = 1 ∨ x.1 = 2 ∨ x.1 = 12 ∨ x.1 = 48) ∧ x.2.2.1 = (x.1 == 48) ∧ (x.2.2.1 = true → x.2.1 = []) ∧ (x.2.2.1 = false → x.2.2.2.1 = []) ∧ x.2.1.length ≤ 100000 ∧ x.2.2.2.1.length ≤ 100000 ∧ ∀ v ∈ x.2.2.2.1, okV n v = true := by
 obtain ⟨t, b, q, es, _⟩ := x
 exact Qzt h
def copLF : Nat → List ValT → Bool
 | 0, _ => false
 | n + 1, l => decide (l.length ≤ 100000) && l.all (okT n)
theorem QNL {n : Nat} {es : List Val} (hl : es.length ≤ 100000) (h : ∀ v ∈ es, okV n v = true) : copLF (n + 1) (es.map Val.un) = true := by
 simp only [copLF, Bool.and_eq_true, decide_eq_true_eq, List.length_map, List.all_eq_true, List.mem_map]
 refine ⟨hl, ?_⟩
 rintro x ⟨v, hv, rfl⟩
 rw [QuJ]
 exact h v hv
theorem QBd {n : Nat} {x : ValT} (h : okT n x = true) : copLF n (x.2.2.2.1.map Val.un) = true := by
 cases n with
 | zero => obtain ⟨t, b, q, es, _⟩ := x; cases h
 | succ n =>
  obtain ⟨_, _, _, _, _, h6, h7⟩ := Qcv h
  exact QNL h6 h7
theorem QcD (es : List Val) : List.map Val.of (List.map Val.un es) = es := by
 rw [List.map_map]
 have : (Val.of ∘ Val.un) = id := funext Val.of_un
 rw [this, List.map_id]
def copV (l : List ValT) : List ValT := l
def copOk (l : List ValT) : Bool := copLF 12 l
theorem QuL {n : Nat} {x : ValT} (h : okT n x = true) : x.2.1.length ≤ 100000 := by
 cases n with
 | zero => obtain ⟨t, b, q, es, _⟩ := x; cases h
 | succ n => exact (Qcv h).2.2.2.2.1
theorem Qo7 (l : List ValT) (h : copOk l = true) : ∃ N, copLF N l = true := ⟨12, h⟩
theorem QIY : Qai Tryz.prog 176 := .inr ⟨by decide, _, Tryz.func176, by kernel_rfl, by kernel_rfl⟩
def QgA [Fuel] : Ent := spec (.pr (.sl Qak) .nil) (fun x => (copLF fuel x.1)) (fun x => (.t (.sl Qak) (copV x.1)))
theorem QMN : Qai Tryz.prog 176 := QIY
section
variable [Fuel] [Nonempty (PLift (Meets Tryz.prog 176 (strip QgA)))]
theorem QLn : Meets Tryz.prog 176 (strip QgA) := (Classical.choice (inferInstance : Nonempty (PLift (Meets Tryz.prog 176 (strip QgA))))).down
def copIn [Fuel] (l : List ValT) : Bool := copLF (fuel + 1) l
noncomputable def QJh : List DO := dT Tryz.f176 5
def Qf9 : Fg := ⟨[(3, none), (6, some (.sl Qak)), (7, some tI), (8, some tI)], [(3, none), (23, none)]⟩
noncomputable def QhH : TC := (.sq (.reg (rT Tryz.f176 3)) (.sq (.cd (.t 9) .sk (.fg ⟨[(3, none)], [(3, none), (23, none)]⟩ (.ex 0))) (.sq (.bk 1 (.sq (.reg (rT Tryz.f176 4)) (.sq (.dr QJh [(0, [5]), (1, [5]), (2, []), (3, [5]), (4, [5]), (5, []), (6, [5]), (7, [5]), (8, [5]), (9, [5])] (.of [0, 1, 2, 3, 4, 5, 6, 7, 8, 9])) (.reg (rT Tryz.f176 6))))) (.reg (rT Tryz.f176 7)))))
noncomputable def QvZ : TC := (.sq (.reg (rT Tryz.f176 0)) (.sq (.reg (rT Tryz.f176 1)) (.sq (.sq (.reg (rT Tryz.f176 2)) (.bk 0 (.nw 3 163 (.lp 0 Qf9 QhH)))) (.sq (.reg (rT Tryz.f176 8)) .rt))))
def QE3 : List (RV × Option Ty) := [((.t 2), some (.sl Qak))]
abbrev QnY : Sh := ⟨[(3, .ms 3), (6, .ty (.sl Qak)), (7, .ty tI), (8, .ty tI)], [(3, .arr 163 Qak), (23, .no)]⟩
def Qnv (x6 : List ValT) (x7 x8 : Int) (y3 : List ValT) : VS := QnY.st ((), x6, x7, x8, ()) (y3, (), ())
abbrev QtW : Sh := ⟨[(3, .ms 3)], [(3, .arr 163 Qak), (23, .no)]⟩
def QdD (y3 : List ValT) : VS := QtW.st ((), ()) (y3, (), ())
def QOs : VS → Option (Bool × List (Bool × Exit × VS)) := mkL QnY (fun x y => (rngOk x.2.1 x.2.2.1 x.2.2.2.1 && copIn x.2.1 && decide (y.1.length + x.2.1.length ≤ 200000 + x.2.2.2.1.toNat))) (fun x y => [(true, .exit 0, QdD (y.1 ++ x.2.1.drop x.2.2.2.1.toNat))])
def QkP : G := ⟨TYs, [], 26, EL [(176, QgA), (178, QEa)], keeps, (Ls [QOs]), IL [], RL []⟩
def QBk (x6 : List ValT) (x7 x8 : Int) (y3 : List ValT) : Option (Exit × VS) :=
 let a2 := ((lgt Qak x6 (Int.toNat x8)).2)
 let a1 := ((lgt Qak x6 (Int.toNat x8)).1, ((clonB (a2.1)), ((a2.2).1, ((List.map Val.of (List.map Val.un (List.map Val.of (copV (List.map Val.un (((a2.2).2).1)))))), ()))))
 br (ilt x8 x7) (br (cIx x6 x8) (br (QBh (a2.1)) (br (copLF fuel (List.map Val.un (((a2.2).2).1))) (br (cApp y3 ([a1]) 64) (some (.normal, Qnv x6 x7 (iadd .i64 x8 1) (y3 ++ ([a1])))) none) none) none) none) (some (.exit 0, QdD y3))
noncomputable def Qip (x6 : List ValT) (x7 x8 : Int) (y3 : List ValT) : Option (Exit × VS) := loopF (Qaj QkP Qf9 QhH) (Qnv x6 x7 x8 y3)
noncomputable def QlU (x6 : List ValT) (x7 x8 : Int) (y3 : List ValT) : Option (Exit × VS) :=
 let a2 := ((lgt Qak x6 (Int.toNat x8)).2)
 let a1 := ((lgt Qak x6 (Int.toNat x8)).1, ((clonB (a2.1)), ((a2.2).1, ((List.map Val.of (List.map Val.un (List.map Val.of (copV (List.map Val.un (((a2.2).2).1)))))), ()))))
 br (ilt x8 x7) (br (cIx x6 x8) (br (QBh (a2.1)) (br (copLF fuel (List.map Val.un (((a2.2).2).1))) (br (cApp y3 ([a1]) 64) (Qip x6 x7 (iadd .i64 x8 1) (y3 ++ ([a1]))) none) none) none) none) (some (.exit 0, QdD y3))
def QiL (x6 : List ValT) (x7 x8 : Int) (y3 : List ValT) : Option (Exit × VS) := some (.exit 0, QdD (y3 ++ x6.drop x8.toNat))
theorem QJI (x6 : List ValT) (x7 x8 : Int) (y3 : List ValT) : Qaj QkP Qf9 QhH (Qnv x6 x7 x8 y3) = QBk x6 x7 x8 y3 := by kernel_rfl
theorem QuZ (x6 : List ValT) (x7 x8 : Int) (y3 : List ValT) : Qip x6 x7 x8 y3 = QlU x6 x7 x8 y3 := (Qap _ _).trans (by
 rw [QJI]
 simp only [QBk, QlU, QaB, nxt_n, nxt_r, nxt_e, nxt_0]
 rfl)
def QF7 (p0 : List ValT) : Option (V × List VO) := br (rngOk p0 (llen p0) (0 : Int) && copIn p0 && decide (([] : List ValT).length + p0.length ≤ 200000 + (0 : Int).toNat)) (some (.t (.sl Qak) (([] : List ValT) ++ p0.drop (0 : Int).toNat), [])) none
theorem e_f176 (p0 : List ValT) : runF QkP QvZ QE3 false [.t (.sl Qak) p0] [] = QF7 p0 := by kernel_rfl
theorem QUm : GOk Tryz.prog QkP := Qal _ (gA (gC QMN QLn (gC QVd QR6 gN)))
theorem QMe (x6 : List ValT) (x7 x8 : Int) (y3 : List ValT) (h : (rngOk x6 x7 x8 && copIn x6 && decide (y3.length + x6.length ≤ 200000 + x8.toNat)) = true) : Qip x6 x7 x8 y3 = QiL x6 x7 x8 y3 := by
 simp only [Bool.and_eq_true, decide_eq_true_eq] at h
 obtain ⟨⟨h0, hc⟩, h2⟩ := h
 obtain ⟨rfl, h3, k, rfl, hk⟩ := rng_k h0
 clear h0
 rw [Int.toNat_natCast] at h2
 simp only [copIn, copLF, Bool.and_eq_true, List.all_eq_true] at hc
 revert y3
 refine Qas x6 (fun k => ∀ y3 : List ValT, y3.length + x6.length ≤ 200000 + k → Qip x6 (x6.length : Int) (k : Int) y3 = QiL x6 (x6.length : Int) (k : Int) y3) ?_ ?_ k hk
 ·intro y3 _
  rw [QuZ]
  simp [QlU, QiL, QaA, Qaf]
 ·intro k hk ih y3 hy
  rw [QuZ]
  have hx := hc.2 x6[k] (List.getElem_mem hk)
  have e1 : QBh x6[k].2.1 = true := decide_eq_true (by have := QuL hx; omega)
  have e2 : copLF fuel (List.map Val.un x6[k].2.2.2.1) = true := QBd hx
  simp only [QlU, QaA, Qaw, hk, decide_true, Qac, Int.toNat_natCast, add1 (show k < 4611686018427387904 by omega), QaE (y := Qak) hk, e1, e2, clonB, copV, QcD]
  rw [cAppN (by omega) (by simp only [List.length_singleton]; omega), Qac, ih _ (by simp only [List.length_append, List.length_singleton]; omega)]
  simp only [QiL, Int.toNat_natCast, List.drop_eq_getElem_cons hk, List.append_assoc, List.singleton_append]
theorem QHy : ∀ S l p, QkP.L 0 (fgt Qf9 S) = some (true, l) → pickA l = some p → loopF (Qaj QkP Qf9 QhH) S = some p :=
 QaD (s := QnY) ⟨by decide, by decide⟩ (by kernel_rfl) fun x y hok p hp => by
 simp only [Qar, Qao] at hp
 exact (QMe x.2.1 x.2.2.1 x.2.2.2.1 y.1 (by simpa using hok)).trans hp
theorem QSV : QvZ.lok QkP := by
 repeat (first | exact trivial | exact QHy | refine ⟨?_, ?_⟩)
theorem s_f176 (l : List ValT) (h : copLF (fuel + 1) l = true) : QF7 l = some (.t (.sl Qak) (copV l), []) := by
 have hl : l.length ≤ 100000 := by simp only [copLF, Bool.and_eq_true, decide_eq_true_eq] at h; exact h.1
 simp only [QF7, rng_0 hl, show copIn l = true from h, Bool.true_and, List.length_nil, Int.toNat_zero, List.drop_zero, List.nil_append]
 rw [decide_eq_true (by omega), Qac]
 rfl
theorem QSL : Meets Tryz.prog 176 (runF QkP QvZ QE3 false) := mG Tryz.func176 (by kernel_rfl) Tryz.ntmps176 (by kernel_rfl) QUm QSV
end
theorem Qij : ∀ N : Nat, Meets Tryz.prog 176 (strip (@QgA ⟨N⟩))
 | 0 => QbT fun x => by first | rfl | simp [copLF]
 | N + 1 => by
  letI : Fuel := ⟨N⟩
  haveI : Nonempty (PLift (Meets Tryz.prog 176 (strip QgA))) := ⟨⟨Qij N⟩⟩
  exact Qag QSL fun x hok => (e_f176 x.1).trans (s_f176 x.1 hok)
def QEb : Ent := spec (.pr (.sl Qak) .nil) (fun x => (copOk x.1)) (fun x => (.t (.sl Qak) (copV x.1)))
theorem QR7 : Meets Tryz.prog 176 (strip QEb) := QbU Qij fun x hok => Qo7 x.1 hok
theorem Qkm (l : List ValT) (h : copOk l = true) : ∃ N, copLF N l = true := ⟨12, h⟩
theorem QI1 : Qai Tryz.prog 170 := .inr ⟨by decide, _, Tryz.func170, by kernel_rfl, by kernel_rfl⟩
def QgC [Fuel] : Ent := spec (.pr (.sl Qak) .nil) (fun x => (copLF fuel x.1)) (fun x => (.t (.sl Qak) (copV x.1)))
theorem QMP : Qai Tryz.prog 170 := QI1
section
variable [Fuel] [Nonempty (PLift (Meets Tryz.prog 170 (strip QgC)))]
theorem QLp : Meets Tryz.prog 170 (strip QgC) := (Classical.choice (inferInstance : Nonempty (PLift (Meets Tryz.prog 170 (strip QgC))))).down
def QvN [Fuel] (l : List ValT) : Bool := copLF (fuel + 1) l
def Qgd : Fg := ⟨[(0, some (.sl Qak)), (3, none), (4, some tI)], [(3, none), (28, none)]⟩
noncomputable def QhL : TC := (.sq (.sq (.reg (rT Tryz.f170 3)) (.cd (.t 9) .sk (.fg ⟨[(3, none)], [(3, none), (28, none)]⟩ (.ex 0)))) (.sq (.bk 1 (.sq (.reg (rT Tryz.f170 4)) (.sq (.reg (rT Tryz.f170 5)) (.sq (.reg (rT Tryz.f170 6)) (.reg (rT Tryz.f170 7)))))) (.reg (rT Tryz.f170 8))))
noncomputable def Qv4 : TC := (.sq (.reg (rT Tryz.f170 0)) (.sq (.reg (rT Tryz.f170 1)) (.sq (.sq (.reg (rT Tryz.f170 2)) (.bk 0 (.nf 5 1 5 20501 (.nw 3 163 (.lp 0 Qgd QhL))))) (.sq (.reg (rT Tryz.f170 9)) .rt))))
def QE8 : List (RV × Option Ty) := [((.t 2), some (.sl Qak))]
abbrev Qn2 : Sh := ⟨[(0, .ty (.sl Qak)), (3, .ms 3), (4, .ty tI)], [(3, .arr 163 Qak), (28, .no)]⟩
def Qnz (x0 : List ValT) (x4 : Int) (y3 : List ValT) : VS := Qn2.st (x0, (), x4, ()) (y3, (), ())
abbrev Qt0 : Sh := ⟨[(3, .ms 3)], [(3, .arr 163 Qak), (28, .no)]⟩
def QdH (y3 : List ValT) : VS := Qt0.st ((), ()) (y3, (), ())
def QOw : VS → Option (Bool × List (Bool × Exit × VS)) := mkL Qn2 (fun x y => (idxOk x.1 x.2.2.1 && QvN x.1 && decide (y.1.length + x.1.length ≤ 200000 + x.2.2.1.toNat))) (fun x y => [(true, .exit 0, QdH (y.1 ++ x.1.drop x.2.2.1.toNat))])
def QkR : G := ⟨TYs, [16], 30, EL [(170, QgC)], keeps, (Ls [QOw]), IL [], RL []⟩
def QBo (x0 : List ValT) (x4 : Int) (y3 : List ValT) : Option (Exit × VS) :=
 let a1 := lgt Qak x0 (Int.toNat x4)
 let a2 := (((a1.2).2).1, ((List.map Val.of (copV (List.map Val.un ((((a1.2).2).2).1)))), ()))
 br (ilt x4 (llen x0)) (br (cIx x0 x4) (br (cApp ([] : List Int) ((a1.2).1) 1) (br (copLF fuel (List.map Val.un ((((a1.2).2).2).1))) (br (cApp y3 ([(a1.1, ((([] : List Int) ++ ((a1.2).1)), a2))]) 64) (some (.normal, Qnz x0 (iadd .i64 x4 1) (y3 ++ ([(a1.1, ((([] : List Int) ++ ((a1.2).1)), a2))])))) none) none) none) none) (some (.exit 0, QdH y3))
noncomputable def Qis (x0 : List ValT) (x4 : Int) (y3 : List ValT) : Option (Exit × VS) := loopF (Qaj QkR Qgd QhL) (Qnz x0 x4 y3)
noncomputable def QlX (x0 : List ValT) (x4 : Int) (y3 : List ValT) : Option (Exit × VS) :=
 let a1 := lgt Qak x0 (Int.toNat x4)
 let a2 := (((a1.2).2).1, ((List.map Val.of (copV (List.map Val.un ((((a1.2).2).2).1)))), ()))
 br (ilt x4 (llen x0)) (br (cIx x0 x4) (br (cApp ([] : List Int) ((a1.2).1) 1) (br (copLF fuel (List.map Val.un ((((a1.2).2).2).1))) (br (cApp y3 ([(a1.1, ((([] : List Int) ++ ((a1.2).1)), a2))]) 64) (Qis x0 (iadd .i64 x4 1) (y3 ++ ([(a1.1, ((([] : List Int) ++ ((a1.2).1)), a2))]))) none) none) none) none) (some (.exit 0, QdH y3))
def QiN (x0 : List ValT) (x4 : Int) (y3 : List ValT) : Option (Exit × VS) := some (.exit 0, QdH (y3 ++ x0.drop x4.toNat))
theorem QJM (x0 : List ValT) (x4 : Int) (y3 : List ValT) : Qaj QkR Qgd QhL (Qnz x0 x4 y3) = QBo x0 x4 y3 := by kernel_rfl
theorem Qu3 (x0 : List ValT) (x4 : Int) (y3 : List ValT) : Qis x0 x4 y3 = QlX x0 x4 y3 := (Qap _ _).trans (by
 rw [QJM]
 simp only [QBo, QlX, QaB, nxt_n, nxt_r, nxt_e, nxt_0]
 rfl)
def QGc (p0 : List ValT) : Option (V × List VO) := br (idxOk p0 (0 : Int) && QvN p0 && decide (([] : List ValT).length + p0.length ≤ 200000 + (0 : Int).toNat)) (some (.t (.sl Qak) (([] : List ValT) ++ p0.drop (0 : Int).toNat), [])) none
theorem e_f170 (p0 : List ValT) : runF QkR Qv4 QE8 false [.t (.sl Qak) p0] [] = QGc p0 := by kernel_rfl
theorem QUr : GOk Tryz.prog QkR := Qal _ (gA (gC QMP QLp gN))
theorem QMi (x0 : List ValT) (x4 : Int) (y3 : List ValT) (h : (idxOk x0 x4 && QvN x0 && decide (y3.length + x0.length ≤ 200000 + x4.toNat)) = true) : Qis x0 x4 y3 = QiN x0 x4 y3 := by
 simp only [Bool.and_eq_true, decide_eq_true_eq, idxOk] at h
 obtain ⟨⟨⟨h0, h1, h3⟩, hc⟩, h2⟩ := h
 obtain ⟨k, rfl⟩ := Int.eq_ofNat_of_zero_le h0
 rw [Int.toNat_natCast] at h2
 simp only [QvN, copLF, Bool.and_eq_true, List.all_eq_true] at hc
 revert y3
 refine Qas x0 (fun k => ∀ y3 : List ValT, y3.length + x0.length ≤ 200000 + k → Qis x0 (k : Int) y3 = QiN x0 (k : Int) y3) ?_ ?_ k (by omega)
 ·intro y3 _
  rw [Qu3]
  simp [QlX, QiN, ilt, llen, Qaf]
 ·intro k hk ih y3 hy
  rw [Qu3]
  have hx := hc.2 x0[k] (List.getElem_mem hk)
  have e2 : copLF fuel (List.map Val.un x0[k].2.2.2.1) = true := QBd hx
  simp only [QlX, show ilt (k : Int) (llen x0) = true from decide_eq_true (by simp only [llen]; omega), Qaw, hk, decide_true, Qac, Int.toNat_natCast, add1 (show k < 4611686018427387904 by omega), QaE (y := Qak) hk, e2, copV, QcD]
  rw [cAppN (by omega) (by have := QuL hx; simp only [List.length_nil]; omega), Qac, cAppN (by omega) (by simp only [List.length_singleton]; omega), Qac, ih _ (by simp only [List.length_append, List.length_singleton]; omega)]
  simp only [QiN, Int.toNat_natCast, List.drop_eq_getElem_cons hk, List.append_assoc, List.singleton_append, List.nil_append]
theorem QHC : ∀ S l p, QkR.L 0 (fgt Qgd S) = some (true, l) → pickA l = some p → loopF (Qaj QkR Qgd QhL) S = some p :=
 QaD (s := Qn2) ⟨by decide, by decide⟩ (by kernel_rfl) fun x y hok p hp => by
 simp only [Qar, Qao] at hp
 exact (QMi x.1 x.2.2.1 y.1 (by simpa using hok)).trans hp
theorem QS0 : Qv4.lok QkR := by
 repeat (first | exact trivial | exact QHC | refine ⟨?_, ?_⟩)
theorem s_f170 (l : List ValT) (h : copLF (fuel + 1) l = true) : QGc l = some (.t (.sl Qak) (copV l), []) := by
 have hl : l.length ≤ 100000 := by simp only [copLF, Bool.and_eq_true, decide_eq_true_eq] at h; exact h.1
 simp only [QGc, show idxOk l 0 = true from decide_eq_true (by omega), show QvN l = true from h, Bool.true_and, List.length_nil, Int.toNat_zero, List.drop_zero, List.nil_append]
 rw [decide_eq_true (by omega), Qac]
 rfl
theorem QSN : Meets Tryz.prog 170 (runF QkR Qv4 QE8 false) := mG Tryz.func170 (by kernel_rfl) Tryz.ntmps170 (by kernel_rfl) QUr QS0
end
theorem Qf2 : ∀ N : Nat, Meets Tryz.prog 170 (strip (@QgC ⟨N⟩))
 | 0 => QbT fun x => by first | rfl | simp [copLF]
 | N + 1 => by
  letI : Fuel := ⟨N⟩
  haveI : Nonempty (PLift (Meets Tryz.prog 170 (strip QgC))) := ⟨⟨Qf2 N⟩⟩
  exact Qag QSN fun x hok => (e_f170 x.1).trans (s_f170 x.1 hok)
def QEf : Ent := spec (.pr (.sl Qak) .nil) (fun x => (copOk x.1)) (fun x => (.t (.sl Qak) (copV x.1)))
theorem QSb : Meets Tryz.prog 170 (strip QEf) := QbU Qf2 fun x hok => Qkm x.1 hok
end
end Go.Proofs.YtkngeegkjhipeaaGreat.K
