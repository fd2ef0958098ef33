import Derived.Test.YtkngeegkjhipeaaGreatN2
set_option linter.unusedSimpArgs false
set_option linter.unusedVariables false
set_option linter.unusedSectionVars false
namespace Go.Proofs.YtkngeegkjhipeaaGreat.K
open Go.RowKit
noncomputable section
def okT (n : Nat) (x : ValT) : Bool := okV n (Val.of x)
theorem Qr5 {n : Nat} {v : Val} : okT n v.un = okV n v := by rw [okT, Val.of_un]
theorem Qcj {n : Nat} {x : ValT} (h : okT (n + 1) x = true) :
  (x.1 = 1 ∨ x.1 = 2 ∨ x.1 = 12 ∨ x.1 = 48) ∧ x.2.2.1 = (x.1 == 48) ∧ (x.2.2.1 = true → x.2.1 = []) ∧ (x.2.2.1 = false → x.2.2.2.1 = []) ∧ x.2.1.length ≤ 100000 ∧ x.2.2.2.1.length ≤ 100000 ∧ ∀ v ∈ x.2.2.2.1, okV n v = true := by
 obtain ⟨t, b, q, es, _⟩ := x
 exact Qwu h
def copLF : Nat → List ValT → Bool
 | 0, _ => false
 | n + 1, l => decide (l.length ≤ 100000) && l.all (okT n)
theorem QJI {n : Nat} {es : List Val} (hl : es.length ≤ 100000) (h : ∀ v ∈ es, okV n v = true) : copLF (n + 1) (es.map Val.un) = true := by
 simp only [copLF, Bool.and_eq_true, decide_eq_true_eq, List.length_map, List.all_eq_true, List.mem_map]
 refine ⟨hl, ?_⟩
 rintro x ⟨v, hv, rfl⟩
 rw [Qr5]
 exact h v hv
theorem QxS {n : Nat} {x : ValT} (h : okT n x = true) : copLF n (x.2.2.2.1.map Val.un) = true := by
 cases n with
 | zero => obtain ⟨t, b, q, es, _⟩ := x; cases h
 | succ n =>
  obtain ⟨_, _, _, _, _, h6, h7⟩ := Qcj h
  exact QJI h6 h7
theorem Qcs (es : List Val) : List.map Val.of (List.map Val.un es) = es := by
 rw [List.map_map]
 have : (Val.of ∘ Val.un) = id := funext Val.of_un
 rw [this, List.map_id]
def copV (l : List ValT) : List ValT := l
def copOk (l : List ValT) : Bool := copLF 12 l
theorem Qr7 {n : Nat} {x : ValT} (h : okT n x = true) : x.2.1.length ≤ 100000 := by
 cases n with
 | zero => obtain ⟨t, b, q, es, _⟩ := x; cases h
 | succ n => exact (Qcj h).2.2.2.2.1
theorem Qns (l : List ValT) (h : copOk l = true) : ∃ N, copLF N l = true := ⟨12, h⟩
theorem QFp : Qag Tryz.prog 176 := .inr ⟨by decide, _, Tryz.func176, by kernel_rfl, by kernel_rfl⟩
def Qf1 [Fuel] : Ent := spec (.pr (.sl Qah) .nil) (fun x => (copLF fuel x.1)) (fun x => (.t (.sl Qah) (copV x.1)))
theorem QIY : Qag Tryz.prog 176 := QFp
section
variable [Fuel] [Nonempty (PLift (Meets Tryz.prog 176 (strip Qf1)))]
theorem QHH : Meets Tryz.prog 176 (strip Qf1) := (Classical.choice (inferInstance : Nonempty (PLift (Meets Tryz.prog 176 (strip Qf1))))).down
def copIn [Fuel] (l : List ValT) : Bool := copLF (fuel + 1) l
noncomputable def QFG : List DO := dT Tryz.f176 5
def Qfz : Fg := ⟨[(3, none), (6, some (.sl Qah)), (7, some tI), (8, some tI)], [(3, none), (23, none)]⟩
noncomputable def Qg6 : TC := (.sq (.reg (rT Tryz.f176 3)) (.sq (.cd (.t 9) .sk (.fg ⟨[(3, none)], [(3, none), (23, none)]⟩ (.ex 0))) (.sq (.bk 1 (.sq (.reg (rT Tryz.f176 4)) (.sq (.dr QFG [(0, [5]), (1, [5]), (2, []), (3, [5]), (4, [5]), (5, []), (6, [5]), (7, [5]), (8, [5]), (9, [5])] (.of [0, 1, 2, 3, 4, 5, 6, 7, 8, 9])) (.reg (rT Tryz.f176 6))))) (.reg (rT Tryz.f176 7)))))
noncomputable def Qtm : TC := (.sq (.reg (rT Tryz.f176 0)) (.sq (.reg (rT Tryz.f176 1)) (.sq (.sq (.reg (rT Tryz.f176 2)) (.bk 0 (.nw 3 163 (.lp 0 Qfz Qg6)))) (.sq (.reg (rT Tryz.f176 8)) .rt))))
def QBx : List (RV × Option Ty) := [((.t 2), some (.sl Qah))]
abbrev Qmi : Sh := ⟨[(3, .ms 3), (6, .ty (.sl Qah)), (7, .ty tI), (8, .ty tI)], [(3, .arr 163 Qah), (23, .no)]⟩
def QlN (x6 : List ValT) (x7 x8 : Int) (y3 : List ValT) : VS := Qmi.st ((), x6, x7, x8, ()) (y3, (), ())
abbrev Qro : Sh := ⟨[(3, .ms 3)], [(3, .arr 163 Qah), (23, .no)]⟩
def Qdh (y3 : List ValT) : VS := Qro.st ((), ()) (y3, (), ())
def QKd : VS → Option (Bool × List (Bool × Exit × VS)) := mkL Qmi (fun x y => (rngOk x.2.1 x.2.2.1 x.2.2.2.1 && copIn x.2.1 && decide (y.1.length + x.2.1.length ≤ 200000 + x.2.2.2.1.toNat))) (fun x y => [(true, .exit 0, Qdh (y.1 ++ x.2.1.drop x.2.2.2.1.toNat))])
def QjJ : G := ⟨TYs, [], 26, EL [(176, Qf1), (178, QAI)], keeps, (Ls [QKd]), IL [], RL []⟩
def QxY (x6 : List ValT) (x7 x8 : Int) (y3 : List ValT) : Option (Exit × VS) :=
 let a2 := ((lgt Qah x6 (Int.toNat x8)).2)
 let a1 := ((lgt Qah x6 (Int.toNat x8)).1, ((clonB (a2.1)), ((a2.2).1, ((List.map Val.of (List.map Val.un (List.map Val.of (copV (List.map Val.un (((a2.2).2).1)))))), ()))))
 br (ilt x8 x7) (br (cIx x6 x8) (br (QxW (a2.1)) (br (copLF fuel (List.map Val.un (((a2.2).2).1))) (br (cApp y3 ([a1]) 64) (some (.normal, QlN x6 x7 (iadd .i64 x8 1) (y3 ++ ([a1])))) none) none) none) none) (some (.exit 0, Qdh y3))
noncomputable def QhH (x6 : List ValT) (x7 x8 : Int) (y3 : List ValT) : Option (Exit × VS) := loopF (Qai QjJ Qfz Qg6) (QlN x6 x7 x8 y3)
noncomputable def Qky (x6 : List ValT) (x7 x8 : Int) (y3 : List ValT) : Option (Exit × VS) :=
 let a2 := ((lgt Qah x6 (Int.toNat x8)).2)
 let a1 := ((lgt Qah x6 (Int.toNat x8)).1, ((clonB (a2.1)), ((a2.2).1, ((List.map Val.of (List.map Val.un (List.map Val.of (copV (List.map Val.un (((a2.2).2).1)))))), ()))))
 br (ilt x8 x7) (br (cIx x6 x8) (br (QxW (a2.1)) (br (copLF fuel (List.map Val.un (((a2.2).2).1))) (br (cApp y3 ([a1]) 64) (QhH x6 x7 (iadd .i64 x8 1) (y3 ++ ([a1]))) none) none) none) none) (some (.exit 0, Qdh y3))
def Qh2 (x6 : List ValT) (x7 x8 : Int) (y3 : List ValT) : Option (Exit × VS) := some (.exit 0, Qdh (y3 ++ x6.drop x8.toNat))
theorem QGb (x6 : List ValT) (x7 x8 : Int) (y3 : List ValT) : Qai QjJ Qfz Qg6 (QlN x6 x7 x8 y3) = QxY x6 x7 x8 y3 := by kernel_rfl
theorem Qsk (x6 : List ValT) (x7 x8 : Int) (y3 : List ValT) : QhH x6 x7 x8 y3 = Qky x6 x7 x8 y3 := (Qap _ _).trans (by
 rw [QGb]
 simp only [QxY, Qky, QaE, nxt_n, nxt_r, nxt_e, nxt_0]
 rfl)
def QCy (p0 : List ValT) : Option (V × List VO) := br (rngOk p0 (llen p0) (0 : Int) && copIn p0 && decide (([] : List ValT).length + p0.length ≤ 200000 + (0 : Int).toNat)) (some (.t (.sl Qah) (([] : List ValT) ++ p0.drop (0 : Int).toNat), [])) none
theorem e_f176 (p0 : List ValT) : runF QjJ Qtm QBx false [.t (.sl Qah) p0] [] = QCy p0 := by kernel_rfl
theorem QPw : GOk Tryz.prog QjJ := Qal _ (gA (gC QIY QHH (gC QQm QNu gN)))
theorem QIl (x6 : List ValT) (x7 x8 : Int) (y3 : List ValT) (h : (rngOk x6 x7 x8 && copIn x6 && decide (y3.length + x6.length ≤ 200000 + x8.toNat)) = true) : QhH x6 x7 x8 y3 = Qh2 x6 x7 x8 y3 := by
 simp only [Bool.and_eq_true, decide_eq_true_eq] at h
 obtain ⟨⟨h0, hc⟩, h2⟩ := h
 obtain ⟨rfl, h3, k, rfl, hk⟩ := rng_k h0
 clear h0
 rw [Int.toNat_natCast] at h2
 simp only [copIn, copLF, Bool.and_eq_true, List.all_eq_true] at hc
 revert y3
 refine Qav x6 (fun k => ∀ y3 : List ValT, y3.length + x6.length ≤ 200000 + k → QhH x6 (x6.length : Int) (k : Int) y3 = Qh2 x6 (x6.length : Int) (k : Int) y3) ?_ ?_ k hk
 ·intro y3 _
  rw [Qsk]
  simp [Qky, Qh2, Qaz, Qae]
 ·intro k hk ih y3 hy
  rw [Qsk]
  have hx := hc.2 x6[k] (List.getElem_mem hk)
  have e1 : QxW x6[k].2.1 = true := decide_eq_true (by have := Qr7 hx; omega)
  have e2 : copLF fuel (List.map Val.un x6[k].2.2.2.1) = true := QxS hx
  simp only [Qky, Qaz, QaA, hk, decide_true, Qac, Int.toNat_natCast, add1 (show k < 4611686018427387904 by omega), QaF (y := Qah) hk, e1, e2, clonB, copV, Qcs]
  rw [cAppN (by omega) (by simp only [List.length_singleton]; omega), Qac, ih _ (by simp only [List.length_append, List.length_singleton]; omega)]
  simp only [Qh2, Int.toNat_natCast, List.drop_eq_getElem_cons hk, List.append_assoc, List.singleton_append]
theorem QDX : ∀ S l p, QjJ.L 0 (fgt Qfz S) = some (true, l) → pickA l = some p → loopF (Qai QjJ Qfz Qg6) S = some p :=
 QaG (s := Qmi) ⟨by decide, by decide⟩ (by kernel_rfl) fun x y hok p hp => by
 simp only [Qas, Qao] at hp
 exact (QIl x.2.1 x.2.2.1 x.2.2.2.1 y.1 (by simpa using hok)).trans hp
theorem QOj : Qtm.lok QjJ := by
 repeat (first | exact trivial | exact QDX | refine ⟨?_, ?_⟩)
theorem s_f176 (l : List ValT) (h : copLF (fuel + 1) l = true) : QCy l = some (.t (.sl Qah) (copV l), []) := by
 have hl : l.length ≤ 100000 := by simp only [copLF, Bool.and_eq_true, decide_eq_true_eq] at h; exact h.1
 simp only [QCy, rng_0 hl, show copIn l = true from h, Bool.true_and, List.length_nil, Int.toNat_zero, List.drop_zero, List.nil_append]
 rw [decide_eq_true (by omega), Qac]
 rfl
theorem QN9 : Meets Tryz.prog 176 (runF QjJ Qtm QBx false) := mG Tryz.func176 (by kernel_rfl) Tryz.ntmps176 (by kernel_rfl) QPw QOj
end
theorem QhE : ∀ N : Nat, Meets Tryz.prog 176 (strip (@Qf1 ⟨N⟩))
 | 0 => QbH fun x => by first | rfl | simp [copLF]
 | N + 1 => by
  letI : Fuel := ⟨N⟩
  haveI : Nonempty (PLift (Meets Tryz.prog 176 (strip Qf1))) := ⟨⟨QhE N⟩⟩
  exact Qaf QN9 fun x hok => (e_f176 x.1).trans (s_f176 x.1 hok)
def QAJ : Ent := spec (.pr (.sl Qah) .nil) (fun x => (copOk x.1)) (fun x => (.t (.sl Qah) (copV x.1)))
theorem QNv : Meets Tryz.prog 176 (strip QAJ) := QbI QhE fun x hok => Qns x.1 hok
theorem Qjj (l : List ValT) (h : copOk l = true) : ∃ N, copLF N l = true := ⟨12, h⟩
theorem QFs : Qag Tryz.prog 170 := .inr ⟨by decide, _, Tryz.func170, by kernel_rfl, by kernel_rfl⟩
def Qf3 [Fuel] : Ent := spec (.pr (.sl Qah) .nil) (fun x => (copLF fuel x.1)) (fun x => (.t (.sl Qah) (copV x.1)))
theorem QI0 : Qag Tryz.prog 170 := QFs
section
variable [Fuel] [Nonempty (PLift (Meets Tryz.prog 170 (strip Qf3)))]
theorem QHJ : Meets Tryz.prog 170 (strip Qf3) := (Classical.choice (inferInstance : Nonempty (PLift (Meets Tryz.prog 170 (strip Qf3))))).down
def Qs7 [Fuel] (l : List ValT) : Bool := copLF (fuel + 1) l
def QfD : Fg := ⟨[(0, some (.sl Qah)), (3, none), (4, some tI)], [(3, none), (28, none)]⟩
noncomputable def Qha : TC := (.sq (.sq (.reg (rT Tryz.f170 3)) (.cd (.t 9) .sk (.fg ⟨[(3, none)], [(3, none), (28, none)]⟩ (.ex 0)))) (.sq (.bk 1 (.sq (.reg (rT Tryz.f170 4)) (.sq (.reg (rT Tryz.f170 5)) (.sq (.reg (rT Tryz.f170 6)) (.reg (rT Tryz.f170 7)))))) (.reg (rT Tryz.f170 8))))
noncomputable def Qtr : TC := (.sq (.reg (rT Tryz.f170 0)) (.sq (.reg (rT Tryz.f170 1)) (.sq (.sq (.reg (rT Tryz.f170 2)) (.bk 0 (.nf 5 1 5 20501 (.nw 3 163 (.lp 0 QfD Qha))))) (.sq (.reg (rT Tryz.f170 9)) .rt))))
def QBC : List (RV × Option Ty) := [((.t 2), some (.sl Qah))]
abbrev Qmm : Sh := ⟨[(0, .ty (.sl Qah)), (3, .ms 3), (4, .ty tI)], [(3, .arr 163 Qah), (28, .no)]⟩
def QlR (x0 : List ValT) (x4 : Int) (y3 : List ValT) : VS := Qmm.st (x0, (), x4, ()) (y3, (), ())
abbrev Qrs : Sh := ⟨[(3, .ms 3)], [(3, .arr 163 Qah), (28, .no)]⟩
def Qdl (y3 : List ValT) : VS := Qrs.st ((), ()) (y3, (), ())
def QKh : VS → Option (Bool × List (Bool × Exit × VS)) := mkL Qmm (fun x y => (idxOk x.1 x.2.2.1 && Qs7 x.1 && decide (y.1.length + x.1.length ≤ 200000 + x.2.2.1.toNat))) (fun x y => [(true, .exit 0, Qdl (y.1 ++ x.1.drop x.2.2.1.toNat))])
def QjL : G := ⟨TYs, [16], 30, EL [(170, Qf3)], keeps, (Ls [QKh]), IL [], RL []⟩
def Qx2 (x0 : List ValT) (x4 : Int) (y3 : List ValT) : Option (Exit × VS) :=
 let a1 := lgt Qah x0 (Int.toNat x4)
 let a2 := (((a1.2).2).1, ((List.map Val.of (copV (List.map Val.un ((((a1.2).2).2).1)))), ()))
 br (ilt x4 (llen x0)) (br (cIx x0 x4) (br (cApp ([] : List Int) ((a1.2).1) 1) (br (copLF fuel (List.map Val.un ((((a1.2).2).2).1))) (br (cApp y3 ([(a1.1, ((([] : List Int) ++ ((a1.2).1)), a2))]) 64) (some (.normal, QlR x0 (iadd .i64 x4 1) (y3 ++ ([(a1.1, ((([] : List Int) ++ ((a1.2).1)), a2))])))) none) none) none) none) (some (.exit 0, Qdl y3))
noncomputable def QhK (x0 : List ValT) (x4 : Int) (y3 : List ValT) : Option (Exit × VS) := loopF (Qai QjL QfD Qha) (QlR x0 x4 y3)
noncomputable def QkB (x0 : List ValT) (x4 : Int) (y3 : List ValT) : Option (Exit × VS) :=
 let a1 := lgt Qah x0 (Int.toNat x4)
 let a2 := (((a1.2).2).1, ((List.map Val.of (copV (List.map Val.un ((((a1.2).2).2).1)))), ()))
 br (ilt x4 (llen x0)) (br (cIx x0 x4) (br (cApp ([] : List Int) ((a1.2).1) 1) (br (copLF fuel (List.map Val.un ((((a1.2).2).2).1))) (br (cApp y3 ([(a1.1, ((([] : List Int) ++ ((a1.2).1)), a2))]) 64) (QhK x0 (iadd .i64 x4 1) (y3 ++ ([(a1.1, ((([] : List Int) ++ ((a1.2).1)), a2))]))) none) none) none) none) (some (.exit 0, Qdl y3))
def Qh4 (x0 : List ValT) (x4 : Int) (y3 : List ValT) : Option (Exit × VS) := some (.exit 0, Qdl (y3 ++ x0.drop x4.toNat))
theorem QGf (x0 : List ValT) (x4 : Int) (y3 : List ValT) : Qai QjL QfD Qha (QlR x0 x4 y3) = Qx2 x0 x4 y3 := by kernel_rfl
theorem Qso (x0 : List ValT) (x4 : Int) (y3 : List ValT) : QhK x0 x4 y3 = QkB x0 x4 y3 := (Qap _ _).trans (by
 rw [QGf]
 simp only [Qx2, QkB, QaE, nxt_n, nxt_r, nxt_e, nxt_0]
 rfl)
def QCD (p0 : List ValT) : Option (V × List VO) := br (idxOk p0 (0 : Int) && Qs7 p0 && decide (([] : List ValT).length + p0.length ≤ 200000 + (0 : Int).toNat)) (some (.t (.sl Qah) (([] : List ValT) ++ p0.drop (0 : Int).toNat), [])) none
theorem e_f170 (p0 : List ValT) : runF QjL Qtr QBC false [.t (.sl Qah) p0] [] = QCD p0 := by kernel_rfl
theorem QPB : GOk Tryz.prog QjL := Qal _ (gA (gC QI0 QHJ gN))
theorem QIp (x0 : List ValT) (x4 : Int) (y3 : List ValT) (h : (idxOk x0 x4 && Qs7 x0 && decide (y3.length + x0.length ≤ 200000 + x4.toNat)) = true) : QhK x0 x4 y3 = Qh4 x0 x4 y3 := by
 simp only [Bool.and_eq_true, decide_eq_true_eq, idxOk] at h
 obtain ⟨⟨⟨h0, h1, h3⟩, hc⟩, h2⟩ := h
 obtain ⟨k, rfl⟩ := Int.eq_ofNat_of_zero_le h0
 rw [Int.toNat_natCast] at h2
 simp only [Qs7, copLF, Bool.and_eq_true, List.all_eq_true] at hc
 revert y3
 refine Qav x0 (fun k => ∀ y3 : List ValT, y3.length + x0.length ≤ 200000 + k → QhK x0 (k : Int) y3 = Qh4 x0 (k : Int) y3) ?_ ?_ k (by omega)
 ·intro y3 _
  rw [Qso]
  simp [QkB, Qh4, ilt, llen, Qae]
 ·intro k hk ih y3 hy
  rw [Qso]
  have hx := hc.2 x0[k] (List.getElem_mem hk)
  have e2 : copLF fuel (List.map Val.un x0[k].2.2.2.1) = true := QxS hx
  simp only [QkB, show ilt (k : Int) (llen x0) = true from decide_eq_true (by simp only [llen]; omega), QaA, hk, decide_true, Qac, Int.toNat_natCast, add1 (show k < 4611686018427387904 by omega), QaF (y := Qah) hk, e2, copV, Qcs]
  rw [cAppN (by omega) (by have := Qr7 hx; simp only [List.length_nil]; omega), Qac, cAppN (by omega) (by simp only [List.length_singleton]; omega), Qac, ih _ (by simp only [List.length_append, List.length_singleton]; omega)]
  simp only [Qh4, Int.toNat_natCast, List.drop_eq_getElem_cons hk, List.append_assoc, List.singleton_append, List.nil_append]
theorem QD1 : ∀ S l p, QjL.L 0 (fgt QfD S) = some (true, l) → pickA l = some p → loopF (Qai QjL QfD Qha) S = some p :=
 QaG (s := Qmm) ⟨by decide, by decide⟩ (by kernel_rfl) fun x y hok p hp => by
 simp only [Qas, Qao] at hp
 exact (QIp x.1 x.2.2.1 y.1 (by simpa using hok)).trans hp
theorem QOo : Qtr.lok QjL := by
 repeat (first | exact trivial | exact QD1 | refine ⟨?_, ?_⟩)
theorem s_f170 (l : List ValT) (h : copLF (fuel + 1) l = true) : QCD l = some (.t (.sl Qah) (copV l), []) := by
 have hl : l.length ≤ 100000 := by simp only [copLF, Bool.and_eq_true, decide_eq_true_eq] at h; exact h.1
 simp only [QCD, show idxOk l 0 = true from decide_eq_true (by omega), show Qs7 l = true from h, Bool.true_and, List.length_nil, Int.toNat_zero, List.drop_zero, List.nil_append]
 rw [decide_eq_true (by omega), Qac]
 rfl
theorem QOb : Meets Tryz.prog 170 (runF QjL Qtr QBC false) := mG Tryz.func170 (by kernel_rfl) Tryz.ntmps170 (by kernel_rfl) QPB QOo
end
theorem Qfq : ∀ N : Nat, Meets Tryz.prog 170 (strip (@Qf3 ⟨N⟩))
 | 0 => QbH fun x => by first | rfl | simp [copLF]
 | N + 1 => by
  letI : Fuel := ⟨N⟩
  haveI : Nonempty (PLift (Meets Tryz.prog 170 (strip Qf3))) := ⟨⟨Qfq N⟩⟩
  exact Qaf QOb fun x hok => (e_f170 x.1).trans (s_f170 x.1 hok)
def QAN : Ent := spec (.pr (.sl Qah) .nil) (fun x => (copOk x.1)) (fun x => (.t (.sl Qah) (copV x.1)))
theorem QNz : Meets Tryz.prog 170 (strip QAN) := QbI Qfq fun x hok => Qjj x.1 hok
end
end Go.Proofs.YtkngeegkjhipeaaGreat.K
