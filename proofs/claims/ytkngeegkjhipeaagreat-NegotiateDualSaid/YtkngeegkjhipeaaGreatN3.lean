import Derived.Test.YtkngeegkjhipeaaGreatN2
set_option linter.unusedSimpArgs false
set_option linter.unusedVariables false
set_option linter.unusedSectionVars false
namespace Go.Proofs.YtkngeegkjhipeaaGreat.K
open Go.RowKit
noncomputable section
def okT (n : Nat) (x : ValT) : Bool := okV n (Val.of x)
theorem Qr6 {n : Nat} {v : Val} : okT n v.un = okV n v := by rw [okT, Val.of_un]
theorem Qch {n : Nat} {x : ValT} (h : okT (n + 1) x = true) :
  (x.1 = 1 ∨ x.1 = 2 ∨ x.1 = 12 ∨ x.1 = 48) ∧ x.2.2.1 = (x.1 == 48) ∧ (x.2.2.1 = true → x.2.1 = []) ∧ (x.2.2.1 = false → x.2.2.2.1 = []) ∧ x.2.1.length ≤ 100000 ∧ x.2.2.2.1.length ≤ 100000 ∧ ∀ v ∈ x.2.2.2.1, okV n v = true := by
 obtain ⟨t, b, q, es, _⟩ := x
 exact Qwq h
def copLF : Nat → List ValT → Bool
 | 0, _ => false
 | n + 1, l => decide (l.length ≤ 100000) && l.all (okT n)
theorem QJH {n : Nat} {es : List Val} (hl : es.length ≤ 100000) (h : ∀ v ∈ es, okV n v = true) : copLF (n + 1) (es.map Val.un) = true := by
 simp only [copLF, Bool.and_eq_true, decide_eq_true_eq, List.length_map, List.all_eq_true, List.mem_map]
 refine ⟨hl, ?_⟩
 rintro x ⟨v, hv, rfl⟩
 rw [Qr6]
 exact h v hv
theorem QxN {n : Nat} {x : ValT} (h : okT n x = true) : copLF n (x.2.2.2.1.map Val.un) = true := by
 cases n with
 | zero => obtain ⟨t, b, q, es, _⟩ := x; cases h
 | succ n =>
  obtain ⟨_, _, _, _, _, h6, h7⟩ := Qch h
  exact QJH h6 h7
theorem Qcq (es : List Val) : List.map Val.of (List.map Val.un es) = es := by
 rw [List.map_map]
 have : (Val.of ∘ Val.un) = id := funext Val.of_un
 rw [this, List.map_id]
def copV (l : List ValT) : List ValT := l
def copOk (l : List ValT) : Bool := copLF 12 l
theorem Qr8 {n : Nat} {x : ValT} (h : okT n x = true) : x.2.1.length ≤ 100000 := by
 cases n with
 | zero => obtain ⟨t, b, q, es, _⟩ := x; cases h
 | succ n => exact (Qch h).2.2.2.2.1
theorem Qnq (l : List ValT) (h : copOk l = true) : ∃ N, copLF N l = true := ⟨12, h⟩
theorem QFl : Qag Tryz.prog 176 := .inr ⟨by decide, _, Tryz.func176, by kernel_rfl, by kernel_rfl⟩
def Qf0 [Fuel] : Ent := spec (.pr (.sl Qah) .nil) (fun x => (copLF fuel x.1)) (fun x => (.t (.sl Qah) (copV x.1)))
theorem QIW : Qag Tryz.prog 176 := QFl
section
variable [Fuel] [Nonempty (PLift (Meets Tryz.prog 176 (strip Qf0)))]
theorem QHC : Meets Tryz.prog 176 (strip Qf0) := (Classical.choice (inferInstance : Nonempty (PLift (Meets Tryz.prog 176 (strip Qf0))))).down
def copIn [Fuel] (l : List ValT) : Bool := copLF (fuel + 1) l
noncomputable def QFC : List DO := dT Tryz.f176 5
def Qfy : Fg := ⟨[(3, none), (6, some (.sl Qah)), (7, some tI), (8, some tI)], [(3, none), (23, none)]⟩
noncomputable def Qg6 : TC := (.sq (.reg (rT Tryz.f176 3)) (.sq (.cd (.t 9) .sk (.fg ⟨[(3, none)], [(3, none), (23, none)]⟩ (.ex 0))) (.sq (.bk 1 (.sq (.reg (rT Tryz.f176 4)) (.sq (.dr QFC [(0, [5]), (1, [5]), (2, []), (3, [5]), (4, [5]), (5, []), (6, [5]), (7, [5]), (8, [5]), (9, [5])] (.of [0, 1, 2, 3, 4, 5, 6, 7, 8, 9])) (.reg (rT Tryz.f176 6))))) (.reg (rT Tryz.f176 7)))))
noncomputable def Qtn : TC := (.sq (.reg (rT Tryz.f176 0)) (.sq (.reg (rT Tryz.f176 1)) (.sq (.sq (.reg (rT Tryz.f176 2)) (.bk 0 (.nw 3 163 (.lp 0 Qfy Qg6)))) (.sq (.reg (rT Tryz.f176 8)) .rt))))
def QBr : List (RV × Option Ty) := [((.t 2), some (.sl Qah))]
abbrev Qmi : Sh := ⟨[(3, .ms 3), (6, .ty (.sl Qah)), (7, .ty tI), (8, .ty tI)], [(3, .arr 163 Qah), (23, .no)]⟩
def QlN (x6 : List ValT) (x7 x8 : Int) (y3 : List ValT) : VS := Qmi.st ((), x6, x7, x8, ()) (y3, (), ())
abbrev Qro : Sh := ⟨[(3, .ms 3)], [(3, .arr 163 Qah), (23, .no)]⟩
def Qde (y3 : List ValT) : VS := Qro.st ((), ()) (y3, (), ())
def QKc : VS → Option (Bool × List (Bool × Exit × VS)) := mkL Qmi (fun x y => (rngOk x.2.1 x.2.2.1 x.2.2.2.1 && copIn x.2.1 && decide (y.1.length + x.2.1.length ≤ 200000 + x.2.2.2.1.toNat))) (fun x y => [(true, .exit 0, Qde (y.1 ++ x.2.1.drop x.2.2.2.1.toNat))])
def QjJ : G := ⟨TYs, [], 26, EL [(176, Qf0), (178, QAC)], keeps, (Ls [QKc]), IL [], RL []⟩
def QxT (x6 : List ValT) (x7 x8 : Int) (y3 : List ValT) : Option (Exit × VS) :=
 let a2 := ((lgt Qah x6 (Int.toNat x8)).2)
 let a1 := ((lgt Qah x6 (Int.toNat x8)).1, ((clonB (a2.1)), ((a2.2).1, ((List.map Val.of (List.map Val.un (List.map Val.of (copV (List.map Val.un (((a2.2).2).1)))))), ()))))
 br (ilt x8 x7) (br (cIx x6 x8) (br (QxR (a2.1)) (br (copLF fuel (List.map Val.un (((a2.2).2).1))) (br (cApp y3 ([a1]) 64) (some (.normal, QlN x6 x7 (iadd .i64 x8 1) (y3 ++ ([a1])))) none) none) none) none) (some (.exit 0, Qde y3))
noncomputable def QhI (x6 : List ValT) (x7 x8 : Int) (y3 : List ValT) : Option (Exit × VS) := loopF (Qaj QjJ Qfy Qg6) (QlN x6 x7 x8 y3)
noncomputable def QkA (x6 : List ValT) (x7 x8 : Int) (y3 : List ValT) : Option (Exit × VS) :=
 let a2 := ((lgt Qah x6 (Int.toNat x8)).2)
 let a1 := ((lgt Qah x6 (Int.toNat x8)).1, ((clonB (a2.1)), ((a2.2).1, ((List.map Val.of (List.map Val.un (List.map Val.of (copV (List.map Val.un (((a2.2).2).1)))))), ()))))
 br (ilt x8 x7) (br (cIx x6 x8) (br (QxR (a2.1)) (br (copLF fuel (List.map Val.un (((a2.2).2).1))) (br (cApp y3 ([a1]) 64) (QhI x6 x7 (iadd .i64 x8 1) (y3 ++ ([a1]))) none) none) none) none) (some (.exit 0, Qde y3))
def Qh4 (x6 : List ValT) (x7 x8 : Int) (y3 : List ValT) : Option (Exit × VS) := some (.exit 0, Qde (y3 ++ x6.drop x8.toNat))
theorem QF6 (x6 : List ValT) (x7 x8 : Int) (y3 : List ValT) : Qaj QjJ Qfy Qg6 (QlN x6 x7 x8 y3) = QxT x6 x7 x8 y3 := by kernel_rfl
theorem Qsl (x6 : List ValT) (x7 x8 : Int) (y3 : List ValT) : QhI x6 x7 x8 y3 = QkA x6 x7 x8 y3 := (Qaq _ _).trans (by
 rw [QF6]
 simp only [QxT, QkA, QaE, nxt_n, nxt_r, nxt_e, nxt_0]
 rfl)
def QCs (p0 : List ValT) : Option (V × List VO) := br (rngOk p0 (llen p0) (0 : Int) && copIn p0 && decide (([] : List ValT).length + p0.length ≤ 200000 + (0 : Int).toNat)) (some (.t (.sl Qah) (([] : List ValT) ++ p0.drop (0 : Int).toNat), [])) none
theorem e_f176 (p0 : List ValT) : runF QjJ Qtn QBr false [.t (.sl Qah) p0] [] = QCs p0 := by kernel_rfl
theorem QPA : GOk Tryz.prog QjJ := Qan _ (gA (gC QIW QHC (gC QQq QNw gN)))
theorem QIh (x6 : List ValT) (x7 x8 : Int) (y3 : List ValT) (h : (rngOk x6 x7 x8 && copIn x6 && decide (y3.length + x6.length ≤ 200000 + x8.toNat)) = true) : QhI x6 x7 x8 y3 = Qh4 x6 x7 x8 y3 := by
 simp only [Bool.and_eq_true, decide_eq_true_eq] at h
 obtain ⟨⟨h0, hc⟩, h2⟩ := h
 obtain ⟨rfl, h3, k, rfl, hk⟩ := rng_k h0
 clear h0
 rw [Int.toNat_natCast] at h2
 simp only [copIn, copLF, Bool.and_eq_true, List.all_eq_true] at hc
 revert y3
 refine Qav x6 (fun k => ∀ y3 : List ValT, y3.length + x6.length ≤ 200000 + k → QhI x6 (x6.length : Int) (k : Int) y3 = Qh4 x6 (x6.length : Int) (k : Int) y3) ?_ ?_ k hk
 ·intro y3 _
  rw [Qsl]
  simp [QkA, Qh4, Qaz, Qae]
 ·intro k hk ih y3 hy
  rw [Qsl]
  have hx := hc.2 x6[k] (List.getElem_mem hk)
  have e1 : QxR x6[k].2.1 = true := decide_eq_true (by have := Qr8 hx; omega)
  have e2 : copLF fuel (List.map Val.un x6[k].2.2.2.1) = true := QxN hx
  simp only [QkA, Qaz, Qay, hk, decide_true, Qac, Int.toNat_natCast, add1 (show k < 4611686018427387904 by omega), QaG (y := Qah) hk, e1, e2, clonB, copV, Qcq]
  rw [cAppN (by omega) (by simp only [List.length_singleton]; omega), Qac, ih _ (by simp only [List.length_append, List.length_singleton]; omega)]
  simp only [Qh4, Int.toNat_natCast, List.drop_eq_getElem_cons hk, List.append_assoc, List.singleton_append]
theorem QDT : ∀ S l p, QjJ.L 0 (fgt Qfy S) = some (true, l) → pickA l = some p → loopF (Qaj QjJ Qfy Qg6) S = some p :=
 QaF (s := Qmi) ⟨by decide, by decide⟩ (by kernel_rfl) fun x y hok p hp => by
 simp only [Qas, Qap] at hp
 exact (QIh x.2.1 x.2.2.1 x.2.2.2.1 y.1 (by simpa using hok)).trans hp
theorem QOl : Qtn.lok QjJ := by
 repeat (first | exact trivial | exact QDT | refine ⟨?_, ?_⟩)
theorem s_f176 (l : List ValT) (h : copLF (fuel + 1) l = true) : QCs l = some (.t (.sl Qah) (copV l), []) := by
 have hl : l.length ≤ 100000 := by simp only [copLF, Bool.and_eq_true, decide_eq_true_eq] at h; exact h.1
 simp only [QCs, rng_0 hl, show copIn l = true from h, Bool.true_and, List.length_nil, Int.toNat_zero, List.drop_zero, List.nil_append]
 rw [decide_eq_true (by omega), Qac]
 rfl
theorem QOb : Meets Tryz.prog 176 (runF QjJ Qtn QBr false) := mG Tryz.func176 (by kernel_rfl) Tryz.ntmps176 (by kernel_rfl) QPA QOl
end
theorem QhE : ∀ N : Nat, Meets Tryz.prog 176 (strip (@Qf0 ⟨N⟩))
 | 0 => QbJ fun x => by first | rfl | simp [copLF]
 | N + 1 => by
  letI : Fuel := ⟨N⟩
  haveI : Nonempty (PLift (Meets Tryz.prog 176 (strip Qf0))) := ⟨⟨QhE N⟩⟩
  exact Qaf QOb fun x hok => (e_f176 x.1).trans (s_f176 x.1 hok)
def QAD : Ent := spec (.pr (.sl Qah) .nil) (fun x => (copOk x.1)) (fun x => (.t (.sl Qah) (copV x.1)))
theorem QNx : Meets Tryz.prog 176 (strip QAD) := QbK QhE fun x hok => Qnq x.1 hok
theorem Qjj (l : List ValT) (h : copOk l = true) : ∃ N, copLF N l = true := ⟨12, h⟩
theorem QFo : Qag Tryz.prog 170 := .inr ⟨by decide, _, Tryz.func170, by kernel_rfl, by kernel_rfl⟩
def Qf2 [Fuel] : Ent := spec (.pr (.sl Qah) .nil) (fun x => (copLF fuel x.1)) (fun x => (.t (.sl Qah) (copV x.1)))
theorem QIY : Qag Tryz.prog 170 := QFo
section
variable [Fuel] [Nonempty (PLift (Meets Tryz.prog 170 (strip Qf2)))]
theorem QHE : Meets Tryz.prog 170 (strip Qf2) := (Classical.choice (inferInstance : Nonempty (PLift (Meets Tryz.prog 170 (strip Qf2))))).down
def Qta [Fuel] (l : List ValT) : Bool := copLF (fuel + 1) l
def QfC : Fg := ⟨[(0, some (.sl Qah)), (3, none), (4, some tI)], [(3, none), (28, none)]⟩
noncomputable def Qha : TC := (.sq (.sq (.reg (rT Tryz.f170 3)) (.cd (.t 9) .sk (.fg ⟨[(3, none)], [(3, none), (28, none)]⟩ (.ex 0)))) (.sq (.bk 1 (.sq (.reg (rT Tryz.f170 4)) (.sq (.reg (rT Tryz.f170 5)) (.sq (.reg (rT Tryz.f170 6)) (.reg (rT Tryz.f170 7)))))) (.reg (rT Tryz.f170 8))))
noncomputable def Qts : TC := (.sq (.reg (rT Tryz.f170 0)) (.sq (.reg (rT Tryz.f170 1)) (.sq (.sq (.reg (rT Tryz.f170 2)) (.bk 0 (.nf 5 1 5 20501 (.nw 3 163 (.lp 0 QfC Qha))))) (.sq (.reg (rT Tryz.f170 9)) .rt))))
def QBw : List (RV × Option Ty) := [((.t 2), some (.sl Qah))]
abbrev Qmm : Sh := ⟨[(0, .ty (.sl Qah)), (3, .ms 3), (4, .ty tI)], [(3, .arr 163 Qah), (28, .no)]⟩
def QlR (x0 : List ValT) (x4 : Int) (y3 : List ValT) : VS := Qmm.st (x0, (), x4, ()) (y3, (), ())
abbrev Qrs : Sh := ⟨[(3, .ms 3)], [(3, .arr 163 Qah), (28, .no)]⟩
def Qdi (y3 : List ValT) : VS := Qrs.st ((), ()) (y3, (), ())
def QKg : VS → Option (Bool × List (Bool × Exit × VS)) := mkL Qmm (fun x y => (idxOk x.1 x.2.2.1 && Qta x.1 && decide (y.1.length + x.1.length ≤ 200000 + x.2.2.1.toNat))) (fun x y => [(true, .exit 0, Qdi (y.1 ++ x.1.drop x.2.2.1.toNat))])
def QjL : G := ⟨TYs, [16], 30, EL [(170, Qf2)], keeps, (Ls [QKg]), IL [], RL []⟩
def QxX (x0 : List ValT) (x4 : Int) (y3 : List ValT) : Option (Exit × VS) :=
 let a1 := lgt Qah x0 (Int.toNat x4)
 let a2 := (((a1.2).2).1, ((List.map Val.of (copV (List.map Val.un ((((a1.2).2).2).1)))), ()))
 br (ilt x4 (llen x0)) (br (cIx x0 x4) (br (cApp ([] : List Int) ((a1.2).1) 1) (br (copLF fuel (List.map Val.un ((((a1.2).2).2).1))) (br (cApp y3 ([(a1.1, ((([] : List Int) ++ ((a1.2).1)), a2))]) 64) (some (.normal, QlR x0 (iadd .i64 x4 1) (y3 ++ ([(a1.1, ((([] : List Int) ++ ((a1.2).1)), a2))])))) none) none) none) none) (some (.exit 0, Qdi y3))
noncomputable def QhL (x0 : List ValT) (x4 : Int) (y3 : List ValT) : Option (Exit × VS) := loopF (Qaj QjL QfC Qha) (QlR x0 x4 y3)
noncomputable def QkD (x0 : List ValT) (x4 : Int) (y3 : List ValT) : Option (Exit × VS) :=
 let a1 := lgt Qah x0 (Int.toNat x4)
 let a2 := (((a1.2).2).1, ((List.map Val.of (copV (List.map Val.un ((((a1.2).2).2).1)))), ()))
 br (ilt x4 (llen x0)) (br (cIx x0 x4) (br (cApp ([] : List Int) ((a1.2).1) 1) (br (copLF fuel (List.map Val.un ((((a1.2).2).2).1))) (br (cApp y3 ([(a1.1, ((([] : List Int) ++ ((a1.2).1)), a2))]) 64) (QhL x0 (iadd .i64 x4 1) (y3 ++ ([(a1.1, ((([] : List Int) ++ ((a1.2).1)), a2))]))) none) none) none) none) (some (.exit 0, Qdi y3))
def Qh6 (x0 : List ValT) (x4 : Int) (y3 : List ValT) : Option (Exit × VS) := some (.exit 0, Qdi (y3 ++ x0.drop x4.toNat))
theorem QGa (x0 : List ValT) (x4 : Int) (y3 : List ValT) : Qaj QjL QfC Qha (QlR x0 x4 y3) = QxX x0 x4 y3 := by kernel_rfl
theorem Qsp (x0 : List ValT) (x4 : Int) (y3 : List ValT) : QhL x0 x4 y3 = QkD x0 x4 y3 := (Qaq _ _).trans (by
 rw [QGa]
 simp only [QxX, QkD, QaE, nxt_n, nxt_r, nxt_e, nxt_0]
 rfl)
def QCx (p0 : List ValT) : Option (V × List VO) := br (idxOk p0 (0 : Int) && Qta p0 && decide (([] : List ValT).length + p0.length ≤ 200000 + (0 : Int).toNat)) (some (.t (.sl Qah) (([] : List ValT) ++ p0.drop (0 : Int).toNat), [])) none
theorem e_f170 (p0 : List ValT) : runF QjL Qts QBw false [.t (.sl Qah) p0] [] = QCx p0 := by kernel_rfl
theorem QPF : GOk Tryz.prog QjL := Qan _ (gA (gC QIY QHE gN))
theorem QIl (x0 : List ValT) (x4 : Int) (y3 : List ValT) (h : (idxOk x0 x4 && Qta x0 && decide (y3.length + x0.length ≤ 200000 + x4.toNat)) = true) : QhL x0 x4 y3 = Qh6 x0 x4 y3 := by
 simp only [Bool.and_eq_true, decide_eq_true_eq, idxOk] at h
 obtain ⟨⟨⟨h0, h1, h3⟩, hc⟩, h2⟩ := h
 obtain ⟨k, rfl⟩ := Int.eq_ofNat_of_zero_le h0
 rw [Int.toNat_natCast] at h2
 simp only [Qta, copLF, Bool.and_eq_true, List.all_eq_true] at hc
 revert y3
 refine Qav x0 (fun k => ∀ y3 : List ValT, y3.length + x0.length ≤ 200000 + k → QhL x0 (k : Int) y3 = Qh6 x0 (k : Int) y3) ?_ ?_ k (by omega)
 ·intro y3 _
  rw [Qsp]
  simp [QkD, Qh6, ilt, llen, Qae]
 ·intro k hk ih y3 hy
  rw [Qsp]
  have hx := hc.2 x0[k] (List.getElem_mem hk)
  have e2 : copLF fuel (List.map Val.un x0[k].2.2.2.1) = true := QxN hx
  simp only [QkD, show ilt (k : Int) (llen x0) = true from decide_eq_true (by simp only [llen]; omega), Qay, hk, decide_true, Qac, Int.toNat_natCast, add1 (show k < 4611686018427387904 by omega), QaG (y := Qah) hk, e2, copV, Qcq]
  rw [cAppN (by omega) (by have := Qr8 hx; simp only [List.length_nil]; omega), Qac, cAppN (by omega) (by simp only [List.length_singleton]; omega), Qac, ih _ (by simp only [List.length_append, List.length_singleton]; omega)]
  simp only [Qh6, Int.toNat_natCast, List.drop_eq_getElem_cons hk, List.append_assoc, List.singleton_append, List.nil_append]
theorem QDX : ∀ S l p, QjL.L 0 (fgt QfC S) = some (true, l) → pickA l = some p → loopF (Qaj QjL QfC Qha) S = some p :=
 QaF (s := Qmm) ⟨by decide, by decide⟩ (by kernel_rfl) fun x y hok p hp => by
 simp only [Qas, Qap] at hp
 exact (QIl x.1 x.2.2.1 y.1 (by simpa using hok)).trans hp
theorem QOq : Qts.lok QjL := by
 repeat (first | exact trivial | exact QDX | refine ⟨?_, ?_⟩)
theorem s_f170 (l : List ValT) (h : copLF (fuel + 1) l = true) : QCx l = some (.t (.sl Qah) (copV l), []) := by
 have hl : l.length ≤ 100000 := by simp only [copLF, Bool.and_eq_true, decide_eq_true_eq] at h; exact h.1
 simp only [QCx, show idxOk l 0 = true from decide_eq_true (by omega), show Qta l = true from h, Bool.true_and, List.length_nil, Int.toNat_zero, List.drop_zero, List.nil_append]
 rw [decide_eq_true (by omega), Qac]
 rfl
theorem QOd : Meets Tryz.prog 170 (runF QjL Qts QBw false) := mG Tryz.func170 (by kernel_rfl) Tryz.ntmps170 (by kernel_rfl) QPF QOq
end
theorem Qfq : ∀ N : Nat, Meets Tryz.prog 170 (strip (@Qf2 ⟨N⟩))
 | 0 => QbJ fun x => by first | rfl | simp [copLF]
 | N + 1 => by
  letI : Fuel := ⟨N⟩
  haveI : Nonempty (PLift (Meets Tryz.prog 170 (strip Qf2))) := ⟨⟨Qfq N⟩⟩
  exact Qaf QOd fun x hok => (e_f170 x.1).trans (s_f170 x.1 hok)
def QAH : Ent := spec (.pr (.sl Qah) .nil) (fun x => (copOk x.1)) (fun x => (.t (.sl Qah) (copV x.1)))
theorem QNB : Meets Tryz.prog 170 (strip QAH) := QbK Qfq fun x hok => Qjj x.1 hok
end
end Go.Proofs.YtkngeegkjhipeaaGreat.K
