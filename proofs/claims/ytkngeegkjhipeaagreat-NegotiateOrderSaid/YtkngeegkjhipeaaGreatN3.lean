import Derived.Test.YtkngeegkjhipeaaGreatN2
set_option linter.unusedSimpArgs false
set_option linter.unusedVariables false
set_option linter.unusedSectionVars false
namespace Go.Proofs.YtkngeegkjhipeaaGreat.K
open Go.RowKit
noncomputable section
def okT (n : Nat) (x : ValT) : Bool := okV n (Val.of x)
theorem Qsw {n : Nat} {v : Val} : okT n v.un = okV n v := by rw [okT, Val.of_un]
theorem Qci {n : Nat} {x : ValT} (h : okT (n + 1) x = true) :
  (x.1 = 1 ∨ x.1 = 2 ∨ x.1 = 12 ∨ x.1 = 48) ∧ x.2.2.1 = (x.1 == 48) ∧ (x.2.2.1 = true → x.2.1 = []) ∧ (x.2.2.1 = false → x.2.2.2.1 = []) ∧ x.2.1.length ≤ 100000 ∧ x.2.2.2.1.length ≤ 100000 ∧ ∀ v ∈ x.2.2.2.1, okV n v = true := by
 obtain ⟨t, b, q, es, _⟩ := x
 exact Qw1 h
def copLF : Nat → List ValT → Bool
 | 0, _ => false
 | n + 1, l => decide (l.length ≤ 100000) && l.all (okT n)
theorem QKm {n : Nat} {es : List Val} (hl : es.length ≤ 100000) (h : ∀ v ∈ es, okV n v = true) : copLF (n + 1) (es.map Val.un) = true := by
 simp only [copLF, Bool.and_eq_true, decide_eq_true_eq, List.length_map, List.all_eq_true, List.mem_map]
 refine ⟨hl, ?_⟩
 rintro x ⟨v, hv, rfl⟩
 rw [Qsw]
 exact h v hv
theorem Qyq {n : Nat} {x : ValT} (h : okT n x = true) : copLF n (x.2.2.2.1.map Val.un) = true := by
 cases n with
 | zero => obtain ⟨t, b, q, es, _⟩ := x; cases h
 | succ n =>
  obtain ⟨_, _, _, _, _, h6, h7⟩ := Qci h
  exact QKm h6 h7
theorem Qcq (es : List Val) : List.map Val.of (List.map Val.un es) = es := by
 rw [List.map_map]
 have : (Val.of ∘ Val.un) = id := funext Val.of_un
 rw [this, List.map_id]
def copV (l : List ValT) : List ValT := l
def copOk (l : List ValT) : Bool := copLF 12 l
theorem Qsy {n : Nat} {x : ValT} (h : okT n x = true) : x.2.1.length ≤ 100000 := by
 cases n with
 | zero => obtain ⟨t, b, q, es, _⟩ := x; cases h
 | succ n => exact (Qci h).2.2.2.2.1
theorem QnF (l : List ValT) (h : copOk l = true) : ∃ N, copLF N l = true := ⟨12, h⟩
theorem QF3 : Qag Tryz.prog 176 := .inr ⟨by decide, _, Tryz.func176, by kernel_rfl, by kernel_rfl⟩
def Qf1 [Fuel] : Ent := spec (.pr (.sl Qai) .nil) (fun x => (copLF fuel x.1)) (fun x => (.t (.sl Qai) (copV x.1)))
theorem QJB : Qag Tryz.prog 176 := QF3
section
variable [Fuel] [Nonempty (PLift (Meets Tryz.prog 176 (strip Qf1)))]
theorem QIj : Meets Tryz.prog 176 (strip Qf1) := (Classical.choice (inferInstance : Nonempty (PLift (Meets Tryz.prog 176 (strip Qf1))))).down
def copIn [Fuel] (l : List ValT) : Bool := copLF (fuel + 1) l
noncomputable def QGk : List DO := dT Tryz.f176 5
def Qfx : Fg := ⟨[(3, none), (6, some (.sl Qai)), (7, some tI), (8, some tI)], [(3, none), (23, none)]⟩
noncomputable def Qg7 : TC := (.sq (.reg (rT Tryz.f176 3)) (.sq (.cd (.t 9) .sk (.fg ⟨[(3, none)], [(3, none), (23, none)]⟩ (.ex 0))) (.sq (.bk 1 (.sq (.reg (rT Tryz.f176 4)) (.sq (.dr QGk [(0, [5]), (1, [5]), (2, []), (3, [5]), (4, [5]), (5, []), (6, [5]), (7, [5]), (8, [5]), (9, [5])] (.of [0, 1, 2, 3, 4, 5, 6, 7, 8, 9])) (.reg (rT Tryz.f176 6))))) (.reg (rT Tryz.f176 7)))))
noncomputable def QtO : TC := (.sq (.reg (rT Tryz.f176 0)) (.sq (.reg (rT Tryz.f176 1)) (.sq (.sq (.reg (rT Tryz.f176 2)) (.bk 0 (.nw 3 163 (.lp 0 Qfx Qg7)))) (.sq (.reg (rT Tryz.f176 8)) .rt))))
def QB8 : List (RV × Option Ty) := [((.t 2), some (.sl Qai))]
abbrev Qmr : Sh := ⟨[(3, .ms 3), (6, .ty (.sl Qai)), (7, .ty tI), (8, .ty tI)], [(3, .arr 163 Qai), (23, .no)]⟩
def QlW (x6 : List ValT) (x7 x8 : Int) (y3 : List ValT) : VS := Qmr.st ((), x6, x7, x8, ()) (y3, (), ())
abbrev QrG : Sh := ⟨[(3, .ms 3)], [(3, .arr 163 Qai), (23, .no)]⟩
def Qde (y3 : List ValT) : VS := QrG.st ((), ()) (y3, (), ())
def QKS : VS → Option (Bool × List (Bool × Exit × VS)) := mkL Qmr (fun x y => (rngOk x.2.1 x.2.2.1 x.2.2.2.1 && copIn x.2.1 && decide (y.1.length + x.2.1.length ≤ 200000 + x.2.2.2.1.toNat))) (fun x y => [(true, .exit 0, Qde (y.1 ++ x.2.1.drop x.2.2.2.1.toNat))])
def QjP : G := ⟨TYs, [], 26, EL [(176, Qf1), (178, QBi)], keeps, (Ls [QKS]), IL [], RL []⟩
def Qyw (x6 : List ValT) (x7 x8 : Int) (y3 : List ValT) : Option (Exit × VS) :=
 let a2 := ((lgt Qai x6 (Int.toNat x8)).2)
 let a1 := ((lgt Qai x6 (Int.toNat x8)).1, ((clonB (a2.1)), ((a2.2).1, ((List.map Val.of (List.map Val.un (List.map Val.of (copV (List.map Val.un (((a2.2).2).1)))))), ()))))
 br (ilt x8 x7) (br (cIx x6 x8) (br (Qyu (a2.1)) (br (copLF fuel (List.map Val.un (((a2.2).2).1))) (br (cApp y3 ([a1]) 64) (some (.normal, QlW x6 x7 (iadd .i64 x8 1) (y3 ++ ([a1])))) none) none) none) none) (some (.exit 0, Qde y3))
noncomputable def QhL (x6 : List ValT) (x7 x8 : Int) (y3 : List ValT) : Option (Exit × VS) := loopF (Qaj QjP Qfx Qg7) (QlW x6 x7 x8 y3)
noncomputable def QkG (x6 : List ValT) (x7 x8 : Int) (y3 : List ValT) : Option (Exit × VS) :=
 let a2 := ((lgt Qai x6 (Int.toNat x8)).2)
 let a1 := ((lgt Qai x6 (Int.toNat x8)).1, ((clonB (a2.1)), ((a2.2).1, ((List.map Val.of (List.map Val.un (List.map Val.of (copV (List.map Val.un (((a2.2).2).1)))))), ()))))
 br (ilt x8 x7) (br (cIx x6 x8) (br (Qyu (a2.1)) (br (copLF fuel (List.map Val.un (((a2.2).2).1))) (br (cApp y3 ([a1]) 64) (QhL x6 x7 (iadd .i64 x8 1) (y3 ++ ([a1]))) none) none) none) none) (some (.exit 0, Qde y3))
def Qh7 (x6 : List ValT) (x7 x8 : Int) (y3 : List ValT) : Option (Exit × VS) := some (.exit 0, Qde (y3 ++ x6.drop x8.toNat))
theorem QGN (x6 : List ValT) (x7 x8 : Int) (y3 : List ValT) : Qaj QjP Qfx Qg7 (QlW x6 x7 x8 y3) = Qyw x6 x7 x8 y3 := by kernel_rfl
theorem QsL (x6 : List ValT) (x7 x8 : Int) (y3 : List ValT) : QhL x6 x7 x8 y3 = QkG x6 x7 x8 y3 := (Qaq _ _).trans (by
 rw [QGN]
 simp only [Qyw, QkG, QaE, nxt_n, nxt_r, nxt_e, nxt_0]
 rfl)
def QC9 (p0 : List ValT) : Option (V × List VO) := br (rngOk p0 (llen p0) (0 : Int) && copIn p0 && decide (([] : List ValT).length + p0.length ≤ 200000 + (0 : Int).toNat)) (some (.t (.sl Qai) (([] : List ValT) ++ p0.drop (0 : Int).toNat), [])) none
theorem e_f176 (p0 : List ValT) : runF QjP QtO QB8 false [.t (.sl Qai) p0] [] = QC9 p0 := by kernel_rfl
theorem QQo : GOk Tryz.prog QjP := Qao _ (gA (gC QJB QIj (gC QRd QOj gN)))
theorem QIZ (x6 : List ValT) (x7 x8 : Int) (y3 : List ValT) (h : (rngOk x6 x7 x8 && copIn x6 && decide (y3.length + x6.length ≤ 200000 + x8.toNat)) = true) : QhL x6 x7 x8 y3 = Qh7 x6 x7 x8 y3 := by
 simp only [Bool.and_eq_true, decide_eq_true_eq] at h
 obtain ⟨⟨h0, hc⟩, h2⟩ := h
 obtain ⟨rfl, h3, k, rfl, hk⟩ := rng_k h0
 clear h0
 rw [Int.toNat_natCast] at h2
 simp only [copIn, copLF, Bool.and_eq_true, List.all_eq_true] at hc
 revert y3
 refine Qav x6 (fun k => ∀ y3 : List ValT, y3.length + x6.length ≤ 200000 + k → QhL x6 (x6.length : Int) (k : Int) y3 = Qh7 x6 (x6.length : Int) (k : Int) y3) ?_ ?_ k hk
 ·intro y3 _
  rw [QsL]
  simp [QkG, Qh7, Qaz, Qae]
 ·intro k hk ih y3 hy
  rw [QsL]
  have hx := hc.2 x6[k] (List.getElem_mem hk)
  have e1 : Qyu x6[k].2.1 = true := decide_eq_true (by have := Qsy hx; omega)
  have e2 : copLF fuel (List.map Val.un x6[k].2.2.2.1) = true := Qyq hx
  simp only [QkG, Qaz, Qay, hk, decide_true, Qac, Int.toNat_natCast, add1 (show k < 4611686018427387904 by omega), QaG (y := Qai) hk, e1, e2, clonB, copV, Qcq]
  rw [cAppN (by omega) (by simp only [List.length_singleton]; omega), Qac, ih _ (by simp only [List.length_append, List.length_singleton]; omega)]
  simp only [Qh7, Int.toNat_natCast, List.drop_eq_getElem_cons hk, List.append_assoc, List.singleton_append]
theorem QEz : ∀ S l p, QjP.L 0 (fgt Qfx S) = some (true, l) → pickA l = some p → loopF (Qaj QjP Qfx Qg7) S = some p :=
 QaF (s := Qmr) ⟨by decide, by decide⟩ (by kernel_rfl) fun x y hok p hp => by
 simp only [Qar, Qap] at hp
 exact (QIZ x.2.1 x.2.2.1 x.2.2.2.1 y.1 (by simpa using hok)).trans hp
theorem QO9 : QtO.lok QjP := by
 repeat (first | exact trivial | exact QEz | refine ⟨?_, ?_⟩)
theorem s_f176 (l : List ValT) (h : copLF (fuel + 1) l = true) : QC9 l = some (.t (.sl Qai) (copV l), []) := by
 have hl : l.length ≤ 100000 := by simp only [copLF, Bool.and_eq_true, decide_eq_true_eq] at h; exact h.1
 simp only [QC9, rng_0 hl, show copIn l = true from h, Bool.true_and, List.length_nil, Int.toNat_zero, List.drop_zero, List.nil_append]
 rw [decide_eq_true (by omega), Qac]
 rfl
theorem QOY : Meets Tryz.prog 176 (runF QjP QtO QB8 false) := mG Tryz.func176 (by kernel_rfl) Tryz.ntmps176 (by kernel_rfl) QQo QO9
end
theorem QhH : ∀ N : Nat, Meets Tryz.prog 176 (strip (@Qf1 ⟨N⟩))
 | 0 => QbJ fun x => by first | rfl | simp [copLF]
 | N + 1 => by
  letI : Fuel := ⟨N⟩
  haveI : Nonempty (PLift (Meets Tryz.prog 176 (strip Qf1))) := ⟨⟨QhH N⟩⟩
  exact Qaf QOY fun x hok => (e_f176 x.1).trans (s_f176 x.1 hok)
def QBj : Ent := spec (.pr (.sl Qai) .nil) (fun x => (copOk x.1)) (fun x => (.t (.sl Qai) (copV x.1)))
theorem QOk : Meets Tryz.prog 176 (strip QBj) := QbK QhH fun x hok => QnF x.1 hok
theorem Qjp (l : List ValT) (h : copOk l = true) : ∃ N, copLF N l = true := ⟨12, h⟩
theorem QF6 : Qag Tryz.prog 170 := .inr ⟨by decide, _, Tryz.func170, by kernel_rfl, by kernel_rfl⟩
def Qf3 [Fuel] : Ent := spec (.pr (.sl Qai) .nil) (fun x => (copLF fuel x.1)) (fun x => (.t (.sl Qai) (copV x.1)))
theorem QJD : Qag Tryz.prog 170 := QF6
section
variable [Fuel] [Nonempty (PLift (Meets Tryz.prog 170 (strip Qf3)))]
theorem QIl : Meets Tryz.prog 170 (strip Qf3) := (Classical.choice (inferInstance : Nonempty (PLift (Meets Tryz.prog 170 (strip Qf3))))).down
def Qtz [Fuel] (l : List ValT) : Bool := copLF (fuel + 1) l
def QfB : Fg := ⟨[(0, some (.sl Qai)), (3, none), (4, some tI)], [(3, none), (28, none)]⟩
noncomputable def Qhb : TC := (.sq (.sq (.reg (rT Tryz.f170 3)) (.cd (.t 9) .sk (.fg ⟨[(3, none)], [(3, none), (28, none)]⟩ (.ex 0)))) (.sq (.bk 1 (.sq (.reg (rT Tryz.f170 4)) (.sq (.reg (rT Tryz.f170 5)) (.sq (.reg (rT Tryz.f170 6)) (.reg (rT Tryz.f170 7)))))) (.reg (rT Tryz.f170 8))))
noncomputable def QtT : TC := (.sq (.reg (rT Tryz.f170 0)) (.sq (.reg (rT Tryz.f170 1)) (.sq (.sq (.reg (rT Tryz.f170 2)) (.bk 0 (.nf 5 1 5 20501 (.nw 3 163 (.lp 0 QfB Qhb))))) (.sq (.reg (rT Tryz.f170 9)) .rt))))
def QCd : List (RV × Option Ty) := [((.t 2), some (.sl Qai))]
abbrev Qmv : Sh := ⟨[(0, .ty (.sl Qai)), (3, .ms 3), (4, .ty tI)], [(3, .arr 163 Qai), (28, .no)]⟩
def Ql0 (x0 : List ValT) (x4 : Int) (y3 : List ValT) : VS := Qmv.st (x0, (), x4, ()) (y3, (), ())
abbrev QrK : Sh := ⟨[(3, .ms 3)], [(3, .arr 163 Qai), (28, .no)]⟩
def Qdi (y3 : List ValT) : VS := QrK.st ((), ()) (y3, (), ())
def QKW : VS → Option (Bool × List (Bool × Exit × VS)) := mkL Qmv (fun x y => (idxOk x.1 x.2.2.1 && Qtz x.1 && decide (y.1.length + x.1.length ≤ 200000 + x.2.2.1.toNat))) (fun x y => [(true, .exit 0, Qdi (y.1 ++ x.1.drop x.2.2.1.toNat))])
def QjR : G := ⟨TYs, [16], 30, EL [(170, Qf3)], keeps, (Ls [QKW]), IL [], RL []⟩
def QyA (x0 : List ValT) (x4 : Int) (y3 : List ValT) : Option (Exit × VS) :=
 let a1 := lgt Qai x0 (Int.toNat x4)
 let a2 := (((a1.2).2).1, ((List.map Val.of (copV (List.map Val.un ((((a1.2).2).2).1)))), ()))
 br (ilt x4 (llen x0)) (br (cIx x0 x4) (br (cApp ([] : List Int) ((a1.2).1) 1) (br (copLF fuel (List.map Val.un ((((a1.2).2).2).1))) (br (cApp y3 ([(a1.1, ((([] : List Int) ++ ((a1.2).1)), a2))]) 64) (some (.normal, Ql0 x0 (iadd .i64 x4 1) (y3 ++ ([(a1.1, ((([] : List Int) ++ ((a1.2).1)), a2))])))) none) none) none) none) (some (.exit 0, Qdi y3))
noncomputable def QhO (x0 : List ValT) (x4 : Int) (y3 : List ValT) : Option (Exit × VS) := loopF (Qaj QjR QfB Qhb) (Ql0 x0 x4 y3)
noncomputable def QkJ (x0 : List ValT) (x4 : Int) (y3 : List ValT) : Option (Exit × VS) :=
 let a1 := lgt Qai x0 (Int.toNat x4)
 let a2 := (((a1.2).2).1, ((List.map Val.of (copV (List.map Val.un ((((a1.2).2).2).1)))), ()))
 br (ilt x4 (llen x0)) (br (cIx x0 x4) (br (cApp ([] : List Int) ((a1.2).1) 1) (br (copLF fuel (List.map Val.un ((((a1.2).2).2).1))) (br (cApp y3 ([(a1.1, ((([] : List Int) ++ ((a1.2).1)), a2))]) 64) (QhO x0 (iadd .i64 x4 1) (y3 ++ ([(a1.1, ((([] : List Int) ++ ((a1.2).1)), a2))]))) none) none) none) none) (some (.exit 0, Qdi y3))
def Qh9 (x0 : List ValT) (x4 : Int) (y3 : List ValT) : Option (Exit × VS) := some (.exit 0, Qdi (y3 ++ x0.drop x4.toNat))
theorem QGR (x0 : List ValT) (x4 : Int) (y3 : List ValT) : Qaj QjR QfB Qhb (Ql0 x0 x4 y3) = QyA x0 x4 y3 := by kernel_rfl
theorem QsP (x0 : List ValT) (x4 : Int) (y3 : List ValT) : QhO x0 x4 y3 = QkJ x0 x4 y3 := (Qaq _ _).trans (by
 rw [QGR]
 simp only [QyA, QkJ, QaE, nxt_n, nxt_r, nxt_e, nxt_0]
 rfl)
def QDe (p0 : List ValT) : Option (V × List VO) := br (idxOk p0 (0 : Int) && Qtz p0 && decide (([] : List ValT).length + p0.length ≤ 200000 + (0 : Int).toNat)) (some (.t (.sl Qai) (([] : List ValT) ++ p0.drop (0 : Int).toNat), [])) none
theorem e_f170 (p0 : List ValT) : runF QjR QtT QCd false [.t (.sl Qai) p0] [] = QDe p0 := by kernel_rfl
theorem QQt : GOk Tryz.prog QjR := Qao _ (gA (gC QJD QIl gN))
theorem QI3 (x0 : List ValT) (x4 : Int) (y3 : List ValT) (h : (idxOk x0 x4 && Qtz x0 && decide (y3.length + x0.length ≤ 200000 + x4.toNat)) = true) : QhO x0 x4 y3 = Qh9 x0 x4 y3 := by
 simp only [Bool.and_eq_true, decide_eq_true_eq, idxOk] at h
 obtain ⟨⟨⟨h0, h1, h3⟩, hc⟩, h2⟩ := h
 obtain ⟨k, rfl⟩ := Int.eq_ofNat_of_zero_le h0
 rw [Int.toNat_natCast] at h2
 simp only [Qtz, copLF, Bool.and_eq_true, List.all_eq_true] at hc
 revert y3
 refine Qav x0 (fun k => ∀ y3 : List ValT, y3.length + x0.length ≤ 200000 + k → QhO x0 (k : Int) y3 = Qh9 x0 (k : Int) y3) ?_ ?_ k (by omega)
 ·intro y3 _
  rw [QsP]
  simp [QkJ, Qh9, ilt, llen, Qae]
 ·intro k hk ih y3 hy
  rw [QsP]
  have hx := hc.2 x0[k] (List.getElem_mem hk)
  have e2 : copLF fuel (List.map Val.un x0[k].2.2.2.1) = true := Qyq hx
  simp only [QkJ, show ilt (k : Int) (llen x0) = true from decide_eq_true (by simp only [llen]; omega), Qay, hk, decide_true, Qac, Int.toNat_natCast, add1 (show k < 4611686018427387904 by omega), QaG (y := Qai) hk, e2, copV, Qcq]
  rw [cAppN (by omega) (by have := Qsy hx; simp only [List.length_nil]; omega), Qac, cAppN (by omega) (by simp only [List.length_singleton]; omega), Qac, ih _ (by simp only [List.length_append, List.length_singleton]; omega)]
  simp only [Qh9, Int.toNat_natCast, List.drop_eq_getElem_cons hk, List.append_assoc, List.singleton_append, List.nil_append]
theorem QED : ∀ S l p, QjR.L 0 (fgt QfB S) = some (true, l) → pickA l = some p → loopF (Qaj QjR QfB Qhb) S = some p :=
 QaF (s := Qmv) ⟨by decide, by decide⟩ (by kernel_rfl) fun x y hok p hp => by
 simp only [Qar, Qap] at hp
 exact (QI3 x.1 x.2.2.1 y.1 (by simpa using hok)).trans hp
theorem QPe : QtT.lok QjR := by
 repeat (first | exact trivial | exact QED | refine ⟨?_, ?_⟩)
theorem s_f170 (l : List ValT) (h : copLF (fuel + 1) l = true) : QDe l = some (.t (.sl Qai) (copV l), []) := by
 have hl : l.length ≤ 100000 := by simp only [copLF, Bool.and_eq_true, decide_eq_true_eq] at h; exact h.1
 simp only [QDe, show idxOk l 0 = true from decide_eq_true (by omega), show Qtz l = true from h, Bool.true_and, List.length_nil, Int.toNat_zero, List.drop_zero, List.nil_append]
 rw [decide_eq_true (by omega), Qac]
 rfl
theorem QO0 : Meets Tryz.prog 170 (runF QjR QtT QCd false) := mG Tryz.func170 (by kernel_rfl) Tryz.ntmps170 (by kernel_rfl) QQt QPe
end
theorem Qfq : ∀ N : Nat, Meets Tryz.prog 170 (strip (@Qf3 ⟨N⟩))
 | 0 => QbJ fun x => by first | rfl | simp [copLF]
 | N + 1 => by
  letI : Fuel := ⟨N⟩
  haveI : Nonempty (PLift (Meets Tryz.prog 170 (strip Qf3))) := ⟨⟨Qfq N⟩⟩
  exact Qaf QO0 fun x hok => (e_f170 x.1).trans (s_f170 x.1 hok)
def QBn : Ent := spec (.pr (.sl Qai) .nil) (fun x => (copOk x.1)) (fun x => (.t (.sl Qai) (copV x.1)))
theorem QOo : Meets Tryz.prog 170 (strip QBn) := QbK Qfq fun x hok => Qjp x.1 hok
end
end Go.Proofs.YtkngeegkjhipeaaGreat.K
