import Derived.Test.YtkngeegkjhipeaaGreatN3
set_option linter.unusedSimpArgs false
set_option linter.unusedVariables false
set_option linter.unusedSectionVars false
namespace Go.Proofs.YtkngeegkjhipeaaGreat.K
open Go.RowKit
noncomputable section
theorem Qu9 {n : Nat} {x : ValT} (h : okT (n + 1) x = true) : ∀ k (hk : k < (List.map Val.un x.2.2.2.1).length), okT n (List.map Val.un x.2.2.2.1)[k] = true := by
 intro k hk
 rw [List.getElem_map, Qr5]
 exact (Qcj h).2.2.2.2.2.2 _ (List.getElem_mem _)
def frmV (_x : ValT) : Bool := true
def frmOk (x : ValT) : Bool := okT 12 x
theorem Qnr (x : ValT) (h : frmOk x = true) : ∃ N, okT N x = true := ⟨12, h⟩
theorem Qji (x : ValT) (h : frmOk x = true) : ∃ N, okT N x = true := ⟨12, h⟩
theorem QFv : Qag Tryz.prog 157 := .inr ⟨by decide, _, Tryz.func157, by kernel_rfl, by kernel_rfl⟩
def Qf5 [Fuel] : Ent := spec (.pr Qah .nil) (fun x => (okT fuel x.1)) (fun x => (.t .bool (frmV x.1)))
theorem QI4 : Qag Tryz.prog 157 := QFv
section
variable [Fuel] [Nonempty (PLift (Meets Tryz.prog 157 (strip Qf5)))]
theorem QHN : Meets Tryz.prog 157 (strip Qf5) := (Classical.choice (inferInstance : Nonempty (PLift (Meets Tryz.prog 157 (strip Qf5))))).down
def unfV (_x : ValT) : Bool := false
def unfOk [Fuel] (x : ValT) : Bool := okT fuel x
def QdW [Fuel] (l : List ValT) : Bool := decide (l.length ≤ 100000) && l.all (okT fuel)
noncomputable def Qtp : TC := (.sq (.reg (rT Tryz.f173 0)) (.sq (.reg (rT Tryz.f173 1)) .rt))
def QBA : List (RV × Option Ty) := [((.t 2), some .bool)]
def Qw6 : G := ⟨TYs, [], 6, EL [(157, Qf5)], keeps, (fun _ _ => none), IL [], RL []⟩
def QCB (p0 : ValT) : Option (V × List VO) := br (okT fuel p0) (some (.t .bool (!(frmV p0)), [])) none
theorem e_f173 (p0 : ValT) : runF Qw6 Qtp QBA false [.t Qah p0] [] = QCB p0 := by kernel_rfl
theorem QQn : Qag Tryz.prog 173 := .inr ⟨by decide, _, Tryz.func173, by kernel_rfl, by kernel_rfl⟩
theorem QPz : GOk Tryz.prog Qw6 := Qal _ (gA (gC QI4 QHN gN))
theorem QOm : Qtp.lok Qw6 := by repeat (first | exact trivial | refine ⟨?_, ?_⟩)
theorem s_f173 (x : ValT) (h : unfOk x = true) : QCB x = some (.t .bool (unfV x), []) := by
 simp only [QCB, show okT fuel x = true from h, Qac]
 rfl
def QAL : Ent := spec (.pr Qah .nil) (fun x => (unfOk x.1)) (fun x => (.t .bool (unfV x.1)))
theorem QNx : Meets Tryz.prog 173 (strip QAL) := Qaf (R := runF Qw6 Qtp QBA false) (mG Tryz.func173 (by kernel_rfl) Tryz.ntmps173 (by kernel_rfl) QPz QOm) fun x hok => (e_f173 x.1).trans (s_f173 x.1 hok)
def QE3 (_l : List ValT) : Int := -1
def QbX : Fg := ⟨[(0, some (.sl Qah)), (1, none), (7, some tI), (8, some tI)], []⟩
noncomputable def QcC : TC := (.sq (.reg (rT Tryz.f177 2)) (.sq (.cd (.t 9) .sk (.fg ⟨[], []⟩ (.ex 0))) (.sq (.bk 1 (.sq (.reg (rT Tryz.f177 3)) (.sq (.reg (rT Tryz.f177 4)) (.cd (.t 16) (.sq (.reg (rT Tryz.f177 5)) (.fg ⟨[(4, some tI)], []⟩ .rt)) .sk)))) (.reg (rT Tryz.f177 6)))))
noncomputable def QgC : TC := (.sq (.reg (rT Tryz.f177 0)) (.sq (.sq (.reg (rT Tryz.f177 1)) (.bk 0 (.lp 0 QbX QcC))) (.sq (.reg (rT Tryz.f177 7)) .rt)))
def QmI : List (RV × Option Ty) := [((.t 4), some tI)]
abbrev QeA : Sh := ⟨[(0, .ty (.sl Qah)), (1, .cf 173), (7, .ty tI), (8, .ty tI)], []⟩
def Qex (x0 : List ValT) (x7 x8 : Int) : VS := QeA.st (x0, (), x7, x8, ()) ()
abbrev Qi4 : Sh := ⟨[(4, .ty tI)], []⟩
def Qbr (x4 : Int) : VS := Qi4.st (x4, ()) ()
abbrev Qj3 : Sh := ⟨[], []⟩
def QbA  : VS := Qj3.st () ()
def Qtj : VS → Option (Bool × List (Bool × Exit × VS)) := mkL QeA (fun x y => (rngOk x.1 x.2.2.1 x.2.2.2.1 && QdW x.1)) (fun x y => [((false), .ret, Qbr (x.2.2.2.1)), (true, .exit 0, QbA)])
def QbL : G := ⟨TYs, [], 19, EL [(173, QAL)], keeps, (Ls [Qtj]), IL [], RL []⟩
def Qj1 (x0 : List ValT) (x7 x8 : Int) : Option (Exit × VS) :=
 let a1 := lgt Qah x0 (Int.toNat x8)
 br (ilt x8 x7) (br (cIx x0 x8) (br (unfOk a1) (br (unfV a1) (some (.ret, Qbr x8)) (some (.normal, Qex x0 x7 (iadd .i64 x8 1)))) none) none) (some (.exit 0, QbA))
noncomputable def QcI (x0 : List ValT) (x7 x8 : Int) : Option (Exit × VS) := loopF (Qai QbL QbX QcC) (Qex x0 x7 x8)
noncomputable def QdF (x0 : List ValT) (x7 x8 : Int) : Option (Exit × VS) :=
 let a1 := lgt Qah x0 (Int.toNat x8)
 br (ilt x8 x7) (br (cIx x0 x8) (br (unfOk a1) (br (unfV a1) (some (.ret, Qbr x8)) (QcI x0 x7 (iadd .i64 x8 1))) none) none) (some (.exit 0, QbA))
def QeR (x0 : List ValT) (x7 x8 : Int) : Option (Exit × VS) := br (false) (some (.ret, Qbr (x8))) <| some (.exit 0, QbA)
theorem QqE (x0 : List ValT) (x7 x8 : Int) : Qai QbL QbX QcC (Qex x0 x7 x8) = Qj1 x0 x7 x8 := by kernel_rfl
theorem QhZ (x0 : List ValT) (x7 x8 : Int) : QcI x0 x7 x8 = QdF x0 x7 x8 := (Qap _ _).trans (by
 rw [QqE]
 simp only [Qj1, QdF, QaE, nxt_n, nxt_r, nxt_e, nxt_0]
 rfl)
def Qi8 (p0 : List ValT) : Option (V × List VO) := br (rngOk p0 (llen p0) (0 : Int) && QdW p0) (br (false) (some (.t tI (0 : Int), [])) (some (.t tI (-1), []))) none
theorem QyZ (p0 : List ValT) : runF QbL QgC QmI false [.t (.sl Qah) p0, .c (.func (.func 173) ⟨[]⟩ ⟨[]⟩)] [] = Qi8 p0 := by kernel_rfl
theorem QvH : Qag Tryz.prog 177 := .inr ⟨by decide, _, Tryz.func177, by kernel_rfl, by kernel_rfl⟩
theorem Qvz : GOk Tryz.prog QbL := Qal _ (gA (gC QQn QNx gN))
theorem QsK (x0 : List ValT) (x7 x8 : Int) (h : (rngOk x0 x7 x8 && QdW x0) = true) : QcI x0 x7 x8 = QeR x0 x7 x8 := by
 simp only [Bool.and_eq_true] at h
 obtain ⟨h0, hc⟩ := h
 obtain ⟨rfl, h3, k, rfl, hk⟩ := rng_k h0
 clear h0
 simp only [QdW, Bool.and_eq_true, List.all_eq_true] at hc
 refine Qav x0 (fun k => QcI x0 (x0.length : Int) (k : Int) = QeR x0 (x0.length : Int) (k : Int)) ?_ ?_ k hk
 ·rw [QhZ]
  simp [QdF, QeR, Qaz, Qae]
 ·intro k hk ih
  rw [QhZ]
  have hx := hc.2 x0[k] (List.getElem_mem hk)
  simp only [QdF, Qaz, QaA, hk, decide_true, Qac, Int.toNat_natCast, add1 (show k < 4611686018427387904 by omega), QaF (y := Qah) hk, show unfOk x0[k] = true from hx, unfV, Qae, ih]
  rfl
theorem Qqh : ∀ S l p, QbL.L 0 (fgt QbX S) = some (true, l) → pickA l = some p → loopF (Qai QbL QbX QcC) S = some p :=
 QaG (s := QeA) ⟨by decide, by decide⟩ (by kernel_rfl) fun x y hok p hp => by
 simp only [Qas, Qao] at hp
 exact (QsK x.1 x.2.2.1 x.2.2.2.1 (by simpa using hok)).trans hp
theorem Qvr : QgC.lok QbL := by
 repeat (first | exact trivial | exact Qqh | refine ⟨?_, ?_⟩)
theorem QyE (l : List ValT) (h : QdW l = true) : Qi8 l = some (.t tI (QE3 l), []) := by
 have hl : l.length ≤ 100000 := by simp only [QdW, Bool.and_eq_true, decide_eq_true_eq] at h; exact h.1
 simp only [Qi8, rng_0 hl, h, Bool.true_and, Qac, Qae]
 rfl
def Ql8 : Ent := specH [.ty (.sl Qah), .cf 173] [] (fun x d => (QdW x.1)) (fun x d => (.t tI (QE3 x.1)))
theorem Qvd : Meets Tryz.prog 177 (strip Ql8) := (Qbb (R := runF QbL QgC QmI false) (mG Tryz.func177 (by kernel_rfl) Tryz.ntmps177 (by kernel_rfl) Qvz Qvr) fun x d hok => (QyZ x.1).trans (QyE x.1 hok))
def QGW (_l : List ValT) : Bool := false
noncomputable def QgD : TC := (.sq (.reg (rT Tryz.f172 0)) (.sq (.reg (rT Tryz.f172 1)) .rt))
def QmJ : List (RV × Option Ty) := [((.t 4), some .bool)]
def Qgl : G := ⟨TYs, [], 9, EL [(177, Ql8)], keeps, (fun _ _ => none), IL [], RL []⟩
def Qi9 (p0 : List ValT) : Option (V × List VO) := br (QdW p0) (some (.t .bool (ige (QE3 p0) 0), [])) none
theorem Qy0 (p0 : List ValT) : runF Qgl QgD QmJ false [.t (.sl Qah) p0, .c (.func (.func 173) ⟨[]⟩ ⟨[]⟩)] [] = Qi9 p0 := by kernel_rfl
theorem QvI : Qag Tryz.prog 172 := .inr ⟨by decide, _, Tryz.func172, by kernel_rfl, by kernel_rfl⟩
theorem QvA : GOk Tryz.prog Qgl := Qal _ (gA (gC QvH Qvd gN))
theorem Qvs : QgD.lok Qgl := by repeat (first | exact trivial | refine ⟨?_, ?_⟩)
theorem QyF (l : List ValT) (h : QdW l = true) : Qi9 l = some (.t .bool (QGW l), []) := by
 simp only [Qi9, h, Qac]
 rfl
def Ql9 : Ent := specH [.ty (.sl Qah), .cf 173] [] (fun x d => (QdW x.1)) (fun x d => (.t .bool (QGW x.1)))
theorem Qve : Meets Tryz.prog 172 (strip Ql9) := (Qbb (R := runF Qgl QgD QmJ false) (mG Tryz.func172 (by kernel_rfl) Tryz.ntmps172 (by kernel_rfl) QvA Qvs) fun x d hok => (Qy0 x.1).trans (QyF x.1 hok))
noncomputable def QtB : TC := (.sq (.reg (rT Tryz.f157 0)) (.sq (.sq (.reg (rT Tryz.f157 1)) (.cd (.t 36) (.sq (.reg (rT Tryz.f157 2)) .rt) .sk)) (.sq (.reg (rT Tryz.f157 3)) .rt)))
def QBM : List (RV × Option Ty) := [((.t 2), some .bool)]
def Qxe : G := ⟨TYs, [], 41, EL [(171, QAM), (172, Ql9)], keeps, (fun _ _ => none), IL [], RL []⟩
def QpK (p0 : ValT) : Option (V × List VO) :=
 let a1 := List.map Val.un p0.2.2.2.1
 br (QdW a1) (some (.t .bool (!(QGW a1)), [])) none
def QmR (p0 : ValT) : Option (V × List VO) := br (!p0.2.2.1) (br (igt (llen (List.map Val.un p0.2.2.2.1)) 0) (some (.t .bool false, [])) (QpK p0)) (QpK p0)
def QCM (p0 : ValT) : Option (V × List VO) := br (!(tagB p0.1)) (some (.t .bool false, [])) (br (bneq p0.2.2.1 (ine (iband .i64 p0.1 32) 0)) (some (.t .bool false, [])) (br (p0.2.2.1) (br (igt (llen p0.2.1) 0) (some (.t .bool false, [])) (QmR p0)) (QmR p0)))
theorem e_f157 (p0 : ValT) : runF Qxe QtB QBM false [.t Qah p0] [] = QCM p0 := by kernel_rfl
theorem QPL : GOk Tryz.prog Qxe := Qal _ (gA (gC QQo QNy (gC QvI Qve gN)))
theorem QOy : QtB.lok Qxe := by repeat (first | exact trivial | refine ⟨?_, ?_⟩)
theorem s_f157 (x : ValT) (h : okT (fuel + 1) x = true) : QCM x = some (.t .bool (frmV x), []) := by
 obtain ⟨h1, h2, h3, h4, h5, h6, h7⟩ := Qcj h
 have hu : QdW (List.map Val.un x.2.2.2.1) = true := by
  simp only [QdW, Bool.and_eq_true, decide_eq_true_eq, List.length_map, List.all_eq_true, List.mem_map]
  refine ⟨h6, ?_⟩
  rintro y ⟨v, hv, rfl⟩
  rw [Qr5]
  exact h7 v hv
 have ht : tagB x.1 = true := by rcases h1 with e | e | e | e <;> rw [e] <;> rfl
 have hn : bneq x.2.2.1 (ine (iband .i64 x.1 32) 0) = false := by rw [h2]; rcases h1 with e | e | e | e <;> rw [e] <;> rfl
 simp only [QCM, QmR, QpK, ht, hn, hu, Bool.not_true, Qac, Qae]
 cases hq : x.2.2.1 with
 | true =>
  rw [h3 hq]
  rfl
 | false =>
  rw [h4 hq]
  rfl
theorem QOd : Meets Tryz.prog 157 (runF Qxe QtB QBM false) := mG Tryz.func157 (by kernel_rfl) Tryz.ntmps157 (by kernel_rfl) QPL QOy
end
theorem QhD : ∀ N : Nat, Meets Tryz.prog 157 (strip (@Qf5 ⟨N⟩))
 | 0 => QbH fun x => by first | rfl | simp [okT]
 | N + 1 => by
  letI : Fuel := ⟨N⟩
  haveI : Nonempty (PLift (Meets Tryz.prog 157 (strip Qf5))) := ⟨⟨QhD N⟩⟩
  exact Qaf QOd fun x hok => (e_f157 x.1).trans (s_f157 x.1 hok)
def QAV : Ent := spec (.pr Qah .nil) (fun x => (frmOk x.1)) (fun x => (.t .bool (frmV x.1)))
theorem QNH : Meets Tryz.prog 157 (strip QAV) := QbI QhD fun x hok => Qnr x.1 hok
theorem QFA : Qag Tryz.prog 149 := .inr ⟨by decide, _, Tryz.func149, by kernel_rfl, by kernel_rfl⟩
def Qf8 [Fuel] : Ent := spec (.pr Qah .nil) (fun x => (okT fuel x.1)) (fun x => (.t .bool (frmV x.1)))
theorem QI7 : Qag Tryz.prog 149 := QFA
section
variable [Fuel] [Nonempty (PLift (Meets Tryz.prog 149 (strip Qf8)))]
theorem QHQ : Meets Tryz.prog 149 (strip Qf8) := (Classical.choice (inferInstance : Nonempty (PLift (Meets Tryz.prog 149 (strip Qf8))))).down
def frmIn [Fuel] (x : ValT) : Bool := okT (fuel + 1) x
def QfL : Fg := ⟨[(1, none), (3, some tI)], [(1, some Qah)]⟩
noncomputable def Qhi : TC := (.sq (.sq (.reg (rT Tryz.f149 4)) (.cd (.t 43) .sk (.fg ⟨[], []⟩ (.ex 0)))) (.sq (.bk 1 (.sq (.reg (rT Tryz.f149 5)) (.cd (.t 52) (.sq (.reg (rT Tryz.f149 6)) (.fg ⟨[(2, some .bool)], []⟩ .rt)) .sk))) (.reg (rT Tryz.f149 7))))
noncomputable def QtJ : TC := (.sq (.reg (rT Tryz.f149 0)) (.sq (.sq (.reg (rT Tryz.f149 1)) (.cd (.t 38) (.sq (.reg (rT Tryz.f149 2)) .rt) .sk)) (.sq (.sq (.reg (rT Tryz.f149 3)) (.bk 0 (.lp 0 QfL Qhi))) (.sq (.reg (rT Tryz.f149 8)) .rt))))
def QBU : List (RV × Option Ty) := [((.t 2), some .bool)]
abbrev Qmu : Sh := ⟨[(1, .ptr 1 0), (3, .ty tI)], [(1, .box Qah)]⟩
def QlZ (x3 : Int) (y1 : ValT) : VS := Qmu.st ((), x3, ()) (y1, ())
abbrev Qpl : Sh := ⟨[(2, .ty .bool)], []⟩
def QcD (x2 : Bool) : VS := Qpl.st (x2, ()) ()
abbrev QrA : Sh := ⟨[], []⟩
def Qdr  : VS := QrA.st () ()
def QKp : VS → Option (Bool × List (Bool × Exit × VS)) := mkL Qmu (fun x y => (decide (0 ≤ x.2.1 ∧ x.2.1 ≤ y.1.2.2.2.1.length) && frmIn y.1)) (fun x y => [((false), .ret, QcD (false)), (true, .exit 0, Qdr)])
def QjR : G := ⟨TYs, [], 53, EL [(149, Qf8), (168, QAP)], keeps, (Ls [QKp]), IL [], RL []⟩
def Qya (x3 : Int) (y1 : ValT) : Option (Exit × VS) :=
 let a1 := List.map Val.un y1.2.2.2.1
 let a2 := lgt Qah a1 (Int.toNat x3)
 br (ilt x3 (llen a1)) (br (cIx a1 x3) (br (okT fuel a2) (br (!(frmV a2)) (some (.ret, QcD false)) (some (.normal, QlZ (iadd .i64 x3 1) y1))) none) none) (some (.exit 0, Qdr))
noncomputable def QhP (x3 : Int) (y1 : ValT) : Option (Exit × VS) := loopF (Qai QjR QfL Qhi) (QlZ x3 y1)
noncomputable def QkG (x3 : Int) (y1 : ValT) : Option (Exit × VS) :=
 let a1 := List.map Val.un y1.2.2.2.1
 let a2 := lgt Qah a1 (Int.toNat x3)
 br (ilt x3 (llen a1)) (br (cIx a1 x3) (br (okT fuel a2) (br (!(frmV a2)) (some (.ret, QcD false)) (QhP (iadd .i64 x3 1) y1)) none) none) (some (.exit 0, Qdr))
def Qnl (x3 : Int) (y1 : ValT) : Option (Exit × VS) := br (false) (some (.ret, QcD (false))) <| some (.exit 0, Qdr)
theorem QGn (x3 : Int) (y1 : ValT) : Qai QjR QfL Qhi (QlZ x3 y1) = Qya x3 y1 := by kernel_rfl
theorem Qsu (x3 : Int) (y1 : ValT) : QhP x3 y1 = QkG x3 y1 := (Qap _ _).trans (by
 rw [QGn]
 simp only [Qya, QkG, QaE, nxt_n, nxt_r, nxt_e, nxt_0]
 rfl)
def QpL (p0 : ValT) : Option (V × List VO) := br (decide (0 ≤ (0 : Int) ∧ (0 : Int) ≤ p0.2.2.2.1.length) && frmIn p0) (br (false) (some (.t .bool (false), [])) (some (.t .bool true, []))) none
def QpM (p0 : ValT) : Option (V × List VO) := br (!p0.2.2.1) (br (igt (llen (List.map Val.un p0.2.2.2.1)) 0) (some (.t .bool false, [])) (QpL p0)) (QpL p0)
def QCT (p0 : ValT) : Option (V × List VO) := br (!(tagR p0.1)) (some (.t .bool false, [])) (br (cNz 32) (br (cNz 2) (br (bneq p0.2.2.1 (ieq (irem (iquo .i64 p0.1 32) 2) 1)) (some (.t .bool false, [])) (br (p0.2.2.1) (br (igt (llen p0.2.1) 0) (some (.t .bool false, [])) (QpM p0)) (QpM p0))) none) none)
theorem e_f149 (p0 : ValT) : runF QjR QtJ QBU false [.t Qah p0] [] = QCT p0 := by kernel_rfl
theorem QPT : GOk Tryz.prog QjR := Qal _ (gA (gC QI7 QHQ (gC QQq QNB gN)))
theorem QIx (x3 : Int) (y1 : ValT) (h : (decide (0 ≤ x3 ∧ x3 ≤ y1.2.2.2.1.length) && frmIn y1) = true) : QhP x3 y1 = Qnl x3 y1 := by
 simp only [Bool.and_eq_true, decide_eq_true_eq] at h
 obtain ⟨⟨h0, h1⟩, hc⟩ := h
 obtain ⟨k, rfl⟩ := Int.eq_ofNat_of_zero_le h0
 have hm := Qu9 hc
 have hl := (Qcj hc).2.2.2.2.2.1
 refine Qav (List.map Val.un y1.2.2.2.1) (fun k => QhP (k : Int) y1 = Qnl (k : Int) y1) ?_ ?_ k (by rw [List.length_map]; omega)
 ·rw [Qsu]
  simp [QkG, Qnl, ilt, llen, Qae]
 ·intro k hk ih
  rw [Qsu]
  have hk2 : k < y1.2.2.2.1.length := by rw [List.length_map] at hk; exact hk
  simp only [QkG, show ilt (k : Int) (llen (List.map Val.un y1.2.2.2.1)) = true from decide_eq_true (by simp only [llen]; omega), QaA, hk, decide_true, Qac, Int.toNat_natCast, add1 (show k < 4611686018427387904 by omega), QaF (y := Qah) hk, hm k hk, frmV, Bool.not_true, Qae, ih]
  rfl
theorem QD9 : ∀ S l p, QjR.L 0 (fgt QfL S) = some (true, l) → pickA l = some p → loopF (Qai QjR QfL Qhi) S = some p :=
 QaG (s := Qmu) ⟨by decide, by decide⟩ (by kernel_rfl) fun x y hok p hp => by
 simp only [Qas, Qao] at hp
 exact (QIx x.2.1 y.1 (by simpa using hok)).trans hp
theorem QOG : QtJ.lok QjR := by
 repeat (first | exact trivial | exact QD9 | refine ⟨?_, ?_⟩)
theorem s_f149 (x : ValT) (h : okT (fuel + 1) x = true) : QCT x = some (.t .bool (frmV x), []) := by
 obtain ⟨h1, h2, h3, h4, h5, h6, h7⟩ := Qcj h
 have ht : tagR x.1 = true := by rcases h1 with e | e | e | e <;> rw [e] <;> rfl
 have hn : bneq x.2.2.1 (ieq (irem (iquo .i64 x.1 32) 2) 1) = false := by rw [h2]; rcases h1 with e | e | e | e <;> rw [e] <;> rfl
 have hd : decide ((0 : Int) ≤ 0 ∧ (0 : Int) ≤ x.2.2.2.1.length) = true := decide_eq_true (by omega)
 simp only [QCT, QpM, QpL, ht, hn, hd, show frmIn x = true from h, Bool.and_self, show cNz 32 = true from rfl, show cNz 2 = true from rfl, Bool.not_true, Qac, Qae]
 cases hq : x.2.2.1 with
 | true =>
  rw [h3 hq]
  rfl
 | false =>
  rw [h4 hq]
  rfl
theorem QOg : Meets Tryz.prog 149 (runF QjR QtJ QBU false) := mG Tryz.func149 (by kernel_rfl) Tryz.ntmps149 (by kernel_rfl) QPT QOG
end
theorem Qfp : ∀ N : Nat, Meets Tryz.prog 149 (strip (@Qf8 ⟨N⟩))
 | 0 => QbH fun x => by first | rfl | simp [okT]
 | N + 1 => by
  letI : Fuel := ⟨N⟩
  haveI : Nonempty (PLift (Meets Tryz.prog 149 (strip Qf8))) := ⟨⟨Qfp N⟩⟩
  exact Qaf QOg fun x hok => (e_f149 x.1).trans (s_f149 x.1 hok)
def QA1 : Ent := spec (.pr Qah .nil) (fun x => (frmOk x.1)) (fun x => (.t .bool (frmV x.1)))
theorem QNN : Meets Tryz.prog 149 (strip QA1) := QbI Qfp fun x hok => Qji x.1 hok
def dpV (x : ValT) : Int := (depV (Val.of x) : Int)
def depLF (n : Nat) (x : ValT) : Bool := okT n x && decide (n ≤ 100)
def dpOk (x : ValT) : Bool := okT 12 x
theorem Qn2 (x : ValT) (h : dpOk x = true) : ∃ N, depLF N x = true := ⟨12, by rw [depLF, show okT 12 x = true from h]; rfl⟩
theorem Qj4 (x : ValT) (h : dpOk x = true) : ∃ N, depLF N x = true := ⟨12, by rw [depLF, show okT 12 x = true from h]; rfl⟩
def depL (l : List ValT) : Nat := depVs (l.map Val.of)
theorem QxP : depL [] = 0 := rfl
theorem Qs5 (x : ValT) (l : List ValT) : depL (x :: l) = max (depV (Val.of x)) (depL l) := rfl
theorem Qqx (x : ValT) : depV (Val.of x) = depVs x.2.2.2.1 + 1 := rfl
theorem QEL (a b : Nat) : imx (a : Int) (b : Int) = ((max a b : Nat) : Int) := by
 unfold imx
 split <;> omega
theorem QFu : Qag Tryz.prog 158 := .inr ⟨by decide, _, Tryz.func158, by kernel_rfl, by kernel_rfl⟩
def Qf4 [Fuel] : Ent := spec (.pr Qah .nil) (fun x => (depLF fuel x.1)) (fun x => (.t tI (dpV x.1)))
theorem QI3 : Qag Tryz.prog 158 := QFu
section
variable [Fuel] [Nonempty (PLift (Meets Tryz.prog 158 (strip Qf4)))]
theorem QHM : Meets Tryz.prog 158 (strip Qf4) := (Classical.choice (inferInstance : Nonempty (PLift (Meets Tryz.prog 158 (strip Qf4))))).down
def depIn [Fuel] (l : List ValT) : Bool := decide (l.length ≤ 100000 ∧ fuel + 1 ≤ 100) && l.all (okT fuel)
def QfH : Fg := ⟨[(3, some tI), (7, some (.sl Qah)), (8, some tI), (9, some tI)], []⟩
noncomputable def Qhe : TC := (.sq (.reg (rT Tryz.f158 3)) (.sq (.cd (.t 10) .sk (.fg ⟨[(3, some tI)], []⟩ (.ex 0))) (.sq (.bk 1 (.sq (.reg (rT Tryz.f158 4)) (.reg (rT Tryz.f158 5)))) (.reg (rT Tryz.f158 6)))))
noncomputable def QtA : TC := (.sq (.reg (rT Tryz.f158 0)) (.sq (.reg (rT Tryz.f158 1)) (.sq (.sq (.reg (rT Tryz.f158 2)) (.bk 0 (.lp 0 QfH Qhe))) (.sq (.reg (rT Tryz.f158 7)) .rt))))
def QBL : List (RV × Option Ty) := [((.t 2), some tI)]
abbrev Qmq : Sh := ⟨[(3, .ty tI), (7, .ty (.sl Qah)), (8, .ty tI), (9, .ty tI)], []⟩
def QlV (x3 : Int) (x7 : List ValT) (x8 x9 : Int) : VS := Qmq.st (x3, x7, x8, x9, ()) ()
abbrev Qrw : Sh := ⟨[(3, .ty tI)], []⟩
def Qdo (x3 : Int) : VS := Qrw.st (x3, ()) ()
def QKl : VS → Option (Bool × List (Bool × Exit × VS)) := mkL Qmq (fun x y => (rngOk x.2.1 x.2.2.1 x.2.2.2.1 && depIn x.2.1 && decide (0 ≤ x.1 ∧ x.1 ≤ 100))) (fun x y => [(true, .exit 0, Qdo ((max x.1.toNat (depL (x.2.1.drop x.2.2.2.1.toNat)) : Nat) : Int))])
def QjN : G := ⟨TYs, [], 20, EL [(158, Qf4)], keeps, (Ls [QKl]), IL [], RL []⟩
def Qx6 (x3 : Int) (x7 : List ValT) (x8 x9 : Int) : Option (Exit × VS) :=
 let a1 := lgt Qah x7 (Int.toNat x9)
 br (ilt x9 x8) (br (cIx x7 x9) (br (depLF fuel a1) (some (.normal, QlV (imx x3 (dpV a1)) x7 x8 (iadd .i64 x9 1))) none) none) (some (.exit 0, Qdo x3))
noncomputable def QhM (x3 : Int) (x7 : List ValT) (x8 x9 : Int) : Option (Exit × VS) := loopF (Qai QjN QfH Qhe) (QlV x3 x7 x8 x9)
noncomputable def QkD (x3 : Int) (x7 : List ValT) (x8 x9 : Int) : Option (Exit × VS) :=
 let a1 := lgt Qah x7 (Int.toNat x9)
 br (ilt x9 x8) (br (cIx x7 x9) (br (depLF fuel a1) (QhM (imx x3 (dpV a1)) x7 x8 (iadd .i64 x9 1)) none) none) (some (.exit 0, Qdo x3))
def Qh6 (x3 : Int) (x7 : List ValT) (x8 x9 : Int) : Option (Exit × VS) := some (.exit 0, Qdo ((max x3.toNat (depL (x7.drop x9.toNat)) : Nat) : Int))
theorem QGj (x3 : Int) (x7 : List ValT) (x8 x9 : Int) : Qai QjN QfH Qhe (QlV x3 x7 x8 x9) = Qx6 x3 x7 x8 x9 := by kernel_rfl
theorem Qsr (x3 : Int) (x7 : List ValT) (x8 x9 : Int) : QhM x3 x7 x8 x9 = QkD x3 x7 x8 x9 := (Qap _ _).trans (by
 rw [QGj]
 simp only [Qx6, QkD, QaE, nxt_n, nxt_r, nxt_e, nxt_0]
 rfl)
def QCL (p0 : ValT) : Option (V × List VO) :=
 let a1 := List.map Val.un p0.2.2.2.1
 br (rngOk a1 (llen a1) (0 : Int) && depIn a1 && decide (0 ≤ (0 : Int) ∧ (0 : Int) ≤ 100)) (some (.t tI (iadd .i64 ((max (0 : Int).toNat (depL (a1.drop (0 : Int).toNat)) : Nat) : Int) 1), [])) none
theorem e_f158 (p0 : ValT) : runF QjN QtA QBL false [.t Qah p0] [] = QCL p0 := by kernel_rfl
theorem QPK : GOk Tryz.prog QjN := Qal _ (gA (gC QI3 QHM gN))
theorem QIt (x3 : Int) (x7 : List ValT) (x8 x9 : Int) (h : (rngOk x7 x8 x9 && depIn x7 && decide (0 ≤ x3 ∧ x3 ≤ 100)) = true) : QhM x3 x7 x8 x9 = Qh6 x3 x7 x8 x9 := by
 simp only [Bool.and_eq_true, decide_eq_true_eq] at h
 obtain ⟨⟨h0, hc⟩, h1, h2⟩ := h
 obtain ⟨rfl, h3, k, rfl, hk⟩ := rng_k h0
 clear h0
 obtain ⟨m, rfl⟩ := Int.eq_ofNat_of_zero_le h1
 clear h1 h2
 simp only [depIn, Bool.and_eq_true, List.all_eq_true, decide_eq_true_eq] at hc
 obtain ⟨⟨hc0, hc1⟩, hc2⟩ := hc
 revert m
 refine Qav x7 (fun k => ∀ m : Nat, QhM (m : Int) x7 (x7.length : Int) (k : Int) = Qh6 (m : Int) x7 (x7.length : Int) (k : Int)) ?_ ?_ k hk
 ·intro m
  rw [Qsr]
  simp [QkD, Qh6, Qaz, Qae, QxP]
 ·intro k hk ih m
  rw [Qsr]
  have hx := hc2 x7[k] (List.getElem_mem hk)
  have hd : depLF fuel x7[k] = true := by rw [depLF, hx, decide_eq_true (by omega)]; rfl
  simp only [QkD, Qaz, QaA, hk, decide_true, Qac, Int.toNat_natCast, add1 (show k < 4611686018427387904 by omega), QaF (y := Qah) hk, hd, dpV, QEL, ih]
  simp only [Qh6, Int.toNat_natCast, List.drop_eq_getElem_cons hk, Qs5, Nat.max_assoc]
theorem QD5 : ∀ S l p, QjN.L 0 (fgt QfH S) = some (true, l) → pickA l = some p → loopF (Qai QjN QfH Qhe) S = some p :=
 QaG (s := Qmq) ⟨by decide, by decide⟩ (by kernel_rfl) fun x y hok p hp => by
 simp only [Qas, Qao] at hp
 exact (QIt x.1 x.2.1 x.2.2.1 x.2.2.2.1 (by simpa using hok)).trans hp
theorem QOx : QtA.lok QjN := by
 repeat (first | exact trivial | exact QD5 | refine ⟨?_, ?_⟩)
theorem s_f158 (x : ValT) (h : depLF (fuel + 1) x = true) : QCL x = some (.t tI (dpV x), []) := by
 simp only [depLF, Bool.and_eq_true, decide_eq_true_eq] at h
 obtain ⟨h, hf⟩ := h
 obtain ⟨h1, h2, h3, h4, h5, h6, h7⟩ := Qcj h
 have hu : depIn (List.map Val.un x.2.2.2.1) = true := by
  simp only [depIn, Bool.and_eq_true, decide_eq_true_eq, List.length_map, List.all_eq_true, List.mem_map]
  refine ⟨⟨h6, hf⟩, ?_⟩
  rintro y ⟨v, hv, rfl⟩
  rw [Qr5]
  exact h7 v hv
 have hd := QpS (v := Val.of x) h
 rw [Qqx] at hd
 simp only [QCL, rng_0 (show (List.map Val.un x.2.2.2.1).length ≤ 100000 by rw [List.length_map]; exact h6), hu, Bool.and_self, show decide ((0 : Int) ≤ 0 ∧ (0 : Int) ≤ 100) = true from rfl, Qac, Int.toNat_zero, List.drop_zero, depL, Qcs, Nat.zero_max]
 rw [Qcb (by omega)]
 simp only [dpV, Qqx]
 congr 2
theorem QOc : Meets Tryz.prog 158 (runF QjN QtA QBL false) := mG Tryz.func158 (by kernel_rfl) Tryz.ntmps158 (by kernel_rfl) QPK QOx
end
theorem QjG : ∀ N : Nat, Meets Tryz.prog 158 (strip (@Qf4 ⟨N⟩))
 | 0 => QbH fun x => by first | rfl | simp [depLF]
 | N + 1 => by
  letI : Fuel := ⟨N⟩
  haveI : Nonempty (PLift (Meets Tryz.prog 158 (strip Qf4))) := ⟨⟨QjG N⟩⟩
  exact Qaf QOc fun x hok => (e_f158 x.1).trans (s_f158 x.1 hok)
def QAU : Ent := spec (.pr Qah .nil) (fun x => (dpOk x.1)) (fun x => (.t tI (dpV x.1)))
theorem QNG : Meets Tryz.prog 158 (strip QAU) := QbI QjG fun x hok => Qn2 x.1 hok
theorem QFz : Qag Tryz.prog 150 := .inr ⟨by decide, _, Tryz.func150, by kernel_rfl, by kernel_rfl⟩
def Qf7 [Fuel] : Ent := spec (.pr Qah .nil) (fun x => (depLF fuel x.1)) (fun x => (.t tI (dpV x.1)))
theorem QI6 : Qag Tryz.prog 150 := QFz
section
variable [Fuel] [Nonempty (PLift (Meets Tryz.prog 150 (strip Qf7)))]
theorem QHP : Meets Tryz.prog 150 (strip Qf7) := (Classical.choice (inferInstance : Nonempty (PLift (Meets Tryz.prog 150 (strip Qf7))))).down
def Qs6 [Fuel] (x : ValT) : Bool := depLF (fuel + 1) x
def QfK : Fg := ⟨[(1, none), (3, some tI), (4, some tI)], [(1, some Qah)]⟩
noncomputable def Qhh : TC := (.sq (.sq (.reg (rT Tryz.f150 3)) (.cd (.t 9) .sk (.fg ⟨[(3, some tI)], []⟩ (.ex 0)))) (.sq (.bk 1 (.reg (rT Tryz.f150 4))) (.reg (rT Tryz.f150 5))))
noncomputable def QtI : TC := (.sq (.reg (rT Tryz.f150 0)) (.sq (.reg (rT Tryz.f150 1)) (.sq (.sq (.reg (rT Tryz.f150 2)) (.bk 0 (.lp 0 QfK Qhh))) (.sq (.reg (rT Tryz.f150 6)) .rt))))
def QBT : List (RV × Option Ty) := [((.t 2), some tI)]
abbrev Qmt : Sh := ⟨[(1, .ptr 1 0), (3, .ty tI), (4, .ty tI)], [(1, .box Qah)]⟩
def QlY (x3 x4 : Int) (y1 : ValT) : VS := Qmt.st ((), x3, x4, ()) (y1, ())
abbrev Qrz : Sh := ⟨[(3, .ty tI)], []⟩
def Qdq (x3 : Int) : VS := Qrz.st (x3, ()) ()
def QKo : VS → Option (Bool × List (Bool × Exit × VS)) := mkL Qmt (fun x y => (decide (0 ≤ x.2.2.1 ∧ x.2.2.1 ≤ y.1.2.2.2.1.length ∧ 0 ≤ x.2.1 ∧ x.2.1 ≤ 100) && Qs6 y.1)) (fun x y => [(true, .exit 0, Qdq ((max x.2.1.toNat (depL ((List.map Val.un y.1.2.2.2.1).drop x.2.2.1.toNat)) : Nat) : Int))])
def QjQ : G := ⟨TYs, [], 22, EL [(150, Qf7)], keeps, (Ls [QKo]), IL [], RL []⟩
def Qx9 (x3 x4 : Int) (y1 : ValT) : Option (Exit × VS) :=
 let a1 := List.map Val.un y1.2.2.2.1
 let a2 := lgt Qah a1 (Int.toNat x4)
 br (ilt x4 (llen a1)) (br (cIx a1 x4) (br (depLF fuel a2) (some (.normal, QlY (imx x3 (dpV a2)) (iadd .i64 x4 1) y1)) none) none) (some (.exit 0, Qdq x3))
noncomputable def QhO (x3 x4 : Int) (y1 : ValT) : Option (Exit × VS) := loopF (Qai QjQ QfK Qhh) (QlY x3 x4 y1)
noncomputable def QkF (x3 x4 : Int) (y1 : ValT) : Option (Exit × VS) :=
 let a1 := List.map Val.un y1.2.2.2.1
 let a2 := lgt Qah a1 (Int.toNat x4)
 br (ilt x4 (llen a1)) (br (cIx a1 x4) (br (depLF fuel a2) (QhO (imx x3 (dpV a2)) (iadd .i64 x4 1) y1) none) none) (some (.exit 0, Qdq x3))
def Qh8 (x3 x4 : Int) (y1 : ValT) : Option (Exit × VS) := some (.exit 0, Qdq ((max x3.toNat (depL ((List.map Val.un y1.2.2.2.1).drop x4.toNat)) : Nat) : Int))
theorem QGm (x3 x4 : Int) (y1 : ValT) : Qai QjQ QfK Qhh (QlY x3 x4 y1) = Qx9 x3 x4 y1 := by kernel_rfl
theorem Qst (x3 x4 : Int) (y1 : ValT) : QhO x3 x4 y1 = QkF x3 x4 y1 := (Qap _ _).trans (by
 rw [QGm]
 simp only [Qx9, QkF, QaE, nxt_n, nxt_r, nxt_e, nxt_0]
 rfl)
def QCS (p0 : ValT) : Option (V × List VO) := br (decide (0 ≤ (0 : Int) ∧ (0 : Int) ≤ p0.2.2.2.1.length ∧ 0 ≤ (0 : Int) ∧ (0 : Int) ≤ 100) && Qs6 p0) (some (.t tI (iadd .i64 ((max (0 : Int).toNat (depL ((List.map Val.un p0.2.2.2.1).drop (0 : Int).toNat)) : Nat) : Int) 1), [])) none
theorem e_f150 (p0 : ValT) : runF QjQ QtI QBT false [.t Qah p0] [] = QCS p0 := by kernel_rfl
theorem QPS : GOk Tryz.prog QjQ := Qal _ (gA (gC QI6 QHP gN))
theorem QIw (x3 x4 : Int) (y1 : ValT) (h : (decide (0 ≤ x4 ∧ x4 ≤ y1.2.2.2.1.length ∧ 0 ≤ x3 ∧ x3 ≤ 100) && Qs6 y1) = true) : QhO x3 x4 y1 = Qh8 x3 x4 y1 := by
 simp only [Bool.and_eq_true, decide_eq_true_eq] at h
 obtain ⟨⟨h0, h1, h2, h3⟩, hc⟩ := h
 obtain ⟨k, rfl⟩ := Int.eq_ofNat_of_zero_le h0
 obtain ⟨m, rfl⟩ := Int.eq_ofNat_of_zero_le h2
 clear h2 h3
 simp only [Qs6, depLF, Bool.and_eq_true, decide_eq_true_eq] at hc
 obtain ⟨hc, hf⟩ := hc
 have hm := Qu9 hc
 have hl := (Qcj hc).2.2.2.2.2.1
 revert m
 refine Qav (List.map Val.un y1.2.2.2.1) (fun k => ∀ m : Nat, QhO (m : Int) (k : Int) y1 = Qh8 (m : Int) (k : Int) y1) ?_ ?_ k (by rw [List.length_map]; omega)
 ·intro m
  rw [Qst]
  simp only [QkF, show ilt ((List.map Val.un y1.2.2.2.1).length : Int) (llen (List.map Val.un y1.2.2.2.1)) = false from decide_eq_false (by simp only [llen]; omega), Qae]
  simp only [Qh8, Int.toNat_natCast, List.drop_length, QxP, Nat.max_zero]
 ·intro k hk ih m
  rw [Qst]
  have hk2 : k < y1.2.2.2.1.length := by rw [List.length_map] at hk; exact hk
  have hd : depLF fuel (List.map Val.un y1.2.2.2.1)[k] = true := by rw [depLF, hm k hk, decide_eq_true (by omega)]; rfl
  simp only [QkF, show ilt (k : Int) (llen (List.map Val.un y1.2.2.2.1)) = true from decide_eq_true (by simp only [llen]; omega), QaA, hk, decide_true, Qac, Int.toNat_natCast, add1 (show k < 4611686018427387904 by omega), QaF (y := Qah) hk, hd, dpV, QEL, ih]
  simp only [Qh8, Int.toNat_natCast, List.drop_eq_getElem_cons hk, Qs5, Nat.max_assoc]
theorem QD8 : ∀ S l p, QjQ.L 0 (fgt QfK S) = some (true, l) → pickA l = some p → loopF (Qai QjQ QfK Qhh) S = some p :=
 QaG (s := Qmt) ⟨by decide, by decide⟩ (by kernel_rfl) fun x y hok p hp => by
 simp only [Qas, Qao] at hp
 exact (QIw x.2.1 x.2.2.1 y.1 (by simpa using hok)).trans hp
theorem QOF : QtI.lok QjQ := by
 repeat (first | exact trivial | exact QD8 | refine ⟨?_, ?_⟩)
theorem s_f150 (x : ValT) (h : depLF (fuel + 1) x = true) : QCS x = some (.t tI (dpV x), []) := by
 have hin : Qs6 x = true := h
 simp only [depLF, Bool.and_eq_true, decide_eq_true_eq] at h
 obtain ⟨h, hf⟩ := h
 have hd := QpS (v := Val.of x) h
 rw [Qqx] at hd
 have hdd : decide ((0 : Int) ≤ 0 ∧ (0 : Int) ≤ x.2.2.2.1.length ∧ (0 : Int) ≤ 0 ∧ (0 : Int) ≤ 100) = true := decide_eq_true (by omega)
 simp only [QCS, hin, hdd, Bool.and_self, Qac, Int.toNat_zero, List.drop_zero, depL, Qcs, Nat.zero_max]
 rw [Qcb (by omega)]
 simp only [dpV, Qqx]
 congr 2
theorem QOf : Meets Tryz.prog 150 (runF QjQ QtI QBT false) := mG Tryz.func150 (by kernel_rfl) Tryz.ntmps150 (by kernel_rfl) QPS QOF
end
theorem Qgx : ∀ N : Nat, Meets Tryz.prog 150 (strip (@Qf7 ⟨N⟩))
 | 0 => QbH fun x => by first | rfl | simp [depLF]
 | N + 1 => by
  letI : Fuel := ⟨N⟩
  haveI : Nonempty (PLift (Meets Tryz.prog 150 (strip Qf7))) := ⟨⟨Qgx N⟩⟩
  exact Qaf QOf fun x hok => (e_f150 x.1).trans (s_f150 x.1 hok)
def QA0 : Ent := spec (.pr Qah .nil) (fun x => (dpOk x.1)) (fun x => (.t tI (dpV x.1)))
theorem QNM : Meets Tryz.prog 150 (strip QA0) := QbI Qgx fun x hok => Qj4 x.1 hok
end
end Go.Proofs.YtkngeegkjhipeaaGreat.K
