import Derived.Test.YtkngeegkjhipeaaGreatN3
set_option linter.unusedSimpArgs false
set_option linter.unusedVariables false
set_option linter.unusedSectionVars false
namespace Go.Proofs.YtkngeegkjhipeaaGreat.K
open Go.RowKit
noncomputable section
theorem Qx6 {n : Nat} {x : ValT} (h : okT (n + 1) x = true) : ∀ k (hk : k < (List.map Val.un x.2.2.2.1).length), okT n (List.map Val.un x.2.2.2.1)[k] = true := by
 intro k hk
 rw [List.getElem_map, QuJ]
 exact (Qcv h).2.2.2.2.2.2 _ (List.getElem_mem _)
def frmV (_x : ValT) : Bool := true
def frmOk (x : ValT) : Bool := okT 12 x
theorem Qo6 (x : ValT) (h : frmOk x = true) : ∃ N, okT N x = true := ⟨12, h⟩
theorem Qkl (x : ValT) (h : frmOk x = true) : ∃ N, okT N x = true := ⟨12, h⟩
theorem QI4 : Qai Tryz.prog 157 := .inr ⟨by decide, _, Tryz.func157, by kernel_rfl, by kernel_rfl⟩
def QgE [Fuel] : Ent := spec (.pr Qak .nil) (fun x => (okT fuel x.1)) (fun x => (.t .bool (frmV x.1)))
theorem QMT : Qai Tryz.prog 157 := QI4
section
variable [Fuel] [Nonempty (PLift (Meets Tryz.prog 157 (strip QgE)))]
theorem QLt : Meets Tryz.prog 157 (strip QgE) := (Classical.choice (inferInstance : Nonempty (PLift (Meets Tryz.prog 157 (strip QgE))))).down
def unfV (_x : ValT) : Bool := false
def unfOk [Fuel] (x : ValT) : Bool := okT fuel x
def Qeh [Fuel] (l : List ValT) : Bool := decide (l.length ≤ 100000) && l.all (okT fuel)
noncomputable def Qv2 : TC := (.sq (.reg (rT Tryz.f173 0)) (.sq (.reg (rT Tryz.f173 1)) .rt))
def QE6 : List (RV × Option Ty) := [((.t 2), some .bool)]
def QAp : G := ⟨TYs, [], 6, EL [(157, QgE)], keeps, (fun _ _ => none), IL [], RL []⟩
def QGa (p0 : ValT) : Option (V × List VO) := br (okT fuel p0) (some (.t .bool (!(frmV p0)), [])) none
theorem e_f173 (p0 : ValT) : runF QAp Qv2 QE6 false [.t Qak p0] [] = QGa p0 := by kernel_rfl
theorem QVe : Qai Tryz.prog 173 := .inr ⟨by decide, _, Tryz.func173, by kernel_rfl, by kernel_rfl⟩
theorem QUp : GOk Tryz.prog QAp := Qal _ (gA (gC QMT QLt gN))
theorem QSY : Qv2.lok QAp := by repeat (first | exact trivial | refine ⟨?_, ?_⟩)
theorem s_f173 (x : ValT) (h : unfOk x = true) : QGa x = some (.t .bool (unfV x), []) := by
 simp only [QGa, show okT fuel x = true from h, Qac]
 rfl
def QEd : Ent := spec (.pr Qak .nil) (fun x => (unfOk x.1)) (fun x => (.t .bool (unfV x.1)))
theorem QR9 : Meets Tryz.prog 173 (strip QEd) := Qag (R := runF QAp Qv2 QE6 false) (mG Tryz.func173 (by kernel_rfl) Tryz.ntmps173 (by kernel_rfl) QUp QSY) fun x hok => (e_f173 x.1).trans (s_f173 x.1 hok)
def QIC (_l : List ValT) : Int := -1
def Qca : Fg := ⟨[(0, some (.sl Qak)), (1, none), (7, some tI), (8, some tI)], []⟩
noncomputable def QcM : TC := (.sq (.reg (rT Tryz.f177 2)) (.sq (.cd (.t 9) .sk (.fg ⟨[], []⟩ (.ex 0))) (.sq (.bk 1 (.sq (.reg (rT Tryz.f177 3)) (.sq (.reg (rT Tryz.f177 4)) (.cd (.t 16) (.sq (.reg (rT Tryz.f177 5)) (.fg ⟨[(4, some tI)], []⟩ .rt)) .sk)))) (.reg (rT Tryz.f177 6)))))
noncomputable def Qhd : TC := (.sq (.reg (rT Tryz.f177 0)) (.sq (.sq (.reg (rT Tryz.f177 1)) (.bk 0 (.lp 0 Qca QcM))) (.sq (.reg (rT Tryz.f177 7)) .rt)))
def Qoo : List (RV × Option Ty) := [((.t 4), some tI)]
abbrev Qfb : Sh := ⟨[(0, .ty (.sl Qak)), (1, .cf 173), (7, .ty tI), (8, .ty tI)], []⟩
def Qe8 (x0 : List ValT) (x7 x8 : Int) : VS := Qfb.st (x0, (), x7, x8, ()) ()
abbrev Qj6 : Sh := ⟨[(4, .ty tI)], []⟩
def Qbz (x4 : Int) : VS := Qj6.st (x4, ()) ()
abbrev Qk9 : Sh := ⟨[], []⟩
def QbI  : VS := Qk9.st () ()
def QvV : VS → Option (Bool × List (Bool × Exit × VS)) := mkL Qfb (fun x y => (rngOk x.1 x.2.2.1 x.2.2.2.1 && Qeh x.1)) (fun x y => [((false), .ret, Qbz (x.2.2.2.1)), (true, .exit 0, QbI)])
def QbX : G := ⟨TYs, [], 19, EL [(173, QEd)], keeps, (Ls [QvV]), IL [], RL []⟩
def Qk7 (x0 : List ValT) (x7 x8 : Int) : Option (Exit × VS) :=
 let a1 := lgt Qak x0 (Int.toNat x8)
 br (ilt x8 x7) (br (cIx x0 x8) (br (unfOk a1) (br (unfV a1) (some (.ret, Qbz x8)) (some (.normal, Qe8 x0 x7 (iadd .i64 x8 1)))) none) none) (some (.exit 0, QbI))
noncomputable def QcT (x0 : List ValT) (x7 x8 : Int) : Option (Exit × VS) := loopF (Qaj QbX Qca QcM) (Qe8 x0 x7 x8)
noncomputable def Qd0 (x0 : List ValT) (x7 x8 : Int) : Option (Exit × VS) :=
 let a1 := lgt Qak x0 (Int.toNat x8)
 br (ilt x8 x7) (br (cIx x0 x8) (br (unfOk a1) (br (unfV a1) (some (.ret, Qbz x8)) (QcT x0 x7 (iadd .i64 x8 1))) none) none) (some (.exit 0, QbI))
def Qfs (x0 : List ValT) (x7 x8 : Int) : Option (Exit × VS) := br (false) (some (.ret, Qbz (x8))) <| some (.exit 0, QbI)
theorem QsY (x0 : List ValT) (x7 x8 : Int) : Qaj QbX Qca QcM (Qe8 x0 x7 x8) = Qk7 x0 x7 x8 := by kernel_rfl
theorem QiH (x0 : List ValT) (x7 x8 : Int) : QcT x0 x7 x8 = Qd0 x0 x7 x8 := (Qap _ _).trans (by
 rw [QsY]
 simp only [Qk7, Qd0, QaB, nxt_n, nxt_r, nxt_e, nxt_0]
 rfl)
def Qkc (p0 : List ValT) : Option (V × List VO) := br (rngOk p0 (llen p0) (0 : Int) && Qeh p0) (br (false) (some (.t tI (0 : Int), [])) (some (.t tI (-1), []))) none
theorem QCe (p0 : List ValT) : runF QbX Qhd Qoo false [.t (.sl Qak) p0, .c (.func (.func 173) ⟨[]⟩ ⟨[]⟩)] [] = Qkc p0 := by kernel_rfl
theorem QyE : Qai Tryz.prog 177 := .inr ⟨by decide, _, Tryz.func177, by kernel_rfl, by kernel_rfl⟩
theorem Qyx : GOk Tryz.prog QbX := Qal _ (gA (gC QVe QR9 gN))
theorem Qvp (x0 : List ValT) (x7 x8 : Int) (h : (rngOk x0 x7 x8 && Qeh x0) = true) : QcT x0 x7 x8 = Qfs x0 x7 x8 := by
 simp only [Bool.and_eq_true] at h
 obtain ⟨h0, hc⟩ := h
 obtain ⟨rfl, h3, k, rfl, hk⟩ := rng_k h0
 clear h0
 simp only [Qeh, Bool.and_eq_true, List.all_eq_true] at hc
 refine Qas x0 (fun k => QcT x0 (x0.length : Int) (k : Int) = Qfs x0 (x0.length : Int) (k : Int)) ?_ ?_ k hk
 ·rw [QiH]
  simp [Qd0, Qfs, QaA, Qaf]
 ·intro k hk ih
  rw [QiH]
  have hx := hc.2 x0[k] (List.getElem_mem hk)
  simp only [Qd0, QaA, Qaw, hk, decide_true, Qac, Int.toNat_natCast, add1 (show k < 4611686018427387904 by omega), QaE (y := Qak) hk, show unfOk x0[k] = true from hx, unfV, Qaf, ih]
  rfl
theorem QsD : ∀ S l p, QbX.L 0 (fgt Qca S) = some (true, l) → pickA l = some p → loopF (Qaj QbX Qca QcM) S = some p :=
 QaD (s := Qfb) ⟨by decide, by decide⟩ (by kernel_rfl) fun x y hok p hp => by
 simp only [Qar, Qao] at hp
 exact (Qvp x.1 x.2.2.1 x.2.2.2.1 (by simpa using hok)).trans hp
theorem Qyo : Qhd.lok QbX := by
 repeat (first | exact trivial | exact QsD | refine ⟨?_, ?_⟩)
theorem QBW (l : List ValT) (h : Qeh l = true) : Qkc l = some (.t tI (QIC l), []) := by
 have hl : l.length ≤ 100000 := by simp only [Qeh, Bool.and_eq_true, decide_eq_true_eq] at h; exact h.1
 simp only [Qkc, rng_0 hl, h, Bool.true_and, Qac, Qaf]
 rfl
def QnQ : Ent := specH [.ty (.sl Qak), .cf 173] [] (fun x d => (Qeh x.1)) (fun x d => (.t tI (QIC x.1)))
theorem Qya : Meets Tryz.prog 177 (strip QnQ) := (Qbi (R := runF QbX Qhd Qoo false) (mG Tryz.func177 (by kernel_rfl) Tryz.ntmps177 (by kernel_rfl) Qyx Qyo) fun x d hok => (QCe x.1).trans (QBW x.1 hok))
def QKI (_l : List ValT) : Bool := false
noncomputable def Qhe : TC := (.sq (.reg (rT Tryz.f172 0)) (.sq (.reg (rT Tryz.f172 1)) .rt))
def Qop : List (RV × Option Ty) := [((.t 4), some .bool)]
def QgU : G := ⟨TYs, [], 9, EL [(177, QnQ)], keeps, (fun _ _ => none), IL [], RL []⟩
def Qkd (p0 : List ValT) : Option (V × List VO) := br (Qeh p0) (some (.t .bool (ige (QIC p0) 0), [])) none
theorem QCf (p0 : List ValT) : runF QgU Qhe Qop false [.t (.sl Qak) p0, .c (.func (.func 173) ⟨[]⟩ ⟨[]⟩)] [] = Qkd p0 := by kernel_rfl
theorem QyF : Qai Tryz.prog 172 := .inr ⟨by decide, _, Tryz.func172, by kernel_rfl, by kernel_rfl⟩
theorem Qyy : GOk Tryz.prog QgU := Qal _ (gA (gC QyE Qya gN))
theorem Qyp : Qhe.lok QgU := by repeat (first | exact trivial | refine ⟨?_, ?_⟩)
theorem QBX (l : List ValT) (h : Qeh l = true) : Qkd l = some (.t .bool (QKI l), []) := by
 simp only [Qkd, h, Qac]
 rfl
def QnR : Ent := specH [.ty (.sl Qak), .cf 173] [] (fun x d => (Qeh x.1)) (fun x d => (.t .bool (QKI x.1)))
theorem Qyb : Meets Tryz.prog 172 (strip QnR) := (Qbi (R := runF QgU Qhe Qop false) (mG Tryz.func172 (by kernel_rfl) Tryz.ntmps172 (by kernel_rfl) Qyy Qyp) fun x d hok => (QCf x.1).trans (QBX x.1 hok))
noncomputable def Qwe : TC := (.sq (.reg (rT Tryz.f157 0)) (.sq (.sq (.reg (rT Tryz.f157 1)) (.cd (.t 36) (.sq (.reg (rT Tryz.f157 2)) .rt) .sk)) (.sq (.reg (rT Tryz.f157 3)) .rt)))
def QFi : List (RV × Option Ty) := [((.t 2), some .bool)]
def QAx : G := ⟨TYs, [], 41, EL [(171, QEe), (172, QnR)], keeps, (fun _ _ => none), IL [], RL []⟩
def QrS (p0 : ValT) : Option (V × List VO) :=
 let a1 := List.map Val.un p0.2.2.2.1
 br (Qeh a1) (some (.t .bool (!(QKI a1)), [])) none
def Qoy (p0 : ValT) : Option (V × List VO) := br (!p0.2.2.1) (br (igt (llen (List.map Val.un p0.2.2.2.1)) 0) (some (.t .bool false, [])) (QrS p0)) (QrS p0)
def QGl (p0 : ValT) : Option (V × List VO) := br (!(tagB p0.1)) (some (.t .bool false, [])) (br (bneq p0.2.2.1 (ine (iband .i64 p0.1 32) 0)) (some (.t .bool false, [])) (br (p0.2.2.1) (br (igt (llen p0.2.1) 0) (some (.t .bool false, [])) (Qoy p0)) (Qoy p0)))
theorem e_f157 (p0 : ValT) : runF QAx Qwe QFi false [.t Qak p0] [] = QGl p0 := by kernel_rfl
theorem QUB : GOk Tryz.prog QAx := Qal _ (gA (gC QVf QSa (gC QyF Qyb gN)))
theorem QTa : Qwe.lok QAx := by repeat (first | exact trivial | refine ⟨?_, ?_⟩)
theorem s_f157 (x : ValT) (h : okT (fuel + 1) x = true) : QGl x = some (.t .bool (frmV x), []) := by
 obtain ⟨h1, h2, h3, h4, h5, h6, h7⟩ := Qcv h
 have hu : Qeh (List.map Val.un x.2.2.2.1) = true := by
  simp only [Qeh, Bool.and_eq_true, decide_eq_true_eq, List.length_map, List.all_eq_true, List.mem_map]
  refine ⟨h6, ?_⟩
  rintro y ⟨v, hv, rfl⟩
  rw [QuJ]
  exact h7 v hv
 have ht : tagB x.1 = true := by rcases h1 with e | e | e | e <;> rw [e] <;> rfl
 have hn : bneq x.2.2.1 (ine (iband .i64 x.1 32) 0) = false := by rw [h2]; rcases h1 with e | e | e | e <;> rw [e] <;> rfl
 simp only [QGl, Qoy, QrS, ht, hn, hu, Bool.not_true, Qac, Qaf]
 cases hq : x.2.2.1 with
 | true =>
  rw [h3 hq]
  rfl
 | false =>
  rw [h4 hq]
  rfl
theorem QSP : Meets Tryz.prog 157 (runF QAx Qwe QFi false) := mG Tryz.func157 (by kernel_rfl) Tryz.ntmps157 (by kernel_rfl) QUB QTa
end
theorem Qii : ∀ N : Nat, Meets Tryz.prog 157 (strip (@QgE ⟨N⟩))
 | 0 => QbT fun x => by first | rfl | simp [okT]
 | N + 1 => by
  letI : Fuel := ⟨N⟩
  haveI : Nonempty (PLift (Meets Tryz.prog 157 (strip QgE))) := ⟨⟨Qii N⟩⟩
  exact Qag QSP fun x hok => (e_f157 x.1).trans (s_f157 x.1 hok)
def QEp : Ent := spec (.pr Qak .nil) (fun x => (frmOk x.1)) (fun x => (.t .bool (frmV x.1)))
theorem QSj : Meets Tryz.prog 157 (strip QEp) := QbU Qii fun x hok => Qo6 x.1 hok
theorem QI9 : Qai Tryz.prog 149 := .inr ⟨by decide, _, Tryz.func149, by kernel_rfl, by kernel_rfl⟩
def QgH [Fuel] : Ent := spec (.pr Qak .nil) (fun x => (okT fuel x.1)) (fun x => (.t .bool (frmV x.1)))
theorem QMW : Qai Tryz.prog 149 := QI9
section
variable [Fuel] [Nonempty (PLift (Meets Tryz.prog 149 (strip QgH)))]
theorem QLw : Meets Tryz.prog 149 (strip QgH) := (Classical.choice (inferInstance : Nonempty (PLift (Meets Tryz.prog 149 (strip QgH))))).down
def frmIn [Fuel] (x : ValT) : Bool := okT (fuel + 1) x
def Qgl : Fg := ⟨[(1, none), (3, some tI)], [(1, some Qak)]⟩
noncomputable def QhT : TC := (.sq (.sq (.reg (rT Tryz.f149 4)) (.cd (.t 43) .sk (.fg ⟨[], []⟩ (.ex 0)))) (.sq (.bk 1 (.sq (.reg (rT Tryz.f149 5)) (.cd (.t 52) (.sq (.reg (rT Tryz.f149 6)) (.fg ⟨[(2, some .bool)], []⟩ .rt)) .sk))) (.reg (rT Tryz.f149 7))))
noncomputable def Qwm : TC := (.sq (.reg (rT Tryz.f149 0)) (.sq (.sq (.reg (rT Tryz.f149 1)) (.cd (.t 38) (.sq (.reg (rT Tryz.f149 2)) .rt) .sk)) (.sq (.sq (.reg (rT Tryz.f149 3)) (.bk 0 (.lp 0 Qgl QhT))) (.sq (.reg (rT Tryz.f149 8)) .rt))))
def QFq : List (RV × Option Ty) := [((.t 2), some .bool)]
abbrev Qoa : Sh := ⟨[(1, .ptr 1 0), (3, .ty tI)], [(1, .box Qak)]⟩
def QnH (x3 : Int) (y1 : ValT) : VS := Qoa.st ((), x3, ()) (y1, ())
abbrev Qru : Sh := ⟨[(2, .ty .bool)], []⟩
def QcN (x2 : Bool) : VS := Qru.st (x2, ()) ()
abbrev Qt8 : Sh := ⟨[], []⟩
def QdN  : VS := Qt8.st () ()
def QOE : VS → Option (Bool × List (Bool × Exit × VS)) := mkL Qoa (fun x y => (decide (0 ≤ x.2.1 ∧ x.2.1 ≤ y.1.2.2.2.1.length) && frmIn y.1)) (fun x y => [((false), .ret, QcN (false)), (true, .exit 0, QdN)])
def QkX : G := ⟨TYs, [], 53, EL [(149, QgH), (168, QEi)], keeps, (Ls [QOE]), IL [], RL []⟩
def QBw (x3 : Int) (y1 : ValT) : Option (Exit × VS) :=
 let a1 := List.map Val.un y1.2.2.2.1
 let a2 := lgt Qak a1 (Int.toNat x3)
 br (ilt x3 (llen a1)) (br (cIx a1 x3) (br (okT fuel a2) (br (!(frmV a2)) (some (.ret, QcN false)) (some (.normal, QnH (iadd .i64 x3 1) y1))) none) none) (some (.exit 0, QdN))
noncomputable def Qix (x3 : Int) (y1 : ValT) : Option (Exit × VS) := loopF (Qaj QkX Qgl QhT) (QnH x3 y1)
noncomputable def Ql2 (x3 : Int) (y1 : ValT) : Option (Exit × VS) :=
 let a1 := List.map Val.un y1.2.2.2.1
 let a2 := lgt Qak a1 (Int.toNat x3)
 br (ilt x3 (llen a1)) (br (cIx a1 x3) (br (okT fuel a2) (br (!(frmV a2)) (some (.ret, QcN false)) (Qix (iadd .i64 x3 1) y1)) none) none) (some (.exit 0, QdN))
def Qo1 (x3 : Int) (y1 : ValT) : Option (Exit × VS) := br (false) (some (.ret, QcN (false))) <| some (.exit 0, QdN)
theorem QJU (x3 : Int) (y1 : ValT) : Qaj QkX Qgl QhT (QnH x3 y1) = QBw x3 y1 := by kernel_rfl
theorem Qu9 (x3 : Int) (y1 : ValT) : Qix x3 y1 = Ql2 x3 y1 := (Qap _ _).trans (by
 rw [QJU]
 simp only [QBw, Ql2, QaB, nxt_n, nxt_r, nxt_e, nxt_0]
 rfl)
def QrT (p0 : ValT) : Option (V × List VO) := br (decide (0 ≤ (0 : Int) ∧ (0 : Int) ≤ p0.2.2.2.1.length) && frmIn p0) (br (false) (some (.t .bool (false), [])) (some (.t .bool true, []))) none
def QrU (p0 : ValT) : Option (V × List VO) := br (!p0.2.2.1) (br (igt (llen (List.map Val.un p0.2.2.2.1)) 0) (some (.t .bool false, [])) (QrT p0)) (QrT p0)
def QGs (p0 : ValT) : Option (V × List VO) := br (!(tagR p0.1)) (some (.t .bool false, [])) (br (cNz 32) (br (cNz 2) (br (bneq p0.2.2.1 (ieq (irem (iquo .i64 p0.1 32) 2) 1)) (some (.t .bool false, [])) (br (p0.2.2.1) (br (igt (llen p0.2.1) 0) (some (.t .bool false, [])) (QrU p0)) (QrU p0))) none) none)
theorem e_f149 (p0 : ValT) : runF QkX Qwm QFq false [.t Qak p0] [] = QGs p0 := by kernel_rfl
theorem QUJ : GOk Tryz.prog QkX := Qal _ (gA (gC QMW QLw (gC QVh QSd gN)))
theorem QMq (x3 : Int) (y1 : ValT) (h : (decide (0 ≤ x3 ∧ x3 ≤ y1.2.2.2.1.length) && frmIn y1) = true) : Qix x3 y1 = Qo1 x3 y1 := by
 simp only [Bool.and_eq_true, decide_eq_true_eq] at h
 obtain ⟨⟨h0, h1⟩, hc⟩ := h
 obtain ⟨k, rfl⟩ := Int.eq_ofNat_of_zero_le h0
 have hm := Qx6 hc
 have hl := (Qcv hc).2.2.2.2.2.1
 refine Qas (List.map Val.un y1.2.2.2.1) (fun k => Qix (k : Int) y1 = Qo1 (k : Int) y1) ?_ ?_ k (by rw [List.length_map]; omega)
 ·rw [Qu9]
  simp [Ql2, Qo1, ilt, llen, Qaf]
 ·intro k hk ih
  rw [Qu9]
  have hk2 : k < y1.2.2.2.1.length := by rw [List.length_map] at hk; exact hk
  simp only [Ql2, show ilt (k : Int) (llen (List.map Val.un y1.2.2.2.1)) = true from decide_eq_true (by simp only [llen]; omega), Qaw, hk, decide_true, Qac, Int.toNat_natCast, add1 (show k < 4611686018427387904 by omega), QaE (y := Qak) hk, hm k hk, frmV, Bool.not_true, Qaf, ih]
  rfl
theorem QHK : ∀ S l p, QkX.L 0 (fgt Qgl S) = some (true, l) → pickA l = some p → loopF (Qaj QkX Qgl QhT) S = some p :=
 QaD (s := Qoa) ⟨by decide, by decide⟩ (by kernel_rfl) fun x y hok p hp => by
 simp only [Qar, Qao] at hp
 exact (QMq x.2.1 y.1 (by simpa using hok)).trans hp
theorem QTi : Qwm.lok QkX := by
 repeat (first | exact trivial | exact QHK | refine ⟨?_, ?_⟩)
theorem s_f149 (x : ValT) (h : okT (fuel + 1) x = true) : QGs x = some (.t .bool (frmV x), []) := by
 obtain ⟨h1, h2, h3, h4, h5, h6, h7⟩ := Qcv h
 have ht : tagR x.1 = true := by rcases h1 with e | e | e | e <;> rw [e] <;> rfl
 have hn : bneq x.2.2.1 (ieq (irem (iquo .i64 x.1 32) 2) 1) = false := by rw [h2]; rcases h1 with e | e | e | e <;> rw [e] <;> rfl
 have hd : decide ((0 : Int) ≤ 0 ∧ (0 : Int) ≤ x.2.2.2.1.length) = true := decide_eq_true (by omega)
 simp only [QGs, QrU, QrT, ht, hn, hd, show frmIn x = true from h, Bool.and_self, show cNz 32 = true from rfl, show cNz 2 = true from rfl, Bool.not_true, Qac, Qaf]
 cases hq : x.2.2.1 with
 | true =>
  rw [h3 hq]
  rfl
 | false =>
  rw [h4 hq]
  rfl
theorem QSS : Meets Tryz.prog 149 (runF QkX Qwm QFq false) := mG Tryz.func149 (by kernel_rfl) Tryz.ntmps149 (by kernel_rfl) QUJ QTi
end
theorem Qf1 : ∀ N : Nat, Meets Tryz.prog 149 (strip (@QgH ⟨N⟩))
 | 0 => QbT fun x => by first | rfl | simp [okT]
 | N + 1 => by
  letI : Fuel := ⟨N⟩
  haveI : Nonempty (PLift (Meets Tryz.prog 149 (strip QgH))) := ⟨⟨Qf1 N⟩⟩
  exact Qag QSS fun x hok => (e_f149 x.1).trans (s_f149 x.1 hok)
def QEv : Ent := spec (.pr Qak .nil) (fun x => (frmOk x.1)) (fun x => (.t .bool (frmV x.1)))
theorem QSp : Meets Tryz.prog 149 (strip QEv) := QbU Qf1 fun x hok => Qkl x.1 hok
def dpV (x : ValT) : Int := (depV (Val.of x) : Int)
def depLF (n : Nat) (x : ValT) : Bool := okT n x && decide (n ≤ 100)
def dpOk (x : ValT) : Bool := okT 12 x
theorem QpK (x : ValT) (h : dpOk x = true) : ∃ N, depLF N x = true := ⟨12, by rw [depLF, show okT 12 x = true from h]; rfl⟩
theorem Qla (x : ValT) (h : dpOk x = true) : ∃ N, depLF N x = true := ⟨12, by rw [depLF, show okT 12 x = true from h]; rfl⟩
def depL (l : List ValT) : Nat := depVs (l.map Val.of)
theorem QBc : depL [] = 0 := rfl
theorem QvK (x : ValT) (l : List ValT) : depL (x :: l) = max (depV (Val.of x)) (depL l) := rfl
theorem QsS (x : ValT) : depV (Val.of x) = depVs x.2.2.2.1 + 1 := rfl
theorem QIl (a b : Nat) : imx (a : Int) (b : Int) = ((max a b : Nat) : Int) := by
 unfold imx
 split <;> omega
theorem QI3 : Qai Tryz.prog 158 := .inr ⟨by decide, _, Tryz.func158, by kernel_rfl, by kernel_rfl⟩
def QgD [Fuel] : Ent := spec (.pr Qak .nil) (fun x => (depLF fuel x.1)) (fun x => (.t tI (dpV x.1)))
theorem QMS : Qai Tryz.prog 158 := QI3
section
variable [Fuel] [Nonempty (PLift (Meets Tryz.prog 158 (strip QgD)))]
theorem QLs : Meets Tryz.prog 158 (strip QgD) := (Classical.choice (inferInstance : Nonempty (PLift (Meets Tryz.prog 158 (strip QgD))))).down
def depIn [Fuel] (l : List ValT) : Bool := decide (l.length ≤ 100000 ∧ fuel + 1 ≤ 100) && l.all (okT fuel)
def Qgh : Fg := ⟨[(3, some tI), (7, some (.sl Qak)), (8, some tI), (9, some tI)], []⟩
noncomputable def QhP : TC := (.sq (.reg (rT Tryz.f158 3)) (.sq (.cd (.t 10) .sk (.fg ⟨[(3, some tI)], []⟩ (.ex 0))) (.sq (.bk 1 (.sq (.reg (rT Tryz.f158 4)) (.reg (rT Tryz.f158 5)))) (.reg (rT Tryz.f158 6)))))
noncomputable def Qwd : TC := (.sq (.reg (rT Tryz.f158 0)) (.sq (.reg (rT Tryz.f158 1)) (.sq (.sq (.reg (rT Tryz.f158 2)) (.bk 0 (.lp 0 Qgh QhP))) (.sq (.reg (rT Tryz.f158 7)) .rt))))
def QFh : List (RV × Option Ty) := [((.t 2), some tI)]
abbrev Qn6 : Sh := ⟨[(3, .ty tI), (7, .ty (.sl Qak)), (8, .ty tI), (9, .ty tI)], []⟩
def QnD (x3 : Int) (x7 : List ValT) (x8 x9 : Int) : VS := Qn6.st (x3, x7, x8, x9, ()) ()
abbrev Qt4 : Sh := ⟨[(3, .ty tI)], []⟩
def QdK (x3 : Int) : VS := Qt4.st (x3, ()) ()
def QOA : VS → Option (Bool × List (Bool × Exit × VS)) := mkL Qn6 (fun x y => (rngOk x.2.1 x.2.2.1 x.2.2.2.1 && depIn x.2.1 && decide (0 ≤ x.1 ∧ x.1 ≤ 100))) (fun x y => [(true, .exit 0, QdK ((max x.1.toNat (depL (x.2.1.drop x.2.2.2.1.toNat)) : Nat) : Int))])
def QkT : G := ⟨TYs, [], 20, EL [(158, QgD)], keeps, (Ls [QOA]), IL [], RL []⟩
def QBs (x3 : Int) (x7 : List ValT) (x8 x9 : Int) : Option (Exit × VS) :=
 let a1 := lgt Qak x7 (Int.toNat x9)
 br (ilt x9 x8) (br (cIx x7 x9) (br (depLF fuel a1) (some (.normal, QnD (imx x3 (dpV a1)) x7 x8 (iadd .i64 x9 1))) none) none) (some (.exit 0, QdK x3))
noncomputable def Qiu (x3 : Int) (x7 : List ValT) (x8 x9 : Int) : Option (Exit × VS) := loopF (Qaj QkT Qgh QhP) (QnD x3 x7 x8 x9)
noncomputable def QlZ (x3 : Int) (x7 : List ValT) (x8 x9 : Int) : Option (Exit × VS) :=
 let a1 := lgt Qak x7 (Int.toNat x9)
 br (ilt x9 x8) (br (cIx x7 x9) (br (depLF fuel a1) (Qiu (imx x3 (dpV a1)) x7 x8 (iadd .i64 x9 1)) none) none) (some (.exit 0, QdK x3))
def QiP (x3 : Int) (x7 : List ValT) (x8 x9 : Int) : Option (Exit × VS) := some (.exit 0, QdK ((max x3.toNat (depL (x7.drop x9.toNat)) : Nat) : Int))
theorem QJQ (x3 : Int) (x7 : List ValT) (x8 x9 : Int) : Qaj QkT Qgh QhP (QnD x3 x7 x8 x9) = QBs x3 x7 x8 x9 := by kernel_rfl
theorem Qu6 (x3 : Int) (x7 : List ValT) (x8 x9 : Int) : Qiu x3 x7 x8 x9 = QlZ x3 x7 x8 x9 := (Qap _ _).trans (by
 rw [QJQ]
 simp only [QBs, QlZ, QaB, nxt_n, nxt_r, nxt_e, nxt_0]
 rfl)
def QGk (p0 : ValT) : Option (V × List VO) :=
 let a1 := List.map Val.un p0.2.2.2.1
 br (rngOk a1 (llen a1) (0 : Int) && depIn a1 && decide (0 ≤ (0 : Int) ∧ (0 : Int) ≤ 100)) (some (.t tI (iadd .i64 ((max (0 : Int).toNat (depL (a1.drop (0 : Int).toNat)) : Nat) : Int) 1), [])) none
theorem e_f158 (p0 : ValT) : runF QkT Qwd QFh false [.t Qak p0] [] = QGk p0 := by kernel_rfl
theorem QUA : GOk Tryz.prog QkT := Qal _ (gA (gC QMS QLs gN))
theorem QMm (x3 : Int) (x7 : List ValT) (x8 x9 : Int) (h : (rngOk x7 x8 x9 && depIn x7 && decide (0 ≤ x3 ∧ x3 ≤ 100)) = true) : Qiu x3 x7 x8 x9 = QiP x3 x7 x8 x9 := by
 simp only [Bool.and_eq_true, decide_eq_true_eq] at h
 obtain ⟨⟨h0, hc⟩, h1, h2⟩ := h
 obtain ⟨rfl, h3, k, rfl, hk⟩ := rng_k h0
 clear h0
 obtain ⟨m, rfl⟩ := Int.eq_ofNat_of_zero_le h1
 clear h1 h2
 simp only [depIn, Bool.and_eq_true, List.all_eq_true, decide_eq_true_eq] at hc
 obtain ⟨⟨hc0, hc1⟩, hc2⟩ := hc
 revert m
 refine Qas x7 (fun k => ∀ m : Nat, Qiu (m : Int) x7 (x7.length : Int) (k : Int) = QiP (m : Int) x7 (x7.length : Int) (k : Int)) ?_ ?_ k hk
 ·intro m
  rw [Qu6]
  simp [QlZ, QiP, QaA, Qaf, QBc]
 ·intro k hk ih m
  rw [Qu6]
  have hx := hc2 x7[k] (List.getElem_mem hk)
  have hd : depLF fuel x7[k] = true := by rw [depLF, hx, decide_eq_true (by omega)]; rfl
  simp only [QlZ, QaA, Qaw, hk, decide_true, Qac, Int.toNat_natCast, add1 (show k < 4611686018427387904 by omega), QaE (y := Qak) hk, hd, dpV, QIl, ih]
  simp only [QiP, Int.toNat_natCast, List.drop_eq_getElem_cons hk, QvK, Nat.max_assoc]
theorem QHG : ∀ S l p, QkT.L 0 (fgt Qgh S) = some (true, l) → pickA l = some p → loopF (Qaj QkT Qgh QhP) S = some p :=
 QaD (s := Qn6) ⟨by decide, by decide⟩ (by kernel_rfl) fun x y hok p hp => by
 simp only [Qar, Qao] at hp
 exact (QMm x.1 x.2.1 x.2.2.1 x.2.2.2.1 (by simpa using hok)).trans hp
theorem QS9 : Qwd.lok QkT := by
 repeat (first | exact trivial | exact QHG | refine ⟨?_, ?_⟩)
theorem s_f158 (x : ValT) (h : depLF (fuel + 1) x = true) : QGk x = some (.t tI (dpV x), []) := by
 simp only [depLF, Bool.and_eq_true, decide_eq_true_eq] at h
 obtain ⟨h, hf⟩ := h
 obtain ⟨h1, h2, h3, h4, h5, h6, h7⟩ := Qcv h
 have hu : depIn (List.map Val.un x.2.2.2.1) = true := by
  simp only [depIn, Bool.and_eq_true, decide_eq_true_eq, List.length_map, List.all_eq_true, List.mem_map]
  refine ⟨⟨h6, hf⟩, ?_⟩
  rintro y ⟨v, hv, rfl⟩
  rw [QuJ]
  exact h7 v hv
 have hd := Qr0 (v := Val.of x) h
 rw [QsS] at hd
 simp only [QGk, rng_0 (show (List.map Val.un x.2.2.2.1).length ≤ 100000 by rw [List.length_map]; exact h6), hu, Bool.and_self, show decide ((0 : Int) ≤ 0 ∧ (0 : Int) ≤ 100) = true from rfl, Qac, Int.toNat_zero, List.drop_zero, depL, QcD, Nat.zero_max]
 rw [Qb8 (by omega)]
 simp only [dpV, QsS]
 congr 2
theorem QSO : Meets Tryz.prog 158 (runF QkT Qwd QFh false) := mG Tryz.func158 (by kernel_rfl) Tryz.ntmps158 (by kernel_rfl) QUA QS9
end
theorem QkM : ∀ N : Nat, Meets Tryz.prog 158 (strip (@QgD ⟨N⟩))
 | 0 => QbT fun x => by first | rfl | simp [depLF]
 | N + 1 => by
  letI : Fuel := ⟨N⟩
  haveI : Nonempty (PLift (Meets Tryz.prog 158 (strip QgD))) := ⟨⟨QkM N⟩⟩
  exact Qag QSO fun x hok => (e_f158 x.1).trans (s_f158 x.1 hok)
def QEo : Ent := spec (.pr Qak .nil) (fun x => (dpOk x.1)) (fun x => (.t tI (dpV x.1)))
theorem QSi : Meets Tryz.prog 158 (strip QEo) := QbU QkM fun x hok => QpK x.1 hok
theorem QI8 : Qai Tryz.prog 150 := .inr ⟨by decide, _, Tryz.func150, by kernel_rfl, by kernel_rfl⟩
def QgG [Fuel] : Ent := spec (.pr Qak .nil) (fun x => (depLF fuel x.1)) (fun x => (.t tI (dpV x.1)))
theorem QMV : Qai Tryz.prog 150 := QI8
section
variable [Fuel] [Nonempty (PLift (Meets Tryz.prog 150 (strip QgG)))]
theorem QLv : Meets Tryz.prog 150 (strip QgG) := (Classical.choice (inferInstance : Nonempty (PLift (Meets Tryz.prog 150 (strip QgG))))).down
def QvL [Fuel] (x : ValT) : Bool := depLF (fuel + 1) x
def Qgk : Fg := ⟨[(1, none), (3, some tI), (4, some tI)], [(1, some Qak)]⟩
noncomputable def QhS : TC := (.sq (.sq (.reg (rT Tryz.f150 3)) (.cd (.t 9) .sk (.fg ⟨[(3, some tI)], []⟩ (.ex 0)))) (.sq (.bk 1 (.reg (rT Tryz.f150 4))) (.reg (rT Tryz.f150 5))))
noncomputable def Qwl : TC := (.sq (.reg (rT Tryz.f150 0)) (.sq (.reg (rT Tryz.f150 1)) (.sq (.sq (.reg (rT Tryz.f150 2)) (.bk 0 (.lp 0 Qgk QhS))) (.sq (.reg (rT Tryz.f150 6)) .rt))))
def QFp : List (RV × Option Ty) := [((.t 2), some tI)]
abbrev Qn9 : Sh := ⟨[(1, .ptr 1 0), (3, .ty tI), (4, .ty tI)], [(1, .box Qak)]⟩
def QnG (x3 x4 : Int) (y1 : ValT) : VS := Qn9.st ((), x3, x4, ()) (y1, ())
abbrev Qt7 : Sh := ⟨[(3, .ty tI)], []⟩
def QdM (x3 : Int) : VS := Qt7.st (x3, ()) ()
def QOD : VS → Option (Bool × List (Bool × Exit × VS)) := mkL Qn9 (fun x y => (decide (0 ≤ x.2.2.1 ∧ x.2.2.1 ≤ y.1.2.2.2.1.length ∧ 0 ≤ x.2.1 ∧ x.2.1 ≤ 100) && QvL y.1)) (fun x y => [(true, .exit 0, QdM ((max x.2.1.toNat (depL ((List.map Val.un y.1.2.2.2.1).drop x.2.2.1.toNat)) : Nat) : Int))])
def QkW : G := ⟨TYs, [], 22, EL [(150, QgG)], keeps, (Ls [QOD]), IL [], RL []⟩
def QBv (x3 x4 : Int) (y1 : ValT) : Option (Exit × VS) :=
 let a1 := List.map Val.un y1.2.2.2.1
 let a2 := lgt Qak a1 (Int.toNat x4)
 br (ilt x4 (llen a1)) (br (cIx a1 x4) (br (depLF fuel a2) (some (.normal, QnG (imx x3 (dpV a2)) (iadd .i64 x4 1) y1)) none) none) (some (.exit 0, QdM x3))
noncomputable def Qiw (x3 x4 : Int) (y1 : ValT) : Option (Exit × VS) := loopF (Qaj QkW Qgk QhS) (QnG x3 x4 y1)
noncomputable def Ql1 (x3 x4 : Int) (y1 : ValT) : Option (Exit × VS) :=
 let a1 := List.map Val.un y1.2.2.2.1
 let a2 := lgt Qak a1 (Int.toNat x4)
 br (ilt x4 (llen a1)) (br (cIx a1 x4) (br (depLF fuel a2) (Qiw (imx x3 (dpV a2)) (iadd .i64 x4 1) y1) none) none) (some (.exit 0, QdM x3))
def QiR (x3 x4 : Int) (y1 : ValT) : Option (Exit × VS) := some (.exit 0, QdM ((max x3.toNat (depL ((List.map Val.un y1.2.2.2.1).drop x4.toNat)) : Nat) : Int))
theorem QJT (x3 x4 : Int) (y1 : ValT) : Qaj QkW Qgk QhS (QnG x3 x4 y1) = QBv x3 x4 y1 := by kernel_rfl
theorem Qu8 (x3 x4 : Int) (y1 : ValT) : Qiw x3 x4 y1 = Ql1 x3 x4 y1 := (Qap _ _).trans (by
 rw [QJT]
 simp only [QBv, Ql1, QaB, nxt_n, nxt_r, nxt_e, nxt_0]
 rfl)
def QGr (p0 : ValT) : Option (V × List VO) := br (decide (0 ≤ (0 : Int) ∧ (0 : Int) ≤ p0.2.2.2.1.length ∧ 0 ≤ (0 : Int) ∧ (0 : Int) ≤ 100) && QvL p0) (some (.t tI (iadd .i64 ((max (0 : Int).toNat (depL ((List.map Val.un p0.2.2.2.1).drop (0 : Int).toNat)) : Nat) : Int) 1), [])) none
theorem e_f150 (p0 : ValT) : runF QkW Qwl QFp false [.t Qak p0] [] = QGr p0 := by kernel_rfl
theorem QUI : GOk Tryz.prog QkW := Qal _ (gA (gC QMV QLv gN))
theorem QMp (x3 x4 : Int) (y1 : ValT) (h : (decide (0 ≤ x4 ∧ x4 ≤ y1.2.2.2.1.length ∧ 0 ≤ x3 ∧ x3 ≤ 100) && QvL y1) = true) : Qiw x3 x4 y1 = QiR x3 x4 y1 := by
 simp only [Bool.and_eq_true, decide_eq_true_eq] at h
 obtain ⟨⟨h0, h1, h2, h3⟩, hc⟩ := h
 obtain ⟨k, rfl⟩ := Int.eq_ofNat_of_zero_le h0
 obtain ⟨m, rfl⟩ := Int.eq_ofNat_of_zero_le h2
 clear h2 h3
 simp only [QvL, depLF, Bool.and_eq_true, decide_eq_true_eq] at hc
 obtain ⟨hc, hf⟩ := hc
 have hm := Qx6 hc
 have hl := (Qcv hc).2.2.2.2.2.1
 revert m
 refine Qas (List.map Val.un y1.2.2.2.1) (fun k => ∀ m : Nat, Qiw (m : Int) (k : Int) y1 = QiR (m : Int) (k : Int) y1) ?_ ?_ k (by rw [List.length_map]; omega)
 ·intro m
  rw [Qu8]
  simp only [Ql1, show ilt ((List.map Val.un y1.2.2.2.1).length : Int) (llen (List.map Val.un y1.2.2.2.1)) = false from decide_eq_false (by simp only [llen]; omega), Qaf]
  simp only [QiR, Int.toNat_natCast, List.drop_length, QBc, Nat.max_zero]
 ·intro k hk ih m
  rw [Qu8]
  have hk2 : k < y1.2.2.2.1.length := by rw [List.length_map] at hk; exact hk
  have hd : depLF fuel (List.map Val.un y1.2.2.2.1)[k] = true := by rw [depLF, hm k hk, decide_eq_true (by omega)]; rfl
  simp only [Ql1, show ilt (k : Int) (llen (List.map Val.un y1.2.2.2.1)) = true from decide_eq_true (by simp only [llen]; omega), Qaw, hk, decide_true, Qac, Int.toNat_natCast, add1 (show k < 4611686018427387904 by omega), QaE (y := Qak) hk, hd, dpV, QIl, ih]
  simp only [QiR, Int.toNat_natCast, List.drop_eq_getElem_cons hk, QvK, Nat.max_assoc]
theorem QHJ : ∀ S l p, QkW.L 0 (fgt Qgk S) = some (true, l) → pickA l = some p → loopF (Qaj QkW Qgk QhS) S = some p :=
 QaD (s := Qn9) ⟨by decide, by decide⟩ (by kernel_rfl) fun x y hok p hp => by
 simp only [Qar, Qao] at hp
 exact (QMp x.2.1 x.2.2.1 y.1 (by simpa using hok)).trans hp
theorem QTh : Qwl.lok QkW := by
 repeat (first | exact trivial | exact QHJ | refine ⟨?_, ?_⟩)
theorem s_f150 (x : ValT) (h : depLF (fuel + 1) x = true) : QGr x = some (.t tI (dpV x), []) := by
 have hin : QvL x = true := h
 simp only [depLF, Bool.and_eq_true, decide_eq_true_eq] at h
 obtain ⟨h, hf⟩ := h
 have hd := Qr0 (v := Val.of x) h
 rw [QsS] at hd
 have hdd : decide ((0 : Int) ≤ 0 ∧ (0 : Int) ≤ x.2.2.2.1.length ∧ (0 : Int) ≤ 0 ∧ (0 : Int) ≤ 100) = true := decide_eq_true (by omega)
 simp only [QGr, hin, hdd, Bool.and_self, Qac, Int.toNat_zero, List.drop_zero, depL, QcD, Nat.zero_max]
 rw [Qb8 (by omega)]
 simp only [dpV, QsS]
 congr 2
theorem QSR : Meets Tryz.prog 150 (runF QkW Qwl QFp false) := mG Tryz.func150 (by kernel_rfl) Tryz.ntmps150 (by kernel_rfl) QUI QTh
end
theorem Qg7 : ∀ N : Nat, Meets Tryz.prog 150 (strip (@QgG ⟨N⟩))
 | 0 => QbT fun x => by first | rfl | simp [depLF]
 | N + 1 => by
  letI : Fuel := ⟨N⟩
  haveI : Nonempty (PLift (Meets Tryz.prog 150 (strip QgG))) := ⟨⟨Qg7 N⟩⟩
  exact Qag QSR fun x hok => (e_f150 x.1).trans (s_f150 x.1 hok)
def QEu : Ent := spec (.pr Qak .nil) (fun x => (dpOk x.1)) (fun x => (.t tI (dpV x.1)))
theorem QSo : Meets Tryz.prog 150 (strip QEu) := QbU Qg7 fun x hok => Qla x.1 hok
end
end Go.Proofs.YtkngeegkjhipeaaGreat.K
