import Derived.Test.YtkngeegkjhipeaaGreatN3
set_option linter.unusedSimpArgs false
set_option linter.unusedVariables false
set_option linter.unusedSectionVars false
namespace Go.Proofs.YtkngeegkjhipeaaGreat.K
open Go.RowKit
noncomputable section
theorem Qvb {n : Nat} {x : ValT} (h : okT (n + 1) x = true) : ∀ k (hk : k < (List.map Val.un x.2.2.2.1).length), okT n (List.map Val.un x.2.2.2.1)[k] = true := by
 intro k hk
 rw [List.getElem_map, Qr6]
 exact (Qch h).2.2.2.2.2.2 _ (List.getElem_mem _)
def frmV (_x : ValT) : Bool := true
def frmOk (x : ValT) : Bool := okT 12 x
theorem Qnp (x : ValT) (h : frmOk x = true) : ∃ N, okT N x = true := ⟨12, h⟩
theorem Qji (x : ValT) (h : frmOk x = true) : ∃ N, okT N x = true := ⟨12, h⟩
theorem QFr : Qag Tryz.prog 157 := .inr ⟨by decide, _, Tryz.func157, by kernel_rfl, by kernel_rfl⟩
def Qf4 [Fuel] : Ent := spec (.pr Qah .nil) (fun x => (okT fuel x.1)) (fun x => (.t .bool (frmV x.1)))
theorem QI2 : Qag Tryz.prog 157 := QFr
section
variable [Fuel] [Nonempty (PLift (Meets Tryz.prog 157 (strip Qf4)))]
theorem QHI : Meets Tryz.prog 157 (strip Qf4) := (Classical.choice (inferInstance : Nonempty (PLift (Meets Tryz.prog 157 (strip Qf4))))).down
def unfV (_x : ValT) : Bool := false
def unfOk [Fuel] (x : ValT) : Bool := okT fuel x
def QdT [Fuel] (l : List ValT) : Bool := decide (l.length ≤ 100000) && l.all (okT fuel)
noncomputable def Qtq : TC := (.sq (.reg (rT Tryz.f173 0)) (.sq (.reg (rT Tryz.f173 1)) .rt))
def QBu : List (RV × Option Ty) := [((.t 2), some .bool)]
def Qw2 : G := ⟨TYs, [], 6, EL [(157, Qf4)], keeps, (fun _ _ => none), IL [], RL []⟩
def QCv (p0 : ValT) : Option (V × List VO) := br (okT fuel p0) (some (.t .bool (!(frmV p0)), [])) none
theorem e_f173 (p0 : ValT) : runF Qw2 Qtq QBu false [.t Qah p0] [] = QCv p0 := by kernel_rfl
theorem QQr : Qag Tryz.prog 173 := .inr ⟨by decide, _, Tryz.func173, by kernel_rfl, by kernel_rfl⟩
theorem QPD : GOk Tryz.prog Qw2 := Qan _ (gA (gC QI2 QHI gN))
theorem QOo : Qtq.lok Qw2 := by repeat (first | exact trivial | refine ⟨?_, ?_⟩)
theorem s_f173 (x : ValT) (h : unfOk x = true) : QCv x = some (.t .bool (unfV x), []) := by
 simp only [QCv, show okT fuel x = true from h, Qac]
 rfl
def QAF : Ent := spec (.pr Qah .nil) (fun x => (unfOk x.1)) (fun x => (.t .bool (unfV x.1)))
theorem QNz : Meets Tryz.prog 173 (strip QAF) := Qaf (R := runF Qw2 Qtq QBu false) (mG Tryz.func173 (by kernel_rfl) Tryz.ntmps173 (by kernel_rfl) QPD QOo) fun x hok => (e_f173 x.1).trans (s_f173 x.1 hok)
def QE0 (_l : List ValT) : Int := -1
def QbX : Fg := ⟨[(0, some (.sl Qah)), (1, none), (7, some tI), (8, some tI)], []⟩
noncomputable def QcB : TC := (.sq (.reg (rT Tryz.f177 2)) (.sq (.cd (.t 9) .sk (.fg ⟨[], []⟩ (.ex 0))) (.sq (.bk 1 (.sq (.reg (rT Tryz.f177 3)) (.sq (.reg (rT Tryz.f177 4)) (.cd (.t 16) (.sq (.reg (rT Tryz.f177 5)) (.fg ⟨[(4, some tI)], []⟩ .rt)) .sk)))) (.reg (rT Tryz.f177 6)))))
noncomputable def QgB : TC := (.sq (.reg (rT Tryz.f177 0)) (.sq (.sq (.reg (rT Tryz.f177 1)) (.bk 0 (.lp 0 QbX QcB))) (.sq (.reg (rT Tryz.f177 7)) .rt)))
def QmI : List (RV × Option Ty) := [((.t 4), some tI)]
abbrev Qez : Sh := ⟨[(0, .ty (.sl Qah)), (1, .cf 173), (7, .ty tI), (8, .ty tI)], []⟩
def Qew (x0 : List ValT) (x7 x8 : Int) : VS := Qez.st (x0, (), x7, x8, ()) ()
abbrev Qi5 : Sh := ⟨[(4, .ty tI)], []⟩
def Qbp (x4 : Int) : VS := Qi5.st (x4, ()) ()
abbrev Qj4 : Sh := ⟨[], []⟩
def QbB  : VS := Qj4.st () ()
def Qtk : VS → Option (Bool × List (Bool × Exit × VS)) := mkL Qez (fun x y => (rngOk x.1 x.2.2.1 x.2.2.2.1 && QdT x.1)) (fun x y => [((false), .ret, Qbp (x.2.2.2.1)), (true, .exit 0, QbB)])
def QbN : G := ⟨TYs, [], 19, EL [(173, QAF)], keeps, (Ls [Qtk]), IL [], RL []⟩
def Qj2 (x0 : List ValT) (x7 x8 : Int) : Option (Exit × VS) :=
 let a1 := lgt Qah x0 (Int.toNat x8)
 br (ilt x8 x7) (br (cIx x0 x8) (br (unfOk a1) (br (unfV a1) (some (.ret, Qbp x8)) (some (.normal, Qew x0 x7 (iadd .i64 x8 1)))) none) none) (some (.exit 0, QbB))
noncomputable def QcH (x0 : List ValT) (x7 x8 : Int) : Option (Exit × VS) := loopF (Qaj QbN QbX QcB) (Qew x0 x7 x8)
noncomputable def QdC (x0 : List ValT) (x7 x8 : Int) : Option (Exit × VS) :=
 let a1 := lgt Qah x0 (Int.toNat x8)
 br (ilt x8 x7) (br (cIx x0 x8) (br (unfOk a1) (br (unfV a1) (some (.ret, Qbp x8)) (QcH x0 x7 (iadd .i64 x8 1))) none) none) (some (.exit 0, QbB))
def QeQ (x0 : List ValT) (x7 x8 : Int) : Option (Exit × VS) := br (false) (some (.ret, Qbp (x8))) <| some (.exit 0, QbB)
theorem QqF (x0 : List ValT) (x7 x8 : Int) : Qaj QbN QbX QcB (Qew x0 x7 x8) = Qj2 x0 x7 x8 := by kernel_rfl
theorem Qh0 (x0 : List ValT) (x7 x8 : Int) : QcH x0 x7 x8 = QdC x0 x7 x8 := (Qaq _ _).trans (by
 rw [QqF]
 simp only [Qj2, QdC, QaE, nxt_n, nxt_r, nxt_e, nxt_0]
 rfl)
def Qi9 (p0 : List ValT) : Option (V × List VO) := br (rngOk p0 (llen p0) (0 : Int) && QdT p0) (br (false) (some (.t tI (0 : Int), [])) (some (.t tI (-1), []))) none
theorem QyU (p0 : List ValT) : runF QbN QgB QmI false [.t (.sl Qah) p0, .c (.func (.func 173) ⟨[]⟩ ⟨[]⟩)] [] = Qi9 p0 := by kernel_rfl
theorem QvJ : Qag Tryz.prog 177 := .inr ⟨by decide, _, Tryz.func177, by kernel_rfl, by kernel_rfl⟩
theorem QvB : GOk Tryz.prog QbN := Qan _ (gA (gC QQr QNz gN))
theorem QsL (x0 : List ValT) (x7 x8 : Int) (h : (rngOk x0 x7 x8 && QdT x0) = true) : QcH x0 x7 x8 = QeQ x0 x7 x8 := by
 simp only [Bool.and_eq_true] at h
 obtain ⟨h0, hc⟩ := h
 obtain ⟨rfl, h3, k, rfl, hk⟩ := rng_k h0
 clear h0
 simp only [QdT, Bool.and_eq_true, List.all_eq_true] at hc
 refine Qav x0 (fun k => QcH x0 (x0.length : Int) (k : Int) = QeQ x0 (x0.length : Int) (k : Int)) ?_ ?_ k hk
 ·rw [Qh0]
  simp [QdC, QeQ, Qaz, Qae]
 ·intro k hk ih
  rw [Qh0]
  have hx := hc.2 x0[k] (List.getElem_mem hk)
  simp only [QdC, Qaz, Qay, hk, decide_true, Qac, Int.toNat_natCast, add1 (show k < 4611686018427387904 by omega), QaG (y := Qah) hk, show unfOk x0[k] = true from hx, unfV, Qae, ih]
  rfl
theorem Qqg : ∀ S l p, QbN.L 0 (fgt QbX S) = some (true, l) → pickA l = some p → loopF (Qaj QbN QbX QcB) S = some p :=
 QaF (s := Qez) ⟨by decide, by decide⟩ (by kernel_rfl) fun x y hok p hp => by
 simp only [Qas, Qap] at hp
 exact (QsL x.1 x.2.2.1 x.2.2.2.1 (by simpa using hok)).trans hp
theorem Qvt : QgB.lok QbN := by
 repeat (first | exact trivial | exact Qqg | refine ⟨?_, ?_⟩)
theorem Qyz (l : List ValT) (h : QdT l = true) : Qi9 l = some (.t tI (QE0 l), []) := by
 have hl : l.length ≤ 100000 := by simp only [QdT, Bool.and_eq_true, decide_eq_true_eq] at h; exact h.1
 simp only [Qi9, rng_0 hl, h, Bool.true_and, Qac, Qae]
 rfl
def Ql8 : Ent := specH [.ty (.sl Qah), .cf 173] [] (fun x d => (QdT x.1)) (fun x d => (.t tI (QE0 x.1)))
theorem Qvf : Meets Tryz.prog 177 (strip Ql8) := (Qbb (R := runF QbN QgB QmI false) (mG Tryz.func177 (by kernel_rfl) Tryz.ntmps177 (by kernel_rfl) QvB Qvt) fun x d hok => (QyU x.1).trans (Qyz x.1 hok))
def QGR (_l : List ValT) : Bool := false
noncomputable def QgC : TC := (.sq (.reg (rT Tryz.f172 0)) (.sq (.reg (rT Tryz.f172 1)) .rt))
def QmJ : List (RV × Option Ty) := [((.t 4), some .bool)]
def Qgk : G := ⟨TYs, [], 9, EL [(177, Ql8)], keeps, (fun _ _ => none), IL [], RL []⟩
def Qja (p0 : List ValT) : Option (V × List VO) := br (QdT p0) (some (.t .bool (ige (QE0 p0) 0), [])) none
theorem QyV (p0 : List ValT) : runF Qgk QgC QmJ false [.t (.sl Qah) p0, .c (.func (.func 173) ⟨[]⟩ ⟨[]⟩)] [] = Qja p0 := by kernel_rfl
theorem QvK : Qag Tryz.prog 172 := .inr ⟨by decide, _, Tryz.func172, by kernel_rfl, by kernel_rfl⟩
theorem QvC : GOk Tryz.prog Qgk := Qan _ (gA (gC QvJ Qvf gN))
theorem Qvu : QgC.lok Qgk := by repeat (first | exact trivial | refine ⟨?_, ?_⟩)
theorem QyA (l : List ValT) (h : QdT l = true) : Qja l = some (.t .bool (QGR l), []) := by
 simp only [Qja, h, Qac]
 rfl
def Ql9 : Ent := specH [.ty (.sl Qah), .cf 173] [] (fun x d => (QdT x.1)) (fun x d => (.t .bool (QGR x.1)))
theorem Qvg : Meets Tryz.prog 172 (strip Ql9) := (Qbb (R := runF Qgk QgC QmJ false) (mG Tryz.func172 (by kernel_rfl) Tryz.ntmps172 (by kernel_rfl) QvC Qvu) fun x d hok => (QyV x.1).trans (QyA x.1 hok))
noncomputable def QtC : TC := (.sq (.reg (rT Tryz.f157 0)) (.sq (.sq (.reg (rT Tryz.f157 1)) (.cd (.t 36) (.sq (.reg (rT Tryz.f157 2)) .rt) .sk)) (.sq (.reg (rT Tryz.f157 3)) .rt)))
def QBG : List (RV × Option Ty) := [((.t 2), some .bool)]
def Qxa : G := ⟨TYs, [], 41, EL [(171, QAG), (172, Ql9)], keeps, (fun _ _ => none), IL [], RL []⟩
def QpI (p0 : ValT) : Option (V × List VO) :=
 let a1 := List.map Val.un p0.2.2.2.1
 br (QdT a1) (some (.t .bool (!(QGR a1)), [])) none
def QmR (p0 : ValT) : Option (V × List VO) := br (!p0.2.2.1) (br (igt (llen (List.map Val.un p0.2.2.2.1)) 0) (some (.t .bool false, [])) (QpI p0)) (QpI p0)
def QCG (p0 : ValT) : Option (V × List VO) := br (!(tagB p0.1)) (some (.t .bool false, [])) (br (bneq p0.2.2.1 (ine (iband .i64 p0.1 32) 0)) (some (.t .bool false, [])) (br (p0.2.2.1) (br (igt (llen p0.2.1) 0) (some (.t .bool false, [])) (QmR p0)) (QmR p0)))
theorem e_f157 (p0 : ValT) : runF Qxa QtC QBG false [.t Qah p0] [] = QCG p0 := by kernel_rfl
theorem QPP : GOk Tryz.prog Qxa := Qan _ (gA (gC QQs QNA (gC QvK Qvg gN)))
theorem QOA : QtC.lok Qxa := by repeat (first | exact trivial | refine ⟨?_, ?_⟩)
theorem s_f157 (x : ValT) (h : okT (fuel + 1) x = true) : QCG x = some (.t .bool (frmV x), []) := by
 obtain ⟨h1, h2, h3, h4, h5, h6, h7⟩ := Qch h
 have hu : QdT (List.map Val.un x.2.2.2.1) = true := by
  simp only [QdT, Bool.and_eq_true, decide_eq_true_eq, List.length_map, List.all_eq_true, List.mem_map]
  refine ⟨h6, ?_⟩
  rintro y ⟨v, hv, rfl⟩
  rw [Qr6]
  exact h7 v hv
 have ht : tagB x.1 = true := by rcases h1 with e | e | e | e <;> rw [e] <;> rfl
 have hn : bneq x.2.2.1 (ine (iband .i64 x.1 32) 0) = false := by rw [h2]; rcases h1 with e | e | e | e <;> rw [e] <;> rfl
 simp only [QCG, QmR, QpI, ht, hn, hu, Bool.not_true, Qac, Qae]
 cases hq : x.2.2.1 with
 | true =>
  rw [h3 hq]
  rfl
 | false =>
  rw [h4 hq]
  rfl
theorem QOf : Meets Tryz.prog 157 (runF Qxa QtC QBG false) := mG Tryz.func157 (by kernel_rfl) Tryz.ntmps157 (by kernel_rfl) QPP QOA
end
theorem QhD : ∀ N : Nat, Meets Tryz.prog 157 (strip (@Qf4 ⟨N⟩))
 | 0 => QbJ fun x => by first | rfl | simp [okT]
 | N + 1 => by
  letI : Fuel := ⟨N⟩
  haveI : Nonempty (PLift (Meets Tryz.prog 157 (strip Qf4))) := ⟨⟨QhD N⟩⟩
  exact Qaf QOf fun x hok => (e_f157 x.1).trans (s_f157 x.1 hok)
def QAP : Ent := spec (.pr Qah .nil) (fun x => (frmOk x.1)) (fun x => (.t .bool (frmV x.1)))
theorem QNJ : Meets Tryz.prog 157 (strip QAP) := QbK QhD fun x hok => Qnp x.1 hok
theorem QFw : Qag Tryz.prog 149 := .inr ⟨by decide, _, Tryz.func149, by kernel_rfl, by kernel_rfl⟩
def Qf7 [Fuel] : Ent := spec (.pr Qah .nil) (fun x => (okT fuel x.1)) (fun x => (.t .bool (frmV x.1)))
theorem QI5 : Qag Tryz.prog 149 := QFw
section
variable [Fuel] [Nonempty (PLift (Meets Tryz.prog 149 (strip Qf7)))]
theorem QHL : Meets Tryz.prog 149 (strip Qf7) := (Classical.choice (inferInstance : Nonempty (PLift (Meets Tryz.prog 149 (strip Qf7))))).down
def frmIn [Fuel] (x : ValT) : Bool := okT (fuel + 1) x
def QfK : Fg := ⟨[(1, none), (3, some tI)], [(1, some Qah)]⟩
noncomputable def Qhi : TC := (.sq (.sq (.reg (rT Tryz.f149 4)) (.cd (.t 43) .sk (.fg ⟨[], []⟩ (.ex 0)))) (.sq (.bk 1 (.sq (.reg (rT Tryz.f149 5)) (.cd (.t 52) (.sq (.reg (rT Tryz.f149 6)) (.fg ⟨[(2, some .bool)], []⟩ .rt)) .sk))) (.reg (rT Tryz.f149 7))))
noncomputable def QtK : TC := (.sq (.reg (rT Tryz.f149 0)) (.sq (.sq (.reg (rT Tryz.f149 1)) (.cd (.t 38) (.sq (.reg (rT Tryz.f149 2)) .rt) .sk)) (.sq (.sq (.reg (rT Tryz.f149 3)) (.bk 0 (.lp 0 QfK Qhi))) (.sq (.reg (rT Tryz.f149 8)) .rt))))
def QBO : List (RV × Option Ty) := [((.t 2), some .bool)]
abbrev Qmu : Sh := ⟨[(1, .ptr 1 0), (3, .ty tI)], [(1, .box Qah)]⟩
def QlZ (x3 : Int) (y1 : ValT) : VS := Qmu.st ((), x3, ()) (y1, ())
abbrev Qpj : Sh := ⟨[(2, .ty .bool)], []⟩
def QcC (x2 : Bool) : VS := Qpj.st (x2, ()) ()
abbrev QrA : Sh := ⟨[], []⟩
def Qdo  : VS := QrA.st () ()
def QKo : VS → Option (Bool × List (Bool × Exit × VS)) := mkL Qmu (fun x y => (decide (0 ≤ x.2.1 ∧ x.2.1 ≤ y.1.2.2.2.1.length) && frmIn y.1)) (fun x y => [((false), .ret, QcC (false)), (true, .exit 0, Qdo)])
def QjR : G := ⟨TYs, [], 53, EL [(149, Qf7), (168, QAJ)], keeps, (Ls [QKo]), IL [], RL []⟩
def Qx5 (x3 : Int) (y1 : ValT) : Option (Exit × VS) :=
 let a1 := List.map Val.un y1.2.2.2.1
 let a2 := lgt Qah a1 (Int.toNat x3)
 br (ilt x3 (llen a1)) (br (cIx a1 x3) (br (okT fuel a2) (br (!(frmV a2)) (some (.ret, QcC false)) (some (.normal, QlZ (iadd .i64 x3 1) y1))) none) none) (some (.exit 0, Qdo))
noncomputable def QhQ (x3 : Int) (y1 : ValT) : Option (Exit × VS) := loopF (Qaj QjR QfK Qhi) (QlZ x3 y1)
noncomputable def QkI (x3 : Int) (y1 : ValT) : Option (Exit × VS) :=
 let a1 := List.map Val.un y1.2.2.2.1
 let a2 := lgt Qah a1 (Int.toNat x3)
 br (ilt x3 (llen a1)) (br (cIx a1 x3) (br (okT fuel a2) (br (!(frmV a2)) (some (.ret, QcC false)) (QhQ (iadd .i64 x3 1) y1)) none) none) (some (.exit 0, Qdo))
def Qnj (x3 : Int) (y1 : ValT) : Option (Exit × VS) := br (false) (some (.ret, QcC (false))) <| some (.exit 0, Qdo)
theorem QGi (x3 : Int) (y1 : ValT) : Qaj QjR QfK Qhi (QlZ x3 y1) = Qx5 x3 y1 := by kernel_rfl
theorem Qsv (x3 : Int) (y1 : ValT) : QhQ x3 y1 = QkI x3 y1 := (Qaq _ _).trans (by
 rw [QGi]
 simp only [Qx5, QkI, QaE, nxt_n, nxt_r, nxt_e, nxt_0]
 rfl)
def QpJ (p0 : ValT) : Option (V × List VO) := br (decide (0 ≤ (0 : Int) ∧ (0 : Int) ≤ p0.2.2.2.1.length) && frmIn p0) (br (false) (some (.t .bool (false), [])) (some (.t .bool true, []))) none
def QpK (p0 : ValT) : Option (V × List VO) := br (!p0.2.2.1) (br (igt (llen (List.map Val.un p0.2.2.2.1)) 0) (some (.t .bool false, [])) (QpJ p0)) (QpJ p0)
def QCN (p0 : ValT) : Option (V × List VO) := br (!(tagR p0.1)) (some (.t .bool false, [])) (br (cNz 32) (br (cNz 2) (br (bneq p0.2.2.1 (ieq (irem (iquo .i64 p0.1 32) 2) 1)) (some (.t .bool false, [])) (br (p0.2.2.1) (br (igt (llen p0.2.1) 0) (some (.t .bool false, [])) (QpK p0)) (QpK p0))) none) none)
theorem e_f149 (p0 : ValT) : runF QjR QtK QBO false [.t Qah p0] [] = QCN p0 := by kernel_rfl
theorem QPX : GOk Tryz.prog QjR := Qan _ (gA (gC QI5 QHL (gC QQu QND gN)))
theorem QIt (x3 : Int) (y1 : ValT) (h : (decide (0 ≤ x3 ∧ x3 ≤ y1.2.2.2.1.length) && frmIn y1) = true) : QhQ x3 y1 = Qnj x3 y1 := by
 simp only [Bool.and_eq_true, decide_eq_true_eq] at h
 obtain ⟨⟨h0, h1⟩, hc⟩ := h
 obtain ⟨k, rfl⟩ := Int.eq_ofNat_of_zero_le h0
 have hm := Qvb hc
 have hl := (Qch hc).2.2.2.2.2.1
 refine Qav (List.map Val.un y1.2.2.2.1) (fun k => QhQ (k : Int) y1 = Qnj (k : Int) y1) ?_ ?_ k (by rw [List.length_map]; omega)
 ·rw [Qsv]
  simp [QkI, Qnj, ilt, llen, Qae]
 ·intro k hk ih
  rw [Qsv]
  have hk2 : k < y1.2.2.2.1.length := by rw [List.length_map] at hk; exact hk
  simp only [QkI, show ilt (k : Int) (llen (List.map Val.un y1.2.2.2.1)) = true from decide_eq_true (by simp only [llen]; omega), Qay, hk, decide_true, Qac, Int.toNat_natCast, add1 (show k < 4611686018427387904 by omega), QaG (y := Qah) hk, hm k hk, frmV, Bool.not_true, Qae, ih]
  rfl
theorem QD5 : ∀ S l p, QjR.L 0 (fgt QfK S) = some (true, l) → pickA l = some p → loopF (Qaj QjR QfK Qhi) S = some p :=
 QaF (s := Qmu) ⟨by decide, by decide⟩ (by kernel_rfl) fun x y hok p hp => by
 simp only [Qas, Qap] at hp
 exact (QIt x.2.1 y.1 (by simpa using hok)).trans hp
theorem QOI : QtK.lok QjR := by
 repeat (first | exact trivial | exact QD5 | refine ⟨?_, ?_⟩)
theorem s_f149 (x : ValT) (h : okT (fuel + 1) x = true) : QCN x = some (.t .bool (frmV x), []) := by
 obtain ⟨h1, h2, h3, h4, h5, h6, h7⟩ := Qch h
 have ht : tagR x.1 = true := by rcases h1 with e | e | e | e <;> rw [e] <;> rfl
 have hn : bneq x.2.2.1 (ieq (irem (iquo .i64 x.1 32) 2) 1) = false := by rw [h2]; rcases h1 with e | e | e | e <;> rw [e] <;> rfl
 have hd : decide ((0 : Int) ≤ 0 ∧ (0 : Int) ≤ x.2.2.2.1.length) = true := decide_eq_true (by omega)
 simp only [QCN, QpK, QpJ, ht, hn, hd, show frmIn x = true from h, Bool.and_self, show cNz 32 = true from rfl, show cNz 2 = true from rfl, Bool.not_true, Qac, Qae]
 cases hq : x.2.2.1 with
 | true =>
  rw [h3 hq]
  rfl
 | false =>
  rw [h4 hq]
  rfl
theorem QOi : Meets Tryz.prog 149 (runF QjR QtK QBO false) := mG Tryz.func149 (by kernel_rfl) Tryz.ntmps149 (by kernel_rfl) QPX QOI
end
theorem Qfp : ∀ N : Nat, Meets Tryz.prog 149 (strip (@Qf7 ⟨N⟩))
 | 0 => QbJ fun x => by first | rfl | simp [okT]
 | N + 1 => by
  letI : Fuel := ⟨N⟩
  haveI : Nonempty (PLift (Meets Tryz.prog 149 (strip Qf7))) := ⟨⟨Qfp N⟩⟩
  exact Qaf QOi fun x hok => (e_f149 x.1).trans (s_f149 x.1 hok)
def QAV : Ent := spec (.pr Qah .nil) (fun x => (frmOk x.1)) (fun x => (.t .bool (frmV x.1)))
theorem QNP : Meets Tryz.prog 149 (strip QAV) := QbK Qfp fun x hok => Qji x.1 hok
def dpV (x : ValT) : Int := (depV (Val.of x) : Int)
def depLF (n : Nat) (x : ValT) : Bool := okT n x && decide (n ≤ 100)
def dpOk (x : ValT) : Bool := okT 12 x
theorem Qn0 (x : ValT) (h : dpOk x = true) : ∃ N, depLF N x = true := ⟨12, by rw [depLF, show okT 12 x = true from h]; rfl⟩
theorem Qj5 (x : ValT) (h : dpOk x = true) : ∃ N, depLF N x = true := ⟨12, by rw [depLF, show okT 12 x = true from h]; rfl⟩
def depL (l : List ValT) : Nat := depVs (l.map Val.of)
theorem QxK : depL [] = 0 := rfl
theorem Qs7 (x : ValT) (l : List ValT) : depL (x :: l) = max (depV (Val.of x)) (depL l) := rfl
theorem Qqy (x : ValT) : depV (Val.of x) = depVs x.2.2.2.1 + 1 := rfl
theorem QEH (a b : Nat) : imx (a : Int) (b : Int) = ((max a b : Nat) : Int) := by
 unfold imx
 split <;> omega
theorem QFq : Qag Tryz.prog 158 := .inr ⟨by decide, _, Tryz.func158, by kernel_rfl, by kernel_rfl⟩
def Qf3 [Fuel] : Ent := spec (.pr Qah .nil) (fun x => (depLF fuel x.1)) (fun x => (.t tI (dpV x.1)))
theorem QI1 : Qag Tryz.prog 158 := QFq
section
variable [Fuel] [Nonempty (PLift (Meets Tryz.prog 158 (strip Qf3)))]
theorem QHH : Meets Tryz.prog 158 (strip Qf3) := (Classical.choice (inferInstance : Nonempty (PLift (Meets Tryz.prog 158 (strip Qf3))))).down
def depIn [Fuel] (l : List ValT) : Bool := decide (l.length ≤ 100000 ∧ fuel + 1 ≤ 100) && l.all (okT fuel)
def QfG : Fg := ⟨[(3, some tI), (7, some (.sl Qah)), (8, some tI), (9, some tI)], []⟩
noncomputable def Qhe : TC := (.sq (.reg (rT Tryz.f158 3)) (.sq (.cd (.t 10) .sk (.fg ⟨[(3, some tI)], []⟩ (.ex 0))) (.sq (.bk 1 (.sq (.reg (rT Tryz.f158 4)) (.reg (rT Tryz.f158 5)))) (.reg (rT Tryz.f158 6)))))
noncomputable def QtB : TC := (.sq (.reg (rT Tryz.f158 0)) (.sq (.reg (rT Tryz.f158 1)) (.sq (.sq (.reg (rT Tryz.f158 2)) (.bk 0 (.lp 0 QfG Qhe))) (.sq (.reg (rT Tryz.f158 7)) .rt))))
def QBF : List (RV × Option Ty) := [((.t 2), some tI)]
abbrev Qmq : Sh := ⟨[(3, .ty tI), (7, .ty (.sl Qah)), (8, .ty tI), (9, .ty tI)], []⟩
def QlV (x3 : Int) (x7 : List ValT) (x8 x9 : Int) : VS := Qmq.st (x3, x7, x8, x9, ()) ()
abbrev Qrw : Sh := ⟨[(3, .ty tI)], []⟩
def Qdl (x3 : Int) : VS := Qrw.st (x3, ()) ()
def QKk : VS → Option (Bool × List (Bool × Exit × VS)) := mkL Qmq (fun x y => (rngOk x.2.1 x.2.2.1 x.2.2.2.1 && depIn x.2.1 && decide (0 ≤ x.1 ∧ x.1 ≤ 100))) (fun x y => [(true, .exit 0, Qdl ((max x.1.toNat (depL (x.2.1.drop x.2.2.2.1.toNat)) : Nat) : Int))])
def QjN : G := ⟨TYs, [], 20, EL [(158, Qf3)], keeps, (Ls [QKk]), IL [], RL []⟩
def Qx1 (x3 : Int) (x7 : List ValT) (x8 x9 : Int) : Option (Exit × VS) :=
 let a1 := lgt Qah x7 (Int.toNat x9)
 br (ilt x9 x8) (br (cIx x7 x9) (br (depLF fuel a1) (some (.normal, QlV (imx x3 (dpV a1)) x7 x8 (iadd .i64 x9 1))) none) none) (some (.exit 0, Qdl x3))
noncomputable def QhN (x3 : Int) (x7 : List ValT) (x8 x9 : Int) : Option (Exit × VS) := loopF (Qaj QjN QfG Qhe) (QlV x3 x7 x8 x9)
noncomputable def QkF (x3 : Int) (x7 : List ValT) (x8 x9 : Int) : Option (Exit × VS) :=
 let a1 := lgt Qah x7 (Int.toNat x9)
 br (ilt x9 x8) (br (cIx x7 x9) (br (depLF fuel a1) (QhN (imx x3 (dpV a1)) x7 x8 (iadd .i64 x9 1)) none) none) (some (.exit 0, Qdl x3))
def Qh8 (x3 : Int) (x7 : List ValT) (x8 x9 : Int) : Option (Exit × VS) := some (.exit 0, Qdl ((max x3.toNat (depL (x7.drop x9.toNat)) : Nat) : Int))
theorem QGe (x3 : Int) (x7 : List ValT) (x8 x9 : Int) : Qaj QjN QfG Qhe (QlV x3 x7 x8 x9) = Qx1 x3 x7 x8 x9 := by kernel_rfl
theorem Qss (x3 : Int) (x7 : List ValT) (x8 x9 : Int) : QhN x3 x7 x8 x9 = QkF x3 x7 x8 x9 := (Qaq _ _).trans (by
 rw [QGe]
 simp only [Qx1, QkF, QaE, nxt_n, nxt_r, nxt_e, nxt_0]
 rfl)
def QCF (p0 : ValT) : Option (V × List VO) :=
 let a1 := List.map Val.un p0.2.2.2.1
 br (rngOk a1 (llen a1) (0 : Int) && depIn a1 && decide (0 ≤ (0 : Int) ∧ (0 : Int) ≤ 100)) (some (.t tI (iadd .i64 ((max (0 : Int).toNat (depL (a1.drop (0 : Int).toNat)) : Nat) : Int) 1), [])) none
theorem e_f158 (p0 : ValT) : runF QjN QtB QBF false [.t Qah p0] [] = QCF p0 := by kernel_rfl
theorem QPO : GOk Tryz.prog QjN := Qan _ (gA (gC QI1 QHH gN))
theorem QIp (x3 : Int) (x7 : List ValT) (x8 x9 : Int) (h : (rngOk x7 x8 x9 && depIn x7 && decide (0 ≤ x3 ∧ x3 ≤ 100)) = true) : QhN x3 x7 x8 x9 = Qh8 x3 x7 x8 x9 := by
 simp only [Bool.and_eq_true, decide_eq_true_eq] at h
 obtain ⟨⟨h0, hc⟩, h1, h2⟩ := h
 obtain ⟨rfl, h3, k, rfl, hk⟩ := rng_k h0
 clear h0
 obtain ⟨m, rfl⟩ := Int.eq_ofNat_of_zero_le h1
 clear h1 h2
 simp only [depIn, Bool.and_eq_true, List.all_eq_true, decide_eq_true_eq] at hc
 obtain ⟨⟨hc0, hc1⟩, hc2⟩ := hc
 revert m
 refine Qav x7 (fun k => ∀ m : Nat, QhN (m : Int) x7 (x7.length : Int) (k : Int) = Qh8 (m : Int) x7 (x7.length : Int) (k : Int)) ?_ ?_ k hk
 ·intro m
  rw [Qss]
  simp [QkF, Qh8, Qaz, Qae, QxK]
 ·intro k hk ih m
  rw [Qss]
  have hx := hc2 x7[k] (List.getElem_mem hk)
  have hd : depLF fuel x7[k] = true := by rw [depLF, hx, decide_eq_true (by omega)]; rfl
  simp only [QkF, Qaz, Qay, hk, decide_true, Qac, Int.toNat_natCast, add1 (show k < 4611686018427387904 by omega), QaG (y := Qah) hk, hd, dpV, QEH, ih]
  simp only [Qh8, Int.toNat_natCast, List.drop_eq_getElem_cons hk, Qs7, Nat.max_assoc]
theorem QD1 : ∀ S l p, QjN.L 0 (fgt QfG S) = some (true, l) → pickA l = some p → loopF (Qaj QjN QfG Qhe) S = some p :=
 QaF (s := Qmq) ⟨by decide, by decide⟩ (by kernel_rfl) fun x y hok p hp => by
 simp only [Qas, Qap] at hp
 exact (QIp x.1 x.2.1 x.2.2.1 x.2.2.2.1 (by simpa using hok)).trans hp
theorem QOz : QtB.lok QjN := by
 repeat (first | exact trivial | exact QD1 | refine ⟨?_, ?_⟩)
theorem s_f158 (x : ValT) (h : depLF (fuel + 1) x = true) : QCF x = some (.t tI (dpV x), []) := by
 simp only [depLF, Bool.and_eq_true, decide_eq_true_eq] at h
 obtain ⟨h, hf⟩ := h
 obtain ⟨h1, h2, h3, h4, h5, h6, h7⟩ := Qch h
 have hu : depIn (List.map Val.un x.2.2.2.1) = true := by
  simp only [depIn, Bool.and_eq_true, decide_eq_true_eq, List.length_map, List.all_eq_true, List.mem_map]
  refine ⟨⟨h6, hf⟩, ?_⟩
  rintro y ⟨v, hv, rfl⟩
  rw [Qr6]
  exact h7 v hv
 have hd := QpQ (v := Val.of x) h
 rw [Qqy] at hd
 simp only [QCF, rng_0 (show (List.map Val.un x.2.2.2.1).length ≤ 100000 by rw [List.length_map]; exact h6), hu, Bool.and_self, show decide ((0 : Int) ≤ 0 ∧ (0 : Int) ≤ 100) = true from rfl, Qac, Int.toNat_zero, List.drop_zero, depL, Qcq, Nat.zero_max]
 rw [Qb9 (by omega)]
 simp only [dpV, Qqy]
 congr 2
theorem QOe : Meets Tryz.prog 158 (runF QjN QtB QBF false) := mG Tryz.func158 (by kernel_rfl) Tryz.ntmps158 (by kernel_rfl) QPO QOz
end
theorem QjG : ∀ N : Nat, Meets Tryz.prog 158 (strip (@Qf3 ⟨N⟩))
 | 0 => QbJ fun x => by first | rfl | simp [depLF]
 | N + 1 => by
  letI : Fuel := ⟨N⟩
  haveI : Nonempty (PLift (Meets Tryz.prog 158 (strip Qf3))) := ⟨⟨QjG N⟩⟩
  exact Qaf QOe fun x hok => (e_f158 x.1).trans (s_f158 x.1 hok)
def QAO : Ent := spec (.pr Qah .nil) (fun x => (dpOk x.1)) (fun x => (.t tI (dpV x.1)))
theorem QNI : Meets Tryz.prog 158 (strip QAO) := QbK QjG fun x hok => Qn0 x.1 hok
theorem QFv : Qag Tryz.prog 150 := .inr ⟨by decide, _, Tryz.func150, by kernel_rfl, by kernel_rfl⟩
def Qf6 [Fuel] : Ent := spec (.pr Qah .nil) (fun x => (depLF fuel x.1)) (fun x => (.t tI (dpV x.1)))
theorem QI4 : Qag Tryz.prog 150 := QFv
section
variable [Fuel] [Nonempty (PLift (Meets Tryz.prog 150 (strip Qf6)))]
theorem QHK : Meets Tryz.prog 150 (strip Qf6) := (Classical.choice (inferInstance : Nonempty (PLift (Meets Tryz.prog 150 (strip Qf6))))).down
def Qs8 [Fuel] (x : ValT) : Bool := depLF (fuel + 1) x
def QfJ : Fg := ⟨[(1, none), (3, some tI), (4, some tI)], [(1, some Qah)]⟩
noncomputable def Qhh : TC := (.sq (.sq (.reg (rT Tryz.f150 3)) (.cd (.t 9) .sk (.fg ⟨[(3, some tI)], []⟩ (.ex 0)))) (.sq (.bk 1 (.reg (rT Tryz.f150 4))) (.reg (rT Tryz.f150 5))))
noncomputable def QtJ : TC := (.sq (.reg (rT Tryz.f150 0)) (.sq (.reg (rT Tryz.f150 1)) (.sq (.sq (.reg (rT Tryz.f150 2)) (.bk 0 (.lp 0 QfJ Qhh))) (.sq (.reg (rT Tryz.f150 6)) .rt))))
def QBN : List (RV × Option Ty) := [((.t 2), some tI)]
abbrev Qmt : Sh := ⟨[(1, .ptr 1 0), (3, .ty tI), (4, .ty tI)], [(1, .box Qah)]⟩
def QlY (x3 x4 : Int) (y1 : ValT) : VS := Qmt.st ((), x3, x4, ()) (y1, ())
abbrev Qrz : Sh := ⟨[(3, .ty tI)], []⟩
def Qdn (x3 : Int) : VS := Qrz.st (x3, ()) ()
def QKn : VS → Option (Bool × List (Bool × Exit × VS)) := mkL Qmt (fun x y => (decide (0 ≤ x.2.2.1 ∧ x.2.2.1 ≤ y.1.2.2.2.1.length ∧ 0 ≤ x.2.1 ∧ x.2.1 ≤ 100) && Qs8 y.1)) (fun x y => [(true, .exit 0, Qdn ((max x.2.1.toNat (depL ((List.map Val.un y.1.2.2.2.1).drop x.2.2.1.toNat)) : Nat) : Int))])
def QjQ : G := ⟨TYs, [], 22, EL [(150, Qf6)], keeps, (Ls [QKn]), IL [], RL []⟩
def Qx4 (x3 x4 : Int) (y1 : ValT) : Option (Exit × VS) :=
 let a1 := List.map Val.un y1.2.2.2.1
 let a2 := lgt Qah a1 (Int.toNat x4)
 br (ilt x4 (llen a1)) (br (cIx a1 x4) (br (depLF fuel a2) (some (.normal, QlY (imx x3 (dpV a2)) (iadd .i64 x4 1) y1)) none) none) (some (.exit 0, Qdn x3))
noncomputable def QhP (x3 x4 : Int) (y1 : ValT) : Option (Exit × VS) := loopF (Qaj QjQ QfJ Qhh) (QlY x3 x4 y1)
noncomputable def QkH (x3 x4 : Int) (y1 : ValT) : Option (Exit × VS) :=
 let a1 := List.map Val.un y1.2.2.2.1
 let a2 := lgt Qah a1 (Int.toNat x4)
 br (ilt x4 (llen a1)) (br (cIx a1 x4) (br (depLF fuel a2) (QhP (imx x3 (dpV a2)) (iadd .i64 x4 1) y1) none) none) (some (.exit 0, Qdn x3))
def Qia (x3 x4 : Int) (y1 : ValT) : Option (Exit × VS) := some (.exit 0, Qdn ((max x3.toNat (depL ((List.map Val.un y1.2.2.2.1).drop x4.toNat)) : Nat) : Int))
theorem QGh (x3 x4 : Int) (y1 : ValT) : Qaj QjQ QfJ Qhh (QlY x3 x4 y1) = Qx4 x3 x4 y1 := by kernel_rfl
theorem Qsu (x3 x4 : Int) (y1 : ValT) : QhP x3 x4 y1 = QkH x3 x4 y1 := (Qaq _ _).trans (by
 rw [QGh]
 simp only [Qx4, QkH, QaE, nxt_n, nxt_r, nxt_e, nxt_0]
 rfl)
def QCM (p0 : ValT) : Option (V × List VO) := br (decide (0 ≤ (0 : Int) ∧ (0 : Int) ≤ p0.2.2.2.1.length ∧ 0 ≤ (0 : Int) ∧ (0 : Int) ≤ 100) && Qs8 p0) (some (.t tI (iadd .i64 ((max (0 : Int).toNat (depL ((List.map Val.un p0.2.2.2.1).drop (0 : Int).toNat)) : Nat) : Int) 1), [])) none
theorem e_f150 (p0 : ValT) : runF QjQ QtJ QBN false [.t Qah p0] [] = QCM p0 := by kernel_rfl
theorem QPW : GOk Tryz.prog QjQ := Qan _ (gA (gC QI4 QHK gN))
theorem QIs (x3 x4 : Int) (y1 : ValT) (h : (decide (0 ≤ x4 ∧ x4 ≤ y1.2.2.2.1.length ∧ 0 ≤ x3 ∧ x3 ≤ 100) && Qs8 y1) = true) : QhP x3 x4 y1 = Qia x3 x4 y1 := by
 simp only [Bool.and_eq_true, decide_eq_true_eq] at h
 obtain ⟨⟨h0, h1, h2, h3⟩, hc⟩ := h
 obtain ⟨k, rfl⟩ := Int.eq_ofNat_of_zero_le h0
 obtain ⟨m, rfl⟩ := Int.eq_ofNat_of_zero_le h2
 clear h2 h3
 simp only [Qs8, depLF, Bool.and_eq_true, decide_eq_true_eq] at hc
 obtain ⟨hc, hf⟩ := hc
 have hm := Qvb hc
 have hl := (Qch hc).2.2.2.2.2.1
 revert m
 refine Qav (List.map Val.un y1.2.2.2.1) (fun k => ∀ m : Nat, QhP (m : Int) (k : Int) y1 = Qia (m : Int) (k : Int) y1) ?_ ?_ k (by rw [List.length_map]; omega)
 ·intro m
  rw [Qsu]
  simp only [QkH, show ilt ((List.map Val.un y1.2.2.2.1).length : Int) (llen (List.map Val.un y1.2.2.2.1)) = false from decide_eq_false (by simp only [llen]; omega), Qae]
  simp only [Qia, Int.toNat_natCast, List.drop_length, QxK, Nat.max_zero]
 ·intro k hk ih m
  rw [Qsu]
  have hk2 : k < y1.2.2.2.1.length := by rw [List.length_map] at hk; exact hk
  have hd : depLF fuel (List.map Val.un y1.2.2.2.1)[k] = true := by rw [depLF, hm k hk, decide_eq_true (by omega)]; rfl
  simp only [QkH, show ilt (k : Int) (llen (List.map Val.un y1.2.2.2.1)) = true from decide_eq_true (by simp only [llen]; omega), Qay, hk, decide_true, Qac, Int.toNat_natCast, add1 (show k < 4611686018427387904 by omega), QaG (y := Qah) hk, hd, dpV, QEH, ih]
  simp only [Qia, Int.toNat_natCast, List.drop_eq_getElem_cons hk, Qs7, Nat.max_assoc]
theorem QD4 : ∀ S l p, QjQ.L 0 (fgt QfJ S) = some (true, l) → pickA l = some p → loopF (Qaj QjQ QfJ Qhh) S = some p :=
 QaF (s := Qmt) ⟨by decide, by decide⟩ (by kernel_rfl) fun x y hok p hp => by
 simp only [Qas, Qap] at hp
 exact (QIs x.2.1 x.2.2.1 y.1 (by simpa using hok)).trans hp
theorem QOH : QtJ.lok QjQ := by
 repeat (first | exact trivial | exact QD4 | refine ⟨?_, ?_⟩)
theorem s_f150 (x : ValT) (h : depLF (fuel + 1) x = true) : QCM x = some (.t tI (dpV x), []) := by
 have hin : Qs8 x = true := h
 simp only [depLF, Bool.and_eq_true, decide_eq_true_eq] at h
 obtain ⟨h, hf⟩ := h
 have hd := QpQ (v := Val.of x) h
 rw [Qqy] at hd
 have hdd : decide ((0 : Int) ≤ 0 ∧ (0 : Int) ≤ x.2.2.2.1.length ∧ (0 : Int) ≤ 0 ∧ (0 : Int) ≤ 100) = true := decide_eq_true (by omega)
 simp only [QCM, hin, hdd, Bool.and_self, Qac, Int.toNat_zero, List.drop_zero, depL, Qcq, Nat.zero_max]
 rw [Qb9 (by omega)]
 simp only [dpV, Qqy]
 congr 2
theorem QOh : Meets Tryz.prog 150 (runF QjQ QtJ QBN false) := mG Tryz.func150 (by kernel_rfl) Tryz.ntmps150 (by kernel_rfl) QPW QOH
end
theorem Qgw : ∀ N : Nat, Meets Tryz.prog 150 (strip (@Qf6 ⟨N⟩))
 | 0 => QbJ fun x => by first | rfl | simp [depLF]
 | N + 1 => by
  letI : Fuel := ⟨N⟩
  haveI : Nonempty (PLift (Meets Tryz.prog 150 (strip Qf6))) := ⟨⟨Qgw N⟩⟩
  exact Qaf QOh fun x hok => (e_f150 x.1).trans (s_f150 x.1 hok)
def QAU : Ent := spec (.pr Qah .nil) (fun x => (dpOk x.1)) (fun x => (.t tI (dpV x.1)))
theorem QNO : Meets Tryz.prog 150 (strip QAU) := QbK Qgw fun x hok => Qj5 x.1 hok
end
end Go.Proofs.YtkngeegkjhipeaaGreat.K
