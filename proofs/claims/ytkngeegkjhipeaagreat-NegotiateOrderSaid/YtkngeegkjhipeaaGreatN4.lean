import Derived.Test.YtkngeegkjhipeaaGreatN3
set_option linter.unusedSimpArgs false
set_option linter.unusedVariables false
set_option linter.unusedSectionVars false
namespace Go.Proofs.YtkngeegkjhipeaaGreat.K
open Go.RowKit
noncomputable section
theorem QvF {n : Nat} {x : ValT} (h : okT (n + 1) x = true) : ∀ k (hk : k < (List.map Val.un x.2.2.2.1).length), okT n (List.map Val.un x.2.2.2.1)[k] = true := by
 intro k hk
 rw [List.getElem_map, Qsw]
 exact (Qci h).2.2.2.2.2.2 _ (List.getElem_mem _)
def frmV (_x : ValT) : Bool := true
def frmOk (x : ValT) : Bool := okT 12 x
theorem QnE (x : ValT) (h : frmOk x = true) : ∃ N, okT N x = true := ⟨12, h⟩
theorem Qjo (x : ValT) (h : frmOk x = true) : ∃ N, okT N x = true := ⟨12, h⟩
theorem QF9 : Qag Tryz.prog 157 := .inr ⟨by decide, _, Tryz.func157, by kernel_rfl, by kernel_rfl⟩
def Qf5 [Fuel] : Ent := spec (.pr Qai .nil) (fun x => (okT fuel x.1)) (fun x => (.t .bool (frmV x.1)))
theorem QJH : Qag Tryz.prog 157 := QF9
section
variable [Fuel] [Nonempty (PLift (Meets Tryz.prog 157 (strip Qf5)))]
theorem QIp : Meets Tryz.prog 157 (strip Qf5) := (Classical.choice (inferInstance : Nonempty (PLift (Meets Tryz.prog 157 (strip Qf5))))).down
def unfV (_x : ValT) : Bool := false
def unfOk [Fuel] (x : ValT) : Bool := okT fuel x
def QdT [Fuel] (l : List ValT) : Bool := decide (l.length ≤ 100000) && l.all (okT fuel)
noncomputable def QtR : TC := (.sq (.reg (rT Tryz.f173 0)) (.sq (.reg (rT Tryz.f173 1)) .rt))
def QCb : List (RV × Option Ty) := [((.t 2), some .bool)]
def QxG : G := ⟨TYs, [], 6, EL [(157, Qf5)], keeps, (fun _ _ => none), IL [], RL []⟩
def QDc (p0 : ValT) : Option (V × List VO) := br (okT fuel p0) (some (.t .bool (!(frmV p0)), [])) none
theorem e_f173 (p0 : ValT) : runF QxG QtR QCb false [.t Qai p0] [] = QDc p0 := by kernel_rfl
theorem QRe : Qag Tryz.prog 173 := .inr ⟨by decide, _, Tryz.func173, by kernel_rfl, by kernel_rfl⟩
theorem QQr : GOk Tryz.prog QxG := Qao _ (gA (gC QJH QIp gN))
theorem QPc : QtR.lok QxG := by repeat (first | exact trivial | refine ⟨?_, ?_⟩)
theorem s_f173 (x : ValT) (h : unfOk x = true) : QDc x = some (.t .bool (unfV x), []) := by
 simp only [QDc, show okT fuel x = true from h, Qac]
 rfl
def QBl : Ent := spec (.pr Qai .nil) (fun x => (unfOk x.1)) (fun x => (.t .bool (unfV x.1)))
theorem QOm : Meets Tryz.prog 173 (strip QBl) := Qaf (R := runF QxG QtR QCb false) (mG Tryz.func173 (by kernel_rfl) Tryz.ntmps173 (by kernel_rfl) QQr QPc) fun x hok => (e_f173 x.1).trans (s_f173 x.1 hok)
def QFH (_l : List ValT) : Int := -1
def QbZ : Fg := ⟨[(0, some (.sl Qai)), (1, none), (7, some tI), (8, some tI)], []⟩
noncomputable def Qcy : TC := (.sq (.reg (rT Tryz.f177 2)) (.sq (.cd (.t 9) .sk (.fg ⟨[], []⟩ (.ex 0))) (.sq (.bk 1 (.sq (.reg (rT Tryz.f177 3)) (.sq (.reg (rT Tryz.f177 4)) (.cd (.t 16) (.sq (.reg (rT Tryz.f177 5)) (.fg ⟨[(4, some tI)], []⟩ .rt)) .sk)))) (.reg (rT Tryz.f177 6)))))
noncomputable def QgC : TC := (.sq (.reg (rT Tryz.f177 0)) (.sq (.sq (.reg (rT Tryz.f177 1)) (.bk 0 (.lp 0 QbZ Qcy))) (.sq (.reg (rT Tryz.f177 7)) .rt)))
def QmS : List (RV × Option Ty) := [((.t 4), some tI)]
abbrev Qez : Sh := ⟨[(0, .ty (.sl Qai)), (1, .cf 173), (7, .ty tI), (8, .ty tI)], []⟩
def Qew (x0 : List ValT) (x7 x8 : Int) : VS := Qez.st (x0, (), x7, x8, ()) ()
abbrev Qjc : Sh := ⟨[(4, .ty tI)], []⟩
def Qbr (x4 : Int) : VS := Qjc.st (x4, ()) ()
abbrev Qj9 : Sh := ⟨[], []⟩
def QbB  : VS := Qj9.st () ()
def QtL : VS → Option (Bool × List (Bool × Exit × VS)) := mkL Qez (fun x y => (rngOk x.1 x.2.2.1 x.2.2.2.1 && QdT x.1)) (fun x y => [((false), .ret, Qbr (x.2.2.2.1)), (true, .exit 0, QbB)])
def QbN : G := ⟨TYs, [], 19, EL [(173, QBl)], keeps, (Ls [QtL]), IL [], RL []⟩
def Qj7 (x0 : List ValT) (x7 x8 : Int) : Option (Exit × VS) :=
 let a1 := lgt Qai x0 (Int.toNat x8)
 br (ilt x8 x7) (br (cIx x0 x8) (br (unfOk a1) (br (unfV a1) (some (.ret, Qbr x8)) (some (.normal, Qew x0 x7 (iadd .i64 x8 1)))) none) none) (some (.exit 0, QbB))
noncomputable def QcE (x0 : List ValT) (x7 x8 : Int) : Option (Exit × VS) := loopF (Qaj QbN QbZ Qcy) (Qew x0 x7 x8)
noncomputable def QdC (x0 : List ValT) (x7 x8 : Int) : Option (Exit × VS) :=
 let a1 := lgt Qai x0 (Int.toNat x8)
 br (ilt x8 x7) (br (cIx x0 x8) (br (unfOk a1) (br (unfV a1) (some (.ret, Qbr x8)) (QcE x0 x7 (iadd .i64 x8 1))) none) none) (some (.exit 0, QbB))
def QeQ (x0 : List ValT) (x7 x8 : Int) : Option (Exit × VS) := br (false) (some (.ret, Qbr (x8))) <| some (.exit 0, QbB)
theorem QqX (x0 : List ValT) (x7 x8 : Int) : Qaj QbN QbZ Qcy (Qew x0 x7 x8) = Qj7 x0 x7 x8 := by kernel_rfl
theorem Qh3 (x0 : List ValT) (x7 x8 : Int) : QcE x0 x7 x8 = QdC x0 x7 x8 := (Qaq _ _).trans (by
 rw [QqX]
 simp only [Qj7, QdC, QaE, nxt_n, nxt_r, nxt_e, nxt_0]
 rfl)
def Qjg (p0 : List ValT) : Option (V × List VO) := br (rngOk p0 (llen p0) (0 : Int) && QdT p0) (br (false) (some (.t tI (0 : Int), [])) (some (.t tI (-1), []))) none
theorem Qzy (p0 : List ValT) : runF QbN QgC QmS false [.t (.sl Qai) p0, .c (.func (.func 173) ⟨[]⟩ ⟨[]⟩)] [] = Qjg p0 := by kernel_rfl
theorem Qwd : Qag Tryz.prog 177 := .inr ⟨by decide, _, Tryz.func177, by kernel_rfl, by kernel_rfl⟩
theorem Qv6 : GOk Tryz.prog QbN := Qao _ (gA (gC QRe QOm gN))
theorem Qtb (x0 : List ValT) (x7 x8 : Int) (h : (rngOk x0 x7 x8 && QdT x0) = true) : QcE x0 x7 x8 = QeQ x0 x7 x8 := by
 simp only [Bool.and_eq_true] at h
 obtain ⟨h0, hc⟩ := h
 obtain ⟨rfl, h3, k, rfl, hk⟩ := rng_k h0
 clear h0
 simp only [QdT, Bool.and_eq_true, List.all_eq_true] at hc
 refine Qav x0 (fun k => QcE x0 (x0.length : Int) (k : Int) = QeQ x0 (x0.length : Int) (k : Int)) ?_ ?_ k hk
 ·rw [Qh3]
  simp [QdC, QeQ, Qaz, Qae]
 ·intro k hk ih
  rw [Qh3]
  have hx := hc.2 x0[k] (List.getElem_mem hk)
  simp only [QdC, Qaz, Qay, hk, decide_true, Qac, Int.toNat_natCast, add1 (show k < 4611686018427387904 by omega), QaG (y := Qai) hk, show unfOk x0[k] = true from hx, unfV, Qae, ih]
  rfl
theorem QqA : ∀ S l p, QbN.L 0 (fgt QbZ S) = some (true, l) → pickA l = some p → loopF (Qaj QbN QbZ Qcy) S = some p :=
 QaF (s := Qez) ⟨by decide, by decide⟩ (by kernel_rfl) fun x y hok p hp => by
 simp only [Qar, Qap] at hp
 exact (Qtb x.1 x.2.2.1 x.2.2.2.1 (by simpa using hok)).trans hp
theorem QvX : QgC.lok QbN := by
 repeat (first | exact trivial | exact QqA | refine ⟨?_, ?_⟩)
theorem Qzd (l : List ValT) (h : QdT l = true) : Qjg l = some (.t tI (QFH l), []) := by
 have hl : l.length ≤ 100000 := by simp only [QdT, Bool.and_eq_true, decide_eq_true_eq] at h; exact h.1
 simp only [Qjg, rng_0 hl, h, Bool.true_and, Qac, Qae]
 rfl
def Qmh : Ent := specH [.ty (.sl Qai), .cf 173] [] (fun x d => (QdT x.1)) (fun x d => (.t tI (QFH x.1)))
theorem QvJ : Meets Tryz.prog 177 (strip Qmh) := (Qbb (R := runF QbN QgC QmS false) (mG Tryz.func177 (by kernel_rfl) Tryz.ntmps177 (by kernel_rfl) Qv6 QvX) fun x d hok => (Qzy x.1).trans (Qzd x.1 hok))
def QHz (_l : List ValT) : Bool := false
noncomputable def QgD : TC := (.sq (.reg (rT Tryz.f172 0)) (.sq (.reg (rT Tryz.f172 1)) .rt))
def QmT : List (RV × Option Ty) := [((.t 4), some .bool)]
def Qgl : G := ⟨TYs, [], 9, EL [(177, Qmh)], keeps, (fun _ _ => none), IL [], RL []⟩
def Qjh (p0 : List ValT) : Option (V × List VO) := br (QdT p0) (some (.t .bool (ige (QFH p0) 0), [])) none
theorem Qzz (p0 : List ValT) : runF Qgl QgD QmT false [.t (.sl Qai) p0, .c (.func (.func 173) ⟨[]⟩ ⟨[]⟩)] [] = Qjh p0 := by kernel_rfl
theorem Qwe : Qag Tryz.prog 172 := .inr ⟨by decide, _, Tryz.func172, by kernel_rfl, by kernel_rfl⟩
theorem Qv7 : GOk Tryz.prog Qgl := Qao _ (gA (gC Qwd QvJ gN))
theorem QvY : QgD.lok Qgl := by repeat (first | exact trivial | refine ⟨?_, ?_⟩)
theorem Qze (l : List ValT) (h : QdT l = true) : Qjh l = some (.t .bool (QHz l), []) := by
 simp only [Qjh, h, Qac]
 rfl
def Qmi : Ent := specH [.ty (.sl Qai), .cf 173] [] (fun x d => (QdT x.1)) (fun x d => (.t .bool (QHz x.1)))
theorem QvK : Meets Tryz.prog 172 (strip Qmi) := (Qbb (R := runF Qgl QgD QmT false) (mG Tryz.func172 (by kernel_rfl) Tryz.ntmps172 (by kernel_rfl) Qv7 QvY) fun x d hok => (Qzz x.1).trans (Qze x.1 hok))
noncomputable def Qt3 : TC := (.sq (.reg (rT Tryz.f157 0)) (.sq (.sq (.reg (rT Tryz.f157 1)) (.cd (.t 36) (.sq (.reg (rT Tryz.f157 2)) .rt) .sk)) (.sq (.reg (rT Tryz.f157 3)) .rt)))
def QCn : List (RV × Option Ty) := [((.t 2), some .bool)]
def QxO : G := ⟨TYs, [], 41, EL [(171, QBm), (172, Qmi)], keeps, (fun _ _ => none), IL [], RL []⟩
def Qp2 (p0 : ValT) : Option (V × List VO) :=
 let a1 := List.map Val.un p0.2.2.2.1
 br (QdT a1) (some (.t .bool (!(QHz a1)), [])) none
def Qm1 (p0 : ValT) : Option (V × List VO) := br (!p0.2.2.1) (br (igt (llen (List.map Val.un p0.2.2.2.1)) 0) (some (.t .bool false, [])) (Qp2 p0)) (Qp2 p0)
def QDn (p0 : ValT) : Option (V × List VO) := br (!(tagB p0.1)) (some (.t .bool false, [])) (br (bneq p0.2.2.1 (ine (iband .i64 p0.1 32) 0)) (some (.t .bool false, [])) (br (p0.2.2.1) (br (igt (llen p0.2.1) 0) (some (.t .bool false, [])) (Qm1 p0)) (Qm1 p0)))
theorem e_f157 (p0 : ValT) : runF QxO Qt3 QCn false [.t Qai p0] [] = QDn p0 := by kernel_rfl
theorem QQD : GOk Tryz.prog QxO := Qao _ (gA (gC QRf QOn (gC Qwe QvK gN)))
theorem QPo : Qt3.lok QxO := by repeat (first | exact trivial | refine ⟨?_, ?_⟩)
theorem s_f157 (x : ValT) (h : okT (fuel + 1) x = true) : QDn x = some (.t .bool (frmV x), []) := by
 obtain ⟨h1, h2, h3, h4, h5, h6, h7⟩ := Qci h
 have hu : QdT (List.map Val.un x.2.2.2.1) = true := by
  simp only [QdT, Bool.and_eq_true, decide_eq_true_eq, List.length_map, List.all_eq_true, List.mem_map]
  refine ⟨h6, ?_⟩
  rintro y ⟨v, hv, rfl⟩
  rw [Qsw]
  exact h7 v hv
 have ht : tagB x.1 = true := by rcases h1 with e | e | e | e <;> rw [e] <;> rfl
 have hn : bneq x.2.2.1 (ine (iband .i64 x.1 32) 0) = false := by rw [h2]; rcases h1 with e | e | e | e <;> rw [e] <;> rfl
 simp only [QDn, Qm1, Qp2, ht, hn, hu, Bool.not_true, Qac, Qae]
 cases hq : x.2.2.1 with
 | true =>
  rw [h3 hq]
  rfl
 | false =>
  rw [h4 hq]
  rfl
theorem QO2 : Meets Tryz.prog 157 (runF QxO Qt3 QCn false) := mG Tryz.func157 (by kernel_rfl) Tryz.ntmps157 (by kernel_rfl) QQD QPo
end
theorem QhG : ∀ N : Nat, Meets Tryz.prog 157 (strip (@Qf5 ⟨N⟩))
 | 0 => QbJ fun x => by first | rfl | simp [okT]
 | N + 1 => by
  letI : Fuel := ⟨N⟩
  haveI : Nonempty (PLift (Meets Tryz.prog 157 (strip Qf5))) := ⟨⟨QhG N⟩⟩
  exact Qaf QO2 fun x hok => (e_f157 x.1).trans (s_f157 x.1 hok)
def QBv : Ent := spec (.pr Qai .nil) (fun x => (frmOk x.1)) (fun x => (.t .bool (frmV x.1)))
theorem QOw : Meets Tryz.prog 157 (strip QBv) := QbK QhG fun x hok => QnE x.1 hok
theorem QGe : Qag Tryz.prog 149 := .inr ⟨by decide, _, Tryz.func149, by kernel_rfl, by kernel_rfl⟩
def Qf8 [Fuel] : Ent := spec (.pr Qai .nil) (fun x => (okT fuel x.1)) (fun x => (.t .bool (frmV x.1)))
theorem QJK : Qag Tryz.prog 149 := QGe
section
variable [Fuel] [Nonempty (PLift (Meets Tryz.prog 149 (strip Qf8)))]
theorem QIs : Meets Tryz.prog 149 (strip Qf8) := (Classical.choice (inferInstance : Nonempty (PLift (Meets Tryz.prog 149 (strip Qf8))))).down
def frmIn [Fuel] (x : ValT) : Bool := okT (fuel + 1) x
def QfJ : Fg := ⟨[(1, none), (3, some tI)], [(1, some Qai)]⟩
noncomputable def Qhj : TC := (.sq (.sq (.reg (rT Tryz.f149 4)) (.cd (.t 43) .sk (.fg ⟨[], []⟩ (.ex 0)))) (.sq (.bk 1 (.sq (.reg (rT Tryz.f149 5)) (.cd (.t 52) (.sq (.reg (rT Tryz.f149 6)) (.fg ⟨[(2, some .bool)], []⟩ .rt)) .sk))) (.reg (rT Tryz.f149 7))))
noncomputable def Qub : TC := (.sq (.reg (rT Tryz.f149 0)) (.sq (.sq (.reg (rT Tryz.f149 1)) (.cd (.t 38) (.sq (.reg (rT Tryz.f149 2)) .rt) .sk)) (.sq (.sq (.reg (rT Tryz.f149 3)) (.bk 0 (.lp 0 QfJ Qhj))) (.sq (.reg (rT Tryz.f149 8)) .rt))))
def QCv : List (RV × Option Ty) := [((.t 2), some .bool)]
abbrev QmD : Sh := ⟨[(1, .ptr 1 0), (3, .ty tI)], [(1, .box Qai)]⟩
def Ql8 (x3 : Int) (y1 : ValT) : VS := QmD.st ((), x3, ()) (y1, ())
abbrev QpC : Sh := ⟨[(2, .ty .bool)], []⟩
def Qcz (x2 : Bool) : VS := QpC.st (x2, ()) ()
abbrev QrS : Sh := ⟨[], []⟩
def Qdo  : VS := QrS.st () ()
def QK4 : VS → Option (Bool × List (Bool × Exit × VS)) := mkL QmD (fun x y => (decide (0 ≤ x.2.1 ∧ x.2.1 ≤ y.1.2.2.2.1.length) && frmIn y.1)) (fun x y => [((false), .ret, Qcz (false)), (true, .exit 0, Qdo)])
def QjX : G := ⟨TYs, [], 53, EL [(149, Qf8), (168, QBp)], keeps, (Ls [QK4]), IL [], RL []⟩
def QyI (x3 : Int) (y1 : ValT) : Option (Exit × VS) :=
 let a1 := List.map Val.un y1.2.2.2.1
 let a2 := lgt Qai a1 (Int.toNat x3)
 br (ilt x3 (llen a1)) (br (cIx a1 x3) (br (okT fuel a2) (br (!(frmV a2)) (some (.ret, Qcz false)) (some (.normal, Ql8 (iadd .i64 x3 1) y1))) none) none) (some (.exit 0, Qdo))
noncomputable def QhT (x3 : Int) (y1 : ValT) : Option (Exit × VS) := loopF (Qaj QjX QfJ Qhj) (Ql8 x3 y1)
noncomputable def QkO (x3 : Int) (y1 : ValT) : Option (Exit × VS) :=
 let a1 := List.map Val.un y1.2.2.2.1
 let a2 := lgt Qai a1 (Int.toNat x3)
 br (ilt x3 (llen a1)) (br (cIx a1 x3) (br (okT fuel a2) (br (!(frmV a2)) (some (.ret, Qcz false)) (QhT (iadd .i64 x3 1) y1)) none) none) (some (.exit 0, Qdo))
def Qnx (x3 : Int) (y1 : ValT) : Option (Exit × VS) := br (false) (some (.ret, Qcz (false))) <| some (.exit 0, Qdo)
theorem QGZ (x3 : Int) (y1 : ValT) : Qaj QjX QfJ Qhj (Ql8 x3 y1) = QyI x3 y1 := by kernel_rfl
theorem QsV (x3 : Int) (y1 : ValT) : QhT x3 y1 = QkO x3 y1 := (Qaq _ _).trans (by
 rw [QGZ]
 simp only [QyI, QkO, QaE, nxt_n, nxt_r, nxt_e, nxt_0]
 rfl)
def Qp3 (p0 : ValT) : Option (V × List VO) := br (decide (0 ≤ (0 : Int) ∧ (0 : Int) ≤ p0.2.2.2.1.length) && frmIn p0) (br (false) (some (.t .bool (false), [])) (some (.t .bool true, []))) none
def Qp4 (p0 : ValT) : Option (V × List VO) := br (!p0.2.2.1) (br (igt (llen (List.map Val.un p0.2.2.2.1)) 0) (some (.t .bool false, [])) (Qp3 p0)) (Qp3 p0)
def QDu (p0 : ValT) : Option (V × List VO) := br (!(tagR p0.1)) (some (.t .bool false, [])) (br (cNz 32) (br (cNz 2) (br (bneq p0.2.2.1 (ieq (irem (iquo .i64 p0.1 32) 2) 1)) (some (.t .bool false, [])) (br (p0.2.2.1) (br (igt (llen p0.2.1) 0) (some (.t .bool false, [])) (Qp4 p0)) (Qp4 p0))) none) none)
theorem e_f149 (p0 : ValT) : runF QjX Qub QCv false [.t Qai p0] [] = QDu p0 := by kernel_rfl
theorem QQL : GOk Tryz.prog QjX := Qao _ (gA (gC QJK QIs (gC QRh QOq gN)))
theorem QJb (x3 : Int) (y1 : ValT) (h : (decide (0 ≤ x3 ∧ x3 ≤ y1.2.2.2.1.length) && frmIn y1) = true) : QhT x3 y1 = Qnx x3 y1 := by
 simp only [Bool.and_eq_true, decide_eq_true_eq] at h
 obtain ⟨⟨h0, h1⟩, hc⟩ := h
 obtain ⟨k, rfl⟩ := Int.eq_ofNat_of_zero_le h0
 have hm := QvF hc
 have hl := (Qci hc).2.2.2.2.2.1
 refine Qav (List.map Val.un y1.2.2.2.1) (fun k => QhT (k : Int) y1 = Qnx (k : Int) y1) ?_ ?_ k (by rw [List.length_map]; omega)
 ·rw [QsV]
  simp [QkO, Qnx, ilt, llen, Qae]
 ·intro k hk ih
  rw [QsV]
  have hk2 : k < y1.2.2.2.1.length := by rw [List.length_map] at hk; exact hk
  simp only [QkO, show ilt (k : Int) (llen (List.map Val.un y1.2.2.2.1)) = true from decide_eq_true (by simp only [llen]; omega), Qay, hk, decide_true, Qac, Int.toNat_natCast, add1 (show k < 4611686018427387904 by omega), QaG (y := Qai) hk, hm k hk, frmV, Bool.not_true, Qae, ih]
  rfl
theorem QEL : ∀ S l p, QjX.L 0 (fgt QfJ S) = some (true, l) → pickA l = some p → loopF (Qaj QjX QfJ Qhj) S = some p :=
 QaF (s := QmD) ⟨by decide, by decide⟩ (by kernel_rfl) fun x y hok p hp => by
 simp only [Qar, Qap] at hp
 exact (QJb x.2.1 y.1 (by simpa using hok)).trans hp
theorem QPw : Qub.lok QjX := by
 repeat (first | exact trivial | exact QEL | refine ⟨?_, ?_⟩)
theorem s_f149 (x : ValT) (h : okT (fuel + 1) x = true) : QDu x = some (.t .bool (frmV x), []) := by
 obtain ⟨h1, h2, h3, h4, h5, h6, h7⟩ := Qci h
 have ht : tagR x.1 = true := by rcases h1 with e | e | e | e <;> rw [e] <;> rfl
 have hn : bneq x.2.2.1 (ieq (irem (iquo .i64 x.1 32) 2) 1) = false := by rw [h2]; rcases h1 with e | e | e | e <;> rw [e] <;> rfl
 have hd : decide ((0 : Int) ≤ 0 ∧ (0 : Int) ≤ x.2.2.2.1.length) = true := decide_eq_true (by omega)
 simp only [QDu, Qp4, Qp3, ht, hn, hd, show frmIn x = true from h, Bool.and_self, show cNz 32 = true from rfl, show cNz 2 = true from rfl, Bool.not_true, Qac, Qae]
 cases hq : x.2.2.1 with
 | true =>
  rw [h3 hq]
  rfl
 | false =>
  rw [h4 hq]
  rfl
theorem QO5 : Meets Tryz.prog 149 (runF QjX Qub QCv false) := mG Tryz.func149 (by kernel_rfl) Tryz.ntmps149 (by kernel_rfl) QQL QPw
end
theorem Qfp : ∀ N : Nat, Meets Tryz.prog 149 (strip (@Qf8 ⟨N⟩))
 | 0 => QbJ fun x => by first | rfl | simp [okT]
 | N + 1 => by
  letI : Fuel := ⟨N⟩
  haveI : Nonempty (PLift (Meets Tryz.prog 149 (strip Qf8))) := ⟨⟨Qfp N⟩⟩
  exact Qaf QO5 fun x hok => (e_f149 x.1).trans (s_f149 x.1 hok)
def QBB : Ent := spec (.pr Qai .nil) (fun x => (frmOk x.1)) (fun x => (.t .bool (frmV x.1)))
theorem QOC : Meets Tryz.prog 149 (strip QBB) := QbK Qfp fun x hok => Qjo x.1 hok
def dpV (x : ValT) : Int := (depV (Val.of x) : Int)
def depLF (n : Nat) (x : ValT) : Bool := okT n x && decide (n ≤ 100)
def dpOk (x : ValT) : Bool := okT 12 x
theorem Qog (x : ValT) (h : dpOk x = true) : ∃ N, depLF N x = true := ⟨12, by rw [depLF, show okT 12 x = true from h]; rfl⟩
theorem Qka (x : ValT) (h : dpOk x = true) : ∃ N, depLF N x = true := ⟨12, by rw [depLF, show okT 12 x = true from h]; rfl⟩
def depL (l : List ValT) : Nat := depVs (l.map Val.of)
theorem Qyn : depL [] = 0 := rfl
theorem Qtw (x : ValT) (l : List ValT) : depL (x :: l) = max (depV (Val.of x)) (depL l) := rfl
theorem QqQ (x : ValT) : depV (Val.of x) = depVs x.2.2.2.1 + 1 := rfl
theorem QFo (a b : Nat) : imx (a : Int) (b : Int) = ((max a b : Nat) : Int) := by
 unfold imx
 split <;> omega
theorem QF8 : Qag Tryz.prog 158 := .inr ⟨by decide, _, Tryz.func158, by kernel_rfl, by kernel_rfl⟩
def Qf4 [Fuel] : Ent := spec (.pr Qai .nil) (fun x => (depLF fuel x.1)) (fun x => (.t tI (dpV x.1)))
theorem QJG : Qag Tryz.prog 158 := QF8
section
variable [Fuel] [Nonempty (PLift (Meets Tryz.prog 158 (strip Qf4)))]
theorem QIo : Meets Tryz.prog 158 (strip Qf4) := (Classical.choice (inferInstance : Nonempty (PLift (Meets Tryz.prog 158 (strip Qf4))))).down
def depIn [Fuel] (l : List ValT) : Bool := decide (l.length ≤ 100000 ∧ fuel + 1 ≤ 100) && l.all (okT fuel)
def QfF : Fg := ⟨[(3, some tI), (7, some (.sl Qai)), (8, some tI), (9, some tI)], []⟩
noncomputable def Qhf : TC := (.sq (.reg (rT Tryz.f158 3)) (.sq (.cd (.t 10) .sk (.fg ⟨[(3, some tI)], []⟩ (.ex 0))) (.sq (.bk 1 (.sq (.reg (rT Tryz.f158 4)) (.reg (rT Tryz.f158 5)))) (.reg (rT Tryz.f158 6)))))
noncomputable def Qt2 : TC := (.sq (.reg (rT Tryz.f158 0)) (.sq (.reg (rT Tryz.f158 1)) (.sq (.sq (.reg (rT Tryz.f158 2)) (.bk 0 (.lp 0 QfF Qhf))) (.sq (.reg (rT Tryz.f158 7)) .rt))))
def QCm : List (RV × Option Ty) := [((.t 2), some tI)]
abbrev Qmz : Sh := ⟨[(3, .ty tI), (7, .ty (.sl Qai)), (8, .ty tI), (9, .ty tI)], []⟩
def Ql4 (x3 : Int) (x7 : List ValT) (x8 x9 : Int) : VS := Qmz.st (x3, x7, x8, x9, ()) ()
abbrev QrO : Sh := ⟨[(3, .ty tI)], []⟩
def Qdl (x3 : Int) : VS := QrO.st (x3, ()) ()
def QK0 : VS → Option (Bool × List (Bool × Exit × VS)) := mkL Qmz (fun x y => (rngOk x.2.1 x.2.2.1 x.2.2.2.1 && depIn x.2.1 && decide (0 ≤ x.1 ∧ x.1 ≤ 100))) (fun x y => [(true, .exit 0, Qdl ((max x.1.toNat (depL (x.2.1.drop x.2.2.2.1.toNat)) : Nat) : Int))])
def QjT : G := ⟨TYs, [], 20, EL [(158, Qf4)], keeps, (Ls [QK0]), IL [], RL []⟩
def QyE (x3 : Int) (x7 : List ValT) (x8 x9 : Int) : Option (Exit × VS) :=
 let a1 := lgt Qai x7 (Int.toNat x9)
 br (ilt x9 x8) (br (cIx x7 x9) (br (depLF fuel a1) (some (.normal, Ql4 (imx x3 (dpV a1)) x7 x8 (iadd .i64 x9 1))) none) none) (some (.exit 0, Qdl x3))
noncomputable def QhQ (x3 : Int) (x7 : List ValT) (x8 x9 : Int) : Option (Exit × VS) := loopF (Qaj QjT QfF Qhf) (Ql4 x3 x7 x8 x9)
noncomputable def QkL (x3 : Int) (x7 : List ValT) (x8 x9 : Int) : Option (Exit × VS) :=
 let a1 := lgt Qai x7 (Int.toNat x9)
 br (ilt x9 x8) (br (cIx x7 x9) (br (depLF fuel a1) (QhQ (imx x3 (dpV a1)) x7 x8 (iadd .i64 x9 1)) none) none) (some (.exit 0, Qdl x3))
def Qib (x3 : Int) (x7 : List ValT) (x8 x9 : Int) : Option (Exit × VS) := some (.exit 0, Qdl ((max x3.toNat (depL (x7.drop x9.toNat)) : Nat) : Int))
theorem QGV (x3 : Int) (x7 : List ValT) (x8 x9 : Int) : Qaj QjT QfF Qhf (Ql4 x3 x7 x8 x9) = QyE x3 x7 x8 x9 := by kernel_rfl
theorem QsS (x3 : Int) (x7 : List ValT) (x8 x9 : Int) : QhQ x3 x7 x8 x9 = QkL x3 x7 x8 x9 := (Qaq _ _).trans (by
 rw [QGV]
 simp only [QyE, QkL, QaE, nxt_n, nxt_r, nxt_e, nxt_0]
 rfl)
def QDm (p0 : ValT) : Option (V × List VO) :=
 let a1 := List.map Val.un p0.2.2.2.1
 br (rngOk a1 (llen a1) (0 : Int) && depIn a1 && decide (0 ≤ (0 : Int) ∧ (0 : Int) ≤ 100)) (some (.t tI (iadd .i64 ((max (0 : Int).toNat (depL (a1.drop (0 : Int).toNat)) : Nat) : Int) 1), [])) none
theorem e_f158 (p0 : ValT) : runF QjT Qt2 QCm false [.t Qai p0] [] = QDm p0 := by kernel_rfl
theorem QQC : GOk Tryz.prog QjT := Qao _ (gA (gC QJG QIo gN))
theorem QI7 (x3 : Int) (x7 : List ValT) (x8 x9 : Int) (h : (rngOk x7 x8 x9 && depIn x7 && decide (0 ≤ x3 ∧ x3 ≤ 100)) = true) : QhQ x3 x7 x8 x9 = Qib x3 x7 x8 x9 := by
 simp only [Bool.and_eq_true, decide_eq_true_eq] at h
 obtain ⟨⟨h0, hc⟩, h1, h2⟩ := h
 obtain ⟨rfl, h3, k, rfl, hk⟩ := rng_k h0
 clear h0
 obtain ⟨m, rfl⟩ := Int.eq_ofNat_of_zero_le h1
 clear h1 h2
 simp only [depIn, Bool.and_eq_true, List.all_eq_true, decide_eq_true_eq] at hc
 obtain ⟨⟨hc0, hc1⟩, hc2⟩ := hc
 revert m
 refine Qav x7 (fun k => ∀ m : Nat, QhQ (m : Int) x7 (x7.length : Int) (k : Int) = Qib (m : Int) x7 (x7.length : Int) (k : Int)) ?_ ?_ k hk
 ·intro m
  rw [QsS]
  simp [QkL, Qib, Qaz, Qae, Qyn]
 ·intro k hk ih m
  rw [QsS]
  have hx := hc2 x7[k] (List.getElem_mem hk)
  have hd : depLF fuel x7[k] = true := by rw [depLF, hx, decide_eq_true (by omega)]; rfl
  simp only [QkL, Qaz, Qay, hk, decide_true, Qac, Int.toNat_natCast, add1 (show k < 4611686018427387904 by omega), QaG (y := Qai) hk, hd, dpV, QFo, ih]
  simp only [Qib, Int.toNat_natCast, List.drop_eq_getElem_cons hk, Qtw, Nat.max_assoc]
theorem QEH : ∀ S l p, QjT.L 0 (fgt QfF S) = some (true, l) → pickA l = some p → loopF (Qaj QjT QfF Qhf) S = some p :=
 QaF (s := Qmz) ⟨by decide, by decide⟩ (by kernel_rfl) fun x y hok p hp => by
 simp only [Qar, Qap] at hp
 exact (QI7 x.1 x.2.1 x.2.2.1 x.2.2.2.1 (by simpa using hok)).trans hp
theorem QPn : Qt2.lok QjT := by
 repeat (first | exact trivial | exact QEH | refine ⟨?_, ?_⟩)
theorem s_f158 (x : ValT) (h : depLF (fuel + 1) x = true) : QDm x = some (.t tI (dpV x), []) := by
 simp only [depLF, Bool.and_eq_true, decide_eq_true_eq] at h
 obtain ⟨h, hf⟩ := h
 obtain ⟨h1, h2, h3, h4, h5, h6, h7⟩ := Qci h
 have hu : depIn (List.map Val.un x.2.2.2.1) = true := by
  simp only [depIn, Bool.and_eq_true, decide_eq_true_eq, List.length_map, List.all_eq_true, List.mem_map]
  refine ⟨⟨h6, hf⟩, ?_⟩
  rintro y ⟨v, hv, rfl⟩
  rw [Qsw]
  exact h7 v hv
 have hd := Qqa (v := Val.of x) h
 rw [QqQ] at hd
 simp only [QDm, rng_0 (show (List.map Val.un x.2.2.2.1).length ≤ 100000 by rw [List.length_map]; exact h6), hu, Bool.and_self, show decide ((0 : Int) ≤ 0 ∧ (0 : Int) ≤ 100) = true from rfl, Qac, Int.toNat_zero, List.drop_zero, depL, Qcq, Nat.zero_max]
 rw [QbX (by omega)]
 simp only [dpV, QqQ]
 congr 2
theorem QO1 : Meets Tryz.prog 158 (runF QjT Qt2 QCm false) := mG Tryz.func158 (by kernel_rfl) Tryz.ntmps158 (by kernel_rfl) QQC QPn
end
theorem QjM : ∀ N : Nat, Meets Tryz.prog 158 (strip (@Qf4 ⟨N⟩))
 | 0 => QbJ fun x => by first | rfl | simp [depLF]
 | N + 1 => by
  letI : Fuel := ⟨N⟩
  haveI : Nonempty (PLift (Meets Tryz.prog 158 (strip Qf4))) := ⟨⟨QjM N⟩⟩
  exact Qaf QO1 fun x hok => (e_f158 x.1).trans (s_f158 x.1 hok)
def QBu : Ent := spec (.pr Qai .nil) (fun x => (dpOk x.1)) (fun x => (.t tI (dpV x.1)))
theorem QOv : Meets Tryz.prog 158 (strip QBu) := QbK QjM fun x hok => Qog x.1 hok
theorem QGd : Qag Tryz.prog 150 := .inr ⟨by decide, _, Tryz.func150, by kernel_rfl, by kernel_rfl⟩
def Qf7 [Fuel] : Ent := spec (.pr Qai .nil) (fun x => (depLF fuel x.1)) (fun x => (.t tI (dpV x.1)))
theorem QJJ : Qag Tryz.prog 150 := QGd
section
variable [Fuel] [Nonempty (PLift (Meets Tryz.prog 150 (strip Qf7)))]
theorem QIr : Meets Tryz.prog 150 (strip Qf7) := (Classical.choice (inferInstance : Nonempty (PLift (Meets Tryz.prog 150 (strip Qf7))))).down
def Qtx [Fuel] (x : ValT) : Bool := depLF (fuel + 1) x
def QfI : Fg := ⟨[(1, none), (3, some tI), (4, some tI)], [(1, some Qai)]⟩
noncomputable def Qhi : TC := (.sq (.sq (.reg (rT Tryz.f150 3)) (.cd (.t 9) .sk (.fg ⟨[(3, some tI)], []⟩ (.ex 0)))) (.sq (.bk 1 (.reg (rT Tryz.f150 4))) (.reg (rT Tryz.f150 5))))
noncomputable def Qua : TC := (.sq (.reg (rT Tryz.f150 0)) (.sq (.reg (rT Tryz.f150 1)) (.sq (.sq (.reg (rT Tryz.f150 2)) (.bk 0 (.lp 0 QfI Qhi))) (.sq (.reg (rT Tryz.f150 6)) .rt))))
def QCu : List (RV × Option Ty) := [((.t 2), some tI)]
abbrev QmC : Sh := ⟨[(1, .ptr 1 0), (3, .ty tI), (4, .ty tI)], [(1, .box Qai)]⟩
def Ql7 (x3 x4 : Int) (y1 : ValT) : VS := QmC.st ((), x3, x4, ()) (y1, ())
abbrev QrR : Sh := ⟨[(3, .ty tI)], []⟩
def Qdn (x3 : Int) : VS := QrR.st (x3, ()) ()
def QK3 : VS → Option (Bool × List (Bool × Exit × VS)) := mkL QmC (fun x y => (decide (0 ≤ x.2.2.1 ∧ x.2.2.1 ≤ y.1.2.2.2.1.length ∧ 0 ≤ x.2.1 ∧ x.2.1 ≤ 100) && Qtx y.1)) (fun x y => [(true, .exit 0, Qdn ((max x.2.1.toNat (depL ((List.map Val.un y.1.2.2.2.1).drop x.2.2.1.toNat)) : Nat) : Int))])
def QjW : G := ⟨TYs, [], 22, EL [(150, Qf7)], keeps, (Ls [QK3]), IL [], RL []⟩
def QyH (x3 x4 : Int) (y1 : ValT) : Option (Exit × VS) :=
 let a1 := List.map Val.un y1.2.2.2.1
 let a2 := lgt Qai a1 (Int.toNat x4)
 br (ilt x4 (llen a1)) (br (cIx a1 x4) (br (depLF fuel a2) (some (.normal, Ql7 (imx x3 (dpV a2)) (iadd .i64 x4 1) y1)) none) none) (some (.exit 0, Qdn x3))
noncomputable def QhS (x3 x4 : Int) (y1 : ValT) : Option (Exit × VS) := loopF (Qaj QjW QfI Qhi) (Ql7 x3 x4 y1)
noncomputable def QkN (x3 x4 : Int) (y1 : ValT) : Option (Exit × VS) :=
 let a1 := List.map Val.un y1.2.2.2.1
 let a2 := lgt Qai a1 (Int.toNat x4)
 br (ilt x4 (llen a1)) (br (cIx a1 x4) (br (depLF fuel a2) (QhS (imx x3 (dpV a2)) (iadd .i64 x4 1) y1) none) none) (some (.exit 0, Qdn x3))
def Qid (x3 x4 : Int) (y1 : ValT) : Option (Exit × VS) := some (.exit 0, Qdn ((max x3.toNat (depL ((List.map Val.un y1.2.2.2.1).drop x4.toNat)) : Nat) : Int))
theorem QGY (x3 x4 : Int) (y1 : ValT) : Qaj QjW QfI Qhi (Ql7 x3 x4 y1) = QyH x3 x4 y1 := by kernel_rfl
theorem QsU (x3 x4 : Int) (y1 : ValT) : QhS x3 x4 y1 = QkN x3 x4 y1 := (Qaq _ _).trans (by
 rw [QGY]
 simp only [QyH, QkN, QaE, nxt_n, nxt_r, nxt_e, nxt_0]
 rfl)
def QDt (p0 : ValT) : Option (V × List VO) := br (decide (0 ≤ (0 : Int) ∧ (0 : Int) ≤ p0.2.2.2.1.length ∧ 0 ≤ (0 : Int) ∧ (0 : Int) ≤ 100) && Qtx p0) (some (.t tI (iadd .i64 ((max (0 : Int).toNat (depL ((List.map Val.un p0.2.2.2.1).drop (0 : Int).toNat)) : Nat) : Int) 1), [])) none
theorem e_f150 (p0 : ValT) : runF QjW Qua QCu false [.t Qai p0] [] = QDt p0 := by kernel_rfl
theorem QQK : GOk Tryz.prog QjW := Qao _ (gA (gC QJJ QIr gN))
theorem QJa (x3 x4 : Int) (y1 : ValT) (h : (decide (0 ≤ x4 ∧ x4 ≤ y1.2.2.2.1.length ∧ 0 ≤ x3 ∧ x3 ≤ 100) && Qtx y1) = true) : QhS x3 x4 y1 = Qid x3 x4 y1 := by
 simp only [Bool.and_eq_true, decide_eq_true_eq] at h
 obtain ⟨⟨h0, h1, h2, h3⟩, hc⟩ := h
 obtain ⟨k, rfl⟩ := Int.eq_ofNat_of_zero_le h0
 obtain ⟨m, rfl⟩ := Int.eq_ofNat_of_zero_le h2
 clear h2 h3
 simp only [Qtx, depLF, Bool.and_eq_true, decide_eq_true_eq] at hc
 obtain ⟨hc, hf⟩ := hc
 have hm := QvF hc
 have hl := (Qci hc).2.2.2.2.2.1
 revert m
 refine Qav (List.map Val.un y1.2.2.2.1) (fun k => ∀ m : Nat, QhS (m : Int) (k : Int) y1 = Qid (m : Int) (k : Int) y1) ?_ ?_ k (by rw [List.length_map]; omega)
 ·intro m
  rw [QsU]
  simp only [QkN, show ilt ((List.map Val.un y1.2.2.2.1).length : Int) (llen (List.map Val.un y1.2.2.2.1)) = false from decide_eq_false (by simp only [llen]; omega), Qae]
  simp only [Qid, Int.toNat_natCast, List.drop_length, Qyn, Nat.max_zero]
 ·intro k hk ih m
  rw [QsU]
  have hk2 : k < y1.2.2.2.1.length := by rw [List.length_map] at hk; exact hk
  have hd : depLF fuel (List.map Val.un y1.2.2.2.1)[k] = true := by rw [depLF, hm k hk, decide_eq_true (by omega)]; rfl
  simp only [QkN, show ilt (k : Int) (llen (List.map Val.un y1.2.2.2.1)) = true from decide_eq_true (by simp only [llen]; omega), Qay, hk, decide_true, Qac, Int.toNat_natCast, add1 (show k < 4611686018427387904 by omega), QaG (y := Qai) hk, hd, dpV, QFo, ih]
  simp only [Qid, Int.toNat_natCast, List.drop_eq_getElem_cons hk, Qtw, Nat.max_assoc]
theorem QEK : ∀ S l p, QjW.L 0 (fgt QfI S) = some (true, l) → pickA l = some p → loopF (Qaj QjW QfI Qhi) S = some p :=
 QaF (s := QmC) ⟨by decide, by decide⟩ (by kernel_rfl) fun x y hok p hp => by
 simp only [Qar, Qap] at hp
 exact (QJa x.2.1 x.2.2.1 y.1 (by simpa using hok)).trans hp
theorem QPv : Qua.lok QjW := by
 repeat (first | exact trivial | exact QEK | refine ⟨?_, ?_⟩)
theorem s_f150 (x : ValT) (h : depLF (fuel + 1) x = true) : QDt x = some (.t tI (dpV x), []) := by
 have hin : Qtx x = true := h
 simp only [depLF, Bool.and_eq_true, decide_eq_true_eq] at h
 obtain ⟨h, hf⟩ := h
 have hd := Qqa (v := Val.of x) h
 rw [QqQ] at hd
 have hdd : decide ((0 : Int) ≤ 0 ∧ (0 : Int) ≤ x.2.2.2.1.length ∧ (0 : Int) ≤ 0 ∧ (0 : Int) ≤ 100) = true := decide_eq_true (by omega)
 simp only [QDt, hin, hdd, Bool.and_self, Qac, Int.toNat_zero, List.drop_zero, depL, Qcq, Nat.zero_max]
 rw [QbX (by omega)]
 simp only [dpV, QqQ]
 congr 2
theorem QO4 : Meets Tryz.prog 150 (runF QjW Qua QCu false) := mG Tryz.func150 (by kernel_rfl) Tryz.ntmps150 (by kernel_rfl) QQK QPv
end
theorem Qgx : ∀ N : Nat, Meets Tryz.prog 150 (strip (@Qf7 ⟨N⟩))
 | 0 => QbJ fun x => by first | rfl | simp [depLF]
 | N + 1 => by
  letI : Fuel := ⟨N⟩
  haveI : Nonempty (PLift (Meets Tryz.prog 150 (strip Qf7))) := ⟨⟨Qgx N⟩⟩
  exact Qaf QO4 fun x hok => (e_f150 x.1).trans (s_f150 x.1 hok)
def QBA : Ent := spec (.pr Qai .nil) (fun x => (dpOk x.1)) (fun x => (.t tI (dpV x.1)))
theorem QOB : Meets Tryz.prog 150 (strip QBA) := QbK Qgx fun x hok => Qka x.1 hok
end
end Go.Proofs.YtkngeegkjhipeaaGreat.K
