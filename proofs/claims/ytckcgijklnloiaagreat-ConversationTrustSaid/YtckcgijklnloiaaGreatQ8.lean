import Derived.Test.YtckcgijklnloiaaGreatQ7
import Derived.Test.YtckcgijklnloiaaGreatQ4
import Derived.RangeFuncCalls
import Derived.RangeFuncBound
import Derived.Shelf.RegionOpen
import Derived.OwnWalkIn
import Derived.TacticsInMore
import Derived.LoopNIn
import Derived.LoopIn
set_option linter.unusedSimpArgs false
set_option linter.unusedVariables false
namespace Go.Proofs.YtckcgijklnloiaaGreat.K
open Go.RowKit
noncomputable section
def idAlg (x : Qar) (s : Suite) : Bool := ieq s.2.2.2.1.1 0 || ieq x.1.1 s.2.2.2.1.1
noncomputable def QEf : TC := (.sq (.reg (rT Tryz.f93 0)) (.sq (.reg (rT Tryz.f93 1)) .rt))
def QRs : List (RV × Option Ty) := [((.t 3), some .bool)]
def g_f93 : G := ⟨TYs, [], 17, EL [], keeps, (fun _ _ => none), IL [], RL []⟩
def r_f93 (p0 : Qar) (d0 : Suite) : Option (V × List VO) := br (ieq d0.2.2.2.1.1 0) (some (.t .bool true, [.box (.t QaF d0)])) (some (.t .bool (ieq p0.1.1 d0.2.2.2.1.1), [.box (.t QaF d0)]))
theorem e_f93 (p0 : Qar) (d0 : Suite) : runF g_f93 QEf QRs false [.t Qap p0, .ptr 50000 0] [.box (.t QaF d0)] = r_f93 p0 d0 := by kernel_rfl
theorem en_f93 : Qai Tryz.prog 93 := .inr ⟨by decide, _, Tryz.func93, by kernel_rfl, by kernel_rfl⟩
theorem gk_f93 : GOk Tryz.prog g_f93 := Qal _ (fun p hp => by cases hp)
theorem lk_f93 : QEf.lok g_f93 := by repeat (first | exact trivial | refine ⟨?_, ?_⟩)
theorem s_f93 (x : Qar) (s : Suite) : r_f93 x s = some (.t .bool (idAlg x s), [.box (.t QaF s)]) := by
 simp only [r_f93]
 unfold idAlg
 cases ieq s.2.2.2.1.1 0 <;> rfl
def QQX : Ent := QfU [.ty Qap, .ptr 50000 0] [QaF] (fun x d => true) (fun x d => (.t .bool (idAlg x.1 d.1)))
theorem ms_f93 : Meets Tryz.prog 93 (strip QQX) := Qcn (QaP (R := runF g_f93 QEf QRs false) (mG Tryz.func93 (by kernel_rfl) Tryz.ntmps93 (by kernel_rfl) gk_f93 lk_f93) fun x d _ => (e_f93 x.1 d.1).trans (s_f93 x.1 d.1))
def okAlg (l : List Qar) (_s : Suite) : Bool := decide (l.length ≤ 100000)
def ixAlg (l : List Qar) (s : Suite) : Int := match fstG (fun x => idAlg x s) l with | some k => (k : Int) | none => -1
def Qdz : Fg := ⟨[(0, some (.sl Qap)), (1, none), (7, some tI), (8, some tI)], [(50000, some QaF)]⟩
noncomputable def QeW : TC := (.sq (.reg (rT Tryz.f92 2)) (.sq (.cd (.t 9) .sk (.fg ⟨[], [(50000, some QaF)]⟩ (.ex 0))) (.sq (.bk 1 (.sq (.reg (rT Tryz.f92 3)) (.sq (.reg (rT Tryz.f92 4)) (.cd (.t 16) (.sq (.reg (rT Tryz.f92 5)) (.fg ⟨[(4, some tI)], [(50000, some QaF)]⟩ .rt)) .sk)))) (.reg (rT Tryz.f92 6)))))
noncomputable def QnZ : TC := (.sq (.reg (rT Tryz.f92 0)) (.sq (.sq (.reg (rT Tryz.f92 1)) (.bk 0 (.lp 0 Qdz QeW))) (.sq (.reg (rT Tryz.f92 7)) .rt)))
def Qvk : List (RV × Option Ty) := [((.t 4), some tI)]
abbrev Qih : Sh := ⟨[(0, .ty (.sl Qap)), (1, .fn 93 [(50000, 0)]), (7, .ty tI), (8, .ty tI)], [(50000, .box QaF)]⟩
def Qic (x0 : List Qar) (x7 x8 : Int) (y50000 : Suite) : VS := Qih.st (x0, (), x7, x8, ()) (y50000, ())
abbrev QoK : Sh := ⟨[(4, .ty tI)], [(50000, .box QaF)]⟩
def Qcf (x4 : Int) (y50000 : Suite) : VS := QoK.st (x4, ()) (y50000, ())
abbrev Qq2 : Sh := ⟨[], [(50000, .box QaF)]⟩
def QcB (y50000 : Suite) : VS := Qq2.st () (y50000, ())
def QDX : VS → Option (Bool × List (Bool × Exit × VS)) := mkL Qih (fun x y => (rngOk x.1 x.2.2.1 x.2.2.2.1)) (fun x y => [(((fstG (fun x => idAlg x y.1) (x.1.drop x.2.2.2.1.toNat)).isSome), .ret, Qcf (x.2.2.2.1 + ((fstG (fun x => idAlg x y.1) (x.1.drop x.2.2.2.1.toNat)).getD 0 : Nat)) (y.1)), (true, .exit 0, QcB (y.1))])
def Qeu : G := ⟨TYs, [], 19, EL [(93, QQX)], keeps, (Ls [QDX]), IL [], RL []⟩
def QrQ (x0 : List Qar) (x7 x8 : Int) (y50000 : Suite) : Option (Exit × VS) := br (ilt x8 x7) (br (cIx x0 x8) (br (idAlg (lgt Qap x0 (Int.toNat x8)) y50000) (some (.ret, Qcf x8 y50000)) (some (.normal, Qic x0 x7 (iadd .i64 x8 1) y50000))) none) (some (.exit 0, QcB y50000))
noncomputable def QfA (x0 : List Qar) (x7 x8 : Int) (y50000 : Suite) : Option (Exit × VS) := loopF (Qaj Qeu Qdz QeW) (Qic x0 x7 x8 y50000)
noncomputable def Qhu (x0 : List Qar) (x7 x8 : Int) (y50000 : Suite) : Option (Exit × VS) := br (ilt x8 x7) (br (cIx x0 x8) (br (idAlg (lgt Qap x0 (Int.toNat x8)) y50000) (some (.ret, Qcf x8 y50000)) (QfA x0 x7 (iadd .i64 x8 1) y50000)) none) (some (.exit 0, QcB y50000))
def QfG (x0 : List Qar) (x7 x8 : Int) (y50000 : Suite) : Option (Exit × VS) := br ((fstG (fun x => idAlg x y50000) (x0.drop x8.toNat)).isSome) (some (.ret, Qcf (x8 + ((fstG (fun x => idAlg x y50000) (x0.drop x8.toNat)).getD 0 : Nat)) (y50000))) <| some (.exit 0, QcB (y50000))
theorem QzU (x0 : List Qar) (x7 x8 : Int) (y50000 : Suite) : Qaj Qeu Qdz QeW (Qic x0 x7 x8 y50000) = QrQ x0 x7 x8 y50000 := by kernel_rfl
theorem Qp5 (x0 : List Qar) (x7 x8 : Int) (y50000 : Suite) : QfA x0 x7 x8 y50000 = Qhu x0 x7 x8 y50000 := (Qao _ _).trans (by
 rw [QzU]
 simp only [QrQ, Qhu, QaA, nxt_n, nxt_r, nxt_e, nxt_0]
 rfl)
def Qs5 (p0 : List Qar) (d0 : Suite) : Option (V × List VO) :=
 let a1 := (p0.drop (0 : Int).toNat)
 br (rngOk p0 (llen p0) (0 : Int)) (br ((fstG (fun x => idAlg x d0) a1).isSome) (some (.t tI ((0 : Int) + ((fstG (fun x => idAlg x d0) a1).getD 0 : Nat)), [.box (.t QaF (d0))])) (some (.t tI (-1), [.box (.t QaF (d0))]))) none
theorem QPl (p0 : List Qar) (d0 : Suite) : runF Qeu QnZ Qvk false [.t (.sl Qap) p0, .fn 93 [(.ptr 50000 0)]] [.box (.t QaF d0)] = Qs5 p0 d0 := by kernel_rfl
theorem QKQ : Qai Tryz.prog 92 := .inr ⟨by decide, _, Tryz.func92, by kernel_rfl, by kernel_rfl⟩
theorem QKB : GOk Tryz.prog Qeu := Qal _ (gA (gC en_f93 ms_f93 gN))
theorem QDj (x0 : List Qar) (x7 x8 : Int) (y50000 : Suite) (h : (rngOk x0 x7 x8) = true) : QfA x0 x7 x8 y50000 = QfG x0 x7 x8 y50000 := by
 obtain ⟨rfl, h3, k, rfl, hk⟩ := rng_k h
 clear h
 refine Qau x0 (fun k => QfA x0 (x0.length : Int) (k : Int) y50000 = QfG x0 (x0.length : Int) (k : Int) y50000) ?_ ?_ k hk
 ·rw [Qp5]
  simp [Qhu, QfG, Qat, Qaf, fstG]
 ·intro k hk ih
  rw [Qp5]
  simp only [Qhu, Qat, Qax, hk, decide_true, Qad, Int.toNat_natCast, add1 (show k < 4611686018427387904 by omega), ih, Qaz (y := Qap) hk]
  simp only [QfG, Int.toNat_natCast, List.drop_eq_getElem_cons hk, fstG]
  cases h : (idAlg x0[k] y50000) with
  | true => simp [Qad]
  | false =>
   simp only [Qaf, Bool.false_eq_true, if_false]
   cases hq : fstG (fun x => idAlg x y50000) (x0.drop (k + 1)) with
   | none => rfl
   | some j =>
    simp only [Option.map_some, Option.isSome_some, Option.getD_some, Qad]
    congr 3
    omega
theorem Qy4 : ∀ S l p, Qeu.L 0 (fgt Qdz S) = some (true, l) → pickA l = some p → loopF (Qaj Qeu Qdz QeW) S = some p :=
 QaB (s := Qih) ⟨by decide, by decide⟩ (by kernel_rfl) fun x y hok p hp => by
 simp only [Qas, Qan] at hp
 exact (QDj x.1 x.2.2.1 x.2.2.2.1 y.1 (by simpa using hok)).trans hp
theorem QJ9 : QnZ.lok Qeu := by
 repeat (first | exact trivial | exact Qy4 | refine ⟨?_, ?_⟩)
theorem QNl (l : List Qar) (s : Suite) (h : okAlg l s = true) : Qs5 l s = some (.t tI (ixAlg l s), [.box (.t QaF s)]) := by
 have hl : l.length ≤ 100000 := of_decide_eq_true h
 simp only [Qs5, rng_0 hl, Qad, Int.toNat_zero, List.drop_zero, ixAlg]
 cases fstG (fun x => idAlg x s) l <;> simp [Qad, Qaf]
def Quv : Ent := QfU [.ty (.sl Qap), .fn 93 [(50000, 0)]] [QaF] (fun x d => (okAlg x.1 d.1)) (fun x d => (.t tI (ixAlg x.1 d.1)))
theorem QI5 : Meets Tryz.prog 92 (strip Quv) := Qcn (QaP (R := runF Qeu QnZ Qvk false) (mG Tryz.func92 (by kernel_rfl) Tryz.ntmps92 (by kernel_rfl) QKB QJ9) fun x d hok => (QPl x.1 d.1).trans (QNl x.1 d.1 hok))
def QaW (e : Qab) (c : Int) : Int × Bool := bif ine (QaO c).2 0 then (-1, false) else (ixAlg (eIds e) (QaO c).1, ige (ixAlg (eIds e) (QaO c).1) 0)
def idnOk (e : Qab) (_c : Int) : Bool := decide ((eIds e).length ≤ 100000)
noncomputable def QEu : TC := (.sq (.reg (rT Tryz.f56 0)) (.sq (.reg (rT Tryz.f56 1)) (.sq (.sq (.reg (rT Tryz.f56 2)) (.cd (.t 15) (.sq (.reg (rT Tryz.f56 3)) .rt) .sk)) (.sq (.reg (rT Tryz.f56 4)) (.sq (.reg (rT Tryz.f56 5)) .rt)))))
def QRH : List (RV × Option Ty) := [((.t 4), some tI), ((.t 5), some .bool)]
def g_f56 : G := ⟨TYs, [], 23, EL [(85, Quy), (92, Quv)], keeps, (fun _ _ => none), IL [], RL []⟩
def r_f56 (p0 : Qab) (p1 : Int) : Option (V × List VO) :=
 let a1 := ixAlg p0.2.2.2.2.2.1 ((QaO p1).1)
 br (ine ((QaO p1).2) 0) (some (.tu [(.t tI (-1)), (.t .bool false)], [])) (br (okAlg p0.2.2.2.2.2.1 ((QaO p1).1)) (some (.tu [(.t tI a1), (.t .bool (ige a1 0))], [])) none)
theorem e_f56 (p0 : Qab) (p1 : Int) : runF g_f56 QEu QRH false [.t Qae p0, .t tI p1] [] = r_f56 p0 p1 := by kernel_rfl
theorem Qwo : Qai Tryz.prog 56 := .inr ⟨by decide, _, Tryz.func56, by kernel_rfl, by kernel_rfl⟩
theorem gk_f56 : GOk Tryz.prog g_f56 := Qal _ (gA (gC QBY QAB (gC QKQ QI5 gN)))
theorem lk_f56 : QEu.lok g_f56 := by repeat (first | exact trivial | refine ⟨?_, ?_⟩)
theorem s_f56 (e : Qab) (c : Int) (h : idnOk e c = true) : r_f56 e c = some (.tu [.t tI (QaW e c).1, .t .bool (QaW e c).2], []) := by
 have hk : okAlg (eIds e) (QaO c).1 = true := h
 simp only [r_f56, hk, Qad]
 unfold QaW
 cases ine (QaO c).2 0 <;> rfl
def Qrn : Ent := spec (.pr Qae (.pr tI .nil)) (fun x => (idnOk x.1 x.2.1)) (fun x => (.tu [(.t tI ((QaW x.1 x.2.1).1)), (.t .bool ((QaW x.1 x.2.1).2))]))
theorem QvE : Meets Tryz.prog 56 (strip Qrn) := Qag (R := runF g_f56 QEu QRH false) (mG Tryz.func56 (by kernel_rfl) Tryz.ntmps56 (by kernel_rfl) gk_f56 lk_f56) fun x hok => (e_f56 x.1 x.2.1).trans (s_f56 x.1 x.2.1 hok)
def lenEE (e : Qab) (o : List Int) : Bool := decide ((eIds e).length ≤ 100000 ∧ (Qaw e).length ≤ 100000 ∧ o.length ≤ 100000)
def posE (e : Qab) (o : List Int) (v c : Int) : Bool :=
 ieq (QaO c).2 0 && (ige v (QaO c).1.2.2.2.2.2.2.1 && (ige (QaO c).1.2.2.2.2.2.2.2.1 v && (hasF o c && (hasF (Qaw e) c && (QaW e c).2))))
abbrev tkE (t : Talk) : Qab := t.1
abbrev tkV (t : Talk) : Int := t.2.1
abbrev tkO (t : Talk) : List Int := t.2.2.1
def possF (t : Talk) (c : Int) : Bool := posE (tkE t) (tkO t) (tkV t) c
def Qeh (t : Talk) (_c : Int) : Bool := lenEE (tkE t) (tkO t)
noncomputable def QEh : TC := (.sq (.reg (rT Tryz.f90 0)) (.sq (.reg (rT Tryz.f90 1)) (.sq (.sq (.reg (rT Tryz.f90 2)) (.cd (.t 44) (.sq (.reg (rT Tryz.f90 3)) .rt) .sk)) (.sq (.reg (rT Tryz.f90 4)) (.sq (.reg (rT Tryz.f90 5)) .rt)))))
def QRu : List (RV × Option Ty) := [((.t 4), some .bool)]
def g_f90 : G := ⟨TYs, [], 53, EL [(56, Qrn), (85, Quy), (101, QkY)], keeps, (fun _ _ => none), IL [], RL []⟩
def r_f90 (p0 : Talk) (p1 : Int) : Option (V × List VO) :=
 let a1 := ((((((((QaO p1).1).2).2).2).2).2).2)
 br (ine ((QaO p1).2) 0) (some (.t .bool false, [])) (br (ilt p0.2.1 (a1.1)) (some (.t .bool false, [])) (br (igt p0.2.1 ((a1.2).1)) (some (.t .bool false, [])) (br (Qbh p0.2.2.1 p1) (br (!(hasF p0.2.2.1 p1)) (some (.t .bool false, [])) (br (Qbh p0.1.2.2.2.1 p1) (br (!(hasF p0.1.2.2.2.1 p1)) (some (.t .bool false, [])) (br (idnOk p0.1 p1) (some (.t .bool ((QaW p0.1 p1).2), [])) none)) none)) none)))
theorem e_f90 (p0 : Talk) (p1 : Int) : runF g_f90 QEh QRu false [.t QeM p0, .t tI p1] [] = r_f90 p0 p1 := by kernel_rfl
theorem QSG : Qai Tryz.prog 90 := .inr ⟨by decide, _, Tryz.func90, by kernel_rfl, by kernel_rfl⟩
theorem gk_f90 : GOk Tryz.prog g_f90 := Qal _ (gA (gC Qwo QvE (gC QBY QAB (gC QqM QpY gN))))
theorem lk_f90 : QEh.lok g_f90 := by repeat (first | exact trivial | refine ⟨?_, ?_⟩)
theorem QOR (a b : Int) : ine a b = !ieq a b := rfl
theorem QOS (a b : Int) : ilt a b = !ige a b := by simp only [ilt, ige]; by_cases h : a < b <;> simp [h] <;> omega
theorem s_f90 (t : Talk) (c : Int) (h : Qeh t c = true) : r_f90 t c = some (.t .bool (possF t c), []) := by
 simp only [Qeh, lenEE, decide_eq_true_eq] at h
 have c1 : Qbh t.2.2.1 c = true := decide_eq_true h.2.2
 have c2 : Qbh t.1.2.2.2.1 c = true := decide_eq_true h.2.1
 have c3 : idnOk t.1 c = true := decide_eq_true h.1
 simp only [r_f90, c1, c2, c3, Qad, QOR, QOS]
 show _ = some (V.t .bool (posE t.1 t.2.2.1 t.2.1 c), [])
 unfold posE
 cases ieq (QaO c).2 0 with
 | false => rfl
 | true =>
  cases ige t.2.1 (QaO c).1.2.2.2.2.2.2.1 with
  | false => rfl
  | true =>
   cases ige (QaO c).1.2.2.2.2.2.2.2.1 t.2.1 with
   | false => rfl
   | true =>
    cases hasF t.2.2.1 c with
    | false => rfl
    | true => cases hasF t.1.2.2.2.1 c <;> rfl
def QE3 : Ent := spec (.pr QeM (.pr tI .nil)) (fun x => (Qeh x.1 x.2.1)) (fun x => (.t .bool (possF x.1 x.2.1)))
theorem QSq : Meets Tryz.prog 90 (strip QE3) := Qag (R := runF g_f90 QEh QRu false) (mG Tryz.func90 (by kernel_rfl) Tryz.ntmps90 (by kernel_rfl) gk_f90 lk_f90) fun x hok => (e_f90 x.1 x.2.1).trans (s_f90 x.1 x.2.1 hok)
def Qei (t : Talk) : List Int := tkO t
def Qgn (t : Talk) : List Int := Qaw (tkE t)
noncomputable def QxI : TC := (.sq (.reg (rT Tryz.f126 0)) (.sq (.reg (rT Tryz.f126 1)) .rt))
def QHq : List (RV × Option Ty) := [((.t 2), some (.sl tI))]
def QBE : G := ⟨TYs, [], 5, EL [], keeps, (fun _ _ => none), IL [], RL []⟩
def QSk (p0 : Talk) : Option (V × List VO) := some (.t (.sl tI) p0.2.2.1, [])
theorem e_f126 (p0 : Talk) : runF QBE QxI QHq false [.t QeM p0] [] = QSk p0 := by kernel_rfl
theorem QXY : Qai Tryz.prog 126 := .inr ⟨by decide, _, Tryz.func126, by kernel_rfl, by kernel_rfl⟩
theorem QW2 : GOk Tryz.prog QBE := Qal _ (fun p hp => by cases hp)
theorem QVq : QxI.lok QBE := by repeat (first | exact trivial | refine ⟨?_, ?_⟩)
theorem s_f126 (t : Talk) : QSk t = some (.t (.sl tI) (Qei t), []) := rfl
def QF2 : Ent := spec (.pr QeM .nil) (fun x => true) (fun x => (.t (.sl tI) (Qei x.1)))
theorem QUc : Meets Tryz.prog 126 (strip QF2) := Qag (R := runF QBE QxI QHq false) (mG Tryz.func126 (by kernel_rfl) Tryz.ntmps126 (by kernel_rfl) QW2 QVq) fun x _ => (e_f126 x.1).trans (s_f126 x.1)
noncomputable def QxH : TC := (.sq (.reg (rT Tryz.f127 0)) (.sq (.reg (rT Tryz.f127 1)) .rt))
def QHp : List (RV × Option Ty) := [((.t 2), some (.sl tI))]
def QBD : G := ⟨TYs, [], 6, EL [], keeps, (fun _ _ => none), IL [], RL []⟩
def QSj (p0 : Talk) : Option (V × List VO) := some (.t (.sl tI) p0.1.2.2.2.1, [])
theorem e_f127 (p0 : Talk) : runF QBD QxH QHp false [.t QeM p0] [] = QSj p0 := by kernel_rfl
theorem QXX : Qai Tryz.prog 127 := .inr ⟨by decide, _, Tryz.func127, by kernel_rfl, by kernel_rfl⟩
theorem QW1 : GOk Tryz.prog QBD := Qal _ (fun p hp => by cases hp)
theorem QVp : QxH.lok QBD := by repeat (first | exact trivial | refine ⟨?_, ?_⟩)
theorem s_f127 (t : Talk) : QSj t = some (.t (.sl tI) (Qgn t), []) := rfl
def QF1 : Ent := spec (.pr QeM .nil) (fun x => true) (fun x => (.t (.sl tI) (Qgn x.1)))
theorem QUb : Meets Tryz.prog 127 (strip QF1) := Qag (R := runF QBD QxH QHp false) (mG Tryz.func127 (by kernel_rfl) Tryz.ntmps127 (by kernel_rfl) QW1 QVp) fun x _ => (e_f127 x.1).trans (s_f127 x.1)
def Qdu (c s : Qab) : Bool := QaV c && QaV s
def Qbv (c s : Qab) : Bool := QaT c && QaT s
noncomputable def QEm : TC := (.sq (.reg (rT Tryz.f82 0)) (.sq (.reg (rT Tryz.f82 1)) .rt))
def QRz : List (RV × Option Ty) := [((.t 4), some .bool)]
def g_f82 : G := ⟨TYs, [], 13, EL [(76, Qz8)], keeps, (fun _ _ => none), IL [], RL []⟩
def r_f82 (p0 p1 : Qab) : Option (V × List VO) := br (QaT p0) (br (ieq (Qez p0) 0) (br (QaT p1) (some (.t .bool (ieq (Qez p1) 0), [])) none) (some (.t .bool false, []))) none
theorem e_f82 (p0 p1 : Qab) : runF g_f82 QEm QRz false [.t Qae p0, .t Qae p1] [] = r_f82 p0 p1 := by kernel_rfl
theorem QKT : Qai Tryz.prog 82 := .inr ⟨by decide, _, Tryz.func82, by kernel_rfl, by kernel_rfl⟩
theorem gk_f82 : GOk Tryz.prog g_f82 := Qal _ (gA (gC QKV QJa gN))
theorem lk_f82 : QEm.lok g_f82 := by repeat (first | exact trivial | refine ⟨?_, ?_⟩)
theorem s_f82 (c s : Qab) (h : Qbv c s = true) : r_f82 c s = some (.t .bool (Qdu c s), []) := by
 simp only [Qbv, Bool.and_eq_true] at h
 simp only [r_f82, h.1, h.2, Qad, QLM]
 unfold Qdu
 cases QaV c <;> rfl
def Qz7 : Ent := spec (.pr Qae (.pr Qae .nil)) (fun x => (Qbv x.1 x.2.1)) (fun x => (.t .bool (Qdu x.1 x.2.1)))
theorem QI8 : Meets Tryz.prog 82 (strip Qz7) := Qag (R := runF g_f82 QEm QRz false) (mG Tryz.func82 (by kernel_rfl) Tryz.ntmps82 (by kernel_rfl) gk_f82 lk_f82) fun x hok => (e_f82 x.1 x.2.1).trans (s_f82 x.1 x.2.1 hok)
end
end Go.Proofs.YtckcgijklnloiaaGreat.K
namespace Go.Proofs.YtckcgijklnloiaaGreat.K
open Go.RowKit
noncomputable section
def okPos (l : List Int) (t : Talk) : Bool := decide (l.length ≤ 100000) && lenEE (tkE t) (tkO t)
def ixPos (l : List Int) (t : Talk) : Int := match fstG (possF t) l with | some k => (k : Int) | none => -1
def QcV : Fg := ⟨[(0, some (.sl tI)), (1, none), (7, some tI), (8, some tI)], []⟩
noncomputable def QdH : TC := (.sq (.reg (rT Tryz.f128 2)) (.sq (.cd (.t 9) .sk (.fg ⟨[], []⟩ (.ex 0))) (.sq (.bk 1 (.sq (.reg (rT Tryz.f128 3)) (.sq (.reg (rT Tryz.f128 4)) (.cd (.t 16) (.sq (.reg (rT Tryz.f128 5)) (.fg ⟨[(4, some tI)], []⟩ .rt)) .sk)))) (.reg (rT Tryz.f128 6)))))
noncomputable def QkV : TC := (.sq (.reg (rT Tryz.f128 0)) (.sq (.sq (.reg (rT Tryz.f128 1)) (.bk 0 (.lp 0 QcV QdH))) (.sq (.reg (rT Tryz.f128 7)) .rt)))
def Qrw : List (RV × Option Ty) := [((.t 4), some tI)]
abbrev Qgj : Sh := ⟨[(0, .ty (.sl tI)), (1, .bf 90 QeM), (7, .ty tI), (8, .ty tI)], []⟩
def Qf7 (x0 : List Int) (x1 : Talk) (x7 x8 : Int) : VS := Qgj.st (x0, x1, x7, x8, ()) ()
abbrev Qmf : Sh := ⟨[(4, .ty tI)], []⟩
def Qb1 (x4 : Int) : VS := Qmf.st (x4, ()) ()
abbrev Qpg : Sh := ⟨[], []⟩
def Qck  : VS := Qpg.st () ()
def Qz0 : VS → Option (Bool × List (Bool × Exit × VS)) := mkL Qgj (fun x y => (rngOk x.1 x.2.2.1 x.2.2.2.1 && okPos x.1 x.2.1)) (fun x y => [(((fstG (possF x.2.1) (x.1.drop x.2.2.2.1.toNat)).isSome), .ret, Qb1 (x.2.2.2.1 + ((fstG (possF x.2.1) (x.1.drop x.2.2.2.1.toNat)).getD 0 : Nat))), (true, .exit 0, Qck)])
def QcQ : G := ⟨TYs, [], 19, EL [(90, QE3)], keeps, (Ls [Qz0]), IL [], RL []⟩
def QqX (x0 : List Int) (x1 : Talk) (x7 x8 : Int) : Option (Exit × VS) :=
 let a1 := lgt tI x0 (Int.toNat x8)
 br (ilt x8 x7) (br (cIx x0 x8) (br (Qeh x1 a1) (br (possF x1 a1) (some (.ret, Qb1 x8)) (some (.normal, Qf7 x0 x1 x7 (iadd .i64 x8 1)))) none) none) (some (.exit 0, Qck))
noncomputable def Qen (x0 : List Int) (x1 : Talk) (x7 x8 : Int) : Option (Exit × VS) := loopF (Qaj QcQ QcV QdH) (Qf7 x0 x1 x7 x8)
noncomputable def Qfx (x0 : List Int) (x1 : Talk) (x7 x8 : Int) : Option (Exit × VS) :=
 let a1 := lgt tI x0 (Int.toNat x8)
 br (ilt x8 x7) (br (cIx x0 x8) (br (Qeh x1 a1) (br (possF x1 a1) (some (.ret, Qb1 x8)) (Qen x0 x1 x7 (iadd .i64 x8 1))) none) none) (some (.exit 0, Qck))
def Qer (x0 : List Int) (x1 : Talk) (x7 x8 : Int) : Option (Exit × VS) :=
 let a1 := fstG (possF x1) (x0.drop x8.toNat)
 br (a1.isSome) (some (.ret, Qb1 (x8 + (a1.getD 0 : Nat)))) <| some (.exit 0, Qck)
theorem QwC (x0 : List Int) (x1 : Talk) (x7 x8 : Int) : Qaj QcQ QcV QdH (Qf7 x0 x1 x7 x8) = QqX x0 x1 x7 x8 := by kernel_rfl
theorem QlB (x0 : List Int) (x1 : Talk) (x7 x8 : Int) : Qen x0 x1 x7 x8 = Qfx x0 x1 x7 x8 := (Qao _ _).trans (by
 rw [QwC]
 simp only [QqX, Qfx, QaA, nxt_n, nxt_r, nxt_e, nxt_0]
 rfl)
def QpH (p0 : List Int) (p1 : Talk) : Option (V × List VO) :=
 let a1 := (fstG (possF p1) (p0.drop (0 : Int).toNat))
 br (rngOk p0 (llen p0) (0 : Int) && okPos p0 p1) (br (a1.isSome) (some (.t tI ((0 : Int) + (a1.getD 0 : Nat)), [])) (some (.t tI (-1), []))) none
theorem QLn (p0 : List Int) (p1 : Talk) : runF QcQ QkV Qrw false [.t (.sl tI) p0, .fn 1000090 [(.t QeM p1)]] [] = QpH p0 p1 := by kernel_rfl
theorem QDz : Qai Tryz.prog 128 := .inr ⟨by decide, _, Tryz.func128, by kernel_rfl, by kernel_rfl⟩
theorem QDq : GOk Tryz.prog QcQ := Qal _ (gA (gC QSG QSq gN))
theorem Qzi (x0 : List Int) (x1 : Talk) (x7 x8 : Int) (h : (rngOk x0 x7 x8 && okPos x0 x1) = true) : Qen x0 x1 x7 x8 = Qer x0 x1 x7 x8 := by
 simp only [Bool.and_eq_true, okPos] at h
 obtain ⟨h0, _, hc⟩ := h
 obtain ⟨rfl, h3, k, rfl, hk⟩ := rng_k h0
 clear h0
 refine Qau x0 (fun k => Qen x0 x1 (x0.length : Int) (k : Int) = Qer x0 x1 (x0.length : Int) (k : Int)) ?_ ?_ k hk
 ·rw [QlB]
  simp [Qfx, Qer, Qat, Qaf, fstG]
 ·intro k hk ih
  rw [QlB]
  have hx : Qeh x1 x0[k] = true := hc
  simp only [Qfx, Qat, Qax, hk, decide_true, Qad, Int.toNat_natCast, add1 (show k < 4611686018427387904 by omega), ih, Qaz (y := tI) hk, hx]
  simp only [Qer, Int.toNat_natCast, List.drop_eq_getElem_cons hk, fstG]
  cases h : possF x1 x0[k] with
  | true => simp [Qad]
  | false =>
   simp only [Qaf, Bool.false_eq_true, if_false]
   cases hq : fstG (possF x1) (x0.drop (k + 1)) with
   | none => rfl
   | some j =>
    simp only [Option.map_some, Option.isSome_some, Option.getD_some, Qad]
    congr 3
    omega
theorem QvJ : ∀ S l p, QcQ.L 0 (fgt QcV S) = some (true, l) → pickA l = some p → loopF (Qaj QcQ QcV QdH) S = some p :=
 QaB (s := Qgj) ⟨by decide, by decide⟩ (by kernel_rfl) fun x y hok p hp => by
 simp only [Qas, Qan] at hp
 exact (Qzi x.1 x.2.1 x.2.2.1 x.2.2.2.1 (by simpa using hok)).trans hp
theorem QDg : QkV.lok QcQ := by
 repeat (first | exact trivial | exact QvJ | refine ⟨?_, ?_⟩)
theorem QGr (l : List Int) (t : Talk) (h : okPos l t = true) : QpH l t = some (.t tI (ixPos l t), []) := by
 have hl : l.length ≤ 100000 := of_decide_eq_true (Bool.and_eq_true_iff.1 h).1
 simp only [QpH, rng_0 hl, h, Bool.and_self, Qad, Int.toNat_zero, List.drop_zero, ixPos]
 cases fstG (possF t) l <;> simp [Qad, Qaf]
def Qrr : Ent := specB [.ty (.sl tI), .bf 90 QeM] [] (fun x y => (okPos x.1 x.2.1)) (fun x y => (.t tI (ixPos x.1 x.2.1))) (fun x y => [])
theorem QDa : Meets Tryz.prog 128 (strip Qrr) := QcA (QaU (R := runF QcQ QkV Qrw false) (mG Tryz.func128 (by kernel_rfl) Tryz.ntmps128 (by kernel_rfl) QDq QDg) fun x y hok => (QLn x.1 x.2.1).trans (QGr x.1 x.2.1 hok))
abbrev zK : Keep := (0, (0, ()))
abbrev QfO (s : Qab) (x : Int) : List Qaa := (lgt Qap (eIds s) (QaW s x).1.toNat).2.2.1
def pickE (c s : Qab) (d x : Int) : Int := chkCh (QfO s x) (eAnch c) (eHash c) d s.1
def pickF (c s : Qab) (v d x : Int) : Keep × Int := bif ine (pickE c s d x) 0 then (zK, 29) else ((v, (x, ())), 0)
def overF (c s : Qab) (v d : Int) (o l : List Int) : Keep × Int := match fstG (posE s o v) l with | none => (zK, 28) | some k => pickF c s v d (l.getD k 0)
abbrev outL (s : Qab) (o : List Int) : List Int := bif s.2.2.2.2.1 then Qaw s else o
def withF (c s : Qab) (d m : Int) (o : List Int) : Keep × Int :=
 bif !Qdu c s then (zK, 19) else bif ilt d 0 then (zK, 2) else bif igt d 40000 then (zK, 2) else bif ilt m 1 then (zK, 2) else bif igt m 4 then (zK, 2) else
 bif ilt (imn m s.2.2.1) c.2.1 then (zK, 27) else bif ilt (imn m s.2.2.1) s.2.1 then (zK, 27) else overF c s (imn m s.2.2.1) d o (outL s o)
def Qul (c s : Qab) (_d _m : Int) (o : List Int) : Bool := Qbv c s && decide (o.length ≤ 100000)
theorem Qbl {e : Qab} (h : QaT e = true) : nameG e.1 = true ∧ (Qaw e).length ≤ 100000 ∧ (eIds e).length ≤ 100000 ∧ (eAnch e).length ≤ 100000 ∧ (eHash e).length ≤ 100000 ∧ (eIds e).all idLen = true := by
 simp only [QaT, Bool.and_eq_true, decide_eq_true_eq] at h
 exact ⟨h.1.1, h.1.2.1, h.1.2.2.1, h.1.2.2.2.1, h.1.2.2.2.2, h.2⟩
theorem Qke {e : Qab} {c : Int} (h : (QaW e c).2 = true) : ∃ k, (QaW e c).1 = ((k : Nat) : Int) ∧ k < (eIds e).length := by
 unfold QaW ixAlg at h ⊢
 cases hi : ine (QaO c).2 0 with
 | true => rw [hi] at h; cases h
 | false =>
  rw [hi] at h
  cases hq : fstG (fun x => idAlg x (QaO c).1) (eIds e) with
  | none => rw [hq] at h; cases h
  | some k => exact ⟨k, rfl, (QgJ hq).1⟩
theorem QyE {e : Qab} {o : List Int} {v c : Int} (h : posE e o v c = true) : (QaW e c).2 = true := by
 simp only [posE, Bool.and_eq_true] at h
 exact h.2.2.2.2.2
theorem QIO {c s : Qab} {d v x : Int} {o : List Int} (hc : QaT c = true) (hs : QaT s = true) (h : posE s o v x = true) : cIx (eIds s) (QaW s x).1 = true ∧ QdC (QfO s x) (eAnch c) (eHash c) d s.1 = true := by
 obtain ⟨k, hk, hl⟩ := Qke (QyE h)
 obtain ⟨_, _, _, h4, h5, _⟩ := Qbl hc
 have h6 := (Qbl hs).2.2.2.2.2
 unfold QfO
 rw [hk, Qax, Int.toNat_natCast, Qaz (y := Qap) hl]
 refine ⟨decide_eq_true hl, ?_⟩
 have := List.all_eq_true.1 h6 _ (List.getElem_mem hl)
 simp only [QdC, Bool.and_eq_true, decide_eq_true_eq]
 exact ⟨this, h4, h5⟩
theorem QKH {e : Qab} {o l : List Int} {v : Int} {k : Nat} (h : fstG (posE e o v) l = some k) : k < l.length ∧ posE e o v (l.getD k 0) = true := by
 obtain ⟨q, h1⟩ := QgJ h
 refine ⟨q, ?_⟩
 rw [List.getD_eq_getElem?_getD, List.getElem?_eq_getElem q, Option.getD_some]
 exact h1
theorem eEta (p1 : Qab) : (p1.1, (p1.2.1, (p1.2.2.1, (p1.2.2.2.1, (p1.2.2.2.2.1, (p1.2.2.2.2.2.1, (p1.2.2.2.2.2.2.1, (p1.2.2.2.2.2.2.2.1, (p1.2.2.2.2.2.2.2.2.1, ()))))))))) = p1 := rfl
def outKI (p : Keep × Int) : Option (V × List VO) := some (.tu [.t Qah p.1, .t tI p.2], [])
theorem brT {a : Bool} {X Y : Option (V × List VO)} {x y : Keep × Int} (hx : X = outKI x) (hy : Y = outKI y) : br a X Y = outKI (bif a then x else y) := by
 cases a
 ·exact hy
 ·exact hx
noncomputable def QPt : List DO := dT Tryz.f83 15
noncomputable def QPs : List DO := dT Tryz.f83 16
noncomputable def QPr : List DO := dT Tryz.f83 18
noncomputable def QEl : TC := (.sq (.reg (rT Tryz.f83 0)) (.sq (.bk 0 (.sq (.reg (rT Tryz.f83 1)) (.cd (.t 18) (.sq (.reg (rT Tryz.f83 2)) .rt) (.sq (.reg (rT Tryz.f83 3)) (.cd (.t 24) (.sq (.reg (rT Tryz.f83 4)) .rt) .sk))))) (.sq (.reg (rT Tryz.f83 5)) (.sq (.sq (.reg (rT Tryz.f83 6)) (.cd (.t 58) (.sq (.reg (rT Tryz.f83 7)) .rt) .sk)) (.sq (.reg (rT Tryz.f83 8)) (.sq (.sq (.reg (rT Tryz.f83 9)) (.cd (.t 63) (.reg (rT Tryz.f83 10)) .sk)) (.sq (.reg (rT Tryz.f83 11)) (.sq (.reg (rT Tryz.f83 12)) (.sq (.sq (.reg (rT Tryz.f83 13)) (.cd (.t 73) (.sq (.reg (rT Tryz.f83 14)) .rt) .sk)) (.sq (.dr QPt [(0, [6]), (1, []), (2, []), (3, []), (4, []), (5, []), (6, []), (7, []), (8, []), (9, []), (10, [])] (.of [0, 1, 2, 3, 4, 5, 6, 7, 8, 9, 10])) (.sq (.sq (.dr QPs [(0, [6]), (1, [6]), (2, []), (3, []), (4, []), (5, []), (6, [5]), (7, [5]), (8, [5]), (9, [5]), (10, []), (11, [6]), (12, [6]), (13, []), (14, [])] (.of [0, 1, 2, 3, 4, 5, 6, 7, 8, 9, 10, 11, 12, 13, 14])) (.cd (.t 98) (.sq (.reg (rT Tryz.f83 17)) .rt) .sk)) (.sq (.dr QPr [(0, [12]), (1, [12]), (2, []), (3, []), (4, []), (5, []), (6, []), (7, [10]), (8, [])] (.of [0, 1, 2, 3, 4, 5, 6, 7, 8])) .rt))))))))))))
def QRy : List (RV × Option Ty) := [((.c 10 true 2), some Qah), ((.t 11), some tI)]
def g_f83 : G := ⟨TYs, [], 107, EL [(56, Qrn), (57, QE5), (82, Qz7), (126, QF2), (127, QF1), (128, Qrr)], keeps, (fun _ _ => none), IL [], RL []⟩
def r_f83 (p0 p1 : Qab) (p2 p3 : Int) (p4 : List Int) : Option (V × List VO) :=
 let a6 := imn p3 p1.2.2.1
 let a1 := ((p1.1, (p1.2.1, (p1.2.2.1, (p1.2.2.2.1, (p1.2.2.2.2.1, (p1.2.2.2.2.2.1, (p1.2.2.2.2.2.2.1, (p1.2.2.2.2.2.2.2.1, (p1.2.2.2.2.2.2.2.2.1, ()))))))))), (a6, (p4, ())))
 let a7 := ixPos (Qei a1) a1
 let a2 := lgt tI (Qei a1) (Int.toNat a7)
 let a8 := ixPos (Qgn a1) a1
 let a3 := lgt tI (Qgn a1) (Int.toNat a8)
 let a4 := ((((lgt Qap p1.2.2.2.2.2.1 (Int.toNat ((QaW p1 a3).1))).2).2).1)
 let a5 := ((((lgt Qap p1.2.2.2.2.2.1 (Int.toNat ((QaW p1 a2).1))).2).2).1)
 br (Qbv p0 p1) (br (!(Qdu p0 p1)) (some (.tu [(.t Qah (0, (0, ()))), (.t tI 19)], [])) (br (ilt p2 0) (some (.tu [(.t Qah (0, (0, ()))), (.t tI 2)], [])) (br (igt p2 40000) (some (.tu [(.t Qah (0, (0, ()))), (.t tI 2)], [])) (br (ilt p3 1) (some (.tu [(.t Qah (0, (0, ()))), (.t tI 2)], [])) (br (igt p3 4) (some (.tu [(.t Qah (0, (0, ()))), (.t tI 2)], [])) (br (ilt a6 p0.2.1) (some (.tu [(.t Qah (0, (0, ()))), (.t tI 27)], [])) (br (ilt a6 p1.2.1) (some (.tu [(.t Qah (0, (0, ()))), (.t tI 27)], [])) (br (p1.2.2.2.2.1) (br (okPos (Qgn a1) a1) (br (ilt a8 0) (some (.tu [(.t Qah (0, (0, ()))), (.t tI 28)], [])) (br (cIx (Qgn a1) a8) (br (idnOk p1 a3) (br (cIx p1.2.2.2.2.2.1 ((QaW p1 a3).1)) (br (QdC a4 p0.2.2.2.2.2.2.1 p0.2.2.2.2.2.2.2.1 p2 p1.1) (br (ine (chkCh a4 p0.2.2.2.2.2.2.1 p0.2.2.2.2.2.2.2.1 p2 p1.1) 0) (some (.tu [(.t Qah (0, (0, ()))), (.t tI 29)], [])) (br (cIx (Qgn a1) a8) (some (.tu [(.t Qah (a6, (a3, ()))), (.t tI 0)], [])) none)) none) none) none) none)) none) (br (okPos (Qei a1) a1) (br (ilt a7 0) (some (.tu [(.t Qah (0, (0, ()))), (.t tI 28)], [])) (br (cIx (Qei a1) a7) (br (idnOk p1 a2) (br (cIx p1.2.2.2.2.2.1 ((QaW p1 a2).1)) (br (QdC a5 p0.2.2.2.2.2.2.1 p0.2.2.2.2.2.2.2.1 p2 p1.1) (br (ine (chkCh a5 p0.2.2.2.2.2.2.1 p0.2.2.2.2.2.2.2.1 p2 p1.1) 0) (some (.tu [(.t Qah (0, (0, ()))), (.t tI 29)], [])) (br (cIx (Qei a1) a7) (some (.tu [(.t Qah (a6, (a2, ()))), (.t tI 0)], [])) none)) none) none) none) none)) none))))))))) none
theorem e_f83 (p0 p1 : Qab) (p2 p3 : Int) (p4 : List Int) : runF g_f83 QEl QRy false [.t Qae p0, .t Qae p1, .t tI p2, .t tI p3, .t (.sl tI) p4] [] = r_f83 p0 p1 p2 p3 p4 := by kernel_rfl
theorem en_f83 : Qai Tryz.prog 83 := .inr ⟨by decide, _, Tryz.func83, by kernel_rfl, by kernel_rfl⟩
theorem gk_f83 : GOk Tryz.prog g_f83 := Qal _ (gA (gC Qwo QvE (gC QSI QSs (gC QKT QI8 (gC QXY QUc (gC QXX QUb (gC QDz QDa gN)))))))
theorem lk_f83 : QEl.lok g_f83 := by repeat (first | exact trivial | refine ⟨?_, ?_⟩)
theorem s_f83 (c s : Qab) (d m : Int) (o : List Int) (h : Qul c s d m o = true) : r_f83 c s d m o = some (.tu [.t Qah (withF c s d m o).1, .t tI (withF c s d m o).2], []) := by
 simp only [Qul, Bool.and_eq_true, decide_eq_true_eq] at h
 obtain ⟨hr, ho⟩ := h
 obtain ⟨hc, hs⟩ := Bool.and_eq_true_iff.1 hr
 have hs' := Qbl hs
 have hle : lenEE s o = true := decide_eq_true ⟨hs'.2.2.1, hs'.2.1, ho⟩
 have hid : ∀ x, idnOk s x = true := fun x => decide_eq_true hs'.2.2.1
 have hb1 : ∀ v, okPos (Qaw s) (s, (v, (o, ()))) = true := fun v => Bool.and_eq_true_iff.2 ⟨decide_eq_true hs'.2.1, hle⟩
 have hb2 : ∀ v, okPos o (s, (v, (o, ()))) = true := fun v => Bool.and_eq_true_iff.2 ⟨decide_eq_true ho, hle⟩
 have hp : ∀ v, possF (s, (v, (o, ()))) = posE s o v := fun v => rfl
 simp only [r_f83, eEta, Qgn, Qei, tkE, tkO, hr, Qad, hb1, hb2, hid, ixPos, hp]
 show _ = outKI (withF c s d m o)
 have hg : ∀ (l : List Int) (k : Nat), lgt tI l k = l.getD k 0 := fun _ _ => rfl
 unfold withF
 refine brT rfl <| brT rfl <| brT rfl <| brT rfl <| brT rfl <| brT rfl <| brT rfl ?_
 cases hw : s.2.2.2.2.1 with
 | true =>
  rw [Qad]
  rw [show outL s o = Qaw s by unfold outL; rw [hw]; rfl]
  unfold overF
  cases hq : fstG (posE s o (imn m s.2.2.1)) (Qaw s) with
  | none => rfl
  | some k =>
   obtain ⟨hk, hp⟩ := QKH hq
   obtain ⟨h1, h2⟩ := QIO (d := d) hc hs hp
   simp only [show ilt (k : Int) 0 = false from decide_eq_false (by omega), Qaf, Qax, hk, decide_true, Qad, Int.toNat_natCast, hg, h1]
   refine Eq.trans (congrArg (fun b => br b _ _) h2) ?_
   rw [Qad]
   exact brT rfl rfl
 | false =>
  rw [Qaf]
  rw [show outL s o = o by unfold outL; rw [hw]; rfl]
  unfold overF
  cases hq : fstG (posE s o (imn m s.2.2.1)) (o) with
  | none => rfl
  | some k =>
   obtain ⟨hk, hp⟩ := QKH hq
   obtain ⟨h1, h2⟩ := QIO (d := d) hc hs hp
   simp only [show ilt (k : Int) 0 = false from decide_eq_false (by omega), Qaf, Qax, hk, decide_true, Qad, Int.toNat_natCast, hg, h1]
   refine Eq.trans (congrArg (fun b => br b _ _) h2) ?_
   rw [Qad]
   exact brT rfl rfl
def QQ1 : Ent := spec (.pr Qae (.pr Qae (.pr tI (.pr tI (.pr (.sl tI) .nil))))) (fun x => (Qul x.1 x.2.1 x.2.2.1 x.2.2.2.1 x.2.2.2.2.1)) (fun x => (.tu [(.t Qah ((withF x.1 x.2.1 x.2.2.1 x.2.2.2.1 x.2.2.2.2.1).1)), (.t tI ((withF x.1 x.2.1 x.2.2.1 x.2.2.2.1 x.2.2.2.2.1).2))]))
theorem ms_f83 : Meets Tryz.prog 83 (strip QQ1) := Qag (R := runF g_f83 QEl QRy false) (mG Tryz.func83 (by kernel_rfl) Tryz.ntmps83 (by kernel_rfl) gk_f83 lk_f83) fun x hok => (e_f83 x.1 x.2.1 x.2.2.1 x.2.2.2.1 x.2.2.2.2.1).trans (s_f83 x.1 x.2.1 x.2.2.1 x.2.2.2.1 x.2.2.2.2.1 hok)
def QbD (c s : Qab) (d : Int) : Keep × Int := withF c s d c.2.2.1 (Qaw c)
def QfQ (c s : Qab) (_d : Int) : Bool := Qbv c s
theorem Qbu {c : Qab} (h : QaV c = true) : 1 ≤ c.2.1 ∧ c.2.1 ≤ c.2.2.1 ∧ c.2.2.1 ≤ 4 := by
 simp only [QaV, Bool.and_eq_true, Bool.not_eq_true'] at h
 obtain ⟨_, h1, h2, h3, _⟩ := h
 have h1 := of_decide_eq_false h1
 have h2 := of_decide_eq_false h2
 have h3 := of_decide_eq_false h3
 omega
noncomputable def QEG : TC := (.sq (.reg (rT Tryz.f42 0)) (.sq (.sq (.reg (rT Tryz.f42 1)) (.cd (.t 11) (.sq (.reg (rT Tryz.f42 2)) .rt) .sk)) (.sq (.reg (rT Tryz.f42 3)) .rt)))
def QRT : List (RV × Option Ty) := [((.c 6 true 2), some Qah), ((.t 7), some tI)]
def g_f42 : G := ⟨TYs, [], 23, EL [(82, Qz7), (83, QQ1)], keeps, (fun _ _ => none), IL [], RL []⟩
def r_f42 (p0 p1 : Qab) (p2 : Int) : Option (V × List VO) :=
 let a1 := withF p0 p1 p2 p0.2.2.1 p0.2.2.2.1
 br (Qbv p0 p1) (br (!(Qdu p0 p1)) (some (.tu [(.t Qah (0, (0, ()))), (.t tI 19)], [])) (br (Qul p0 p1 p2 p0.2.2.1 p0.2.2.2.1) (some (.tu [(.t Qah (a1.1)), (.t tI (a1.2))], [])) none)) none
theorem e_f42 (p0 p1 : Qab) (p2 : Int) : runF g_f42 QEG QRT false [.t Qae p0, .t Qae p1, .t tI p2] [] = r_f42 p0 p1 p2 := by kernel_rfl
theorem QSM : Qai Tryz.prog 42 := .inr ⟨by decide, _, Tryz.func42, by kernel_rfl, by kernel_rfl⟩
theorem gk_f42 : GOk Tryz.prog g_f42 := Qal _ (gA (gC QKT QI8 (gC en_f83 ms_f83 gN)))
theorem lk_f42 : QEG.lok g_f42 := by repeat (first | exact trivial | refine ⟨?_, ?_⟩)
theorem s_f42 (c s : Qab) (d : Int) (h : QfQ c s d = true) : r_f42 c s d = some (.tu [.t Qah (QbD c s d).1, .t tI (QbD c s d).2], []) := by
 have hr : Qbv c s = true := h
 have hw : Qul c s d c.2.2.1 (Qaw c) = true := Bool.and_eq_true_iff.2 ⟨h, decide_eq_true (Qbl (Bool.and_eq_true_iff.1 h).1).2.1⟩
 simp only [r_f42, hr, hw, Qad]
 show _ = outKI (QbD c s d)
 unfold QbD withF
 cases Qdu c s <;> rfl
def QE9 : Ent := spec (.pr Qae (.pr Qae (.pr tI .nil))) (fun x => (QfQ x.1 x.2.1 x.2.2.1)) (fun x => (.tu [(.t Qah ((QbD x.1 x.2.1 x.2.2.1).1)), (.t tI ((QbD x.1 x.2.1 x.2.2.1).2))]))
theorem QSw : Meets Tryz.prog 42 (strip QE9) := Qag (R := runF g_f42 QEG QRT false) (mG Tryz.func42 (by kernel_rfl) Tryz.ntmps42 (by kernel_rfl) gk_f42 lk_f42) fun x hok => (e_f42 x.1 x.2.1 x.2.2.1).trans (s_f42 x.1 x.2.1 x.2.2.1 hok)
def usesL (e : Qab) (c : Int) : List Keep :=
 [bif ieq (QaO c).1.2.2.1.2.1 0 then ((QaO c).1.2.2.1.1, ((lgt Qap (eIds e) (QaW e c).1.toNat).1.2.1, ())) else (QaO c).1.2.2.1, (lgt Qap (eIds e) (QaW e c).1.toNat).1, (QaO c).1.2.2.2.2.1, (QaO c).1.2.2.2.2.2.1]
def usesF (e : Qab) (o : Keep) : List Keep × Int :=
 bif !QaV e then ([], 19) else bif ine (QaO o.2.1).2 0 then ([], (QaO o.2.1).2) else bif !(QaW e o.2.1).2 then ([], 4) else (usesL e o.2.1, 0)
def Qz3 (e : Qab) (_o : Keep) : Bool := QaT e
def outLI (p : List Keep × Int) : Option (V × List VO) := some (.tu [.t (.sl Qah) p.1, .t tI p.2], [])
theorem QSX {e : Qab} {c : Int} (h : (QaW e c).2 = true) : cIx (eIds e) (QaW e c).1 = true := by
 obtain ⟨k, hk, hl⟩ := Qke h
 rw [hk, Qax]
 exact decide_eq_true hl
noncomputable def QEy : TC := (.sq (.reg (rT Tryz.f50 0)) (.sq (.sq (.reg (rT Tryz.f50 1)) (.sq (.reg (rT Tryz.f50 2)) (.cd (.t 15) (.sq (.reg (rT Tryz.f50 3)) .rt) .sk))) (.sq (.reg (rT Tryz.f50 4)) (.sq (.sq (.reg (rT Tryz.f50 5)) (.cd (.t 24) (.sq (.reg (rT Tryz.f50 6)) .rt) .sk)) (.sq (.reg (rT Tryz.f50 7)) (.sq (.sq (.reg (rT Tryz.f50 8)) (.cd (.t 34) (.sq (.reg (rT Tryz.f50 9)) .rt) .sk)) (.sq (.reg (rT Tryz.f50 10)) (.sq (.sq (.reg (rT Tryz.f50 11)) (.cd (.t 44) (.reg (rT Tryz.f50 12)) .sk)) (.sq (.reg (rT Tryz.f50 13)) .rt)))))))))
def QRL : List (RV × Option Ty) := [((.t 4), some (.sl Qah)), ((.t 5), some tI)]
def g_f50 : G := ⟨TYs, [], 57, EL [(56, Qrn), (76, Qz8), (85, Quy)], keeps, (fun _ _ => none), IL [], RL []⟩
def r_f50 (p0 : Qab) (p1 : Keep) : Option (V × List VO) :=
 let a1 := ((lgt Qap p0.2.2.2.2.2.1 (Int.toNat ((QaW p0 p1.2.1).1))).1)
 let a2 := ((((QaO p1.2.1).1).2).2)
 let a3 := (((((a2.2).2).2).1).1, ((((((a2.2).2).2).1).2).1, ()))
 let a4 := ((((a2.2).2).1).1, (((((a2.2).2).1).2).1, ()))
 let a5 := ((a1.2).1, ())
 br (QaT p0) (br (ine (Qez p0) 0) (some (.tu [(.t (.sl Qah) ([] : List Keep)), (.t tI (Qez p0))], [])) (br (ine ((QaO p1.2.1).2) 0) (some (.tu [(.t (.sl Qah) ([] : List Keep)), (.t tI ((QaO p1.2.1).2))], [])) (br (idnOk p0 p1.2.1) (br (!((QaW p0 p1.2.1).2)) (some (.tu [(.t (.sl Qah) ([] : List Keep)), (.t tI 4)], [])) (br (cIx p0.2.2.2.2.2.1 ((QaW p0 p1.2.1).1)) (br (ieq (((a2.1).2).1) 0) (some (.tu [(.t (.sl Qah) ([((a2.1).1, a5), (a1.1, a5), a4, a3])), (.t tI 0)], [])) (some (.tu [(.t (.sl Qah) ([((a2.1).1, (((a2.1).2).1, ())), (a1.1, a5), a4, a3])), (.t tI 0)], []))) none)) none))) none
theorem e_f50 (p0 : Qab) (p1 : Keep) : runF g_f50 QEy QRL false [.t Qae p0, .t Qah p1] [] = r_f50 p0 p1 := by kernel_rfl
theorem en_f50 : Qai Tryz.prog 50 := .inr ⟨by decide, _, Tryz.func50, by kernel_rfl, by kernel_rfl⟩
theorem gk_f50 : GOk Tryz.prog g_f50 := Qal _ (gA (gC Qwo QvE (gC QKV QJa (gC QBY QAB gN))))
theorem lk_f50 : QEy.lok g_f50 := by repeat (first | exact trivial | refine ⟨?_, ?_⟩)
theorem s_f50 (e : Qab) (o : Keep) (h : Qz3 e o = true) : r_f50 e o = some (.tu [.t (.sl Qah) (usesF e o).1, .t tI (usesF e o).2], []) := by
 have hr : QaT e = true := h
 have hid : ∀ x, idnOk e x = true := fun x => decide_eq_true (Qbl hr).2.2.1
 simp only [r_f50, hr, hid, Qad, Qwz]
 show _ = outLI (usesF e o)
 unfold usesF Qez
 cases QaV e with
 | false => rfl
 | true =>
  rw [Bool.not_true, Qaf, cond_false]
  cases ine (QaO o.2.1).2 0 with
  | true => rfl
  | false =>
   rw [Qaf, cond_false]
   cases hi : (QaW e o.2.1).2 with
   | false => rfl
   | true =>
    rw [Bool.not_true, Qaf, cond_false]
    refine Eq.trans (congrArg (fun b => br b _ _) (QSX hi)) ?_
    rw [Qad]
    unfold usesL
    cases ieq (QaO o.2.1).1.2.2.1.2.1 0 <;> rfl
def QQ8 : Ent := spec (.pr Qae (.pr Qah .nil)) (fun x => (Qz3 x.1 x.2.1)) (fun x => (.tu [(.t (.sl Qah) ((usesF x.1 x.2.1).1)), (.t tI ((usesF x.1 x.2.1).2))]))
theorem ms_f50 : Meets Tryz.prog 50 (strip QQ8) := Qag (R := runF g_f50 QEy QRL false) (mG Tryz.func50 (by kernel_rfl) Tryz.ntmps50 (by kernel_rfl) gk_f50 lk_f50) fun x hok => (e_f50 x.1 x.2.1).trans (s_f50 x.1 x.2.1 hok)
end
end Go.Proofs.YtckcgijklnloiaaGreat.K
namespace Go.Proofs.YtckcgijklnloiaaGreat.K
open Go.RowKit
noncomputable section
theorem brN {β : Type} {p q : Bool} {X : Option β} : br p (br q X none) none = br (p && q) X none := by cases p <;> rfl
def Quq (c : Int) : Int := bif ine (QaO c).2 0 then 0 else strF (QaO c).1.2.2.2.2.1
def insK (x : Int) (l : List Int) : Nat → Nat
 | 0 => 0
 | k + 1 => if ilt (Quq (l.getD k 0)) (Quq x) = true then insK x l k else k + 1
def insS (l : List Int) (x : Int) : List Int := (l.take (insK x l l.length) ++ [x]) ++ l.drop (insK x l l.length)
def sortS (l : List Int) : List Int := l.foldl insS []
-- loop 0: (x0 : (List Int)) (x4 : Int) (x5 : Int) (y3 : (List Int)); out: ('exit', 2) (x0 : (List Int)) (x4 : Int) (x5 : Int) (y3 : (List Int))
-- loop 1: (x0 : (List Int)) (x4 : Int) (y3 : (List Int)); out: ('exit', 0) (y3 : (List Int))
end
end Go.Proofs.YtckcgijklnloiaaGreat.K
namespace Go.Proofs.YtckcgijklnloiaaGreat.K
open Go.RowKit
noncomputable section
theorem QTf {d : Dice} {l : List Int} (h : dOk d = true) (h1 : l ≠ []) (h2 : l.length ≤ 100) : ofOk d l = true := by
 have : 0 < l.length := List.length_pos_iff.2 h1
 simp only [ofOk, h, Bool.true_and, decide_eq_true_eq]
 omega
theorem Qgz {d : Dice} {n : Int} (h : dOk d = true) (hn : n ≤ 1000000) : QaS d n = true := by
 simp only [QaS, h, Bool.true_and, decide_eq_true_eq]
 omega
theorem QAw {d : Dice} {n : Int} (h : dOk d = true) (h0 : 0 ≤ n) (hn : n ≤ 1000000) : oneOk d n = true := by
 simp only [oneOk, Qgz h hn, Bool.true_and, decide_eq_true_eq]
 omega
abbrev kAlg (d : Dice) : Int := dof d [5, 7, 5, 6, 8, 9]
def keyV (d : Dice) : Keep := (kAlg d, (sizeV (dofN d [5, 7, 5, 6, 8, 9]) (kAlg d), ()))
def keyN (d : Dice) : Dice := sizeN (dofN d [5, 7, 5, 6, 8, 9]) (kAlg d)
abbrev cD1 (d : Dice) : Dice := dnext d 1000
abbrev cD2 (d : Dice) : Dice := dofN (cD1 d) [3, 2, 4, 1]
abbrev cD3 (d : Dice) : Dice := dofN (cD2 d) [0, 5, 10]
abbrev cD4 (d : Dice) : Dice := dofN (cD3 d) [1000, 100, 50, 20]
def cD5 (d : Dice) (a : Bool) : Dice := bif a then dofN (cD4 d) [3, 0, 1] else cD4 d
def cPath (d : Dice) (a : Bool) : Int := bif a then dof (cD4 d) [3, 0, 1] else 0
def cNm (d : Dice) (a : Bool) (s : ByteArray) : List ByteArray := bif done (cD5 d a) 3 then [s, scat s (ByteArray.mk #[120])] else [s]
def cRaw (d : Dice) (i s : ByteArray) (k : Keep) (id : Int) (a : Bool) : Qaa :=
 (dval d 1000, (i, (s, (k, (id, ((dof (cD1 d) [3, 2, 4, 1], (0, ())), (dof (cD2 d) [0, 5, 10], (dof (cD3 d) [1000, 100, 50, 20], (a, (cPath d a, (cNm d a s, ((0, (0, ())), ()))))))))))))
def cerV (d : Dice) (i s : ByteArray) (k : Keep) (id g : Int) (a : Bool) : Qaa := (signC (cRaw d i s k id a) g).1
def cerN (d : Dice) (_i _s : ByteArray) (_k : Keep) (_id _g : Int) (a : Bool) : Dice := dnext (cD5 d a) 3
theorem QzP {i s : ByteArray} {k : Keep} {id : Int} {a : Bool} {q p : Int} {u v : Keep} {x y : Int} (hi : i.size ≤ 1000) (hs : s.size ≤ 1000) {l : List ByteArray} (hl : l.length ≤ 2) (hn : ∀ t ∈ l, t.size ≤ 1001) :
  QaG (q, (i, (s, (k, (id, (u, (x, (y, (a, (p, (l, (v, ())))))))))))) = true := by
 have hg : ∀ t : ByteArray, t.size ≤ 1001 → nameG t = true := fun t ht => decide_eq_true (by omega)
 simp only [QaG, Bool.and_eq_true]
 refine ⟨hg _ (by omega), hg _ (by omega), ?_⟩
 simp only [Qb6, Bool.and_eq_true, List.all_eq_true]
 exact ⟨decide_eq_true (by show l.length ≤ _; omega), fun t ht => hg t (hn t ht)⟩
end
end Go.Proofs.YtckcgijklnloiaaGreat.K
namespace Go.Proofs.YtckcgijklnloiaaGreat.K
open Go.RowKit
noncomputable section
abbrev sRoot : ByteArray := ByteArray.mk #[114, 111, 111, 116]
abbrev sSubs : List ByteArray := [ByteArray.mk #[99, 97], ByteArray.mk #[99, 98], ByteArray.mk #[99, 99]]
abbrev Up : Type := List Qaa × Dice × ByteArray × Int
def abvZ : Nat → Nat → Up → Up
 | 0, _, u => u
 | m + 1, i, (ab, d, iss, g) => abvZ m (i + 1) (cerV d iss (sSubs.getD i ByteArray.empty) (5, (2048, ())) ((11 + i : Nat) : Int) g true :: ab, cerN d iss (sSubs.getD i ByteArray.empty) (5, (2048, ())) ((11 + i : Nat) : Int) g true, sSubs.getD i ByteArray.empty, ((11 + i : Nat) : Int))
def chU (d : Dice) : Up := abvZ (dof d [1, 0, 2]).toNat 0 ([], dnext (dofN d [1, 0, 2]) 2, sRoot, 1 + dval (dofN d [1, 0, 2]) 2)
def chnV (d : Dice) (nm : ByteArray) (k : Keep) (id : Int) : List Qaa := cerV (chU d).2.1 (chU d).2.2.1 nm k id (chU d).2.2.2 false :: (chU d).1
def chnN (d : Dice) (nm : ByteArray) (k : Keep) (id : Int) : Dice := cerN (chU d).2.1 (chU d).2.2.1 nm k id (chU d).2.2.2 false
-- loop 0: (x1 : ByteArray) (x3 : Int) (x9 : Int) (x10 : Int) (x11 : ByteArray) (x13 : Int) (y6 : Keep) (y12 : (List Qaa)) (y50000 : Dice); out: ('exit', 0) (x1 : ByteArray) (x3 : Int) (x10 : Int) (x11 : ByteArray) (y6 : Keep) (y12 : (List Qaa)) (y50000 : Dice)
end
end Go.Proofs.YtckcgijklnloiaaGreat.K
namespace Go.Proofs.YtckcgijklnloiaaGreat.K
open Go.RowKit
noncomputable section
def suZ : Nat → List Int → Dice → List Int × Dice
 | 0, l, d => (l, d)
 | n + 1, l, d => suZ n (bif !hasF l (1 + dval d 16) then l ++ [1 + dval d 16] else l) (dnext d 16)
def suI (d : Dice) : List Int × Dice := suZ (2 + dval d 9).toNat [] (dnext d 9)
def suiV (d : Dice) : List Int := bif done (suI d).2 4 then sortS (suI d).1 else (suI d).1
def suiN (d : Dice) : Dice := dnext (suI d).2 4
-- loop 0: (x4 : Int) (y3 : (List Int)) (y50000 : Dice); out: ('exit', 0) (y3 : (List Int)) (y50000 : Dice)
end
end Go.Proofs.YtckcgijklnloiaaGreat.K
namespace Go.Proofs.YtckcgijklnloiaaGreat.K
open Go.RowKit
noncomputable section
abbrev iB (d : Dice) : Bool := igt (dval (keyN d) 3) 0
abbrev iD2 (d : Dice) : Dice := dnext (keyN d) 3
abbrev iA (d : Dice) : Int := dof (iD2 d) [5, 7]
def iKey (d : Dice) : Keep := bif iB d then (iA d, (sizeV (dofN (iD2 d) [5, 7]) (iA d), ())) else keyV d
def iD3 (d : Dice) : Dice := bif iB d then sizeN (dofN (iD2 d) [5, 7]) (iA d) else iD2 d
def iId (d : Dice) : Int := 100 + dval (iD3 d) 20
abbrev iD4 (d : Dice) : Dice := dnext (iD3 d) 20
abbrev iD5 (d : Dice) : Dice := dnext (iD4 d) 9
def iCh (d : Dice) (nm : ByteArray) : List Qaa := bif !done (iD4 d) 9 then chnV (iD5 d) nm (iKey d) (iId d) else []
def iD6 (d : Dice) (nm : ByteArray) : Dice := bif !done (iD4 d) 9 then chnN (iD5 d) nm (iKey d) (iId d) else iD5 d
def idV (d : Dice) (nm : ByteArray) : Qar := (iKey d, (iId d, (iCh d nm, ())))
def idsZ : Nat → ByteArray → Dice → List Qar × Dice
 | 0, _, d => ([], d)
 | n + 1, nm, d => (idV d nm :: (idsZ n nm (iD6 d nm)).1, (idsZ n nm (iD6 d nm)).2)
abbrev eL0 (d : Dice) : Int := dof d [1, 1, 2, 3]
abbrev eD1 (d : Dice) : Dice := dofN d [1, 1, 2, 3]
abbrev eD2 (d : Dice) : Dice := suiN (eD1 d)
abbrev eD3 (d : Dice) : Dice := dnext (eD2 d) 2
abbrev eD4 (d : Dice) : Dice := dnext (eD3 d) 2
abbrev eD5 (d : Dice) : Dice := dnext (eD4 d) (5 - eL0 d)
abbrev eD6 (d : Dice) : Dice := dnext (eD5 d) 3
abbrev eB (d : Dice) : Bool := igt (dval (eD5 d) 3) 0
def eLst (d : Dice) : Int := bif eB d then 1 else eL0 d
def eMst (d : Dice) : Int := bif eB d then dof (eD6 d) [3, 4, 2] else eL0 d + dval (eD4 d) (5 - eL0 d)
def eD7 (d : Dice) : Dice := bif eB d then dofN (eD6 d) [3, 4, 2] else eD6 d
abbrev eD8 (d : Dice) : Dice := dofN (eD7 d) [1, 2, 1, 3, 0]
def eIdz (d : Dice) (nm : ByteArray) : List Qar × Dice := idsZ (dof (eD7 d) [1, 2, 1, 3, 0]).toNat nm (eD8 d)
abbrev eAn (d : Dice) (nm : ByteArray) : List Int := lgt (.sl tI) [[1, 2], [1, 2], [1], [2, 11], ([] : List Int)] (dval (eIdz d nm).2 5).toNat
abbrev eD10 (d : Dice) (nm : ByteArray) : Dice := dnext (eIdz d nm).2 5
abbrev eHs (d : Dice) (nm : ByteArray) : List Int := lgt (.sl tI) [[1, 2, 3, 4], [2, 3, 4], [3, 4]] (dval (eD10 d nm) 3).toNat
def epV (d : Dice) (nm : ByteArray) : Qab := (nm, (eLst d, (eMst d, (suiV (eD1 d), (done (eD2 d) 2, ((eIdz d nm).1, (eAn d nm, (eHs d nm, (done (eD3 d) 2, ())))))))))
def epN (d : Dice) (nm : ByteArray) : Dice := dnext (eD10 d nm) 3
-- loop 0: (x1 : ByteArray) (x6 : Int) (y4 : Qab) (y5_0 : ByteArray) (y5_1 : Int) (y5_2 : Int) (y5_4 : Bool) (y5_8 : Bool) (y15 : (List Int)) (y20505 : (List Qar)) (y50000 : Dice); out: ('exit', 0) (y4 : Qab) (y5_0 : ByteArray) (y5_1 : Int) (y5_2 : Int) (y5_4 : Bool) (y5_8 : Bool) (y15 : (List Int)) (y20505 : (List Qar)) (y50000 : Dice)
end
end Go.Proofs.YtckcgijklnloiaaGreat.K
namespace Go.Proofs.YtckcgijklnloiaaGreat.K
open Go.RowKit
noncomputable section
def prZ : List Int → List Int → Dice → List Int × Dice
 | [], s, d => (s, d)
 | x :: r, s, d => if ilt (llen s) 16 = true then (if hasF s x = true then prZ r s d else if done d 2 = true then prZ r (s ++ [x]) (dnext d 2) else prZ r s (dnext d 2)) else (s, d)
end
end Go.Proofs.YtckcgijklnloiaaGreat.K
namespace Go.Proofs.YtckcgijklnloiaaGreat.K
open Go.RowKit
noncomputable section
end
end Go.Proofs.YtckcgijklnloiaaGreat.K
namespace Go.Proofs.YtckcgijklnloiaaGreat.K
open Go.RowKit
noncomputable section
end
end Go.Proofs.YtckcgijklnloiaaGreat.K
namespace Go.Proofs.YtckcgijklnloiaaGreat.K
open Go.RowKit
noncomputable section
def rowC (s : Qab) (o : List Int) (v : Int) (k : Nat) : List Keep := ((List.range' k (17 - k)).filter fun (j : Nat) => posE s o v (j : Int)).map fun (j : Nat) => (v, ((j : Int), ()))
def verC (s : Qab) (o : List Int) (v n : Nat) : List Keep := (List.range' v n).flatMap fun (j : Nat) => rowC s o (j : Int) 1
abbrev hiC (c s : Qab) : Int := imn c.2.2.1 s.2.2.1
abbrev loC (c s : Qab) : Int := imx c.2.1 s.2.1
def QaY (c s : Qab) : List Keep := bif !Qdu c s then [] else verC s (Qaw c) (loC c s).toNat (hiC c s + 1 - loC c s).toNat
-- loop 0: (x6 : Int) (x7 : Int) (y2 : Qab) (y3 : Qab) (y5 : (List Keep)); out: ('exit', 2) (x6 : Int) (y2 : Qab) (y3 : Qab) (y5 : (List Keep))
-- loop 1: (x6 : Int) (y2 : Qab) (y3 : Qab) (y5 : (List Keep)); out: ('exit', 0) (y5 : (List Keep))
end
end Go.Proofs.YtckcgijklnloiaaGreat.K
namespace Go.Proofs.YtckcgijklnloiaaGreat.K
open Go.RowKit
noncomputable section
theorem QGb (l : List Int) : (sortI l).Pairwise (· ≤ ·) := by
 have := List.pairwise_mergeSort (le := fun x y : Int => decide (x ≤ y)) (fun a b c h1 h2 => by simp only [decide_eq_true_eq] at *; omega) (fun a b => by simp only [Bool.or_eq_true, decide_eq_true_eq]; omega) l
 exact this.imp fun h => of_decide_eq_true h
theorem QuD {l : List Int} {p : Int → Bool} (hn : l.Nodup) (hr : ∀ x ∈ l, 1 ≤ x ∧ x ≤ 16) (hp : ∀ x, p x = true → x ∈ l) : (sortI l).filter p = (((List.range' 1 16).filter fun (j : Nat) => p (j : Int)).map fun (j : Nat) => (j : Int)) := by
 have hperm : (sortI l).Perm l := List.mergeSort_perm _ _
 refine List.Perm.eq_of_pairwise (le := (· ≤ ·)) (fun a b _ _ h1 h2 => by omega) ((QGb l).filter _) ?_ ?_
 ·rw [List.pairwise_map]
  refine List.Pairwise.filter _ ?_
  refine (List.pairwise_lt_range' (s := 1) (n := 16)).imp fun h => by omega
 ·refine (List.perm_ext_iff_of_nodup ((hperm.nodup_iff.2 hn).filter _) ?_).2 fun a => ?_
  ·rw [List.nodup_iff_pairwise_ne, List.pairwise_map]
   refine List.Pairwise.filter _ ?_
   refine (List.pairwise_lt_range' (s := 1) (n := 16)).imp fun h => by omega
  ·simp only [List.mem_filter, List.mem_map, List.mem_range'_1, hperm.mem_iff]
   constructor
   ·rintro ⟨h1, h2⟩
    have := hr a h1
    exact ⟨a.toNat, ⟨by omega, by rw [Int.toNat_of_nonneg (by omega)]; exact h2⟩, Int.toNat_of_nonneg (by omega)⟩
   ·rintro ⟨j, ⟨_, h2⟩, rfl⟩
    exact ⟨hp _ h2, h2⟩
def rowS (s : Qab) (o : List Int) (v : Int) (l : List Int) : List Keep := (l.filter fun j => posE s o v j).map fun j => (v, (j, ()))
theorem QM9 {l : List Int} (h : suitF l = true) : ∀ x ∈ l, 1 ≤ x ∧ x ≤ 16 := by
 intro x hx
 obtain ⟨k, hk, rfl⟩ := List.mem_iff_getElem.1 hx
 exact (QkX h k hk).1
theorem QS9 {s : Qab} {o : List Int} {v : Int} (h : suitF o = true) : rowS s o v (sortI o) = rowC s o v 1 := by
 unfold rowS rowC
 rw [QuD (p := fun j => posE s o v j) (Qrj h) (QM9 h) (fun x hx => by
  simp only [posE, Bool.and_eq_true] at hx
  exact List.contains_iff_mem.1 hx.2.2.2.1), List.map_map]
 rfl
theorem QCM {c : Qab} (h : QaV c = true) : suitF (Qaw c) = true := by
 simp only [QaV, Bool.and_eq_true] at h
 exact h.2.2.2.2.1
end
end Go.Proofs.YtckcgijklnloiaaGreat.K
namespace Go.Proofs.YtckcgijklnloiaaGreat.K
open Go.RowKit Go.Shelf
attribute [local go_sem] Oper.semAt_some
set_option maxRecDepth 100000 in
set_option maxHeartbeats 1000000 in
theorem Qz2 (Bs b0 off c n : Nat) (A : Option Addr) (vs : List Value) (Xf : Nat → Nat → Prop) (w : World) (hreach : n * 8 ≤ 140737488351232) (hvl : vs.length = n)
  (hBs : w.cell? ⟨Bs, 0, none⟩ = some (.slice A n c)) (hBl : Bs < w.heap.size)
  (hA : 0 < n → A = some ⟨b0, off, none⟩ ∧ b0 < w.heap.size ∧ (∀ j, j < vs.length → ¬ Xf b0 (off + j)) ∧ ∀ j v, vs[j]? = some v → w.cell? ⟨b0, off + j, none⟩ = some v) :
  ItOk Tryz.prog 136 [.pointer (some ⟨Bs, 0, none⟩)] (vs.map fun v => #[v]) Xf w := by
 intro l J Jx W hJ hJx hK hY h0 hst
 have HA := Lib.hid hA
 clear hA
 refine callsIn_of_wp (F := Fw none) Tryz.func136 rfl trivial ?_ rfl
 simp only [Tryz.ntmps136, List.size_toArray, List.length_cons, List.length_nil, Nat.reduceAdd, Nat.reduceSub, Array.replicate_succ, Array.replicate_zero, List.push_toArray, List.append_toArray, List.nil_append, List.cons_append]
 have hb0 : W.cell? ⟨Bs, 0, none⟩ = some (.slice A n c) := (hst Bs 0 hBl).trans hBs
 gi_wp2
 gi_loopw [7] (fun i wr => ∃ k : Nat, k ≤ n ∧ i = .int .i64 (k : Int) ∧ J ((vs.drop k).map fun v => #[v]) wr)
  (fun i _ => n - (intOf i).toNat)
 case atStart => exact ⟨0, Nat.zero_le _, rfl, h0⟩
 case round =>
  obtain ⟨k, hk, rfl, hJs⟩ := hrel
  by_cases hlt : k < n
  ·obtain ⟨rfl, hbl, hnx, hcl⟩ := HA.out (by omega)
   have hlt2 : k < vs.length := by omega
   rw [List.drop_eq_getElem_cons hlt2, List.map_cons] at hJs
   obtain ⟨fn, tmps, assign, body, hy, hR⟩ := hY _ _ wr hJs
   have hcx' : wr.cell? ⟨b0, off + k, none⟩ = some vs[k] := ((hK _ wr hJs).2 b0 _ hbl (hnx _ hlt2)).trans (hcl _ _ (List.getElem?_eq_getElem hlt2))
   clear hnx hcl hY
   gi_wp2
   refine hR.mono ?_
   rintro e W3 (⟨rfl, hJ3⟩ | ⟨rfl, hJx3⟩)
   ·gi_wp2
    go_roundw
    case rel => exact ⟨k + 1, by omega, by simp, hJ3⟩
    case measure => simp [intOf]; omega
   ·gi_wp2
    refine bodyPost_ret (results_none rfl _ _ _) rfl ?_
    exact ⟨⟨_, rfl⟩, .inr hJx3⟩
  ·obtain rfl : k = n := by omega
   rw [List.drop_of_length_le (by omega)] at hJs
   gi_wp2
   go_end0
   exact ⟨⟨_, rfl⟩, .inl hJs⟩
def mkIt (l : List SV) (bs : List Ty) (yr : Ty) (ok : boxT bs → Bool) (f : boxT bs → List yr.T) : Itr := fun caps objs =>
 match rdVt l caps, Qbt bs objs with
 | some _, some d => some (ok d, ⟨yr, f d⟩)
 | _, _ => none
def QfX (l : List Int) : Bool := decide (l.length ≤ 100000)
def valI (l : List Int) : List (Int × Unit) := l.map fun x => (x, ())
def QnF : Itr := mkIt [.ptr 50000 0] [(.sl tI)] (.pr tI .nil) (fun d => (QfX d.1)) (fun d => (valI d.1))
noncomputable def QEi : TC := (.sq (.reg (rT Tryz.f89 0)) (.sq (.reg (rT Tryz.f89 1)) .rt))
def QRv : List (RV × Option Ty) := [((.t 2), none)]
def g_f89 : G := ⟨TYs, [], 4, EL [], keeps, (fun _ _ => none), IL [], RL []⟩
def r_f89 (p0 : List Int) : Option (V × List VO) := some (.fn 136 [(.ptr 50000 0)], [.box (.t (.sl tI) p0)])
theorem e_f89 (p0 : List Int) : runF g_f89 QEi QRv true [.t (.sl tI) p0] [] = r_f89 p0 := by kernel_rfl
theorem en_f89 : Qai Tryz.prog 89 := .inr ⟨by decide, _, Tryz.func89, by kernel_rfl, by kernel_rfl⟩
theorem gk_f89 : GOk Tryz.prog g_f89 := Qal _ (fun p hp => by cases hp)
theorem lk_f89 : QEi.lok g_f89 := by repeat (first | exact trivial | refine ⟨?_, ?_⟩)
def QQZ : Ent := specO (.pr (.sl tI) .nil) (fun _ => true) (fun x => .fn 136 [.ptr 50000 0]) (fun x => [.box (.t (.sl tI) x.1)])
theorem ms_f89 : Meets Tryz.prog 89 (strip QQZ) := Qip (R := runF g_f89 QEi QRv true) (mG Tryz.func89 (by kernel_rfl) Tryz.ntmps89 (by kernel_rfl) gk_f89 lk_f89) fun x _ => (e_f89 x.1).trans rfl
theorem QLP (l : List Int) : l.flatMap tI.cells = l.map fun x => D.v (.int .i64 x) := by
 induction l with
 | nil => rfl
 | cons x r ih => rw [List.flatMap_cons, ih, List.map_cons]; rfl
theorem QKl : Iters Tryz.prog (136 + 1000000) QnF := by
 refine Iters.strong (enters_of Tryz.func136 (by kernel_rfl) rfl) fun caps objs yr rows h X w σ lb hfin hl hc => ?_
 unfold QnF mkIt at h
 split at h
 ·rename_i x d hx hd
  simp only [Option.some.injEq, Prod.mk.injEq] at h
  obtain ⟨hok, h⟩ := h
  cases h
  have hcaps := Qk3 hx
  subst hcaps
  cases objs with
  | nil => simp [Qbt] at hd
  | cons o os =>
   cases o with
   | box cv =>
    cases os with
    | cons o2 os => simp [Qbt] at hd
    | nil =>
     simp only [Qbt] at hd
     split at hd
     ·rename_i l u hl1 _
      simp only [Option.some.injEq] at hd
      subst hd
      have hlen : l.length ≤ 100000 := of_decide_eq_true hok
      have hcv := SV.rd_mk (s := .ty (.sl tI)) (v := cv) (x := l) (by simpa [asBox, Ty.row] using hl1)
      subst hcv
      obtain ⟨⟨Bs, ty, us, h1, h2, h3, h4⟩, _⟩ := hl.at_ 0 _ rfl
      have h3' : Cs X w σ [.sl (List.length l) (List.flatMap tI.cells l)] us := h3
      obtain ⟨uv, rfl, h5⟩ := h3'.one
      simp only [C] at h5
      obtain ⟨A, c, rfl, g1, g2, g3, g4⟩ := h5
      simp only [mkVt, SV.mk, V.ds, V.d, Cs, C] at hc
      obtain ⟨p, ps, rfl, ⟨b', e1, rfl⟩, rfl⟩ := hc
      have h1 : σ 50000 = .box Bs := h1
      rw [h1] at e1
      injection e1 with e1
      subst e1
      have hcell : w.cell? ⟨Bs, 0, none⟩ = some (.slice A (List.length l) c) := by simp [World.cell?, h2]
      have hBl := (Array.getElem?_eq_some_iff.1 h2).1
      rcases Nat.eq_zero_or_pos (List.length l) with h0 | hp
      ·have hl0 : l = [] := List.eq_nil_of_length_eq_zero h0
       subst hl0
       exact ⟨[], ⟨rfl, fun i r v hr => by simp [valI] at hr⟩, Qz2 Bs 0 0 c 0 A [] _ w (by omega) rfl hcell hBl (fun h => absurd h (by omega))⟩
      ·obtain ⟨b0, off, vs, rfl, g5, g6⟩ := g4 hp
       have hvl := g5.len
       rw [QLP, List.length_map] at hvl
       refine ⟨vs.map fun v => #[v], ⟨by simp [valI, hvl], fun i r v hr hv => ?_⟩, Qz2 Bs b0 off c (List.length l) _ vs _ w (by omega) hvl hcell hBl (fun _ => ⟨rfl, g6.lt, fun j hj hx => g6.nx j hj hx, fun j v hv => g6.at_ j v hv⟩)⟩
       rw [QLP] at g5
       simp only [valI, List.getElem?_map, Option.map_eq_some_iff] at hr hv
       obtain ⟨x, hx, rfl⟩ := hr
       obtain ⟨u, hu, rfl⟩ := hv
       have hd : (l.map fun x => D.v (.int .i64 x))[i]? = some (.v (.int .i64 x)) := by rw [List.getElem?_map, hx]; rfl
       obtain ⟨u2, hu2, hcu⟩ := g5.at_ hd
       rw [hu] at hu2
       injection hu2 with hu2
       subst hu2
       simp only [Ty.canon, V.ds, V.d, Cs]
       refine ⟨_, _, rfl, ?_, rfl⟩
       rw [(C.v hcu).1]
       simp only [Ty.d, C]
       exact ⟨trivial, rfl⟩
     ·cases hd
   | no => simp [Qbt] at hd
   | arr e t l => simp [Qbt] at hd
 ·cases h
end Go.Proofs.YtckcgijklnloiaaGreat.K
namespace Go.Proofs.YtckcgijklnloiaaGreat.K
open Go.RowKit
noncomputable section
def idL (l : List Int) : List Int := l
def sortL (l : List Int) : List Int := sortI l
def Qbb : Fg := ⟨[(2, none)], [(60000, none), (11, none), (20200, none), (50000, some (.sl tI))]⟩
noncomputable def Qc8 : TC := (.reg (rT Tryz.f160 2))
noncomputable def Qc7 : TC := (.bk 1 (.reg (rT Tryz.f160 3)))
noncomputable def Qh6 : TC := (.sq (.reg (rT Tryz.f160 0)) (.sq (.sq (.reg (rT Tryz.f160 1)) (.bk 0 (.nf 2 0 3 20200 (.rf 0 Qbb (.t 6) (.pr tI .nil) [7] [2] Qc8 Qc7)))) (.sq (.reg (rT Tryz.f160 4)) .rt)))
def Qpu : List (RV × Option Ty) := [((.t 4), none)]
abbrev Qfo : Sh := ⟨[(2, .ptr 60000 0)], [(60000, .bag [.ms 20200]), (11, .no), (20200, .arr 3 tI), (50000, .box (.sl tI))]⟩
def Qfl (y20200 y50000 : List Int) : VS := Qfo.st ((), ()) (((), ()), (), y20200, y50000, ())
abbrev QhU : Sh := ⟨[(2, .ptr 60000 0)], [(60000, .bag [.ms 20200]), (11, .no), (20200, .arr 3 tI), (50000, .box (.sl tI))]⟩
def Qc1 (y20200 y50000 : List Int) : VS := QhU.st ((), ()) (((), ()), (), y20200, y50000, ())
def QeB : VS → List (Ty.T (.pr tI .nil)) → Option (Bool × List (Bool × Exit × VS)) := mkR Qfo (fun zs x y => (decide (zs.length + y.2.2.1.length ≤ 100000))) (fun zs x y => [(true, .normal, Qc1 (y.2.2.1 ++ zs.map (fun z => z.1)) (y.2.2.2.1))])
def QbU : G := ⟨TYs, [], 13, EL [], keeps, (Ls [fun _ => none]), IL [(1000136, QnF)], (RL [⟨(.pr tI .nil), QeB⟩])⟩
def Ql9 (z : (Int × Unit)) (y20200 y50000 : List Int) : Option (Exit × VS) := br (cApp y20200 ([z.1]) 8) (some (.normal, Qfl (y20200 ++ ([z.1])) y50000)) none
noncomputable def QfF (zs : List (Int × Unit)) (y20200 y50000 : List Int) : Option (Exit × VS) := Qc2 (Qeg QbU Qbb (.pr tI .nil) [7] Qc8 Qc7) zs (Qfl y20200 y50000)
noncomputable def QgA (z : (Int × Unit)) (zs : List (Int × Unit)) (y20200 y50000 : List Int) : Option (Exit × VS) := br (cApp y20200 ([z.1]) 8) (QfF zs (y20200 ++ ([z.1])) y50000) none
def QfM (zs : List (Int × Unit)) (y20200 y50000 : List Int) : Option (Exit × VS) := some (.normal, Qc1 (y20200 ++ zs.map (fun z => z.1)) (y50000))
theorem Que (z : (Int × Unit)) (y20200 y50000 : List Int) : Qeg QbU Qbb (.pr tI .nil) [7] Qc8 Qc7 z (Qfl y20200 y50000) = Ql9 z y20200 y50000 := by kernel_rfl
theorem QtR (z : (Int × Unit)) (zs : List (Int × Unit)) (y20200 y50000 : List Int) : QfF (z :: zs) y20200 y50000 = QgA z zs y20200 y50000 := (Qim _ _ _ _).trans (by
 rw [Que]
 simp only [Ql9, QgA, QaA, nxt_n, nxt_r, nxt_e, nxt_0]
 rfl)
def Qk6 (d0 : List Int) : Option (V × List VO) := br (QfX d0) (br (decide ((valI d0).length + ([] : List Int).length ≤ 100000)) (some (.ms 50001, [.box (.t (.sl tI) (d0)), .arr 3 tI (([] : List Int) ++ (valI d0).map (fun z => z.1))])) none) none
theorem QDD (d0 : List Int) : runF QbU Qh6 Qpu true [.c (.slice none 0 0), .fn 136 [(.ptr 50000 0)]] [.box (.t (.sl tI) d0)] = Qk6 d0 := by kernel_rfl
theorem QzD : Qai Tryz.prog 160 := .inr ⟨by decide, _, Tryz.func160, by kernel_rfl, by kernel_rfl⟩
theorem Qzp : GOk Tryz.prog QbU := Qal _ (fun p hp => by cases hp) [(1000136, QnF)] (by
 intro p hp
 simp only [List.mem_cons, List.not_mem_nil, or_false] at hp
 rcases hp with rfl
 ·exact QKl)
theorem Qwg (zs : List (Int × Unit)) (y20200 y50000 : List Int) (h : (decide (zs.length + y20200.length ≤ 100000)) = true) : QfF zs y20200 y50000 = QfM zs y20200 y50000 := by
 induction zs generalizing y20200 with
 | nil =>
  simp only [QfM, List.map_nil, List.append_nil]
  rfl
 | cons z zs ih =>
  rw [QtR]
  have h := of_decide_eq_true h
  rw [List.length_cons] at h
  have c1 : cApp y20200 [z.1] 8 = true := cAppN (by omega) (by simp only [List.length_singleton]; omega)
  simp only [QgA, c1, Qad]
  rw [ih (y20200 ++ [z.1]) (decide_eq_true (by simp only [List.length_append, List.length_singleton]; omega))]
  simp only [QfM, List.map_cons, List.append_assoc, List.singleton_append]
theorem QtP : ∀ S (rows : List (Ty.T (.pr tI .nil))) l p, QbU.R 0 (fgt Qbb S) (.pr tI .nil) rows = some (true, l) → pickA l = some p → Qc2 (Qeg QbU Qbb (.pr tI .nil) [7] Qc8 Qc7) rows (fgt Qbb S) = some p := by
 intro S rows l p hR hp
 rw [show QbU.R 0 (fgt Qbb S) (.pr tI .nil) rows = QeB (fgt Qbb S) rows from RL_at (l := [⟨(.pr tI .nil), QeB⟩]) (j := 0) (F := QeB) rfl _ _] at hR
 refine Qy3 (s := Qfo) ⟨by decide, by decide⟩ (by kernel_rfl) (fun zs x y hok p hp => ?_) S rows l p hR hp
 simp only [Qas, Qan] at hp
 exact (Qwg zs y.2.2.1 y.2.2.2.1 (by first | rfl | simpa using hok)).trans hp
theorem Qy9 : Qh6.lok QbU := by
 repeat (first | exact trivial | exact QtP | refine ⟨?_, ?_⟩)
theorem QMY (l : List Int) : (valI l).map (fun z => z.1) = l := by
 unfold valI
 rw [List.map_map]
 exact List.map_id _
theorem QCZ (l : List Int) (h : QfX l = true) : Qk6 l = some (.ms 50001, [.box (.t (.sl tI) l), .arr 3 tI (idL l)]) := by
 have hl : l.length ≤ 100000 := of_decide_eq_true h
 have c1 : decide ((valI l).length + ([] : List Int).length ≤ 100000) = true := decide_eq_true (by simp only [valI, List.length_map, List.length_nil]; omega)
 simp only [Qk6, h, Qad]
 refine Eq.trans (congrArg (fun b => br b _ _) c1) ?_
 rw [Qad, List.nil_append, QMY]
 rfl
def QoA : Ent := specB [.nl, .fn 136 [(50000, 0)]] [.box (.sl tI)] (fun x y => (QfX y.1)) (fun x y => (.ms 50001)) (fun x y => [.box (.t (.sl tI) y.1), .arr 3 tI (idL y.1)])
theorem QyN : Meets Tryz.prog 160 (strip QoA) := QcA (QaU (R := runF QbU Qh6 Qpu true) (mG Tryz.func160 (by kernel_rfl) Tryz.ntmps160 (by kernel_rfl) Qzp Qy9) fun x y hok => (QDD y.1).trans (QCZ y.1 hok))
noncomputable def Qh7 : TC := (.sq (.reg (rT Tryz.f134 0)) (.sq (.reg (rT Tryz.f134 1)) .rt))
def Qpv : List (RV × Option Ty) := [((.t 2), none)]
def QhK : G := ⟨TYs, [], 5, EL [(160, QoA)], keeps, (fun _ _ => none), IL [], RL []⟩
def Qk7 (d0 : List Int) : Option (V × List VO) := br (QfX d0) (some (.ms 50001, [.box (.t (.sl tI) d0), .arr 3 tI (idL d0)])) none
theorem QDE (d0 : List Int) : runF QhK Qh7 Qpv true [.fn 136 [(.ptr 50000 0)]] [.box (.t (.sl tI) d0)] = Qk7 d0 := by kernel_rfl
theorem QzF : Qai Tryz.prog 134 := .inr ⟨by decide, _, Tryz.func134, by kernel_rfl, by kernel_rfl⟩
theorem Qzq : GOk Tryz.prog QhK := Qal _ (gA (gC QzD QyN gN))
theorem Qza : Qh7.lok QhK := by repeat (first | exact trivial | refine ⟨?_, ?_⟩)
theorem QC0 (l : List Int) (h : QfX l = true) : Qk7 l = some (.ms 50001, [.box (.t (.sl tI) l), .arr 3 tI (idL l)]) := by
 simp only [Qk7, h, Qad]
def QoB : Ent := specB [.fn 136 [(50000, 0)]] [.box (.sl tI)] (fun x y => (QfX y.1)) (fun x y => (.ms 50001)) (fun x y => [.box (.t (.sl tI) y.1), .arr 3 tI (idL y.1)])
theorem QyP : Meets Tryz.prog 134 (strip QoB) := QcA (QaU (R := runF QhK Qh7 Qpv true) (mG Tryz.func134 (by kernel_rfl) Tryz.ntmps134 (by kernel_rfl) Qzq Qza) fun x y hok => (QDE y.1).trans (QC0 y.1 hok))
noncomputable def QkS : TC := (.sq (.reg (rT Tryz.f88 0)) (.sq (.reg (rT Tryz.f88 1)) (.sq (.reg (rT Tryz.f88 2)) (.sq (.reg (rT Tryz.f88 3)) .rt))))
def Qrt : List (RV × Option Ty) := [((.t 2), none)]
def Qkg : G := ⟨TYs, [], 9, EL [(134, QoB), (135, QFW)], keeps, (fun _ _ => none), IL [], RL []⟩
def QpC (d0 : List Int) : Option (V × List VO) := br (QfX d0) (br (lenOk (idL d0)) (some (.ms 50001, [.box (.t (.sl tI) d0), .arr 3 tI (sortI (idL d0))])) none) none
theorem QLk (d0 : List Int) : runF Qkg QkS Qrt true [.fn 136 [(.ptr 50000 0)]] [.box (.t (.sl tI) d0)] = QpC d0 := by kernel_rfl
theorem QDw : Qai Tryz.prog 88 := .inr ⟨by decide, _, Tryz.func88, by kernel_rfl, by kernel_rfl⟩
theorem QDn : GOk Tryz.prog Qkg := Qal _ (gA (gC QzF QyP (gC QXS QT6 gN)))
theorem QDd : QkS.lok Qkg := by repeat (first | exact trivial | refine ⟨?_, ?_⟩)
theorem QGo (l : List Int) (h : QfX l = true) : QpC l = some (.ms 50001, [.box (.t (.sl tI) l), .arr 3 tI (sortL l)]) := by
 have hl : l.length ≤ 100000 := of_decide_eq_true h
 have c1 : lenOk (idL l) = true := decide_eq_true (by show l.length < _; omega)
 simp only [QpC, h, c1, Qad]
 rfl
def Qrm : Ent := specB [.fn 136 [(50000, 0)]] [.box (.sl tI)] (fun x y => (QfX y.1)) (fun x y => (.ms 50001)) (fun x y => [.box (.t (.sl tI) y.1), .arr 3 tI (sortL y.1)])
theorem QC7 : Meets Tryz.prog 88 (strip Qrm) := QcA (QaU (R := runF Qkg QkS Qrt true) (mG Tryz.func88 (by kernel_rfl) Tryz.ntmps88 (by kernel_rfl) QDn QDd) fun x y hok => (QLk y.1).trans (QGo y.1 hok))
end
end Go.Proofs.YtckcgijklnloiaaGreat.K
namespace Go.Proofs.YtckcgijklnloiaaGreat.K
open Go.RowKit
noncomputable section
def rowT (t : Talk) (v : Int) (l : List Int) : List Keep := (l.filter fun j => possF t j).map fun j => (v, (j, ()))
theorem QHE {t : Talk} {v x : Int} {r : List Int} : rowT t v (x :: r) = if possF t x = true then (v, (x, ())) :: rowT t v r else rowT t v r := by
 unfold rowT
 rw [List.filter_cons]
 split <;> rfl
theorem QNs (t : Talk) (v : Int) (l : List Int) : (rowT t v l).length ≤ l.length := by
 unfold rowT
 rw [List.length_map]
 exact List.length_filter_le _ _
def verS (s : Qab) (o l : List Int) (v n : Nat) : List Keep := (List.range' v n).flatMap fun (j : Nat) => rowT (s, ((j : Int), (o, ()))) (j : Int) l
theorem QSV {s : Qab} {o : List Int} {v n : Nat} (h : suitF o = true) : verS s o (sortI o) v n = verC s o v n := by
 unfold verS verC
 congr 1
 funext j
 exact QS9 h
def Qks : Fg := ⟨[(2, none), (3, none), (5, none), (6, none), (7, some tI), (8, none), (38, none), (39, some tI), (40, some tI)], [(2, some Qae), (3, some Qae), (5, none), (8, some QeM), (18, none), (52, none), (5018, none), (10018, none), (15018, none)]⟩
noncomputable def Qmu : TC := (.sq (.reg (rT Tryz.f54 9)) (.sq (.cd (.t 41) .sk (.fg ⟨[(2, none), (3, none), (5, none), (6, none), (7, some tI)], [(2, some Qae), (3, some Qae), (5, none), (18, none), (52, none), (5018, none), (10018, none), (15018, none)]⟩ (.ex 2))) (.sq (.bk 3 (.sq (.reg (rT Tryz.f54 10)) (.sq (.reg (rT Tryz.f54 11)) (.cd (.t 46) (.reg (rT Tryz.f54 12)) .sk)))) (.reg (rT Tryz.f54 13)))))
def Qkr : Fg := ⟨[(2, none), (3, none), (5, none), (6, none), (7, some tI)], [(2, some Qae), (3, some Qae), (5, none), (18, none), (52, none), (5018, none), (10018, none), (15018, none)]⟩
noncomputable def Qmt : TC := (.sq (.sq (.reg (rT Tryz.f54 6)) (.cd (.t 30) .sk (.fg ⟨[(5, none)], [(5, none), (52, none)]⟩ (.ex 0)))) (.sq (.bk 1 (.sq (.reg (rT Tryz.f54 7)) (.sq (.reg (rT Tryz.f54 8)) (.bk 2 (.nw 5 39 (.lp 0 Qks Qmu)))))) (.reg (rT Tryz.f54 14))))
noncomputable def QEw : TC := (.sq (.reg (rT Tryz.f54 0)) (.sq (.sq (.reg (rT Tryz.f54 1)) (.cd (.t 14) (.sq (.reg (rT Tryz.f54 2)) .rt) .sk)) (.sq (.reg (rT Tryz.f54 3)) (.sq (.reg (rT Tryz.f54 4)) (.sq (.sq (.reg (rT Tryz.f54 5)) (.bk 0 (.nw 5 39 (.lp 1 Qkr Qmt)))) (.sq (.reg (rT Tryz.f54 15)) .rt))))))
def QRJ : List (RV × Option Ty) := [((.t 4), some (.sl Qah))]
abbrev Qsw : Sh := ⟨[(2, .ptr 2 0), (3, .ptr 3 0), (5, .ms 5), (6, .ms 18), (7, .ty tI), (8, .ptr 8 0), (38, .ms 18), (39, .ty tI), (40, .ty tI)], [(2, .box Qae), (3, .box Qae), (5, .arr 39 Qah), (8, .box QeM), (18, .arr 3 tI), (52, .no), (5018, .no), (10018, .no), (15018, .no)]⟩
def QmK (x7 x39 x40 : Int) (y2 y3 : Qab) (y5 : List Keep) (y8 : Talk) (y18 : List Int) : VS := Qsw.st ((), (), (), (), x7, (), (), x39, x40, ()) (y2, y3, y5, y8, y18, (), (), (), (), ())
abbrev Qyj : Sh := ⟨[(2, .ptr 2 0), (3, .ptr 3 0), (5, .ms 5), (6, .ms 18), (7, .ty tI)], [(2, .box Qae), (3, .box Qae), (5, .arr 39 Qah), (18, .arr 3 tI), (52, .no), (5018, .no), (10018, .no), (15018, .no)]⟩
def Qe8 (x7 : Int) (y2 y3 : Qab) (y5 : List Keep) (y18 : List Int) : VS := Qyj.st ((), (), (), (), x7, ()) (y2, y3, y5, y18, (), (), (), (), ())
abbrev Qsv : Sh := ⟨[(2, .ptr 2 0), (3, .ptr 3 0), (5, .ms 5), (6, .ms 18), (7, .ty tI)], [(2, .box Qae), (3, .box Qae), (5, .arr 39 Qah), (18, .arr 3 tI), (52, .no), (5018, .no), (10018, .no), (15018, .no)]⟩
def Qr7 (x7 : Int) (y2 y3 : Qab) (y5 : List Keep) (y18 : List Int) : VS := Qsv.st ((), (), (), (), x7, ()) (y2, y3, y5, y18, (), (), (), (), ())
abbrev Qyi : Sh := ⟨[(5, .ms 5)], [(5, .arr 39 Qah), (52, .no)]⟩
def Qe7 (y5 : List Keep) : VS := Qyi.st ((), ()) (y5, (), ())
def QYv : VS → Option (Bool × List (Bool × Exit × VS)) := mkL Qsw (fun x y => (decide (x.2.2.2.2.2.2.2.1 = (y.2.2.2.2.1.length : Int) ∧ 0 ≤ x.2.2.2.2.2.2.2.2.1 ∧ x.2.2.2.2.2.2.2.2.1 ≤ x.2.2.2.2.2.2.2.1 ∧ y.2.2.2.2.1.length ≤ 16 ∧ (y.2.2.1.length : Int) ≤ 200 + x.2.2.2.2.2.2.2.2.1) && Qeh y.2.2.2.1 0)) (fun x y => [(true, .exit 2, Qe8 (x.2.2.2.2.1) (y.1) (y.2.1) (y.2.2.1 ++ rowT y.2.2.2.1 x.2.2.2.2.1 (y.2.2.2.2.1.drop x.2.2.2.2.2.2.2.2.1.toNat)) (y.2.2.2.2.1))])
def QYu : VS → Option (Bool × List (Bool × Exit × VS)) := mkL Qsv (fun x y => (decide (1 ≤ x.2.2.2.2.1 ∧ x.2.2.2.2.1 ≤ 5 ∧ hiC y.1 y.2.1 ≤ 4 ∧ (y.2.2.1.length : Int) ≤ 16 * x.2.2.2.2.1 ∧ y.2.2.2.1.length ≤ 16) && lenEE y.2.1 (Qaw y.1))) (fun x y => [(true, .exit 0, Qe7 (y.2.2.1 ++ verS y.2.1 (Qaw y.1) y.2.2.2.1 x.2.2.2.2.1.toNat (hiC y.1 y.2.1 + 1 - x.2.2.2.2.1).toNat))])
def g_f54 : G := ⟨TYs, [], 55, EL [(82, Qz7), (88, Qrm), (89, QQZ), (90, QE3)], keeps, (Ls [QYv, QYu]), IL [], RL []⟩
def QMC (x7 x39 x40 : Int) (y2 y3 : Qab) (y5 : List Keep) (y8 : Talk) (y18 : List Int) : Option (Exit × VS) :=
 let a1 := lgt tI y18 (Int.toNat x40)
 br (ilt x40 x39) (br (cIx y18 x40) (br (cLd y18 (Int.toNat x40)) (br (Qeh y8 a1) (br (possF y8 a1) (br (cApp y5 ([(x7, (a1, ()))]) 16) (some (.normal, QmK x7 x39 (iadd .i64 x40 1) y2 y3 (y5 ++ ([(x7, (a1, ()))])) y8 y18)) none) (some (.normal, QmK x7 x39 (iadd .i64 x40 1) y2 y3 y5 y8 y18))) none) none) none) (some (.exit 2, Qe8 x7 y2 y3 y5 y18))
noncomputable def QhC (x7 x39 x40 : Int) (y2 y3 : Qab) (y5 : List Keep) (y8 : Talk) (y18 : List Int) : Option (Exit × VS) := loopF (Qaj g_f54 Qks Qmu) (QmK x7 x39 x40 y2 y3 y5 y8 y18)
noncomputable def Qtw (x7 x39 x40 : Int) (y2 y3 : Qab) (y5 : List Keep) (y8 : Talk) (y18 : List Int) : Option (Exit × VS) :=
 let a1 := lgt tI y18 (Int.toNat x40)
 br (ilt x40 x39) (br (cIx y18 x40) (br (cLd y18 (Int.toNat x40)) (br (Qeh y8 a1) (br (possF y8 a1) (br (cApp y5 ([(x7, (a1, ()))]) 16) (QhC x7 x39 (iadd .i64 x40 1) y2 y3 (y5 ++ ([(x7, (a1, ()))])) y8 y18) none) (QhC x7 x39 (iadd .i64 x40 1) y2 y3 y5 y8 y18)) none) none) none) (some (.exit 2, Qe8 x7 y2 y3 y5 y18))
def QjO (x7 x39 x40 : Int) (y2 y3 : Qab) (y5 : List Keep) (y8 : Talk) (y18 : List Int) : Option (Exit × VS) := some (.exit 2, Qe8 (x7) (y2) (y3) (y5 ++ rowT y8 x7 (y18.drop x40.toNat)) (y18))
theorem QP4 (x7 x39 x40 : Int) (y2 y3 : Qab) (y5 : List Keep) (y8 : Talk) (y18 : List Int) : Qaj g_f54 Qks Qmu (QmK x7 x39 x40 y2 y3 y5 y8 y18) = QMC x7 x39 x40 y2 y3 y5 y8 y18 := by kernel_rfl
theorem QAL (x7 x39 x40 : Int) (y2 y3 : Qab) (y5 : List Keep) (y8 : Talk) (y18 : List Int) : QhC x7 x39 x40 y2 y3 y5 y8 y18 = Qtw x7 x39 x40 y2 y3 y5 y8 y18 := (Qao _ _).trans (by
 rw [QP4]
 simp only [QMC, Qtw, QaA, nxt_n, nxt_r, nxt_e, nxt_0]
 rfl)
def QMB (x7 : Int) (y2 y3 : Qab) (y5 : List Keep) (y18 : List Int) : Option (Exit × VS) :=
 let a1 := ((y3.1, (y3.2.1, (y3.2.2.1, (y3.2.2.2.1, (y3.2.2.2.2.1, (y3.2.2.2.2.2.1, (y3.2.2.2.2.2.2.1, (y3.2.2.2.2.2.2.2.1, (y3.2.2.2.2.2.2.2.2.1, ()))))))))), (x7, (y2.2.2.2.1, ())))
 br (ile x7 (imn y2.2.2.1 y3.2.2.1)) (br (decide ((llen y18) = (y18.length : Int) ∧ 0 ≤ (0 : Int) ∧ (0 : Int) ≤ (llen y18) ∧ y18.length ≤ 16 ∧ (y5.length : Int) ≤ 200 + (0 : Int)) && Qeh a1 0) (some (.normal, Qr7 (iadd .i64 (x7) 1) (y2) (y3) (y5 ++ rowT a1 x7 (y18.drop (0 : Int).toNat)) (y18))) none) (some (.exit 0, Qe7 y5))
noncomputable def Qnl (x7 : Int) (y2 y3 : Qab) (y5 : List Keep) (y18 : List Int) : Option (Exit × VS) := loopF (Qaj g_f54 Qkr Qmt) (Qr7 x7 y2 y3 y5 y18)
noncomputable def QpO (x7 : Int) (y2 y3 : Qab) (y5 : List Keep) (y18 : List Int) : Option (Exit × VS) :=
 let a1 := ((y3.1, (y3.2.1, (y3.2.2.1, (y3.2.2.2.1, (y3.2.2.2.2.1, (y3.2.2.2.2.2.1, (y3.2.2.2.2.2.2.1, (y3.2.2.2.2.2.2.2.1, (y3.2.2.2.2.2.2.2.2.1, ()))))))))), (x7, (y2.2.2.2.1, ())))
 br (ile x7 (imn y2.2.2.1 y3.2.2.1)) (br (decide ((llen y18) = (y18.length : Int) ∧ 0 ≤ (0 : Int) ∧ (0 : Int) ≤ (llen y18) ∧ y18.length ≤ 16 ∧ (y5.length : Int) ≤ 200 + (0 : Int)) && Qeh a1 0) (Qnl (iadd .i64 (x7) 1) (y2) (y3) (y5 ++ rowT a1 x7 (y18.drop (0 : Int).toNat)) (y18)) none) (some (.exit 0, Qe7 y5))
def QjN (x7 : Int) (y2 y3 : Qab) (y5 : List Keep) (y18 : List Int) : Option (Exit × VS) := some (.exit 0, Qe7 (y5 ++ verS y3 (Qaw y2) y18 x7.toNat (hiC y2 y3 + 1 - x7).toNat))
theorem QP3 (x7 : Int) (y2 y3 : Qab) (y5 : List Keep) (y18 : List Int) : Qaj g_f54 Qkr Qmt (Qr7 x7 y2 y3 y5 y18) = QMB x7 y2 y3 y5 y18 := by kernel_rfl
theorem QAK (x7 : Int) (y2 y3 : Qab) (y5 : List Keep) (y18 : List Int) : Qnl x7 y2 y3 y5 y18 = QpO x7 y2 y3 y5 y18 := (Qao _ _).trans (by
 rw [QP3]
 simp only [QMB, QpO, QaA, nxt_n, nxt_r, nxt_e, nxt_0]
 rfl)
def r_f54 (p0 p1 : Qab) : Option (V × List VO) :=
 let a1 := imx p0.2.1 p1.2.1
 br (Qbv p0 p1) (br (!(Qdu p0 p1)) (some (.t (.sl Qah) ([] : List Keep), [])) (br (QfX p0.2.2.2.1) (br (decide (1 ≤ a1 ∧ a1 ≤ 5 ∧ hiC p0 p1 ≤ 4 ∧ (([] : List Keep).length : Int) ≤ 16 * a1 ∧ (sortL p0.2.2.2.1).length ≤ 16) && lenEE p1 (Qaw p0)) (some (.t (.sl Qah) (([] : List Keep) ++ verS p1 (Qaw p0) (sortL p0.2.2.2.1) a1.toNat (hiC p0 p1 + 1 - a1).toNat), [])) none) none)) none
theorem e_f54 (p0 p1 : Qab) : runF g_f54 QEw QRJ false [.t Qae p0, .t Qae p1] [] = r_f54 p0 p1 := by kernel_rfl
theorem QSJ : Qai Tryz.prog 54 := .inr ⟨by decide, _, Tryz.func54, by kernel_rfl, by kernel_rfl⟩
theorem gk_f54 : GOk Tryz.prog g_f54 := Qal _ (gA (gC QKT QI8 (gC QDw QC7 (gC en_f89 ms_f89 (gC QSG QSq gN)))))
theorem QVN (x7 x39 x40 : Int) (y2 y3 : Qab) (y5 : List Keep) (y8 : Talk) (y18 : List Int) (h : (decide (x39 = (y18.length : Int) ∧ 0 ≤ x40 ∧ x40 ≤ x39 ∧ y18.length ≤ 16 ∧ (y5.length : Int) ≤ 200 + x40) && Qeh y8 0) = true) : QhC x7 x39 x40 y2 y3 y5 y8 y18 = QjO x7 x39 x40 y2 y3 y5 y8 y18 := by
 obtain ⟨h, hc⟩ := Bool.and_eq_true_iff.1 h
 obtain ⟨rfl, h1, h2, h3, h4⟩ := of_decide_eq_true h
 clear h
 obtain ⟨k, rfl⟩ := Int.eq_ofNat_of_zero_le h1
 have key : ∀ k, k ≤ y18.length → ∀ y5 : List Keep, y5.length ≤ 200 + k → QhC x7 (y18.length : Int) (k : Int) y2 y3 y5 y8 y18 = QjO x7 (y18.length : Int) (k : Int) y2 y3 y5 y8 y18 := by
  refine Qau y18 (fun k => ∀ y5 : List Keep, y5.length ≤ 200 + k → QhC x7 (y18.length : Int) (k : Int) y2 y3 y5 y8 y18 = QjO x7 (y18.length : Int) (k : Int) y2 y3 y5 y8 y18) ?_ ?_
  ·intro y5 _
   rw [QAL]
   simp only [Qtw, QjO, Qat, Nat.lt_irrefl, decide_false, Qaf, Int.toNat_natCast, List.drop_length, rowT, List.filter_nil, List.map_nil, List.append_nil]
  ·intro k hk ih y5 hy
   rw [QAL]
   have c1 : cLd y18 k = true := decide_eq_true (by omega)
   have c2 : ∀ v, Qeh y8 v = true := fun v => hc
   have c3 : ∀ v : Keep, cApp y5 [v] 16 = true := fun v => cAppN (by omega) (by simp only [List.length_singleton]; omega)
   simp only [Qtw, Qat, Qax, hk, decide_true, Qad, Int.toNat_natCast, add1 (show k < 4611686018427387904 by omega), Qaz (y := tI) hk, c1, c2, c3]
   rw [ih y5 (by omega), ih (y5 ++ [(x7, (y18[k], ()))]) (by simp only [List.length_append, List.length_singleton]; omega)]
   simp only [QjO, Int.toNat_natCast, List.drop_eq_getElem_cons hk, QHE]
   cases possF y8 y18[k] with
   | true => simp only [Qad, if_true, List.append_assoc, List.singleton_append]
   | false => simp only [Qaf, Bool.false_eq_true, if_false]
 exact key k (by omega) y5 (by omega)
theorem QVM (x7 : Int) (y2 y3 : Qab) (y5 : List Keep) (y18 : List Int) (h : (decide (1 ≤ x7 ∧ x7 ≤ 5 ∧ hiC y2 y3 ≤ 4 ∧ (y5.length : Int) ≤ 16 * x7 ∧ y18.length ≤ 16) && lenEE y3 (Qaw y2)) = true) : Qnl x7 y2 y3 y5 y18 = QjN x7 y2 y3 y5 y18 := by
 obtain ⟨h, hc⟩ := Bool.and_eq_true_iff.1 h
 obtain ⟨h0, h1, h2, h3, h4⟩ := of_decide_eq_true h
 clear h
 obtain ⟨k, rfl⟩ := Int.eq_ofNat_of_zero_le (show 0 ≤ x7 by omega)
 have key : ∀ (m k : Nat) (y5 : List Keep), m = 5 - k → 1 ≤ k → k ≤ 5 → y5.length ≤ 16 * k → Qnl (k : Int) y2 y3 y5 y18 = QjN (k : Int) y2 y3 y5 y18 := by
  intro m
  induction m with
  | zero =>
   intro k y5 hm h0 h1 h3
   have : k = 5 := by omega
   subst this
   rw [QAK]
   have e : (hiC y2 y3 + 1 - ((5 : Nat) : Int)).toNat = 0 := by omega
   simp only [QpO, QjN, show ile ((5 : Nat) : Int) (imn y2.2.2.1 y3.2.2.1) = false from decide_eq_false (by show ¬ _ ≤ hiC y2 y3; omega), Qaf, e, verS, List.range'_zero, List.flatMap_nil, List.append_nil]
  | succ m ih =>
   intro k y5 hm h0 h1 h3
   rw [QAK]
   by_cases hk : (k : Int) ≤ hiC y2 y3
   ·have e1 : (hiC y2 y3 + 1 - (k : Int)).toNat = (hiC y2 y3 + 1 - ((k + 1 : Nat) : Int)).toNat + 1 := by omega
    have c0 : (decide (True ∧ (0 : Int) ≤ 0 ∧ (0 : Int) ≤ llen y18 ∧ y18.length ≤ 16 ∧ (y5.length : Int) ≤ 200 + 0) && Qeh (y3, ((k : Int), (Qaw y2, ()))) 0) = true := Bool.and_eq_true_iff.2 ⟨decide_eq_true ⟨trivial, by simp only [llen]; omega⟩, hc⟩
    have hr := QNs (y3, ((k : Int), (Qaw y2, ()))) (k : Int) y18
    have hi := ih (k + 1) (y5 ++ rowT (y3, ((k : Int), (Qaw y2, ()))) (k : Int) y18) (by omega) (by omega) (by omega) (by simp only [List.length_append]; omega)
    simp only [QpO, show ile (k : Int) (imn y2.2.2.1 y3.2.2.1) = true from decide_eq_true hk, Qad, add1 (show k < 4611686018427387904 by omega), eEta]
    refine Eq.trans (congrArg (fun b => br b _ _) c0) ?_
    rw [Qad]
    refine Eq.trans hi ?_
    simp only [QjN, Int.toNat_natCast, e1, verS, List.range'_succ, List.flatMap_cons, List.append_assoc]
   ·have e1 : (hiC y2 y3 + 1 - (k : Int)).toNat = 0 := by omega
    simp only [QpO, show ile (k : Int) (imn y2.2.2.1 y3.2.2.1) = false from decide_eq_false hk, Qaf, QjN, e1, verS, List.range'_zero, List.flatMap_nil, List.append_nil]
 exact key (5 - k) k y5 rfl (by omega) (by omega) (by omega)
theorem QNY : ∀ S l p, g_f54.L 0 (fgt Qks S) = some (true, l) → pickA l = some p → loopF (Qaj g_f54 Qks Qmu) S = some p :=
 QaB (s := Qsw) ⟨by decide, by decide⟩ (by kernel_rfl) fun x y hok p hp => by
 simp only [Qas, Qan] at hp
 exact (QVN x.2.2.2.2.1 x.2.2.2.2.2.2.2.1 x.2.2.2.2.2.2.2.2.1 y.1 y.2.1 y.2.2.1 y.2.2.2.1 y.2.2.2.2.1 (by simpa using hok)).trans hp
theorem QNX : ∀ S l p, g_f54.L 1 (fgt Qkr S) = some (true, l) → pickA l = some p → loopF (Qaj g_f54 Qkr Qmt) S = some p :=
 QaB (s := Qsv) ⟨by decide, by decide⟩ (by kernel_rfl) fun x y hok p hp => by
 simp only [Qas, Qan] at hp
 exact (QVM x.2.2.2.2.1 y.1 y.2.1 y.2.2.1 y.2.2.2.1 (by simpa using hok)).trans hp
theorem lk_f54 : QEw.lok g_f54 := by
 repeat (first | exact trivial | exact QNY | exact QNX | refine ⟨?_, ?_⟩)
theorem s_f54 (c s : Qab) (h : Qbv c s = true) : r_f54 c s = some (.t (.sl Qah) (QaY c s), []) := by
 obtain ⟨hc, hs⟩ := Bool.and_eq_true_iff.1 h
 have hs' := Qbl hs
 have hc' := Qbl hc
 have c1 : QfX (Qaw c) = true := decide_eq_true hc'.2.1
 simp only [r_f54, h, c1, Qad]
 unfold QaY
 cases hr : Qdu c s with
 | false => rfl
 | true =>
  obtain ⟨hv, hw⟩ := Bool.and_eq_true_iff.1 hr
  have v1 := Qbu hv
  have v2 := Qbu hw
  have hsu := QCM hv
  have b1 : 1 ≤ loC c s ∧ loC c s ≤ 4 := by simp only [loC, imx]; omega
  have b2 : hiC c s ≤ 4 := by simp only [hiC, imn]; omega
  have b3 : (sortL (Qaw c)).length ≤ 16 := by
   show (sortI (Qaw c)).length ≤ 16
   rw [show (sortI (Qaw c)).length = (Qaw c).length from List.length_mergeSort _]
   exact QM8 hsu
  have c0 : (decide (1 ≤ loC c s ∧ loC c s ≤ 5 ∧ hiC c s ≤ 4 ∧ (([] : List Keep).length : Int) ≤ 16 * loC c s ∧ (sortL (Qaw c)).length ≤ 16) && lenEE s (Qaw c)) = true := Bool.and_eq_true_iff.2 ⟨decide_eq_true ⟨b1.1, by omega, b2, by simp only [List.length_nil]; omega, b3⟩, decide_eq_true ⟨hs'.2.2.1, hs'.2.1, hc'.2.1⟩⟩
  rw [Bool.not_true, Qaf, cond_false]
  refine Eq.trans (congrArg (fun b => br b _ _) c0) ?_
  rw [Qad, ← QSV hsu]
  rfl
def QE6 : Ent := spec (.pr Qae (.pr Qae .nil)) (fun x => (Qbv x.1 x.2.1)) (fun x => (.t (.sl Qah) (QaY x.1 x.2.1)))
theorem QSt : Meets Tryz.prog 54 (strip QE6) := Qag (R := runF g_f54 QEw QRJ false) (mG Tryz.func54 (by kernel_rfl) Tryz.ntmps54 (by kernel_rfl) gk_f54 lk_f54) fun x hok => (e_f54 x.1 x.2.1).trans (s_f54 x.1 x.2.1 hok)
end
end Go.Proofs.YtckcgijklnloiaaGreat.K
namespace Go.Proofs.YtckcgijklnloiaaGreat.K
open Go.RowKit
noncomputable section
end
end Go.Proofs.YtckcgijklnloiaaGreat.K
namespace Go.Proofs.YtckcgijklnloiaaGreat.K
open Go.RowKit
noncomputable section
theorem QVD {l : List (List Int)} (h : ∀ x ∈ l, x.length ≤ 4) (k : Nat) : (lgt (.sl tI) l k).length ≤ 4 := by
 show (l.getD k []).length ≤ 4
 rw [List.getD_eq_getElem?_getD]
 cases hk : l[k]? with
 | none => exact Nat.zero_le _
 | some x => exact h x (List.mem_of_getElem? hk)
attribute [local irreducible] epV epN prZ
end
end Go.Proofs.YtckcgijklnloiaaGreat.K
namespace Go.Proofs.YtckcgijklnloiaaGreat.K
open Go.RowKit
noncomputable section
end
end Go.Proofs.YtckcgijklnloiaaGreat.K
namespace Go.Proofs.YtckcgijklnloiaaGreat.K
open Go.RowKit
noncomputable section
def Qh1 : Option Int → List Link → Bool
 | _, [] => true
 | pv, x :: r => QbW x.1 && decide (0 ≤ x.2.1 ∧ x.2.1 ≤ 40000) && (match pv with | none => true | some d => decide (d < x.2.1)) && Qh1 (some x.2.1) r
theorem Qqd (pv : Option Int) (x : Link) (r : List Link) : Qh1 pv (x :: r) = (QbW x.1 && decide (0 ≤ x.2.1 ∧ x.2.1 ≤ 40000) && (match pv with | none => true | some d => decide (d < x.2.1)) && Qh1 (some x.2.1) r) := by cases pv <;> rfl
def pvAt (l : List Link) (k : Nat) : Option Int := if k = 0 then none else (l[k - 1]?).map fun x : Link => x.2.1
def Qet (i : Item) : Bool := Qa6 i.1 && decide (1 ≤ i.2.1 ∧ i.2.1 ≤ 2) && decide (1 ≤ i.2.2.1 ∧ i.2.2.1 ≤ 4) && decide (1 ≤ i.2.2.2.1.length ∧ i.2.2.2.1.length ≤ 8) && Qh1 none i.2.2.2.1 && decide ((i.2.2.2.1.headD ((0, (0, ())), (0, ()))).2.1 ≤ i.2.2.2.2.1 ∧ i.2.2.2.2.1 ≤ 40000)
def QkG (i : Item) : Int := if Qet i then 0 else 30
def QeJ (i : Item) : Bool := nameG i.1
noncomputable def QPw : List DO := dT Tryz.f79 7
noncomputable def QPv : List DO := dT Tryz.f79 10
def Qkm : Fg := ⟨[(1, none), (45, some (.sl Qby)), (46, some tI), (47, some tI)], [(1, some QaJ)]⟩
noncomputable def Qmo : TC := (.sq (.reg (rT Tryz.f79 5)) (.sq (.cd (.t 48) .sk (.fg ⟨[(1, none)], [(1, some QaJ)]⟩ (.ex 0))) (.sq (.bk 1 (.sq (.reg (rT Tryz.f79 6)) (.sq (.dr QPw [(0, [5]), (1, [5]), (2, []), (3, []), (4, []), (5, [5]), (6, [5]), (7, []), (8, []), (9, []), (10, [5]), (11, [5]), (12, []), (13, []), (14, []), (15, []), (16, []), (17, []), (18, [1]), (19, [1]), (20, []), (21, []), (22, []), (23, []), (24, []), (25, [5]), (26, [5]), (27, []), (28, []), (29, [])] (.of [0, 1, 2, 3, 4, 5, 6, 7, 8, 9, 10, 11, 12, 13, 14, 15, 16, 17, 18, 19, 20, 21, 22, 23, 24, 25, 26, 27, 28, 29])) (.cd (.t 81) (.sq (.reg (rT Tryz.f79 8)) (.fg ⟨[(2, some tI)], []⟩ .rt)) .sk)))) (.reg (rT Tryz.f79 9)))))
noncomputable def QEo : TC := (.sq (.reg (rT Tryz.f79 0)) (.sq (.reg (rT Tryz.f79 1)) (.sq (.sq (.reg (rT Tryz.f79 2)) (.cd (.t 43) (.sq (.reg (rT Tryz.f79 3)) .rt) .sk)) (.sq (.sq (.reg (rT Tryz.f79 4)) (.bk 0 (.lp 0 Qkm Qmo))) (.sq (.sq (.dr QPv [(0, [1]), (1, [1]), (2, [1]), (3, [1]), (4, []), (5, []), (6, []), (7, []), (8, []), (9, [1]), (10, [1]), (11, []), (12, [])] (.of [0, 1, 2, 3, 4, 5, 6, 7, 8, 9, 10, 11, 12])) (.cd (.t 95) (.sq (.reg (rT Tryz.f79 11)) .rt) .sk)) (.sq (.reg (rT Tryz.f79 12)) .rt))))))
def QRB : List (RV × Option Ty) := [((.t 2), some tI)]
abbrev Qsq : Sh := ⟨[(1, .ptr 1 0), (45, .ty (.sl Qby)), (46, .ty tI), (47, .ty tI)], [(1, .box QaJ)]⟩
def QmJ (x45 : List Link) (x46 x47 : Int) (y1 : Item) : VS := Qsq.st ((), x45, x46, x47, ()) (y1, ())
abbrev QuH : Sh := ⟨[(2, .ty tI)], []⟩
def Qa0 (x2 : Int) : VS := QuH.st (x2, ()) ()
abbrev Qyb : Sh := ⟨[(1, .ptr 1 0)], [(1, .box QaJ)]⟩
def Qe2 (y1 : Item) : VS := Qyb.st ((), ()) (y1, ())
def QYp : VS → Option (Bool × List (Bool × Exit × VS)) := mkL Qsq (fun x y => ((x.2.1 == y.1.2.2.2.1) && rngOk x.2.1 x.2.2.1 x.2.2.2.1)) (fun x y => [((!(Qh1 (pvAt x.2.1 x.2.2.2.1.toNat) (x.2.1.drop x.2.2.2.1.toNat))), .ret, Qa0 (30)), (true, .exit 0, Qe2 (y.1))])
def g_f79 : G := ⟨TYs, [], 96, EL [(124, Qsj), (125, Qsi)], keeps, (Ls [QYp]), IL [], RL []⟩
def QMw (x45 : List Link) (x46 x47 : Int) (y1 : Item) : Option (Exit × VS) :=
 let a1 := lgt Qby x45 (Int.toNat x47)
 br (ilt x47 x46) (br (cIx x45 x47) (br (!(QbW (a1.1))) (some (.ret, Qa0 30)) (br (ilt ((a1.2).1) 0) (some (.ret, Qa0 30)) (br (igt ((a1.2).1) 40000) (some (.ret, Qa0 30)) (br (igt x47 0) (br (cIx y1.2.2.2.1 (isub .i64 x47 1)) (br (ige (((lgt Qby y1.2.2.2.1 (Int.toNat (isub .i64 x47 1))).2).1) ((a1.2).1)) (some (.ret, Qa0 30)) (some (.normal, QmJ x45 x46 (iadd .i64 x47 1) y1))) none) (some (.normal, QmJ x45 x46 (iadd .i64 x47 1) y1)))))) none) (some (.exit 0, Qe2 y1))
noncomputable def Qjk (x45 : List Link) (x46 x47 : Int) (y1 : Item) : Option (Exit × VS) := loopF (Qaj g_f79 Qkm Qmo) (QmJ x45 x46 x47 y1)
noncomputable def Qtr (x45 : List Link) (x46 x47 : Int) (y1 : Item) : Option (Exit × VS) :=
 let a1 := lgt Qby x45 (Int.toNat x47)
 br (ilt x47 x46) (br (cIx x45 x47) (br (!(QbW (a1.1))) (some (.ret, Qa0 30)) (br (ilt ((a1.2).1) 0) (some (.ret, Qa0 30)) (br (igt ((a1.2).1) 40000) (some (.ret, Qa0 30)) (br (igt x47 0) (br (cIx y1.2.2.2.1 (isub .i64 x47 1)) (br (ige (((lgt Qby y1.2.2.2.1 (Int.toNat (isub .i64 x47 1))).2).1) ((a1.2).1)) (some (.ret, Qa0 30)) (Qjk x45 x46 (iadd .i64 x47 1) y1)) none) (Qjk x45 x46 (iadd .i64 x47 1) y1))))) none) (some (.exit 0, Qe2 y1))
def QhG (x45 : List Link) (x46 x47 : Int) (y1 : Item) : Option (Exit × VS) := br (!(Qh1 (pvAt x45 x47.toNat) (x45.drop x47.toNat))) (some (.ret, Qa0 (30))) <| some (.exit 0, Qe2 (y1))
theorem QPY (x45 : List Link) (x46 x47 : Int) (y1 : Item) : Qaj g_f79 Qkm Qmo (QmJ x45 x46 x47 y1) = QMw x45 x46 x47 y1 := by kernel_rfl
theorem QAG (x45 : List Link) (x46 x47 : Int) (y1 : Item) : Qjk x45 x46 x47 y1 = Qtr x45 x46 x47 y1 := (Qao _ _).trans (by
 rw [QPY]
 simp only [QMw, Qtr, QaA, nxt_n, nxt_r, nxt_e, nxt_0]
 rfl)
def QpD (p0 : Item) : Option (V × List VO) :=
 let a1 := ((((p0).2).2).2)
 let a2 := llen p0.2.2.2.1
 br (ilt p0.2.2.1 1) (some (.t tI 30, [])) (br (igt p0.2.2.1 4) (some (.t tI 30, [])) (br (ilt a2 1) (some (.t tI 30, [])) (br (igt a2 8) (some (.t tI 30, [])) (br ((p0.2.2.2.1 == p0.2.2.2.1) && rngOk p0.2.2.2.1 a2 (0 : Int)) (br (!(Qh1 (pvAt p0.2.2.2.1 (0 : Int).toNat) (p0.2.2.2.1.drop (0 : Int).toNat))) (some (.t tI (30), [])) (br (cIx (a1.1) 0) (br (ilt ((a1.2).1) (((lgt Qby (a1.1) (Int.toNat 0)).2).1)) (some (.t tI 30, [])) (br (igt ((a1.2).1) 40000) (some (.t tI 30, [])) (some (.t tI 0, [])))) none)) none))))
def r_f79 (p0 : Item) : Option (V × List VO) := br (ieq p0.2.1 1) (br (nameG p0.1) (br (!(Qa6 p0.1)) (some (.t tI 30, [])) (br (!true) (some (.t tI 30, [])) (QpD p0))) none) (br (nameG p0.1) (br (!(Qa6 p0.1)) (some (.t tI 30, [])) (br (!(ieq p0.2.1 2)) (some (.t tI 30, [])) (QpD p0))) none)
theorem e_f79 (p0 : Item) : runF g_f79 QEo QRB false [.t QaJ p0] [] = r_f79 p0 := by kernel_rfl
theorem en_f79 : Qai Tryz.prog 79 := .inr ⟨by decide, _, Tryz.func79, by kernel_rfl, by kernel_rfl⟩
theorem gk_f79 : GOk Tryz.prog g_f79 := Qal _ (gA (gC QzH QyR (gC QzG QyQ gN)))
theorem QVH (x45 : List Link) (x46 x47 : Int) (y1 : Item) (h : ((x45 == y1.2.2.2.1) && rngOk x45 x46 x47) = true) : Qjk x45 x46 x47 y1 = QhG x45 x46 x47 y1 := by
 simp only [Bool.and_eq_true, beq_iff_eq] at h
 obtain ⟨hx, h0⟩ := h
 obtain ⟨rfl, h3, k, rfl, hk⟩ := rng_k h0
 clear h0
 refine Qau x45 (fun k => Qjk x45 (x45.length : Int) (k : Int) y1 = QhG x45 (x45.length : Int) (k : Int) y1) ?_ ?_ k hk
 ·rw [QAG]
  simp [Qtr, QhG, Qat, Qaf, Qh1]
 ·intro k hk ih
  rw [QAG]
  have el : QhG x45 (x45.length : Int) (k : Int) y1 = br (!(QbW x45[k].1 && decide (0 ≤ x45[k].2.1 ∧ x45[k].2.1 ≤ 40000) && (match pvAt x45 k with | none => true | some d => decide (d < x45[k].2.1)))) (some (.ret, Qa0 30)) (QhG x45 (x45.length : Int) ((k + 1 : Nat) : Int) y1) := by
   have e1 : pvAt x45 (k + 1) = some x45[k].2.1 := by
    unfold pvAt
    rw [if_neg (by omega), Nat.add_sub_cancel, List.getElem?_eq_getElem hk]
    rfl
   simp only [QhG, Int.toNat_natCast, e1]
   rw [List.drop_eq_getElem_cons hk, Qqd]
   generalize (QbW x45[k].1 && decide (0 ≤ x45[k].2.1 ∧ x45[k].2.1 ≤ 40000) && (match pvAt x45 k with | none => true | some d => decide (d < x45[k].2.1))) = c
   cases c <;> rfl
  rw [el]
  simp only [Qtr, Qat, Qax, hk, decide_true, Qad, Int.toNat_natCast, add1 (show k < 4611686018427387904 by omega), Qaz (y := Qby) hk, ih, ← hx]
  cases QbW x45[k].1 with
  | false => rfl
  | true =>
   simp only [Bool.not_true, Qaf, Bool.true_and]
   by_cases c1 : x45[k].2.1 < 0
   ·rw [show ilt x45[k].2.1 0 = true from decide_eq_true c1, Qad, decide_eq_false (show ¬ (0 ≤ x45[k].2.1 ∧ x45[k].2.1 ≤ 40000) by omega)]
    rfl
   ·rw [show ilt x45[k].2.1 0 = false from decide_eq_false c1, Qaf]
    by_cases c2 : 40000 < x45[k].2.1
    ·rw [show igt x45[k].2.1 40000 = true from decide_eq_true (by omega), Qad, decide_eq_false (show ¬ (0 ≤ x45[k].2.1 ∧ x45[k].2.1 ≤ 40000) by omega)]
     rfl
    ·rw [show igt x45[k].2.1 40000 = false from decide_eq_false (by omega), Qaf, decide_eq_true (show 0 ≤ x45[k].2.1 ∧ x45[k].2.1 ≤ 40000 by omega)]
     simp only [Bool.true_and]
     by_cases hk0 : k = 0
     ·subst hk0
      rfl
     ·have hk1 : k - 1 < x45.length := by omega
      have e1 : isub .i64 (k : Int) 1 = ((k - 1 : Nat) : Int) := by rw [Qco (by omega)]; omega
      have e2 : igt (k : Int) 0 = true := by simp only [igt, decide_eq_true_eq]; omega
      have e3 : pvAt x45 k = some x45[k - 1].2.1 := by
       unfold pvAt
       rw [if_neg hk0, List.getElem?_eq_getElem hk1]
       rfl
      rw [e1, e2, e3, Qad]
      simp only [Qax, hk1, decide_true, Qad, Int.toNat_natCast, Qaz (y := Qby) hk1]
      by_cases c3 : x45[k - 1].2.1 < x45[k].2.1
      ·rw [show ige x45[k - 1].2.1 x45[k].2.1 = false from decide_eq_false (by omega), Qaf, decide_eq_true c3]
       rfl
      ·rw [show ige x45[k - 1].2.1 x45[k].2.1 = true from decide_eq_true (by omega), Qad, decide_eq_false c3]
       rfl
theorem QNS : ∀ S l p, g_f79.L 0 (fgt Qkm S) = some (true, l) → pickA l = some p → loopF (Qaj g_f79 Qkm Qmo) S = some p :=
 QaB (s := Qsq) ⟨by decide, by decide⟩ (by kernel_rfl) fun x y hok p hp => by
 simp only [Qas, Qan] at hp
 exact (QVH x.2.1 x.2.2.1 x.2.2.2.1 y.1 (by simpa using hok)).trans hp
theorem lk_f79 : QEo.lok g_f79 := by
 repeat (first | exact trivial | exact QNS | refine ⟨?_, ?_⟩)
theorem Qa4 {i : Item} : Qet i = true ↔ Qa6 i.1 = true ∧ (1 ≤ i.2.1 ∧ i.2.1 ≤ 2) ∧ (1 ≤ i.2.2.1 ∧ i.2.2.1 ≤ 4) ∧ (1 ≤ i.2.2.2.1.length ∧ i.2.2.2.1.length ≤ 8) ∧ Qh1 none i.2.2.2.1 = true ∧ (i.2.2.2.1.headD ((0, (0, ())), (0, ()))).2.1 ≤ i.2.2.2.2.1 ∧ i.2.2.2.2.1 ≤ 40000 := by
 unfold Qet
 simp only [Bool.and_eq_true, decide_eq_true_eq, and_assoc]
theorem s_f79 (i : Item) (h : QeJ i = true) : r_f79 i = some (.t tI (QkG i), []) := by
 have h : nameG i.1 = true := h
 have bad : (Qet i = true → False) → some (V.t tI 30, ([] : List VO)) = some (V.t tI (QkG i), []) := fun hq => by
  cases hi : Qet i with
  | false => simp [QkG, hi]
  | true => exact (hq hi).elim
 have tail : Qa6 i.1 = true → (1 ≤ i.2.1 ∧ i.2.1 ≤ 2) → QpD i = some (.t tI (QkG i), []) := fun k1 k2 => by
  simp only [QpD]
  refine QaE (fun g => bad fun hq => ?_) (fun g1 => QaE (fun g => bad fun hq => ?_) (fun g2 => QaE (fun g => bad fun hq => ?_) (fun g3 => QaE (fun g => bad fun hq => ?_) (fun g4 => ?_))))
  ·have := Qa4.1 hq; simp only [ilt, decide_eq_true_eq] at g; omega
  ·have := Qa4.1 hq; simp only [igt, decide_eq_true_eq] at g; omega
  ·have := Qa4.1 hq; simp only [ilt, llen, decide_eq_true_eq] at g; omega
  ·have := Qa4.1 hq; simp only [igt, llen, decide_eq_true_eq] at g; omega
  ·simp only [ilt, igt, llen, decide_eq_false_iff_not] at g1 g2 g3 g4
   rw [beq_self_eq_true, Bool.true_and, rng_0 (by omega), Qad]
   have e0 : pvAt i.2.2.2.1 (0 : Int).toNat = none := rfl
   rw [e0, Int.toNat_zero, List.drop_zero]
   refine QaE (fun g => bad fun hq => ?_) (fun g5 => ?_)
   ·have := Qa4.1 hq
    rw [this.2.2.2.2.1] at g
    cases g
   ·have hl : 0 < i.2.2.2.1.length := by omega
    have e1 : cIx i.2.2.2.1 0 = true := by simp only [cIx, decide_eq_true_eq]; omega
    have e2 : lgt Qby i.2.2.2.1 0 = i.2.2.2.1.headD ((0, (0, ())), (0, ())) := by
     cases hq : i.2.2.2.1 with
     | nil => rw [hq] at hl; simp at hl
     | cons a l => rfl
    rw [e1, Qad, e2]
    refine QaE (fun g => bad fun hq => ?_) (fun g6 => QaE (fun g => bad fun hq => ?_) (fun g7 => ?_))
    ·have := Qa4.1 hq; simp only [ilt, decide_eq_true_eq] at g; omega
    ·have := Qa4.1 hq; simp only [igt, decide_eq_true_eq] at g; omega
    ·simp only [ilt, igt, decide_eq_false_iff_not] at g6 g7
     have : Qet i = true := Qa4.2 ⟨k1, k2, by omega, by omega, by simpa using g5, by omega, by omega⟩
     simp [QkG, this]
 simp only [r_f79, QpD] at tail ⊢
 rw [h]
 simp only [Qad]
 refine QaE (fun g1 => QaE (fun g => bad fun hq => ?_) (fun g2 => ?_)) (fun g1 => QaE (fun g => bad fun hq => ?_) (fun g2 => QaE (fun g => bad fun hq => ?_) (fun g3 => ?_)))
 ·rw [(Qa4.1 hq).1] at g; cases g
 ·simp only [Qbz, decide_eq_true_eq] at g1
  exact tail (by simpa using g2) (by omega)
 ·rw [(Qa4.1 hq).1] at g; cases g
 ·have := Qa4.1 hq
  simp only [Qbz, decide_eq_false_iff_not, Bool.not_eq_true', decide_eq_true_eq] at g1 g
  omega
 ·simp only [Qbz, decide_eq_false_iff_not, Bool.not_eq_false', decide_eq_true_eq] at g1 g3
  exact tail (by simpa using g2) (by omega)
def QQ3 : Ent := spec (.pr QaJ .nil) (fun x => (QeJ x.1)) (fun x => (.t tI (QkG x.1)))
theorem ms_f79 : Meets Tryz.prog 79 (strip QQ3) := Qag (R := runF g_f79 QEo QRB false) (mG Tryz.func79 (by kernel_rfl) Tryz.ntmps79 (by kernel_rfl) gk_f79 lk_f79) fun x hok => (e_f79 x.1).trans (s_f79 x.1 hok)
end
end Go.Proofs.YtckcgijklnloiaaGreat.K
