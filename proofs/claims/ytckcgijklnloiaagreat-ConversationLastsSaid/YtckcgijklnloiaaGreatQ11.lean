import Derived.Test.YtckcgijklnloiaaGreatQ10
set_option linter.unusedSimpArgs false
set_option linter.unusedVariables false
namespace Go.Proofs.YtckcgijklnloiaaGreat.K
open Go.RowKit
noncomputable section
open Classical in
def isSnd (e : Qam) : Bool := @decide (∃ d, e = sndV d) (Classical.propDecidable _)
theorem QAa (d : Dice) : isSnd (sndV d) = true := @decide_eq_true _ (Classical.propDecidable _) ⟨d, rfl⟩
theorem QNH {e : Qam} (h : isSnd e = true) : ∃ d, e = sndV d := @of_decide_eq_true _ (Classical.propDecidable _) h
theorem QtK (d : Dice) {k : Nat} (hk : k < (xEdg (sndV d)).length) : Qcq (sndV d) (k : Int) = 0 := by
 unfold Qcq
 rw [(Qzs d).1, show ilt (k : Int) 0 = false from decide_eq_false (by omega), show ige (k : Int) (llen (xEdg (sndV d))) = false from decide_eq_false (by simp only [llen]; omega)]
 rfl
theorem QhI {c s : Qab} {x : Keep} (hx : x ∈ Qa3 c s) : (QaT s x.2.1).2 = true := Qpf (QCS hx).1
theorem QMH (d : Dice) {k : Nat} (hk : k < (xEdg (sndV d)).length) {D : Int} (h0 : 0 ≤ D) (h1 : D ≤ 40000) : methF (sndV d) (k : Int) D = (if D < 901 then Qa3 (endsF (sndV d) (k : Int)).1 (endsF (sndV d) (k : Int)).2 else [], 0) := by
 obtain ⟨hc, hs⟩ := QFj d hk
 unfold methF
 rw [QtK d hk, show dayF D = true by unfold dayF; rw [show ige D 0 = true from decide_eq_true h0, show ile D 40000 = true from decide_eq_true h1]; rfl]
 show (metF _ _ D, (0 : Int)) = _
 unfold metF
 by_cases h : D < 901
 ·rw [if_pos h, List.filter_eq_self.2 fun x hx => ?_]
  unfold metOk
  rw [QhI hx, Qj5 hs (QhI hx) D _ hc, if_pos ⟨h0, h⟩]
  rfl
 ·rw [if_neg h, List.filter_eq_nil_iff.2 fun x hx => ?_]
  unfold metOk
  rw [QhI hx, Qj5 hs (QhI hx) D _ hc, if_neg (by omega)]
  exact (by decide)
end
end Go.Proofs.YtckcgijklnloiaaGreat.K
namespace Go.Proofs.YtckcgijklnloiaaGreat.K
open Go.RowKit
noncomputable section
theorem QCU {c e : Qab} (hc : sndP c) (he : sndP e) {D : Int} (h0 : 0 ≤ D) (h1 : D ≤ 40000) : (D < 901 → QaM c e D = QaM c e 0) ∧ (901 ≤ D → (QaM c e D).2 ≠ 0) ∧ ((QaM c e 0).2 = 0 → (QaM c e 0).1 ∈ Qa3 c e) := by
 have hr : QcM c e = true := Bool.and_eq_true_iff.2 ⟨Qod hc, Qod he⟩
 obtain ⟨_, q1, q2⟩ := QRF hc he (x := 8) (.inr rfl)
 rw [QvT hr ⟨h0, h1⟩, QvT hr ⟨Int.le_refl 0, by omega⟩, if_neg (by omega), if_neg (by omega)]
 unfold overF
 cases hq : fstG (posE e (Qax c) (hiC c e)) (outL e (Qax c)) with
 | none => exact ⟨fun _ => rfl, fun _ => (by decide : (28 : Int) ≠ 0), fun h => absurd (show (28 : Int) = 0 from h) (by decide)⟩
 | some k =>
  obtain ⟨hk, hp⟩ := QeW hq
  have ex : (outL e (Qax c)).getD k 0 = (outL e (Qax c))[k] := by simp only [List.getD_eq_getElem?_getD, List.getElem?_eq_getElem hk, Option.getD_some]
  simp only [ex]
  unfold pickF
  rw [Qj5 he (Qpf hp) D c hc, Qj5 he (Qpf hp) 0 c hc]
  refine ⟨fun h => ?_, fun h => ?_, fun _ => ?_⟩
  ·rw [if_pos ⟨h0, h⟩, if_pos (by omega)]
  ·rw [if_neg (by omega)]
   exact (by decide : (29 : Int) ≠ 0)
  ·rw [if_pos (by omega)]
   exact QCT hr (by omega) (Int.le_refl _) hp
theorem Qdp (d : Dice) {k : Nat} (hk : k < (xEdg (sndV d)).length) (D : Int) : Qa0 (sndV d) (k : Int) D = QaM (endsF (sndV d) (k : Int)).1 (endsF (sndV d) (k : Int)).2 D := by
 unfold Qa0
 rw [QtK d hk]
 rfl
def lastL (_ : List Int) (_ _ _ : Int) : Bool := true
theorem QJl (x : Keep) : (and (ieq x.1 x.1) (and (ieq x.2.1 x.2.1) true)) = true := (show (x == x) = true from beq_self_eq_true x)
def Qp8 : Fg := ⟨[(10, none), (11, some tI), (12, some tI), (13, some tI), (14, some tI), (17, none), (21, some tI), (23, some .bool), (57, some tI), (58, some tI), (112, some (.sl Qah)), (113, some tI), (114, some tI)], [(10, some Qap), (17, some Qah)]⟩
noncomputable def QrA : TC := (.sq (.reg (rT Tryz.f8 21)) (.sq (.cd (.t 115) .sk (.fg ⟨[(10, none), (11, some tI), (12, some tI), (13, some tI), (14, some tI), (21, some tI), (23, some .bool), (57, some tI), (58, some tI)], [(10, some Qap)]⟩ (.ex 2))) (.sq (.bk 3 (.sq (.reg (rT Tryz.f8 22)) (.reg (rT Tryz.f8 23)))) (.reg (rT Tryz.f8 24)))))
def Qp7 : Fg := ⟨[(10, none), (11, some tI), (12, some tI), (13, some tI), (57, some tI), (58, some tI)], [(10, some Qap)]⟩
noncomputable def Qrz : TC := (.sq (.reg (rT Tryz.f8 10)) (.sq (.cd (.t 59) .sk (.fg ⟨[], []⟩ (.ex 0))) (.sq (.bk 1 (.sq (.reg (rT Tryz.f8 11)) (.sq (.reg (rT Tryz.f8 12)) (.sq (.sq (.reg (rT Tryz.f8 13)) (.cd (.t 70) (.fg ⟨[(10, none), (11, some tI), (12, some tI), (13, some tI), (57, some tI), (58, some tI)], [(10, some Qap)]⟩ (.ex 1)) .sk)) (.sq (.reg (rT Tryz.f8 14)) (.sq (.reg (rT Tryz.f8 15)) (.sq (.reg (rT Tryz.f8 16)) (.sq (.sq (.reg (rT Tryz.f8 17)) (.cd (.t 111) (.sq (.reg (rT Tryz.f8 18)) (.fg ⟨[(8, some .bool)], []⟩ .rt)) .sk)) (.sq (.reg (rT Tryz.f8 19)) (.sq (.sq (.reg (rT Tryz.f8 20)) (.bk 2 (.lp 0 Qp8 QrA))) (.sq (.reg (rT Tryz.f8 25)) (.sq (.reg (rT Tryz.f8 26)) (.sq (.reg (rT Tryz.f8 27)) (.cd (.t 149) (.sq (.reg (rT Tryz.f8 28)) (.fg ⟨[(8, some .bool)], []⟩ .rt)) .sk)))))))))))))) (.reg (rT Tryz.f8 29)))))
noncomputable def tc_f8 : TC := (.sq (.reg (rT Tryz.f8 0)) (.sq (.sq (.reg (rT Tryz.f8 1)) (.cd (.t 32) (.sq (.reg (rT Tryz.f8 2)) .rt) .sk)) (.sq (.reg (rT Tryz.f8 3)) (.sq (.reg (rT Tryz.f8 4)) (.sq (.reg (rT Tryz.f8 5)) (.sq (.sq (.reg (rT Tryz.f8 6)) (.cd (.t 44) (.reg (rT Tryz.f8 7)) .sk)) (.sq (.reg (rT Tryz.f8 8)) (.sq (.sq (.reg (rT Tryz.f8 9)) (.bk 0 (.lp 1 Qp7 Qrz))) (.sq (.reg (rT Tryz.f8 30)) .rt)))))))))
def rv_f8 : List (RV × Option Ty) := [((.t 8), some .bool)]
abbrev Qxw : Sh := ⟨[(10, .ptr 10 0), (11, .ty tI), (12, .ty tI), (13, .ty tI), (14, .ty tI), (17, .ptr 17 0), (21, .ty tI), (23, .ty .bool), (57, .ty tI), (58, .ty tI), (112, .ty (.sl Qah)), (113, .ty tI), (114, .ty tI)], [(10, .box Qap), (17, .box Qah)]⟩
def QrC (x11 x12 x13 x14 x21 : Int) (x23 : Bool) (x57 x58 : Int) (x112 : List Keep) (x113 x114 : Int) (y10 : Qam) (y17 : Keep) : VS := Qxw.st ((), x11, x12, x13, x14, (), x21, x23, x57, x58, x112, x113, x114, ()) (y10, y17, ())
abbrev QB4 : Sh := ⟨[(10, .ptr 10 0), (11, .ty tI), (12, .ty tI), (13, .ty tI), (14, .ty tI), (21, .ty tI), (23, .ty .bool), (57, .ty tI), (58, .ty tI)], [(10, .box Qap)]⟩
def Qha (x11 x12 x13 x14 x21 : Int) (x23 : Bool) (x57 x58 : Int) (y10 : Qam) : VS := QB4.st ((), x11, x12, x13, x14, x21, x23, x57, x58, ()) (y10, ())
abbrev Qxv : Sh := ⟨[(10, .ptr 10 0), (11, .ty tI), (12, .ty tI), (13, .ty tI), (57, .ty tI), (58, .ty tI)], [(10, .box Qap)]⟩
def QrB (x11 x12 x13 x57 x58 : Int) (y10 : Qam) : VS := Qxv.st ((), x11, x12, x13, x57, x58, ()) (y10, ())
abbrev Qxu : Sh := ⟨[(8, .ty .bool)], []⟩
def QaL (x8 : Bool) : VS := Qxu.st (x8, ()) ()
abbrev QB3 : Sh := ⟨[], []⟩
def Qg9  : VS := QB3.st () ()
def L_f8_0 : VS → Option (Bool × List (Bool × Exit × VS)) := mkL Qxw (fun x y => (rngOk x.2.2.2.2.2.2.2.2.2.2.1 x.2.2.2.2.2.2.2.2.2.2.2.1 x.2.2.2.2.2.2.2.2.2.2.2.2.1)) (fun x y => [(true, .exit 2, Qha (x.2.1) (x.2.2.1) (x.2.2.2.1) (x.2.2.2.2.1) (x.2.2.2.2.2.2.1) (x.2.2.2.2.2.2.2.1 || (x.2.2.2.2.2.2.2.2.2.2.1.drop x.2.2.2.2.2.2.2.2.2.2.2.2.1.toNat).contains y.2.1) (x.2.2.2.2.2.2.2.2.1) (x.2.2.2.2.2.2.2.2.2.1) (y.1))])
def L_f8_1 : VS → Option (Bool × List (Bool × Exit × VS)) := mkL Qxv (fun x y => (isSnd y.1 && decide (0 ≤ x.2.2.2.2.2.1 ∧ x.2.2.2.2.2.1 ≤ x.2.2.2.2.1 ∧ x.2.2.2.2.1 = y.1.2.1.length ∧ 0 ≤ x.2.1 ∧ x.2.1 ≤ x.2.2.2.1 ∧ x.2.2.2.1 ≤ x.2.2.1 ∧ x.2.2.1 ≤ 950))) (fun x y => [((false), .ret, QaL (false)), (true, .exit 0, Qg9)])
def g_f8 : G := ⟨TYs, [], 152, EL [(9, sp_f9), (10, QPZ), (12, QPY), (13, QE5), (15, QtX), (17, QPW), (20, QPU), (27, QPT), (29, QPS)], keeps, (Ls [L_f8_0, L_f8_1]), IL [], RL []⟩
def QRu (x11 x12 x13 x14 x21 : Int) (x23 : Bool) (x57 x58 : Int) (x112 : List Keep) (x113 x114 : Int) (y10 : Qam) (y17 : Keep) : Option (Exit × VS) :=
 let a1 := lgt Qah x112 (Int.toNat x114)
 br (ilt x114 x113) (br (cIx x112 x114) (br (x23) (some (.normal, QrC x11 x12 x13 x14 x21 true x57 x58 x112 x113 (iadd .i64 x114 1) y10 y17)) (some (.normal, QrC x11 x12 x13 x14 x21 (and (ieq (a1.1) y17.1) (and (ieq ((a1.2).1) y17.2.1) true)) x57 x58 x112 x113 (iadd .i64 x114 1) y10 y17))) none) (some (.exit 2, Qha x11 x12 x13 x14 x21 x23 x57 x58 y10))
noncomputable def Qpz (x11 x12 x13 x14 x21 : Int) (x23 : Bool) (x57 x58 : Int) (x112 : List Keep) (x113 x114 : Int) (y10 : Qam) (y17 : Keep) : Option (Exit × VS) := loopF (Qak g_f8 Qp8 QrA) (QrC x11 x12 x13 x14 x21 x23 x57 x58 x112 x113 x114 y10 y17)
noncomputable def QzN (x11 x12 x13 x14 x21 : Int) (x23 : Bool) (x57 x58 : Int) (x112 : List Keep) (x113 x114 : Int) (y10 : Qam) (y17 : Keep) : Option (Exit × VS) :=
 let a1 := lgt Qah x112 (Int.toNat x114)
 br (ilt x114 x113) (br (cIx x112 x114) (br (x23) (Qpz x11 x12 x13 x14 x21 true x57 x58 x112 x113 (iadd .i64 x114 1) y10 y17) (Qpz x11 x12 x13 x14 x21 (and (ieq (a1.1) y17.1) (and (ieq ((a1.2).1) y17.2.1) true)) x57 x58 x112 x113 (iadd .i64 x114 1) y10 y17)) none) (some (.exit 2, Qha x11 x12 x13 x14 x21 x23 x57 x58 y10))
def Qtc (x11 x12 x13 x14 x21 : Int) (x23 : Bool) (x57 x58 : Int) (x112 : List Keep) (x113 x114 : Int) (y10 : Qam) (y17 : Keep) : Option (Exit × VS) := some (.exit 2, Qha (x11) (x12) (x13) (x14) (x21) (x23 || (x112.drop x114.toNat).contains y17) (x57) (x58) (y10))
theorem QWP (x11 x12 x13 x14 x21 : Int) (x23 : Bool) (x57 x58 : Int) (x112 : List Keep) (x113 x114 : Int) (y10 : Qam) (y17 : Keep) : Qak g_f8 Qp8 QrA (QrC x11 x12 x13 x14 x21 x23 x57 x58 x112 x113 x114 y10 y17) = QRu x11 x12 x13 x14 x21 x23 x57 x58 x112 x113 x114 y10 y17 := by kernel_rfl
theorem QI8 (x11 x12 x13 x14 x21 : Int) (x23 : Bool) (x57 x58 : Int) (x112 : List Keep) (x113 x114 : Int) (y10 : Qam) (y17 : Keep) : Qpz x11 x12 x13 x14 x21 x23 x57 x58 x112 x113 x114 y10 y17 = QzN x11 x12 x13 x14 x21 x23 x57 x58 x112 x113 x114 y10 y17 := (Qao _ _).trans (by
 rw [QWP]
 simp only [QRu, QzN, Qay, nxt_n, nxt_r, nxt_e, nxt_0]
 rfl)
def QRt (x11 x12 x13 x57 x58 : Int) (y10 : Qam) : Option (Exit × VS) :=
 let a1 := ((untF y10 x58 x13).1)
 let a2 := Qa0 y10 x58 x13
 let a3 := methF y10 x58 x13
 let a4 := durF y10 x58 x11 x12
 let a5 := Qct y10 x58 x13
 br (ilt x58 x57) (br (QvH y10 x58 x11 x12) (br (ine (a4.2) 0) (some (.normal, QrB x11 x12 x13 x57 (iadd .i64 x58 1) y10)) (br a5 (br a5 (br a5 (br (ine (a2.2) 0) (some (.ret, QaL false)) (br (ine (a3.2) 0) (some (.ret, QaL false)) (br (ine ((untF y10 x58 x13).2) 0) (some (.ret, QaL false)) (br (!(and (ieq ((a2.1).1) ((a4.1).1)) (and (ieq (((a2.1).2).1) (((a4.1).2).1)) true))) (some (.ret, QaL false)) (br (ile a1 x12) (some (.ret, QaL false)) (br (rngOk (a3.1) (llen (a3.1)) (0 : Int)) (br (Qct (y10) (x58) (isub .i64 a1 1)) (br (Qct (y10) (x58) a1) (br (!(false || ((a3.1).drop (0 : Int).toNat).contains (a2.1))) (some (.ret, QaL false)) (br (ine ((Qa0 (y10) (x58) (isub .i64 a1 1)).2) 0) (some (.ret, QaL false)) (br (ieq ((Qa0 (y10) (x58) a1).2) 0) (some (.ret, QaL false)) (some (.normal, QrB (x11) (x12) (x13) (x57) (iadd .i64 (x58) 1) (y10)))))) none) none) none)))))) none) none) none)) none) (some (.exit 0, Qg9))
noncomputable def Qpy (x11 x12 x13 x57 x58 : Int) (y10 : Qam) : Option (Exit × VS) := loopF (Qak g_f8 Qp7 Qrz) (QrB x11 x12 x13 x57 x58 y10)
noncomputable def QzM (x11 x12 x13 x57 x58 : Int) (y10 : Qam) : Option (Exit × VS) :=
 let a1 := ((untF y10 x58 x13).1)
 let a2 := Qa0 y10 x58 x13
 let a3 := methF y10 x58 x13
 let a4 := durF y10 x58 x11 x12
 let a5 := Qct y10 x58 x13
 br (ilt x58 x57) (br (QvH y10 x58 x11 x12) (br (ine (a4.2) 0) (Qpy x11 x12 x13 x57 (iadd .i64 x58 1) y10) (br a5 (br a5 (br a5 (br (ine (a2.2) 0) (some (.ret, QaL false)) (br (ine (a3.2) 0) (some (.ret, QaL false)) (br (ine ((untF y10 x58 x13).2) 0) (some (.ret, QaL false)) (br (!(and (ieq ((a2.1).1) ((a4.1).1)) (and (ieq (((a2.1).2).1) (((a4.1).2).1)) true))) (some (.ret, QaL false)) (br (ile a1 x12) (some (.ret, QaL false)) (br (rngOk (a3.1) (llen (a3.1)) (0 : Int)) (br (Qct (y10) (x58) (isub .i64 a1 1)) (br (Qct (y10) (x58) a1) (br (!(false || ((a3.1).drop (0 : Int).toNat).contains (a2.1))) (some (.ret, QaL false)) (br (ine ((Qa0 (y10) (x58) (isub .i64 a1 1)).2) 0) (some (.ret, QaL false)) (br (ieq ((Qa0 (y10) (x58) a1).2) 0) (some (.ret, QaL false)) (Qpy (x11) (x12) (x13) (x57) (iadd .i64 (x58) 1) (y10))))) none) none) none)))))) none) none) none)) none) (some (.exit 0, Qg9))
def Qyv (x11 x12 x13 x57 x58 : Int) (y10 : Qam) : Option (Exit × VS) := br (false) (some (.ret, QaL (false))) <| some (.exit 0, Qg9)
theorem QWO (x11 x12 x13 x57 x58 : Int) (y10 : Qam) : Qak g_f8 Qp7 Qrz (QrB x11 x12 x13 x57 x58 y10) = QRt x11 x12 x13 x57 x58 y10 := by kernel_rfl
theorem QI7 (x11 x12 x13 x57 x58 : Int) (y10 : Qam) : Qpy x11 x12 x13 x57 x58 y10 = QzM x11 x12 x13 x57 x58 y10 := (Qao _ _).trans (by
 rw [QWO]
 simp only [QRt, QzM, Qay, nxt_n, nxt_r, nxt_e, nxt_0]
 rfl)
def QGV (p0 : List Int) (p1 p2 p3 : Int) : Option (V × List VO) := br (false) (some (.t .bool (false), [])) (some (.t .bool Qno, []))
def r_f8 (p0 : List Int) (p1 p2 p3 : Int) : Option (V × List VO) :=
 let a1 := iadd .i64 (isub .i64 (dmod p1 950) (dmod p2 950)) 1
 let a2 := iadd .i64 (isub .i64 (dmod p2 950) (dmod p1 950)) 1
 let a3 := sndV (roll p0)
 let a4 := llen ((a3.2).1)
 let a5 := iadd .i64 (dmod p2 950) (dmod p3 a1)
 let a6 := iadd .i64 (dmod p1 950) (dmod p3 a2)
 br (!(light p0)) (some (.t .bool Qno, [])) (br (dOk (roll p0)) (br (Qkq p1 950) (br (Qkq p2 950) (br (igt (dmod p1 950) (dmod p2 950)) (br (Qkq p3 a1) (br (isSnd a3 && decide (0 ≤ (0 : Int) ∧ (0 : Int) ≤ a4 ∧ a4 = a3.2.1.length ∧ 0 ≤ (dmod p2 950) ∧ (dmod p2 950) ≤ a5 ∧ a5 ≤ (dmod p1 950) ∧ (dmod p1 950) ≤ 950)) (QGV p0 p1 p2 p3) none) none) (br (Qkq p3 a2) (br (isSnd a3 && decide (0 ≤ (0 : Int) ∧ (0 : Int) ≤ a4 ∧ a4 = a3.2.1.length ∧ 0 ≤ (dmod p1 950) ∧ (dmod p1 950) ≤ a6 ∧ a6 ≤ (dmod p2 950) ∧ (dmod p2 950) ≤ 950)) (QGV p0 p1 p2 p3) none) none)) none) none) none)
theorem e_f8 (p0 : List Int) (p1 p2 p3 : Int) : runF g_f8 tc_f8 rv_f8 false [.t (.sl tI) p0, .t tI p1, .t tI p2, .t tI p3] [] = r_f8 p0 p1 p2 p3 := by kernel_rfl
theorem gk_f8 : GOk Tryz.prog g_f8 := Qal _ (gA (gC en_f9 ms_f9 (gC en_f10 ms_f10 (gC en_f12 ms_f12 (gC QRq QRa (gC QA5 QzP (gC en_f17 ms_f17 (gC en_f20 ms_f20 (gC en_f27 ms_f27 (gC en_f29 ms_f29 gN))))))))))
theorem l_f8_0 (x11 x12 x13 x14 x21 : Int) (x23 : Bool) (x57 x58 : Int) (x112 : List Keep) (x113 x114 : Int) (y10 : Qam) (y17 : Keep) (h : (rngOk x112 x113 x114) = true) : Qpz x11 x12 x13 x14 x21 x23 x57 x58 x112 x113 x114 y10 y17 = Qtc x11 x12 x13 x14 x21 x23 x57 x58 x112 x113 x114 y10 y17 := by
 obtain ⟨rfl, h3, k, rfl, hk⟩ := rng_k h
 clear h
 revert x23
 refine Qat x112 (fun k => ∀ x23, Qpz x11 x12 x13 x14 x21 x23 x57 x58 x112 (x112.length : Int) (k : Int) y10 y17 = Qtc x11 x12 x13 x14 x21 x23 x57 x58 x112 (x112.length : Int) (k : Int) y10 y17) ?_ ?_ k hk
 ·intro x23
  rw [QI8]
  simp only [QzN, Qtc, Qar, Nat.lt_irrefl, decide_false, Qaf, Int.toNat_natCast, List.drop_length, List.contains_nil, Bool.or_false]
 ·intro k hk ih x23
  rw [QI8]
  have hq : (and (ieq x112[k].1 y17.1) (and (ieq x112[k].2.1 y17.2.1) true)) = (x112[k] == y17) := rfl
  simp only [QzN, Qar, Qav, hk, decide_true, Qac, Int.toNat_natCast, add1 (show k < 4611686018427387904 by omega), QaA (y := Qah) hk, ih]
  rw [hq]
  simp only [Qtc, Int.toNat_natCast, List.drop_eq_getElem_cons hk, List.contains_cons, BEq.comm (a := y17)]
  cases x23 <;> rfl
theorem l_f8_1 (x11 x12 x13 x57 x58 : Int) (y10 : Qam) (h : (isSnd y10 && decide (0 ≤ x58 ∧ x58 ≤ x57 ∧ x57 = y10.2.1.length ∧ 0 ≤ x11 ∧ x11 ≤ x13 ∧ x13 ≤ x12 ∧ x12 ≤ 950)) = true) : Qpy x11 x12 x13 x57 x58 y10 = Qyv x11 x12 x13 x57 x58 y10 := by
 simp only [Bool.and_eq_true, decide_eq_true_eq] at h
 obtain ⟨hs, h0, h1, rfl, hf, hm, ht, h9⟩ := h
 obtain ⟨d, rfl⟩ := QNH hs
 obtain ⟨k, rfl⟩ := Int.eq_ofNat_of_zero_le h0
 clear hs
 have hlen := (Qoe d).2.1
 have hlen : (sndV d).2.1.length ≤ 3 := hlen
 refine Qat (sndV d).2.1 (fun k => Qpy x11 x12 x13 ((sndV d).2.1.length : Int) (k : Int) (sndV d) = Qyv x11 x12 x13 ((sndV d).2.1.length : Int) (k : Int) (sndV d)) ?_ ?_ k (by omega)
 ·rw [QI7]
  simp only [QzM, Qyv, Qar, Nat.lt_irrefl, decide_false, Qaf]
 ·intro k hk ih
  rw [QI7]
  have hl3 : ∀ a b, QvH (sndV d) (k : Int) a b = true := fun _ _ => (Qzs d).2
  have hl2 : ∀ a, Qct (sndV d) (k : Int) a = true := fun _ => (Qzs d).2
  obtain ⟨hc, he⟩ := QFj d hk
  have cs := fun (D : Int) (g0 : 0 ≤ D) (g1 : D ≤ 40000) => QCU hc he g0 g1
  simp only [QzM, Qar, hk, decide_true, Qac, add1 (show k < 4611686018427387904 by omega), hl3, hl2, ih]
  refine QaB (fun _ => rfl) (fun hd => ?_)
  -- it works on both days
  unfold durF at hd
  rw [Qdp d hk, Qdp d hk] at hd
  have w1 : ine (QaM (endsF (sndV d) (k : Int)).1 (endsF (sndV d) (k : Int)).2 x11).2 0 = false := by
   cases hq : ine (QaM (endsF (sndV d) (k : Int)).1 (endsF (sndV d) (k : Int)).2 x11).2 0 with
   | false => rfl
   | true =>
    rw [hq] at hd
    have : ine (QaM (endsF (sndV d) (k : Int)).1 (endsF (sndV d) (k : Int)).2 x11).2 0 = false := hd
    rw [hq] at this
    cases this
  have w2 : ine (QaM (endsF (sndV d) (k : Int)).1 (endsF (sndV d) (k : Int)).2 x12).2 0 = false := by
   cases hq : ine (QaM (endsF (sndV d) (k : Int)).1 (endsF (sndV d) (k : Int)).2 x12).2 0 with
   | false => rfl
   | true =>
    rw [w1, hq] at hd
    have : ine (QaM (endsF (sndV d) (k : Int)).1 (endsF (sndV d) (k : Int)).2 x12).2 0 = false := hd
    rw [hq] at this
    cases this
  have t9 : x12 < 901 := by
   rcases Int.lt_or_le x12 901 with h | h
   ·exact h
   ·exact absurd (Qnc w2) ((cs x12 (by omega) (by omega)).2.1 h)
  have e1 := (cs x11 (by omega) (by omega)).1 (by omega)
  have e2 := (cs x12 (by omega) (by omega)).1 (by omega)
  have e3 := (cs x13 (by omega) (by omega)).1 (by omega)
  have e4 := (cs 900 (by omega) (by omega)).1 (by omega)
  have e5 := (cs 901 (by omega) (by omega)).2.1 (by omega)
  rw [e1] at w1
  have z : (QaM (endsF (sndV d) (k : Int)).1 (endsF (sndV d) (k : Int)).2 0).2 = 0 := Qnc w1
  have hin := (cs 0 (by omega) (by omega)).2.2 z
  have hid := (QlP z).2.2.1
  have f1 : Qa0 (sndV d) (k : Int) x13 = QaM (endsF (sndV d) (k : Int)).1 (endsF (sndV d) (k : Int)).2 0 := (Qdp d hk x13).trans e3
  have f2 : durF (sndV d) (k : Int) x11 x12 = ((QaM (endsF (sndV d) (k : Int)).1 (endsF (sndV d) (k : Int)).2 0).1, 0) := by
   unfold durF
   rw [Qdp d hk, Qdp d hk, e1, e2, w1, show ilt x12 x11 = false from decide_eq_false (by omega)]
   rfl
  have f3 : untF (sndV d) (k : Int) x13 = (901, 0) := by
   unfold untF
   rw [f1, w1, QLT he hid]
   rfl
  have f4 : methF (sndV d) (k : Int) x13 = (Qa3 (endsF (sndV d) (k : Int)).1 (endsF (sndV d) (k : Int)).2, 0) := by
   rw [QMH d hk (D := x13) (by omega) (by omega), if_pos (by omega)]
  have f5 : Qa0 (sndV d) (k : Int) (isub .i64 901 1) = QaM (endsF (sndV d) (k : Int)).1 (endsF (sndV d) (k : Int)).2 0 := (Qdp d hk 900).trans e4
  have f6 : ieq (Qa0 (sndV d) (k : Int) 901).2 0 = false := by
   rw [Qdp d hk]
   simp only [QcD, decide_eq_false_iff_not]
   exact e5
  have hcl := Qik (c := (endsF (sndV d) (k : Int)).1) (s := (endsF (sndV d) (k : Int)).2)
  rw [f1, f2, f3, f4]
  simp only [f5, f6, w1, QJl, Int.toNat_zero, List.drop_zero, Bool.false_or, Bool.not_true, Qaf, show ine (0 : Int) 0 = false from rfl, show ile 901 x12 = false from decide_eq_false (by omega), rng_0 (show (Qa3 (endsF (sndV d) (k : Int)).1 (endsF (sndV d) (k : Int)).2).length ≤ 100000 by omega), Qac, List.contains_iff_mem.2 hin]
  rfl
theorem QS4 : ∀ S l p, g_f8.L 0 (fgt Qp8 S) = some (true, l) → pickA l = some p → loopF (Qak g_f8 Qp8 QrA) S = some p :=
 QaD (s := Qxw) ⟨by decide, by decide⟩ (by kernel_rfl) fun x y hok p hp => by
 simp only [Qaq, Qan] at hp
 exact (l_f8_0 x.2.1 x.2.2.1 x.2.2.2.1 x.2.2.2.2.1 x.2.2.2.2.2.2.1 x.2.2.2.2.2.2.2.1 x.2.2.2.2.2.2.2.2.1 x.2.2.2.2.2.2.2.2.2.1 x.2.2.2.2.2.2.2.2.2.2.1 x.2.2.2.2.2.2.2.2.2.2.2.1 x.2.2.2.2.2.2.2.2.2.2.2.2.1 y.1 y.2.1 (by simpa using hok)).trans hp
theorem QS3 : ∀ S l p, g_f8.L 1 (fgt Qp7 S) = some (true, l) → pickA l = some p → loopF (Qak g_f8 Qp7 Qrz) S = some p :=
 QaD (s := Qxv) ⟨by decide, by decide⟩ (by kernel_rfl) fun x y hok p hp => by
 simp only [Qaq, Qan] at hp
 exact (l_f8_1 x.2.1 x.2.2.1 x.2.2.2.1 x.2.2.2.2.1 x.2.2.2.2.2.1 y.1 (by simpa using hok)).trans hp
theorem lk_f8 : tc_f8.lok g_f8 := by
 repeat (first | exact trivial | exact QS4 | exact QS3 | refine ⟨?_, ?_⟩)
theorem s_f8 (p0 : List Int) (a b c : Int) : r_f8 p0 a b c = some (.t .bool (lastL p0 a b c), []) := by
 simp only [r_f8, QGV]
 refine QaB (fun _ => rfl) (fun k1 => ?_)
 have k1 : light p0 = true := by simpa using k1
 have hl := (Qoe (roll p0)).2.1
 have hl : (sndV (roll p0)).2.1.length ≤ 3 := hl
 have m : ∀ n, 0 ≤ dmod n 950 ∧ dmod n 950 < 950 := fun n => by
  unfold dmod
  rw [if_neg (by decide)]
  omega
 have m2 : ∀ n q, 1 ≤ q → 0 ≤ dmod n q ∧ dmod n q < q := fun n q hq => by
  unfold dmod
  rw [if_neg (by omega)]
  exact ⟨Int.emod_nonneg n (by omega), Int.emod_lt_of_pos n (by omega)⟩
 have ha := m a
 have hb := m b
 refine brY (QOy k1) (brY rfl (brY rfl ?_))
 refine QaB (fun g => ?_) (fun g => ?_)
 ·have g : dmod b 950 < dmod a 950 := by simpa [igt] using g
  have e : iadd .i64 (isub .i64 (dmod a 950) (dmod b 950)) 1 = dmod a 950 - dmod b 950 + 1 := by rw [QbU (by omega), Qa4 (by omega)]
  rw [e]
  have h3 := m2 c (dmod a 950 - dmod b 950 + 1) (by omega)
  have e2 : iadd .i64 (dmod b 950) (dmod c (dmod a 950 - dmod b 950 + 1)) = dmod b 950 + dmod c (dmod a 950 - dmod b 950 + 1) := Qa4 (by omega)
  refine brY (decide_eq_true (by omega)) (brY ?_ rfl)
  rw [e2]
  simp only [Bool.and_eq_true, decide_eq_true_eq]
  exact ⟨QAa _, by omega, by simp only [llen]; omega, trivial, by omega, by omega, by omega, by omega⟩
 ·have g : ¬ dmod b 950 < dmod a 950 := by simpa [igt] using g
  have e : iadd .i64 (isub .i64 (dmod b 950) (dmod a 950)) 1 = dmod b 950 - dmod a 950 + 1 := by rw [QbU (by omega), Qa4 (by omega)]
  rw [e]
  have h3 := m2 c (dmod b 950 - dmod a 950 + 1) (by omega)
  have e2 : iadd .i64 (dmod a 950) (dmod c (dmod b 950 - dmod a 950 + 1)) = dmod a 950 + dmod c (dmod b 950 - dmod a 950 + 1) := Qa4 (by omega)
  refine brY (decide_eq_true (by omega)) (brY ?_ rfl)
  rw [e2]
  simp only [Bool.and_eq_true, decide_eq_true_eq]
  exact ⟨QAa _, by omega, by simp only [llen]; omega, trivial, by omega, by omega, by omega, by omega⟩
def sp_f8 : Ent := spec (.pr (.sl tI) (.pr tI (.pr tI (.pr tI .nil)))) (fun x => true) (fun x => (.t .bool (lastL x.1 x.2.1 x.2.2.1 x.2.2.2.1)))
theorem ms_f8 : Meets Tryz.prog 8 (strip sp_f8) := Qag (R := runF g_f8 tc_f8 rv_f8 false) (mG Tryz.func8 (by kernel_rfl) Tryz.ntmps8 (by kernel_rfl) gk_f8 lk_f8) fun x _ => (e_f8 x.1 x.2.1 x.2.2.1 x.2.2.2.1).trans (s_f8 x.1 x.2.1 x.2.2.1 x.2.2.2.1)
end
theorem walkConversationLasts (z0 : (List Int)) (z1 : Int) (z2 : Int) (z3 : Int) (W : World) (v0 : Value) (v1 : Value) (v2 : Value) (v3 : Value) (c0 : C noX W (fun _ => .no) (V.t (.sl tI) z0).d v0) (c1 : C noX W (fun _ => .no) (V.t tI z1).d v1) (c2 : C noX W (fun _ => .no) (V.t tI z2).d v2) (c3 : C noX W (fun _ => .no) (V.t tI z3).d v3) (w0 : Ty.wf (.sl tI) z0) (w1 : Ty.wf tI z1) (w2 : Ty.wf tI z2) (w3 : Ty.wf tI z3) :
  Calls Tryz.prog 8 #[v0, v1, v2, v3] W fun r w' => r = .returned (.bool true) ∧ Below W.heap.size W w' :=
 QCV (by decide) ms_f8 (args := [.t (.sl tI) z0, .t tI z1, .t tI z2, .t tI z3]) (QBY (x := (z0, z1, z2, z3, ())) rfl (rfl)) (by simp only [V.ds, Cs]; exact ⟨_, _, rfl, c0, _, _, rfl, c1, _, _, rfl, c2, _, _, rfl, c3, rfl⟩)
end Go.Proofs.YtckcgijklnloiaaGreat.K
