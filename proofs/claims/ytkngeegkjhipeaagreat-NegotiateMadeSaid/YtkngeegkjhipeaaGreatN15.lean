import Derived.Test.YtkngeegkjhipeaaGreatN14
set_option linter.unusedSimpArgs false
set_option linter.unusedVariables false
namespace Go.Proofs.YtkngeegkjhipeaaGreat.K
open Go.RowKit
noncomputable section
def okPos (l : List Int) (t : Talk) : Bool := decide (l.length ≤ 100000) && lenEE (tkE t) (tkO t)
def ixPos (l : List Int) (t : Talk) : Int := match fstG (possF t) l with | some k => (k : Int) | none => -1
def Qde : Fg := ⟨[(0, some (.sl tI)), (1, none), (7, some tI), (8, some tI)], []⟩
noncomputable def QeA : TC := (.sq (.reg (rT Tryz.f40 2)) (.sq (.cd (.t 9) .sk (.fg ⟨[], []⟩ (.ex 0))) (.sq (.bk 1 (.sq (.reg (rT Tryz.f40 3)) (.sq (.reg (rT Tryz.f40 4)) (.cd (.t 16) (.sq (.reg (rT Tryz.f40 5)) (.fg ⟨[(4, some tI)], []⟩ .rt)) .sk)))) (.reg (rT Tryz.f40 6)))))
noncomputable def Qns : TC := (.sq (.reg (rT Tryz.f40 0)) (.sq (.sq (.reg (rT Tryz.f40 1)) (.bk 0 (.lp 0 Qde QeA))) (.sq (.reg (rT Tryz.f40 7)) .rt)))
def Quu : List (RV × Option Ty) := [((.t 4), some tI)]
abbrev Qhn : Sh := ⟨[(0, .ty (.sl tI)), (1, .bf 41 Qei), (7, .ty tI), (8, .ty tI)], []⟩
def Qhi (x0 : List Int) (x1 : Talk) (x7 x8 : Int) : VS := Qhn.st (x0, x1, x7, x8, ()) ()
abbrev QnX : Sh := ⟨[(4, .ty tI)], []⟩
def Qb6 (x4 : Int) : VS := QnX.st (x4, ()) ()
abbrev QpF : Sh := ⟨[], []⟩
def Qcu  : VS := QpF.st () ()
def QCt : VS → Option (Bool × List (Bool × Exit × VS)) := mkL Qhn (fun x y => (rngOk x.1 x.2.2.1 x.2.2.2.1 && okPos x.1 x.2.1)) (fun x y => [(((fstG (possF x.2.1) (x.1.drop x.2.2.2.1.toNat)).isSome), .ret, Qb6 (x.2.2.2.1 + ((fstG (possF x.2.1) (x.1.drop x.2.2.2.1.toNat)).getD 0 : Nat))), (true, .exit 0, Qcu)])
def Qd6 : G := ⟨TYs, [], 19, EL [(41, QD6)], keeps, (Ls [QCt]), IL [], RL []⟩
def Qqj (x0 : List Int) (x1 : Talk) (x7 x8 : Int) : Option (Exit × VS) :=
 let a1 := lgt tI x0 (Int.toNat x8)
 br (ilt x8 x7) (br (cIx x0 x8) (br (QdX x1 a1) (br (possF x1 a1) (some (.ret, Qb6 x8)) (some (.normal, Qhi x0 x1 x7 (iadd .i64 x8 1)))) none) none) (some (.exit 0, Qcu))
noncomputable def Qfl (x0 : List Int) (x1 : Talk) (x7 x8 : Int) : Option (Exit × VS) := loopF (Qaj Qd6 Qde QeA) (Qhi x0 x1 x7 x8)
noncomputable def QgM (x0 : List Int) (x1 : Talk) (x7 x8 : Int) : Option (Exit × VS) :=
 let a1 := lgt tI x0 (Int.toNat x8)
 br (ilt x8 x7) (br (cIx x0 x8) (br (QdX x1 a1) (br (possF x1 a1) (some (.ret, Qb6 x8)) (Qfl x0 x1 x7 (iadd .i64 x8 1))) none) none) (some (.exit 0, Qcu))
def Qfq (x0 : List Int) (x1 : Talk) (x7 x8 : Int) : Option (Exit × VS) :=
 let a1 := fstG (possF x1) (x0.drop x8.toNat)
 br (a1.isSome) (some (.ret, Qb6 (x8 + (a1.getD 0 : Nat)))) <| some (.exit 0, Qcu)
theorem QyX (x0 : List Int) (x1 : Talk) (x7 x8 : Int) : Qaj Qd6 Qde QeA (Qhi x0 x1 x7 x8) = Qqj x0 x1 x7 x8 := by kernel_rfl
theorem QoV (x0 : List Int) (x1 : Talk) (x7 x8 : Int) : Qfl x0 x1 x7 x8 = QgM x0 x1 x7 x8 := (Qap _ _).trans (by
 rw [QyX]
 simp only [Qqj, QgM, QaB, nxt_n, nxt_r, nxt_e, nxt_0]
 rfl)
def QrR (p0 : List Int) (p1 : Talk) : Option (V × List VO) :=
 let a1 := (fstG (possF p1) (p0.drop (0 : Int).toNat))
 br (rngOk p0 (llen p0) (0 : Int) && okPos p0 p1) (br (a1.isSome) (some (.t tI ((0 : Int) + (a1.getD 0 : Nat)), [])) (some (.t tI (-1), []))) none
theorem QM9 (p0 : List Int) (p1 : Talk) : runF Qd6 Qns Quu false [.t (.sl tI) p0, .fn 1000041 [(.t Qei p1)]] [] = QrR p0 p1 := by kernel_rfl
theorem QIW : Qai Tryz.prog 40 := .inr ⟨by decide, _, Tryz.func40, by kernel_rfl, by kernel_rfl⟩
theorem QIA : GOk Tryz.prog Qd6 := Qal _ (gA (gC QRv QQ9 gN))
theorem QB7 (x0 : List Int) (x1 : Talk) (x7 x8 : Int) (h : (rngOk x0 x7 x8 && okPos x0 x1) = true) : Qfl x0 x1 x7 x8 = Qfq x0 x1 x7 x8 := by
 simp only [Bool.and_eq_true, okPos] at h
 obtain ⟨h0, _, hc⟩ := h
 obtain ⟨rfl, h3, k, rfl, hk⟩ := rng_k h0
 clear h0
 refine Qas x0 (fun k => Qfl x0 x1 (x0.length : Int) (k : Int) = Qfq x0 x1 (x0.length : Int) (k : Int)) ?_ ?_ k hk
 ·rw [QoV]
  simp [QgM, Qfq, QaA, Qaf, fstG]
 ·intro k hk ih
  rw [QoV]
  have hx : QdX x1 x0[k] = true := hc
  simp only [QgM, QaA, Qaw, hk, decide_true, Qac, Int.toNat_natCast, add1 (show k < 4611686018427387904 by omega), ih, QaE (y := tI) hk, hx]
  simp only [Qfq, Int.toNat_natCast, List.drop_eq_getElem_cons hk, fstG]
  cases h : possF x1 x0[k] with
  | true => simp [Qac]
  | false =>
   simp only [Qaf, Bool.false_eq_true, if_false]
   cases hq : fstG (possF x1) (x0.drop (k + 1)) with
   | none => rfl
   | some j =>
    simp only [Option.map_some, Option.isSome_some, Option.getD_some, Qac]
    congr 3
    omega
theorem Qyn : ∀ S l p, Qd6.L 0 (fgt Qde S) = some (true, l) → pickA l = some p → loopF (Qaj Qd6 Qde QeA) S = some p :=
 QaD (s := Qhn) ⟨by decide, by decide⟩ (by kernel_rfl) fun x y hok p hp => by
 simp only [Qar, Qao] at hp
 exact (QB7 x.1 x.2.1 x.2.2.1 x.2.2.2.1 (by simpa using hok)).trans hp
theorem QH7 : Qns.lok Qd6 := by
 repeat (first | exact trivial | exact Qyn | refine ⟨?_, ?_⟩)
theorem QLd (l : List Int) (t : Talk) (h : okPos l t = true) : QrR l t = some (.t tI (ixPos l t), []) := by
 have hl : l.length ≤ 100000 := of_decide_eq_true (Bool.and_eq_true_iff.1 h).1
 simp only [QrR, rng_0 hl, h, Bool.and_self, Qac, Int.toNat_zero, List.drop_zero, ixPos]
 cases fstG (possF t) l <;> simp [Qac, Qaf]
def Qtq : Ent := specB [.ty (.sl tI), .bf 41 Qei] [] (fun x y => (okPos x.1 x.2.1)) (fun x y => (.t tI (ixPos x.1 x.2.1))) (fun x y => [])
theorem QHf : Meets Tryz.prog 40 (strip Qtq) := Qcn (QaK (R := runF Qd6 Qns Quu false) (mG Tryz.func40 (by kernel_rfl) Tryz.ntmps40 (by kernel_rfl) QIA QH7) fun x y hok => (QM9 x.1 x.2.1).trans (QLd x.1 x.2.1 hok))
abbrev zK : Keep := (0, (0, ()))
abbrev Qyv (s : Qad) (x : Int) : List Qaa := (lgt Qam (eIds s) (QaQ s x).1.toNat).2.2.1
def pickE (c s : Qad) (d x : Int) : Int := chkCh (Qyv s x) (eAnch c) (eHash c) d s.1
def pickF (c s : Qad) (v d x : Int) : Keep × Int := bif ine (pickE c s d x) 0 then (zK, 29) else ((v, (x, ())), 0)
def overF (c s : Qad) (v d : Int) (o l : List Int) : Keep × Int := match fstG (posE s o v) l with | none => (zK, 28) | some k => pickF c s v d (l.getD k 0)
abbrev outL (s : Qad) (o : List Int) : List Int := bif s.2.2.2.2.1 then Qan s else o
def withF (c s : Qad) (d m : Int) (o : List Int) : Keep × Int :=
 bif !Qc5 c s then (zK, 19) else bif ilt d 0 then (zK, 2) else bif igt d 40000 then (zK, 2) else bif ilt m 1 then (zK, 2) else bif igt m 4 then (zK, 2) else
 bif ilt (imn m s.2.2.1) c.2.1 then (zK, 27) else bif ilt (imn m s.2.2.1) s.2.1 then (zK, 27) else overF c s (imn m s.2.2.1) d o (outL s o)
def Qbm (c s : Qad) (_d _m : Int) (o : List Int) : Bool := Qa8 c s && decide (o.length ≤ 100000)
theorem Qa2 {e : Qad} (h : QaS e = true) : nameG e.1 = true ∧ (Qan e).length ≤ 100000 ∧ (eIds e).length ≤ 100000 ∧ (eAnch e).length ≤ 100000 ∧ (eHash e).length ≤ 100000 ∧ (eIds e).all idLen = true := by
 simp only [QaS, Bool.and_eq_true, decide_eq_true_eq] at h
 exact ⟨h.1.1, h.1.2.1, h.1.2.2.1, h.1.2.2.2.1, h.1.2.2.2.2, h.2⟩
theorem QAo {e : Qad} {c : Int} (h : (QaQ e c).2 = true) : ∃ k, (QaQ e c).1 = ((k : Nat) : Int) ∧ k < (eIds e).length := by
 unfold QaQ ixAlg at h ⊢
 cases hi : ine (Qay c).2 0 with
 | true => rw [hi] at h; cases h
 | false =>
  rw [hi] at h
  cases hq : fstG (fun x => idAlg x (Qay c).1) (eIds e) with
  | none => rw [hq] at h; cases h
  | some k => exact ⟨k, rfl, (Qi2 hq).1⟩
theorem QRV {e : Qad} {o : List Int} {v c : Int} (h : posE e o v c = true) : (QaQ e c).2 = true := by
 simp only [posE, Bool.and_eq_true] at h
 exact h.2.2.2.2.2
theorem Qx5 {c s : Qad} {d v x : Int} {o : List Int} (hc : QaS c = true) (hs : QaS s = true) (h : posE s o v x = true) : cIx (eIds s) (QaQ s x).1 = true ∧ QcG (Qyv s x) (eAnch c) (eHash c) d s.1 = true := by
 obtain ⟨k, hk, hl⟩ := QAo (QRV h)
 obtain ⟨_, _, _, h4, h5, _⟩ := Qa2 hc
 have h6 := (Qa2 hs).2.2.2.2.2
 unfold Qyv
 rw [hk, Qaw, Int.toNat_natCast, QaE (y := Qam) hl]
 refine ⟨decide_eq_true hl, ?_⟩
 have := List.all_eq_true.1 h6 _ (List.getElem_mem hl)
 simp only [QcG, Bool.and_eq_true, decide_eq_true_eq]
 exact ⟨this, h4, h5⟩
theorem QIB {e : Qad} {o l : List Int} {v : Int} {k : Nat} (h : fstG (posE e o v) l = some k) : k < l.length ∧ posE e o v (l.getD k 0) = true := by
 obtain ⟨q, h1⟩ := Qi2 h
 refine ⟨q, ?_⟩
 rw [List.getD_eq_getElem?_getD, List.getElem?_eq_getElem q, Option.getD_some]
 exact h1
theorem eEta (p1 : Qad) : (p1.1, (p1.2.1, (p1.2.2.1, (p1.2.2.2.1, (p1.2.2.2.2.1, (p1.2.2.2.2.2.1, (p1.2.2.2.2.2.2.1, (p1.2.2.2.2.2.2.2.1, (p1.2.2.2.2.2.2.2.2.1, ()))))))))) = p1 := rfl
def outKI (p : Keep × Int) : Option (V × List VO) := some (.tu [.t Qah p.1, .t tI p.2], [])
theorem brT {a : Bool} {X Y : Option (V × List VO)} {x y : Keep × Int} (hx : X = outKI x) (hy : Y = outKI y) : br a X Y = outKI (bif a then x else y) := by
 cases a
 ·exact hy
 ·exact hx
noncomputable def QNF : List DO := dT Tryz.f16 15
noncomputable def QNE : List DO := dT Tryz.f16 16
noncomputable def QND : List DO := dT Tryz.f16 18
noncomputable def QDL : TC := (.sq (.reg (rT Tryz.f16 0)) (.sq (.bk 0 (.sq (.reg (rT Tryz.f16 1)) (.cd (.t 18) (.sq (.reg (rT Tryz.f16 2)) .rt) (.sq (.reg (rT Tryz.f16 3)) (.cd (.t 24) (.sq (.reg (rT Tryz.f16 4)) .rt) .sk))))) (.sq (.reg (rT Tryz.f16 5)) (.sq (.sq (.reg (rT Tryz.f16 6)) (.cd (.t 58) (.sq (.reg (rT Tryz.f16 7)) .rt) .sk)) (.sq (.reg (rT Tryz.f16 8)) (.sq (.sq (.reg (rT Tryz.f16 9)) (.cd (.t 63) (.reg (rT Tryz.f16 10)) .sk)) (.sq (.reg (rT Tryz.f16 11)) (.sq (.reg (rT Tryz.f16 12)) (.sq (.sq (.reg (rT Tryz.f16 13)) (.cd (.t 73) (.sq (.reg (rT Tryz.f16 14)) .rt) .sk)) (.sq (.dr QNF [(0, [6]), (1, []), (2, []), (3, []), (4, []), (5, []), (6, []), (7, []), (8, []), (9, []), (10, [])] (.of [0, 1, 2, 3, 4, 5, 6, 7, 8, 9, 10])) (.sq (.sq (.dr QNE [(0, [6]), (1, [6]), (2, []), (3, []), (4, []), (5, []), (6, [5]), (7, [5]), (8, [5]), (9, [5]), (10, []), (11, [6]), (12, [6]), (13, []), (14, [])] (.of [0, 1, 2, 3, 4, 5, 6, 7, 8, 9, 10, 11, 12, 13, 14])) (.cd (.t 98) (.sq (.reg (rT Tryz.f16 17)) .rt) .sk)) (.sq (.dr QND [(0, [12]), (1, [12]), (2, []), (3, []), (4, []), (5, []), (6, []), (7, [10]), (8, [])] (.of [0, 1, 2, 3, 4, 5, 6, 7, 8])) .rt))))))))))))
def QQK : List (RV × Option Ty) := [((.c 10 true 2), some Qah), ((.t 11), some tI)]
def g_f16 : G := ⟨TYs, [], 107, EL [(21, Qtu), (37, Qy9), (38, QPq), (39, QPp), (40, Qtq), (42, QPo)], keeps, (fun _ _ => none), IL [], RL []⟩
def r_f16 (p0 p1 : Qad) (p2 p3 : Int) (p4 : List Int) : Option (V × List VO) :=
 let a6 := imn p3 p1.2.2.1
 let a1 := ((p1.1, (p1.2.1, (p1.2.2.1, (p1.2.2.2.1, (p1.2.2.2.2.1, (p1.2.2.2.2.2.1, (p1.2.2.2.2.2.2.1, (p1.2.2.2.2.2.2.2.1, (p1.2.2.2.2.2.2.2.2.1, ()))))))))), (a6, (p4, ())))
 let a7 := ixPos (QdZ a1) a1
 let a2 := lgt tI (QdZ a1) (Int.toNat a7)
 let a8 := ixPos (QfT a1) a1
 let a3 := lgt tI (QfT a1) (Int.toNat a8)
 let a4 := ((((lgt Qam p1.2.2.2.2.2.1 (Int.toNat ((QaQ p1 a3).1))).2).2).1)
 let a5 := ((((lgt Qam p1.2.2.2.2.2.1 (Int.toNat ((QaQ p1 a2).1))).2).2).1)
 br (Qa8 p0 p1) (br (!(Qc5 p0 p1)) (some (.tu [(.t Qah (0, (0, ()))), (.t tI 19)], [])) (br (ilt p2 0) (some (.tu [(.t Qah (0, (0, ()))), (.t tI 2)], [])) (br (igt p2 40000) (some (.tu [(.t Qah (0, (0, ()))), (.t tI 2)], [])) (br (ilt p3 1) (some (.tu [(.t Qah (0, (0, ()))), (.t tI 2)], [])) (br (igt p3 4) (some (.tu [(.t Qah (0, (0, ()))), (.t tI 2)], [])) (br (ilt a6 p0.2.1) (some (.tu [(.t Qah (0, (0, ()))), (.t tI 27)], [])) (br (ilt a6 p1.2.1) (some (.tu [(.t Qah (0, (0, ()))), (.t tI 27)], [])) (br (p1.2.2.2.2.1) (br (okPos (QfT a1) a1) (br (ilt a8 0) (some (.tu [(.t Qah (0, (0, ()))), (.t tI 28)], [])) (br (cIx (QfT a1) a8) (br (idnOk p1 a3) (br (cIx p1.2.2.2.2.2.1 ((QaQ p1 a3).1)) (br (QcG a4 p0.2.2.2.2.2.2.1 p0.2.2.2.2.2.2.2.1 p2 p1.1) (br (ine (chkCh a4 p0.2.2.2.2.2.2.1 p0.2.2.2.2.2.2.2.1 p2 p1.1) 0) (some (.tu [(.t Qah (0, (0, ()))), (.t tI 29)], [])) (br (cIx (QfT a1) a8) (some (.tu [(.t Qah (a6, (a3, ()))), (.t tI 0)], [])) none)) none) none) none) none)) none) (br (okPos (QdZ a1) a1) (br (ilt a7 0) (some (.tu [(.t Qah (0, (0, ()))), (.t tI 28)], [])) (br (cIx (QdZ a1) a7) (br (idnOk p1 a2) (br (cIx p1.2.2.2.2.2.1 ((QaQ p1 a2).1)) (br (QcG a5 p0.2.2.2.2.2.2.1 p0.2.2.2.2.2.2.2.1 p2 p1.1) (br (ine (chkCh a5 p0.2.2.2.2.2.2.1 p0.2.2.2.2.2.2.2.1 p2 p1.1) 0) (some (.tu [(.t Qah (0, (0, ()))), (.t tI 29)], [])) (br (cIx (QdZ a1) a7) (some (.tu [(.t Qah (a6, (a2, ()))), (.t tI 0)], [])) none)) none) none) none) none)) none))))))))) none
theorem e_f16 (p0 p1 : Qad) (p2 p3 : Int) (p4 : List Int) : runF g_f16 QDL QQK false [.t Qae p0, .t Qae p1, .t tI p2, .t tI p3, .t (.sl tI) p4] [] = r_f16 p0 p1 p2 p3 p4 := by kernel_rfl
theorem QRA : Qai Tryz.prog 16 := .inr ⟨by decide, _, Tryz.func16, by kernel_rfl, by kernel_rfl⟩
theorem gk_f16 : GOk Tryz.prog g_f16 := Qal _ (gA (gC QA9 QzC (gC QIX QHg (gC en_f38 ms_f38 (gC en_f39 ms_f39 (gC QIW QHf (gC en_f42 ms_f42 gN)))))))
theorem lk_f16 : QDL.lok g_f16 := by repeat (first | exact trivial | refine ⟨?_, ?_⟩)
theorem s_f16 (c s : Qad) (d m : Int) (o : List Int) (h : Qbm c s d m o = true) : r_f16 c s d m o = some (.tu [.t Qah (withF c s d m o).1, .t tI (withF c s d m o).2], []) := by
 simp only [Qbm, Bool.and_eq_true, decide_eq_true_eq] at h
 obtain ⟨hr, ho⟩ := h
 obtain ⟨hc, hs⟩ := Bool.and_eq_true_iff.1 hr
 have hs' := Qa2 hs
 have hle : lenEE s o = true := decide_eq_true ⟨hs'.2.2.1, hs'.2.1, ho⟩
 have hid : ∀ x, idnOk s x = true := fun x => decide_eq_true hs'.2.2.1
 have hb1 : ∀ v, okPos (Qan s) (s, (v, (o, ()))) = true := fun v => Bool.and_eq_true_iff.2 ⟨decide_eq_true hs'.2.1, hle⟩
 have hb2 : ∀ v, okPos o (s, (v, (o, ()))) = true := fun v => Bool.and_eq_true_iff.2 ⟨decide_eq_true ho, hle⟩
 have hp : ∀ v, possF (s, (v, (o, ()))) = posE s o v := fun v => rfl
 simp only [r_f16, eEta, QfT, QdZ, tkE, tkO, hr, Qac, hb1, hb2, hid, ixPos, hp]
 show _ = outKI (withF c s d m o)
 have hg : ∀ (l : List Int) (k : Nat), lgt tI l k = l.getD k 0 := fun _ _ => rfl
 unfold withF
 refine brT rfl <| brT rfl <| brT rfl <| brT rfl <| brT rfl <| brT rfl <| brT rfl ?_
 cases hw : s.2.2.2.2.1 with
 | true =>
  rw [Qac]
  rw [show outL s o = Qan s by unfold outL; rw [hw]; rfl]
  unfold overF
  cases hq : fstG (posE s o (imn m s.2.2.1)) (Qan s) with
  | none => rfl
  | some k =>
   obtain ⟨hk, hp⟩ := QIB hq
   obtain ⟨h1, h2⟩ := Qx5 (d := d) hc hs hp
   simp only [show ilt (k : Int) 0 = false from decide_eq_false (by omega), Qaf, Qaw, hk, decide_true, Qac, Int.toNat_natCast, hg, h1]
   refine Eq.trans (congrArg (fun b => br b _ _) h2) ?_
   rw [Qac]
   exact brT rfl rfl
 | false =>
  rw [Qaf]
  rw [show outL s o = o by unfold outL; rw [hw]; rfl]
  unfold overF
  cases hq : fstG (posE s o (imn m s.2.2.1)) (o) with
  | none => rfl
  | some k =>
   obtain ⟨hk, hp⟩ := QIB hq
   obtain ⟨h1, h2⟩ := Qx5 (d := d) hc hs hp
   simp only [show ilt (k : Int) 0 = false from decide_eq_false (by omega), Qaf, Qaw, hk, decide_true, Qac, Int.toNat_natCast, hg, h1]
   refine Eq.trans (congrArg (fun b => br b _ _) h2) ?_
   rw [Qac]
   exact brT rfl rfl
def QEn : Ent := spec (.pr Qae (.pr Qae (.pr tI (.pr tI (.pr (.sl tI) .nil))))) (fun x => (Qbm x.1 x.2.1 x.2.2.1 x.2.2.2.1 x.2.2.2.2.1)) (fun x => (.tu [(.t Qah ((withF x.1 x.2.1 x.2.2.1 x.2.2.2.1 x.2.2.2.2.1).1)), (.t tI ((withF x.1 x.2.1 x.2.2.1 x.2.2.2.1 x.2.2.2.2.1).2))]))
theorem QRe : Meets Tryz.prog 16 (strip QEn) := Qag (R := runF g_f16 QDL QQK false) (mG Tryz.func16 (by kernel_rfl) Tryz.ntmps16 (by kernel_rfl) gk_f16 lk_f16) fun x hok => (e_f16 x.1 x.2.1 x.2.2.1 x.2.2.2.1 x.2.2.2.2.1).trans (s_f16 x.1 x.2.1 x.2.2.1 x.2.2.2.1 x.2.2.2.2.1 hok)
noncomputable def QNC : List DO := dT Tryz.f17 13
noncomputable def QNB : List DO := dT Tryz.f17 14
noncomputable def QNA : List DO := dT Tryz.f17 15
def QjC : Fg := ⟨[(2, some tI), (4, some (.sl tI)), (5, none), (6, none), (10, none), (12, some tI), (13, some (.sl tI)), (14, some tI)], [(5, some Qae), (6, some Qae), (10, some Qah)]⟩
noncomputable def QlH : TC := (.sq (.sq (.reg (rT Tryz.f17 12)) (.cd (.t 64) .sk (.fg ⟨[(10, none)], [(10, some Qah)]⟩ (.ex 0)))) (.sq (.bk 1 (.sq (.sq (.dr QNC [(0, [6]), (1, []), (2, []), (3, []), (4, []), (5, []), (6, []), (7, []), (8, [])] (.of [0, 1, 2, 3, 4, 5, 6, 7, 8])) (.cd (.t 75) (.fg ⟨[(2, some tI), (4, some (.sl tI)), (5, none), (6, none), (10, none), (12, some tI), (13, some (.sl tI)), (14, some tI)], [(5, some Qae), (6, some Qae), (10, some Qah)]⟩ (.ex 1)) .sk)) (.sq (.dr QNB [(0, [6]), (1, []), (2, []), (3, []), (4, []), (5, []), (6, []), (7, []), (8, []), (9, []), (10, [])] (.of [0, 1, 2, 3, 4, 5, 6, 7, 8, 9, 10])) (.sq (.sq (.dr QNA [(0, [6]), (1, [6]), (2, []), (3, []), (4, []), (5, []), (6, [5]), (7, [5]), (8, [5]), (9, [5]), (10, []), (11, [6]), (12, [6]), (13, []), (14, [])] (.of [0, 1, 2, 3, 4, 5, 6, 7, 8, 9, 10, 11, 12, 13, 14])) (.cd (.t 99) (.sq (.reg (rT Tryz.f17 16)) (.fg ⟨[(10, none), (11, some tI)], [(10, some Qah)]⟩ .rt)) .sk)) (.sq (.reg (rT Tryz.f17 17)) (.fg ⟨[(10, none), (11, some tI)], [(10, some Qah)]⟩ .rt)))))) (.reg (rT Tryz.f17 18))))
noncomputable def QDK : TC := (.sq (.reg (rT Tryz.f17 0)) (.sq (.sq (.reg (rT Tryz.f17 1)) (.cd (.t 24) (.sq (.reg (rT Tryz.f17 2)) .rt) .sk)) (.sq (.sq (.reg (rT Tryz.f17 3)) (.cd (.t 39) (.sq (.reg (rT Tryz.f17 4)) .rt) .sk)) (.sq (.reg (rT Tryz.f17 5)) (.sq (.sq (.reg (rT Tryz.f17 6)) (.cd (.t 54) (.sq (.reg (rT Tryz.f17 7)) .rt) .sk)) (.sq (.reg (rT Tryz.f17 8)) (.sq (.sq (.reg (rT Tryz.f17 9)) (.cd (.t 58) (.reg (rT Tryz.f17 10)) .sk)) (.sq (.sq (.reg (rT Tryz.f17 11)) (.bk 0 (.lp 0 QjC QlH))) (.sq (.reg (rT Tryz.f17 19)) .rt)))))))))
def QQJ : List (RV × Option Ty) := [((.c 10 true 2), some Qah), ((.t 11), some tI)]
abbrev Qrt : Sh := ⟨[(2, .ty tI), (4, .ty (.sl tI)), (5, .ptr 5 0), (6, .ptr 6 0), (10, .ptr 10 0), (12, .ty tI), (13, .ty (.sl tI)), (14, .ty tI)], [(5, .box Qae), (6, .box Qae), (10, .box Qah)]⟩
def QqQ (x2 : Int) (x4 : List Int) (x12 : Int) (x13 : List Int) (x14 : Int) (y5 y6 : Qad) (y10 : Keep) : VS := Qrt.st (x2, x4, (), (), (), x12, x13, x14, ()) (y5, y6, y10, ())
abbrev QtV : Sh := ⟨[(10, .ptr 10 0), (11, .ty tI)], [(10, .box Qah)]⟩
def QbS (x11 : Int) (y10 : Keep) : VS := QtV.st ((), x11, ()) (y10, ())
abbrev QxF : Sh := ⟨[(10, .ptr 10 0)], [(10, .box Qah)]⟩
def Qe7 (y10 : Keep) : VS := QxF.st ((), ()) (y10, ())
def QWx : VS → Option (Bool × List (Bool × Exit × VS)) := mkL Qrt (fun x y => (Qbm y.1 y.2.1 0 0 x.2.1 && decide (0 ≤ x.2.2.2.2.2.2.2.1 ∧ x.2.2.2.2.2.2.2.1 ≤ x.2.2.2.2.2.2.1.length ∧ x.2.2.2.2.2.2.1.length ≤ 100000))) (fun x y => [(((fstG (posE y.2.1 x.2.1 x.2.2.2.2.2.1) (x.2.2.2.2.2.2.1.drop x.2.2.2.2.2.2.2.1.toNat)).isSome), .ret, QbS ((overF y.1 y.2.1 x.2.2.2.2.2.1 x.1 x.2.1 (x.2.2.2.2.2.2.1.drop x.2.2.2.2.2.2.2.1.toNat)).2) ((overF y.1 y.2.1 x.2.2.2.2.2.1 x.1 x.2.1 (x.2.2.2.2.2.2.1.drop x.2.2.2.2.2.2.2.1.toNat)).1)), (true, .exit 0, Qe7 (y.2.2.1))])
def g_f17 : G := ⟨TYs, [], 108, EL [(22, Qtt), (43, Qy8), (44, QD5), (45, QPn)], keeps, (Ls [QWx]), IL [], RL []⟩
def QKA (x2 : Int) (x4 : List Int) (x12 : Int) (x13 : List Int) (x14 : Int) (y5 y6 : Qad) (y10 : Keep) : Option (Exit × VS) :=
 let a1 := lgt tI x13 (Int.toNat x14)
 let a2 := ((((lgt Qam y6.2.2.2.2.2.1 (Int.toNat ((QaQ y6 a1).1))).2).2).1)
 br (ilt x14 (llen x13)) (br (cIx x13 x14) (br (posOk y6 x4 x12 a1) (br (!(posE y6 x4 x12 a1)) (some (.normal, QqQ x2 x4 x12 x13 (iadd .i64 x14 1) y5 y6 y10)) (br (cIx x13 x14) (br (idnOk y6 a1) (br (cIx y6.2.2.2.2.2.1 ((QaQ y6 a1).1)) (br (QcG a2 y5.2.2.2.2.2.2.1 y5.2.2.2.2.2.2.2.1 x2 y6.1) (br (ine (chkCh a2 y5.2.2.2.2.2.2.1 y5.2.2.2.2.2.2.2.1 x2 y6.1) 0) (some (.ret, QbS 29 (0, (0, ())))) (br (cIx x13 x14) (some (.ret, QbS 0 (x12, (a1, ())))) none)) none) none) none) none)) none) none) (some (.exit 0, Qe7 y10))
noncomputable def Qmy (x2 : Int) (x4 : List Int) (x12 : Int) (x13 : List Int) (x14 : Int) (y5 y6 : Qad) (y10 : Keep) : Option (Exit × VS) := loopF (Qaj g_f17 QjC QlH) (QqQ x2 x4 x12 x13 x14 y5 y6 y10)
noncomputable def Qsv (x2 : Int) (x4 : List Int) (x12 : Int) (x13 : List Int) (x14 : Int) (y5 y6 : Qad) (y10 : Keep) : Option (Exit × VS) :=
 let a1 := lgt tI x13 (Int.toNat x14)
 let a2 := ((((lgt Qam y6.2.2.2.2.2.1 (Int.toNat ((QaQ y6 a1).1))).2).2).1)
 br (ilt x14 (llen x13)) (br (cIx x13 x14) (br (posOk y6 x4 x12 a1) (br (!(posE y6 x4 x12 a1)) (Qmy x2 x4 x12 x13 (iadd .i64 x14 1) y5 y6 y10) (br (cIx x13 x14) (br (idnOk y6 a1) (br (cIx y6.2.2.2.2.2.1 ((QaQ y6 a1).1)) (br (QcG a2 y5.2.2.2.2.2.2.1 y5.2.2.2.2.2.2.2.1 x2 y6.1) (br (ine (chkCh a2 y5.2.2.2.2.2.2.1 y5.2.2.2.2.2.2.2.1 x2 y6.1) 0) (some (.ret, QbS 29 (0, (0, ())))) (br (cIx x13 x14) (some (.ret, QbS 0 (x12, (a1, ())))) none)) none) none) none) none)) none) none) (some (.exit 0, Qe7 y10))
def Qm0 (x2 : Int) (x4 : List Int) (x12 : Int) (x13 : List Int) (x14 : Int) (y5 y6 : Qad) (y10 : Keep) : Option (Exit × VS) :=
 let a1 := overF y5 y6 x12 x2 x4 (x13.drop x14.toNat)
 br ((fstG (posE y6 x4 x12) (x13.drop x14.toNat)).isSome) (some (.ret, QbS (a1.2) (a1.1))) <| some (.exit 0, Qe7 (y10))
theorem QOm (x2 : Int) (x4 : List Int) (x12 : Int) (x13 : List Int) (x14 : Int) (y5 y6 : Qad) (y10 : Keep) : Qaj g_f17 QjC QlH (QqQ x2 x4 x12 x13 x14 y5 y6 y10) = QKA x2 x4 x12 x13 x14 y5 y6 y10 := by kernel_rfl
theorem QAc (x2 : Int) (x4 : List Int) (x12 : Int) (x13 : List Int) (x14 : Int) (y5 y6 : Qad) (y10 : Keep) : Qmy x2 x4 x12 x13 x14 y5 y6 y10 = Qsv x2 x4 x12 x13 x14 y5 y6 y10 := (Qap _ _).trans (by
 rw [QOm]
 simp only [QKA, Qsv, QaB, nxt_n, nxt_r, nxt_e, nxt_0]
 rfl)
def r_f17 (p0 p1 : Qad) (p2 p3 : Int) (p4 : List Int) : Option (V × List VO) :=
 let a1 := imn p3 p1.2.2.1
 let a2 := (p1.2.2.2.1.drop (0 : Int).toNat)
 let a3 := (overF p0 p1 a1 p2 p4 (p4.drop (0 : Int).toNat))
 let a4 := overF p0 p1 a1 p2 p4 a2
 br (QaS p0) (br (ine (QbZ p0) 0) (some (.tu [(.t Qah (0, (0, ()))), (.t tI 19)], [])) (br (QaS p1) (br (ine (QbZ p1) 0) (some (.tu [(.t Qah (0, (0, ()))), (.t tI 19)], [])) (br (ilt p2 0) (some (.tu [(.t Qah (0, (0, ()))), (.t tI 2)], [])) (br (igt p2 40000) (some (.tu [(.t Qah (0, (0, ()))), (.t tI 2)], [])) (br (ilt p3 1) (some (.tu [(.t Qah (0, (0, ()))), (.t tI 2)], [])) (br (igt p3 4) (some (.tu [(.t Qah (0, (0, ()))), (.t tI 2)], [])) (br (ilt a1 p0.2.1) (some (.tu [(.t Qah (0, (0, ()))), (.t tI 27)], [])) (br (ilt a1 p1.2.1) (some (.tu [(.t Qah (0, (0, ()))), (.t tI 27)], [])) (br (p1.2.2.2.2.1) (br (Qbm p0 p1 0 0 p4 && decide (0 ≤ (0 : Int) ∧ (0 : Int) ≤ p1.2.2.2.1.length ∧ p1.2.2.2.1.length ≤ 100000)) (br ((fstG (posE p1 p4 a1) a2).isSome) (some (.tu [(.t Qah (a4.1)), (.t tI (a4.2))], [])) (some (.tu [(.t Qah (0, (0, ()))), (.t tI 28)], []))) none) (br (Qbm p0 p1 0 0 p4 && decide (0 ≤ (0 : Int) ∧ (0 : Int) ≤ p4.length ∧ p4.length ≤ 100000)) (br ((fstG (posE p1 p4 a1) (p4.drop (0 : Int).toNat)).isSome) (some (.tu [(.t Qah (a3.1)), (.t tI (a3.2))], [])) (some (.tu [(.t Qah (0, (0, ()))), (.t tI 28)], []))) none))))))))) none)) none
theorem e_f17 (p0 p1 : Qad) (p2 p3 : Int) (p4 : List Int) : runF g_f17 QDK QQJ false [.t Qae p0, .t Qae p1, .t tI p2, .t tI p3, .t (.sl tI) p4] [] = r_f17 p0 p1 p2 p3 p4 := by kernel_rfl
theorem QRz : Qai Tryz.prog 17 := .inr ⟨by decide, _, Tryz.func17, by kernel_rfl, by kernel_rfl⟩
theorem gk_f17 : GOk Tryz.prog g_f17 := Qal _ (gA (gC QA8 QzB (gC QIV QHe (gC QRu QQ8 (gC en_f45 ms_f45 gN)))))
theorem QUh (x2 : Int) (x4 : List Int) (x12 : Int) (x13 : List Int) (x14 : Int) (y5 y6 : Qad) (y10 : Keep) (h : (Qbm y5 y6 0 0 x4 && decide (0 ≤ x14 ∧ x14 ≤ x13.length ∧ x13.length ≤ 100000)) = true) : Qmy x2 x4 x12 x13 x14 y5 y6 y10 = Qm0 x2 x4 x12 x13 x14 y5 y6 y10 := by
 simp only [Qbm, Bool.and_eq_true, decide_eq_true_eq] at h
 obtain ⟨⟨hr, ho⟩, h0, h1, h2⟩ := h
 obtain ⟨hc, hs⟩ := Bool.and_eq_true_iff.1 hr
 have hs' := Qa2 hs
 obtain ⟨k, rfl⟩ := Int.eq_ofNat_of_zero_le h0
 have hle : ∀ v w, posOk y6 x4 v w = true := fun _ _ => decide_eq_true ⟨hs'.2.2.1, hs'.2.1, ho⟩
 have hid : ∀ x, idnOk y6 x = true := fun x => decide_eq_true hs'.2.2.1
 refine Qas x13 (fun k => Qmy x2 x4 x12 x13 (k : Int) y5 y6 y10 = Qm0 x2 x4 x12 x13 (k : Int) y5 y6 y10) ?_ ?_ k (by omega)
 ·rw [QAc]
  simp only [Qsv, show ilt (x13.length : Int) (llen x13) = false from decide_eq_false (by simp only [llen]; omega), Qaf, Qm0, Int.toNat_natCast, List.drop_length, fstG]
  rfl
 ·intro k hk ih
  rw [QAc]
  simp only [Qsv, show ilt (k : Int) (llen x13) = true from decide_eq_true (by simp only [llen]; omega), Qaw, hk, decide_true, Qac, Int.toNat_natCast, add1 (show k < 4611686018427387904 by omega), QaE (y := tI) hk, ih, hle, hid]
  simp only [Qm0, Int.toNat_natCast, List.drop_eq_getElem_cons hk, overF, fstG]
  cases hp : posE y6 x4 x12 x13[k] with
  | true =>
   obtain ⟨g1, g2⟩ := Qx5 (d := x2) hc hs hp
   simp only [Bool.not_true, Qaf, if_true, Option.isSome_some, Qac, g1, List.getD_cons_zero]
   refine Eq.trans (congrArg (fun b => br b _ _) g2) ?_
   rw [Qac]
   show br (ine (pickE y5 y6 x2 x13[k]) 0) _ _ = _
   unfold pickF
   cases ine (pickE y5 y6 x2 x13[k]) 0 <;> rfl
  | false =>
   simp only [Bool.not_false, Qac, Bool.false_eq_true, if_false]
   cases hq : fstG (posE y6 x4 x12) (x13.drop (k + 1)) with
   | none => rfl
   | some j =>
    simp only [Option.map_some, Option.isSome_some, Qac, List.getD_cons_succ]
theorem QL8 : ∀ S l p, g_f17.L 0 (fgt QjC S) = some (true, l) → pickA l = some p → loopF (Qaj g_f17 QjC QlH) S = some p :=
 QaD (s := Qrt) ⟨by decide, by decide⟩ (by kernel_rfl) fun x y hok p hp => by
 simp only [Qar, Qao] at hp
 exact (QUh x.1 x.2.1 x.2.2.2.2.2.1 x.2.2.2.2.2.2.1 x.2.2.2.2.2.2.2.1 y.1 y.2.1 y.2.2.1 (by simpa using hok)).trans hp
theorem lk_f17 : QDK.lok g_f17 := by
 repeat (first | exact trivial | exact QL8 | refine ⟨?_, ?_⟩)
theorem s_f17 (c s : Qad) (d m : Int) (o : List Int) (h : Qbm c s d m o = true) : r_f17 c s d m o = some (.tu [.t Qah (withF c s d m o).1, .t tI (withF c s d m o).2], []) := by
 simp only [Qbm, Bool.and_eq_true, decide_eq_true_eq] at h
 obtain ⟨hr, ho⟩ := h
 obtain ⟨hc, hs⟩ := Bool.and_eq_true_iff.1 hr
 have hs' := Qa2 hs
 have hw : Qbm c s 0 0 o = true := Bool.and_eq_true_iff.2 ⟨hr, decide_eq_true ho⟩
 simp only [r_f17, hc, hs, hw, Qac, QjI, Bool.true_and, Int.toNat_zero, List.drop_zero]
 show _ = outKI (withF c s d m o)
 have hd : ∀ l : List Int, l.length ≤ 100000 → decide ((0 : Int) ≤ 0 ∧ (0 : Int) ≤ l.length ∧ l.length ≤ 100000) = true := fun l hl => decide_eq_true (by omega)
 have ho2 : ∀ l : List Int, br (fstG (posE s o (imn m s.2.2.1)) l).isSome (some (V.tu [.t Qah (overF c s (imn m s.2.2.1) d o l).1, .t tI (overF c s (imn m s.2.2.1) d o l).2], [])) (some (V.tu [.t Qah (0, (0, ())), .t tI 28], [])) = outKI (overF c s (imn m s.2.2.1) d o l) := fun l => by
  unfold overF
  cases fstG (posE s o (imn m s.2.2.1)) l <;> rfl
 unfold withF Qc5
 cases QaJ c with
 | false => rfl
 | true =>
  cases QaJ s with
  | false => rfl
  | true =>
   simp only [Bool.not_true, Qaf, Bool.and_self, cond_false]
   refine brT rfl <| brT rfl <| brT rfl <| brT rfl <| brT rfl <| brT rfl ?_
   cases hw : s.2.2.2.2.1 with
   | true =>
    rw [Qac, show outL s o = Qan s by unfold outL; rw [hw]; rfl]
    refine Eq.trans (congrArg (fun b => br b _ _) (hd _ hs'.2.1)) ?_
    exact ho2 _
   | false =>
    rw [Qaf, show outL s o = o by unfold outL; rw [hw]; rfl]
    refine Eq.trans (congrArg (fun b => br b _ _) (hd _ ho)) ?_
    exact ho2 _
def QEg : Ent := spec (.pr Qae (.pr Qae (.pr tI (.pr tI (.pr (.sl tI) .nil))))) (fun x => (Qbm x.1 x.2.1 x.2.2.1 x.2.2.2.1 x.2.2.2.2.1)) (fun x => (.tu [(.t Qah ((withF x.1 x.2.1 x.2.2.1 x.2.2.2.1 x.2.2.2.2.1).1)), (.t tI ((withF x.1 x.2.1 x.2.2.1 x.2.2.2.1 x.2.2.2.2.1).2))]))
theorem QRd : Meets Tryz.prog 17 (strip QEg) := Qag (R := runF g_f17 QDK QQJ false) (mG Tryz.func17 (by kernel_rfl) Tryz.ntmps17 (by kernel_rfl) gk_f17 lk_f17) fun x hok => (e_f17 x.1 x.2.1 x.2.2.1 x.2.2.2.1 x.2.2.2.2.1).trans (s_f17 x.1 x.2.1 x.2.2.1 x.2.2.2.1 x.2.2.2.2.1 hok)
def QbM (c s : Qad) (d : Int) : Keep × Int := withF c s d c.2.2.1 (Qan c)
def Qcd (c s : Qad) (_d : Int) : Bool := Qa8 c s
theorem Qcg {c : Qad} (h : QaJ c = true) : 1 ≤ c.2.1 ∧ c.2.1 ≤ c.2.2.1 ∧ c.2.2.1 ≤ 4 := by
 simp only [QaJ, Bool.and_eq_true, Bool.not_eq_true'] at h
 obtain ⟨_, h1, h2, h3, _⟩ := h
 have h1 := of_decide_eq_false h1
 have h2 := of_decide_eq_false h2
 have h3 := of_decide_eq_false h3
 omega
noncomputable def QDN : TC := (.sq (.reg (rT Tryz.f14 0)) (.sq (.sq (.reg (rT Tryz.f14 1)) (.cd (.t 11) (.sq (.reg (rT Tryz.f14 2)) .rt) .sk)) (.sq (.reg (rT Tryz.f14 3)) .rt)))
def QQM : List (RV × Option Ty) := [((.c 6 true 2), some Qah), ((.t 7), some tI)]
def g_f14 : G := ⟨TYs, [], 23, EL [(16, QEn), (37, Qy9)], keeps, (fun _ _ => none), IL [], RL []⟩
def r_f14 (p0 p1 : Qad) (p2 : Int) : Option (V × List VO) :=
 let a1 := withF p0 p1 p2 p0.2.2.1 p0.2.2.2.1
 br (Qa8 p0 p1) (br (!(Qc5 p0 p1)) (some (.tu [(.t Qah (0, (0, ()))), (.t tI 19)], [])) (br (Qbm p0 p1 p2 p0.2.2.1 p0.2.2.2.1) (some (.tu [(.t Qah (a1.1)), (.t tI (a1.2))], [])) none)) none
theorem e_f14 (p0 p1 : Qad) (p2 : Int) : runF g_f14 QDN QQM false [.t Qae p0, .t Qae p1, .t tI p2] [] = r_f14 p0 p1 p2 := by kernel_rfl
theorem QRB : Qai Tryz.prog 14 := .inr ⟨by decide, _, Tryz.func14, by kernel_rfl, by kernel_rfl⟩
theorem gk_f14 : GOk Tryz.prog g_f14 := Qal _ (gA (gC QRA QRe (gC QIX QHg gN)))
theorem lk_f14 : QDN.lok g_f14 := by repeat (first | exact trivial | refine ⟨?_, ?_⟩)
theorem s_f14 (c s : Qad) (d : Int) (h : Qcd c s d = true) : r_f14 c s d = some (.tu [.t Qah (QbM c s d).1, .t tI (QbM c s d).2], []) := by
 have hr : Qa8 c s = true := h
 have hw : Qbm c s d c.2.2.1 (Qan c) = true := Bool.and_eq_true_iff.2 ⟨h, decide_eq_true (Qa2 (Bool.and_eq_true_iff.1 h).1).2.1⟩
 simp only [r_f14, hr, hw, Qac]
 show _ = outKI (QbM c s d)
 unfold QbM withF
 cases Qc5 c s <;> rfl
def QEy : Ent := spec (.pr Qae (.pr Qae (.pr tI .nil))) (fun x => (Qcd x.1 x.2.1 x.2.2.1)) (fun x => (.tu [(.t Qah ((QbM x.1 x.2.1 x.2.2.1).1)), (.t tI ((QbM x.1 x.2.1 x.2.2.1).2))]))
theorem QRf : Meets Tryz.prog 14 (strip QEy) := Qag (R := runF g_f14 QDN QQM false) (mG Tryz.func14 (by kernel_rfl) Tryz.ntmps14 (by kernel_rfl) gk_f14 lk_f14) fun x hok => (e_f14 x.1 x.2.1 x.2.2.1).trans (s_f14 x.1 x.2.1 x.2.2.1 hok)
noncomputable def QDM : TC := (.sq (.reg (rT Tryz.f15 0)) (.sq (.reg (rT Tryz.f15 1)) .rt))
def QQL : List (RV × Option Ty) := [((.c 6 true 2), some Qah), ((.t 7), some tI)]
def g_f15 : G := ⟨TYs, [], 20, EL [(17, QEg)], keeps, (fun _ _ => none), IL [], RL []⟩
def r_f15 (p0 p1 : Qad) (p2 : Int) : Option (V × List VO) :=
 let a1 := withF p0 p1 p2 (imx 1 (imn 4 p0.2.2.1)) p0.2.2.2.1
 br (Qbm p0 p1 p2 (imx 1 (imn 4 p0.2.2.1)) p0.2.2.2.1) (some (.tu [(.t Qah (a1.1)), (.t tI (a1.2))], [])) none
theorem e_f15 (p0 p1 : Qad) (p2 : Int) : runF g_f15 QDM QQL false [.t Qae p0, .t Qae p1, .t tI p2] [] = r_f15 p0 p1 p2 := by kernel_rfl
theorem en_f15 : Qai Tryz.prog 15 := .inr ⟨by decide, _, Tryz.func15, by kernel_rfl, by kernel_rfl⟩
theorem gk_f15 : GOk Tryz.prog g_f15 := Qal _ (gA (gC QRz QRd gN))
theorem lk_f15 : QDM.lok g_f15 := by repeat (first | exact trivial | refine ⟨?_, ?_⟩)
theorem s_f15 (c s : Qad) (d : Int) (h : Qcd c s d = true) : r_f15 c s d = some (.tu [.t Qah (QbM c s d).1, .t tI (QbM c s d).2], []) := by
 have hr : Qa8 c s = true := h
 have hw : ∀ m, Qbm c s d m (Qan c) = true := fun m => Bool.and_eq_true_iff.2 ⟨h, decide_eq_true (Qa2 (Bool.and_eq_true_iff.1 h).1).2.1⟩
 simp only [r_f15, hw, Qac]
 show outKI (withF c s d (imx 1 (imn 4 c.2.2.1)) (Qan c)) = outKI (withF c s d c.2.2.1 (Qan c))
 cases hv : QaJ c with
 | true =>
  have := Qcg hv
  rw [show imx 1 (imn 4 c.2.2.1) = c.2.2.1 by simp only [imx, imn]; omega]
 | false =>
  have : Qc5 c s = false := by unfold Qc5; rw [hv]; rfl
  unfold withF
  rw [this]
  rfl
def QPz : Ent := spec (.pr Qae (.pr Qae (.pr tI .nil))) (fun x => (Qcd x.1 x.2.1 x.2.2.1)) (fun x => (.tu [(.t Qah ((QbM x.1 x.2.1 x.2.2.1).1)), (.t tI ((QbM x.1 x.2.1 x.2.2.1).2))]))
theorem ms_f15 : Meets Tryz.prog 15 (strip QPz) := Qag (R := runF g_f15 QDM QQL false) (mG Tryz.func15 (by kernel_rfl) Tryz.ntmps15 (by kernel_rfl) gk_f15 lk_f15) fun x hok => (e_f15 x.1 x.2.1 x.2.2.1).trans (s_f15 x.1 x.2.1 x.2.2.1 hok)
def usesL (e : Qad) (c : Int) : List Keep :=
 [bif ieq (Qay c).1.2.2.1.2.1 0 then ((Qay c).1.2.2.1.1, ((lgt Qam (eIds e) (QaQ e c).1.toNat).1.2.1, ())) else (Qay c).1.2.2.1, (lgt Qam (eIds e) (QaQ e c).1.toNat).1, (Qay c).1.2.2.2.2.1, (Qay c).1.2.2.2.2.2.1]
def usesF (e : Qad) (o : Keep) : List Keep × Int :=
 bif !QaJ e then ([], 19) else bif ine (Qay o.2.1).2 0 then ([], (Qay o.2.1).2) else bif !(QaQ e o.2.1).2 then ([], 4) else (usesL e o.2.1, 0)
def Qky (e : Qad) (_o : Keep) : Bool := QaS e
def outLI (p : List Keep × Int) : Option (V × List VO) := some (.tu [.t (.sl Qah) p.1, .t tI p.2], [])
theorem QCz {e : Qad} {c : Int} (h : (QaQ e c).2 = true) : cIx (eIds e) (QaQ e c).1 = true := by
 obtain ⟨k, hk, hl⟩ := QAo h
 rw [hk, Qaw]
 exact decide_eq_true hl
noncomputable def QDE : TC := (.sq (.reg (rT Tryz.f23 0)) (.sq (.sq (.reg (rT Tryz.f23 1)) (.sq (.reg (rT Tryz.f23 2)) (.cd (.t 15) (.sq (.reg (rT Tryz.f23 3)) .rt) .sk))) (.sq (.reg (rT Tryz.f23 4)) (.sq (.sq (.reg (rT Tryz.f23 5)) (.cd (.t 24) (.sq (.reg (rT Tryz.f23 6)) .rt) .sk)) (.sq (.reg (rT Tryz.f23 7)) (.sq (.sq (.reg (rT Tryz.f23 8)) (.cd (.t 34) (.sq (.reg (rT Tryz.f23 9)) .rt) .sk)) (.sq (.reg (rT Tryz.f23 10)) (.sq (.sq (.reg (rT Tryz.f23 11)) (.cd (.t 44) (.reg (rT Tryz.f23 12)) .sk)) (.sq (.reg (rT Tryz.f23 13)) .rt)))))))))
def QQD : List (RV × Option Ty) := [((.t 4), some (.sl Qah)), ((.t 5), some tI)]
def g_f23 : G := ⟨TYs, [], 57, EL [(21, Qtu), (48, Qto), (51, QD4)], keeps, (fun _ _ => none), IL [], RL []⟩
def r_f23 (p0 : Qad) (p1 : Keep) : Option (V × List VO) :=
 let a1 := ((lgt Qam p0.2.2.2.2.2.1 (Int.toNat ((QaQ p0 p1.2.1).1))).1)
 let a2 := ((((Qay p1.2.1).1).2).2)
 let a3 := (((((a2.2).2).2).1).1, ((((((a2.2).2).2).1).2).1, ()))
 let a4 := ((((a2.2).2).1).1, (((((a2.2).2).1).2).1, ()))
 let a5 := ((a1.2).1, ())
 br (QaS p0) (br (ine (QbZ p0) 0) (some (.tu [(.t (.sl Qah) ([] : List Keep)), (.t tI (QbZ p0))], [])) (br (ine ((Qay p1.2.1).2) 0) (some (.tu [(.t (.sl Qah) ([] : List Keep)), (.t tI ((Qay p1.2.1).2))], [])) (br (idnOk p0 p1.2.1) (br (!((QaQ p0 p1.2.1).2)) (some (.tu [(.t (.sl Qah) ([] : List Keep)), (.t tI 4)], [])) (br (cIx p0.2.2.2.2.2.1 ((QaQ p0 p1.2.1).1)) (br (ieq (((a2.1).2).1) 0) (some (.tu [(.t (.sl Qah) ([((a2.1).1, a5), (a1.1, a5), a4, a3])), (.t tI 0)], [])) (some (.tu [(.t (.sl Qah) ([((a2.1).1, (((a2.1).2).1, ())), (a1.1, a5), a4, a3])), (.t tI 0)], []))) none)) none))) none
theorem e_f23 (p0 : Qad) (p1 : Keep) : runF g_f23 QDE QQD false [.t Qae p0, .t Qah p1] [] = r_f23 p0 p1 := by kernel_rfl
theorem QRx : Qai Tryz.prog 23 := .inr ⟨by decide, _, Tryz.func23, by kernel_rfl, by kernel_rfl⟩
theorem gk_f23 : GOk Tryz.prog g_f23 := Qal _ (gA (gC QA9 QzC (gC QA6 Qzy (gC QRt QQ7 gN))))
theorem lk_f23 : QDE.lok g_f23 := by repeat (first | exact trivial | refine ⟨?_, ?_⟩)
theorem s_f23 (e : Qad) (o : Keep) (h : Qky e o = true) : r_f23 e o = some (.tu [.t (.sl Qah) (usesF e o).1, .t tI (usesF e o).2], []) := by
 have hr : QaS e = true := h
 have hid : ∀ x, idnOk e x = true := fun x => decide_eq_true (Qa2 hr).2.2.1
 simp only [r_f23, hr, hid, Qac, QjI]
 show _ = outLI (usesF e o)
 unfold usesF QbZ
 cases QaJ e with
 | false => rfl
 | true =>
  rw [Bool.not_true, Qaf, cond_false]
  cases ine (Qay o.2.1).2 0 with
  | true => rfl
  | false =>
   rw [Qaf, cond_false]
   cases hi : (QaQ e o.2.1).2 with
   | false => rfl
   | true =>
    rw [Bool.not_true, Qaf, cond_false]
    refine Eq.trans (congrArg (fun b => br b _ _) (QCz hi)) ?_
    rw [Qac]
    unfold usesL
    cases ieq (Qay o.2.1).1.2.2.1.2.1 0 <;> rfl
def QD8 : Ent := spec (.pr Qae (.pr Qah .nil)) (fun x => (Qky x.1 x.2.1)) (fun x => (.tu [(.t (.sl Qah) ((usesF x.1 x.2.1).1)), (.t tI ((usesF x.1 x.2.1).2))]))
theorem QRb : Meets Tryz.prog 23 (strip QD8) := Qag (R := runF g_f23 QDE QQD false) (mG Tryz.func23 (by kernel_rfl) Tryz.ntmps23 (by kernel_rfl) gk_f23 lk_f23) fun x hok => (e_f23 x.1 x.2.1).trans (s_f23 x.1 x.2.1 hok)
noncomputable def QDD : TC := (.sq (.reg (rT Tryz.f24 0)) (.sq (.sq (.reg (rT Tryz.f24 1)) (.cd (.t 13) (.sq (.reg (rT Tryz.f24 2)) .rt) .sk)) (.sq (.reg (rT Tryz.f24 3)) (.sq (.sq (.reg (rT Tryz.f24 4)) (.cd (.t 21) (.sq (.reg (rT Tryz.f24 5)) .rt) .sk)) (.sq (.reg (rT Tryz.f24 6)) (.sq (.sq (.reg (rT Tryz.f24 7)) (.cd (.t 31) (.sq (.reg (rT Tryz.f24 8)) .rt) .sk)) (.sq (.reg (rT Tryz.f24 9)) (.sq (.sq (.reg (rT Tryz.f24 10)) (.cd (.t 41) (.reg (rT Tryz.f24 11)) .sk)) (.sq (.reg (rT Tryz.f24 12)) .rt)))))))))
def QQC : List (RV × Option Ty) := [((.t 4), some (.sl Qah)), ((.t 5), some tI)]
def g_f24 : G := ⟨TYs, [], 54, EL [(22, Qtt), (26, QpW), (43, Qy8)], keeps, (fun _ _ => none), IL [], RL []⟩
def r_f24 (p0 : Qad) (p1 : Keep) : Option (V × List VO) :=
 let a1 := ((lgt Qam p0.2.2.2.2.2.1 (Int.toNat ((QaQ p0 p1.2.1).1))).1)
 let a2 := ((((Qay p1.2.1).1).2).2)
 let a3 := (((((a2.2).2).2).1).1, ((((((a2.2).2).2).1).2).1, ()))
 let a4 := ((((a2.2).2).1).1, (((((a2.2).2).1).2).1, ()))
 let a5 := ((a1.2).1, ())
 br (QaS p0) (br (ine (QbZ p0) 0) (some (.tu [(.t (.sl Qah) ([] : List Keep)), (.t tI 19)], [])) (br (ine ((Qay p1.2.1).2) 0) (some (.tu [(.t (.sl Qah) ([] : List Keep)), (.t tI ((Qay p1.2.1).2))], [])) (br (idnOk p0 p1.2.1) (br (!((QaQ p0 p1.2.1).2)) (some (.tu [(.t (.sl Qah) ([] : List Keep)), (.t tI 4)], [])) (br (cIx p0.2.2.2.2.2.1 ((QaQ p0 p1.2.1).1)) (br (ieq (((a2.1).2).1) 0) (some (.tu [(.t (.sl Qah) ([((a2.1).1, a5), (a1.1, a5), a4, a3])), (.t tI 0)], [])) (some (.tu [(.t (.sl Qah) ([((a2.1).1, (((a2.1).2).1, ())), (a1.1, a5), a4, a3])), (.t tI 0)], []))) none)) none))) none
theorem e_f24 (p0 : Qad) (p1 : Keep) : runF g_f24 QDD QQC false [.t Qae p0, .t Qah p1] [] = r_f24 p0 p1 := by kernel_rfl
theorem en_f24 : Qai Tryz.prog 24 := .inr ⟨by decide, _, Tryz.func24, by kernel_rfl, by kernel_rfl⟩
theorem gk_f24 : GOk Tryz.prog g_f24 := Qal _ (gA (gC QA8 QzB (gC QvH QuW (gC QIV QHe gN))))
theorem lk_f24 : QDD.lok g_f24 := by repeat (first | exact trivial | refine ⟨?_, ?_⟩)
theorem s_f24 (e : Qad) (o : Keep) (h : Qky e o = true) : r_f24 e o = some (.tu [.t (.sl Qah) (usesF e o).1, .t tI (usesF e o).2], []) := by
 have hr : QaS e = true := h
 have hid : ∀ x, idnOk e x = true := fun x => decide_eq_true (Qa2 hr).2.2.1
 simp only [r_f24, hr, hid, Qac, QjI]
 show _ = outLI (usesF e o)
 unfold usesF
 cases QaJ e with
 | false => rfl
 | true =>
  rw [Bool.not_true, Qaf, cond_false]
  cases ine (Qay o.2.1).2 0 with
  | true => rfl
  | false =>
   rw [Qaf, cond_false]
   cases hi : (QaQ e o.2.1).2 with
   | false => rfl
   | true =>
    rw [Bool.not_true, Qaf, cond_false]
    refine Eq.trans (congrArg (fun b => br b _ _) (QCz hi)) ?_
    rw [Qac]
    unfold usesL
    cases ieq (Qay o.2.1).1.2.2.1.2.1 0 <;> rfl
def QPw : Ent := spec (.pr Qae (.pr Qah .nil)) (fun x => (Qky x.1 x.2.1)) (fun x => (.tu [(.t (.sl Qah) ((usesF x.1 x.2.1).1)), (.t tI ((usesF x.1 x.2.1).2))]))
theorem ms_f24 : Meets Tryz.prog 24 (strip QPw) := Qag (R := runF g_f24 QDD QQC false) (mG Tryz.func24 (by kernel_rfl) Tryz.ntmps24 (by kernel_rfl) gk_f24 lk_f24) fun x hok => (e_f24 x.1 x.2.1).trans (s_f24 x.1 x.2.1 hok)
end
end Go.Proofs.YtkngeegkjhipeaaGreat.K
