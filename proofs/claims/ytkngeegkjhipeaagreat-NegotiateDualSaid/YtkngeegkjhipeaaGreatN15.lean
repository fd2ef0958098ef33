import Derived.Test.YtkngeegkjhipeaaGreatN14
set_option linter.unusedSimpArgs false
set_option linter.unusedVariables false
namespace Go.Proofs.YtkngeegkjhipeaaGreat.K
open Go.RowKit
noncomputable section
def okPos (l : List Int) (t : Talk) : Bool := decide (l.length ≤ 100000) && lenEE (tkE t) (tkO t)
def ixPos (l : List Int) (t : Talk) : Int := match fstG (possF t) l with | some k => (k : Int) | none => -1
def Qc0 : Fg := ⟨[(0, some (.sl tI)), (1, none), (7, some tI), (8, some tI)], []⟩
noncomputable def Qeb : TC := (.sq (.reg (rT Tryz.f40 2)) (.sq (.cd (.t 9) .sk (.fg ⟨[], []⟩ (.ex 0))) (.sq (.bk 1 (.sq (.reg (rT Tryz.f40 3)) (.sq (.reg (rT Tryz.f40 4)) (.cd (.t 16) (.sq (.reg (rT Tryz.f40 5)) (.fg ⟨[(4, some tI)], []⟩ .rt)) .sk)))) (.reg (rT Tryz.f40 6)))))
noncomputable def QlK : TC := (.sq (.reg (rT Tryz.f40 0)) (.sq (.sq (.reg (rT Tryz.f40 1)) (.bk 0 (.lp 0 Qc0 Qeb))) (.sq (.reg (rT Tryz.f40 7)) .rt)))
def QrW : List (RV × Option Ty) := [((.t 4), some tI)]
abbrev QgL : Sh := ⟨[(0, .ty (.sl tI)), (1, .bf 41 QdU), (7, .ty tI), (8, .ty tI)], []⟩
def QgG (x0 : List Int) (x1 : Talk) (x7 x8 : Int) : VS := QgL.st (x0, x1, x7, x8, ()) ()
abbrev Qmh : Sh := ⟨[(4, .ty tI)], []⟩
def QbU (x4 : Int) : VS := Qmh.st (x4, ()) ()
abbrev QnV : Sh := ⟨[], []⟩
def Qcg  : VS := QnV.st () ()
def Qzb : VS → Option (Bool × List (Bool × Exit × VS)) := mkL QgL (fun x y => (rngOk x.1 x.2.2.1 x.2.2.2.1 && okPos x.1 x.2.1)) (fun x y => [(((fstG (possF x.2.1) (x.1.drop x.2.2.2.1.toNat)).isSome), .ret, QbU (x.2.2.2.1 + ((fstG (possF x.2.1) (x.1.drop x.2.2.2.1.toNat)).getD 0 : Nat))), (true, .exit 0, Qcg)])
def QdI : G := ⟨TYs, [], 19, EL [(41, QAB)], keeps, (Ls [Qzb]), IL [], RL []⟩
def Qov (x0 : List Int) (x1 : Talk) (x7 x8 : Int) : Option (Exit × VS) :=
 let a1 := lgt tI x0 (Int.toNat x8)
 br (ilt x8 x7) (br (cIx x0 x8) (br (Qdy x1 a1) (br (possF x1 a1) (some (.ret, QbU x8)) (some (.normal, QgG x0 x1 x7 (iadd .i64 x8 1)))) none) none) (some (.exit 0, Qcg))
noncomputable def QeJ (x0 : List Int) (x1 : Talk) (x7 x8 : Int) : Option (Exit × VS) := loopF (Qaj QdI Qc0 Qeb) (QgG x0 x1 x7 x8)
noncomputable def Qgc (x0 : List Int) (x1 : Talk) (x7 x8 : Int) : Option (Exit × VS) :=
 let a1 := lgt tI x0 (Int.toNat x8)
 br (ilt x8 x7) (br (cIx x0 x8) (br (Qdy x1 a1) (br (possF x1 a1) (some (.ret, QbU x8)) (QeJ x0 x1 x7 (iadd .i64 x8 1))) none) none) (some (.exit 0, Qcg))
def QeO (x0 : List Int) (x1 : Talk) (x7 x8 : Int) : Option (Exit × VS) :=
 let a1 := fstG (possF x1) (x0.drop x8.toNat)
 br (a1.isSome) (some (.ret, QbU (x8 + (a1.getD 0 : Nat)))) <| some (.exit 0, Qcg)
theorem Qv0 (x0 : List Int) (x1 : Talk) (x7 x8 : Int) : Qaj QdI Qc0 Qeb (QgG x0 x1 x7 x8) = Qov x0 x1 x7 x8 := by kernel_rfl
theorem Qnd (x0 : List Int) (x1 : Talk) (x7 x8 : Int) : QeJ x0 x1 x7 x8 = Qgc x0 x1 x7 x8 := (Qaq _ _).trans (by
 rw [Qv0]
 simp only [Qov, Qgc, QaE, nxt_n, nxt_r, nxt_e, nxt_0]
 rfl)
def QpH (p0 : List Int) (p1 : Talk) : Option (V × List VO) :=
 let a1 := (fstG (possF p1) (p0.drop (0 : Int).toNat))
 br (rngOk p0 (llen p0) (0 : Int) && okPos p0 p1) (br (a1.isSome) (some (.t tI ((0 : Int) + (a1.getD 0 : Nat)), [])) (some (.t tI (-1), []))) none
theorem QJi (p0 : List Int) (p1 : Talk) : runF QdI QlK QrW false [.t (.sl tI) p0, .fn 1000041 [(.t QdU p1)]] [] = QpH p0 p1 := by kernel_rfl
theorem QFj : Qag Tryz.prog 40 := .inr ⟨by decide, _, Tryz.func40, by kernel_rfl, by kernel_rfl⟩
theorem QEY : GOk Tryz.prog QdI := Qan _ (gA (gC QMV QME gN))
theorem QyL (x0 : List Int) (x1 : Talk) (x7 x8 : Int) (h : (rngOk x0 x7 x8 && okPos x0 x1) = true) : QeJ x0 x1 x7 x8 = QeO x0 x1 x7 x8 := by
 simp only [Bool.and_eq_true, okPos] at h
 obtain ⟨h0, _, hc⟩ := h
 obtain ⟨rfl, h3, k, rfl, hk⟩ := rng_k h0
 clear h0
 refine Qav x0 (fun k => QeJ x0 x1 (x0.length : Int) (k : Int) = QeO x0 x1 (x0.length : Int) (k : Int)) ?_ ?_ k hk
 ·rw [Qnd]
  simp [Qgc, QeO, Qaz, Qae, fstG]
 ·intro k hk ih
  rw [Qnd]
  have hx : Qdy x1 x0[k] = true := hc
  simp only [Qgc, Qaz, Qay, hk, decide_true, Qac, Int.toNat_natCast, add1 (show k < 4611686018427387904 by omega), ih, QaG (y := tI) hk, hx]
  simp only [QeO, Int.toNat_natCast, List.drop_eq_getElem_cons hk, fstG]
  cases h : possF x1 x0[k] with
  | true => simp [Qac]
  | false =>
   simp only [Qae, Bool.false_eq_true, if_false]
   cases hq : fstG (possF x1) (x0.drop (k + 1)) with
   | none => rfl
   | some j =>
    simp only [Option.map_some, Option.isSome_some, Option.getD_some, Qac]
    congr 3
    omega
theorem Qvs : ∀ S l p, QdI.L 0 (fgt Qc0 S) = some (true, l) → pickA l = some p → loopF (Qaj QdI Qc0 Qeb) S = some p :=
 QaF (s := QgL) ⟨by decide, by decide⟩ (by kernel_rfl) fun x y hok p hp => by
 simp only [Qas, Qap] at hp
 exact (QyL x.1 x.2.1 x.2.2.1 x.2.2.2.1 (by simpa using hok)).trans hp
theorem QEs : QlK.lok QdI := by
 repeat (first | exact trivial | exact Qvs | refine ⟨?_, ?_⟩)
theorem QHt (l : List Int) (t : Talk) (h : okPos l t = true) : QpH l t = some (.t tI (ixPos l t), []) := by
 have hl : l.length ≤ 100000 := of_decide_eq_true (Bool.and_eq_true_iff.1 h).1
 simp only [QpH, rng_0 hl, h, Bool.and_self, Qac, Int.toNat_zero, List.drop_zero, ixPos]
 cases fstG (possF t) l <;> simp [Qac, Qae]
def Qq7 : Ent := specB [.ty (.sl tI), .bf 41 QdU] [] (fun x y => (okPos x.1 x.2.1)) (fun x y => (.t tI (ixPos x.1 x.2.1))) (fun x y => [])
theorem QDC : Meets Tryz.prog 40 (strip Qq7) := Qb8 (QaI (R := runF QdI QlK QrW false) (mG Tryz.func40 (by kernel_rfl) Tryz.ntmps40 (by kernel_rfl) QEY QEs) fun x y hok => (QJi x.1 x.2.1).trans (QHt x.1 x.2.1 hok))
abbrev zK : Keep := (0, (0, ()))
abbrev Qvz (s : Qad) (x : Int) : List Qaa := (lgt Qak (eIds s) (QaS s x).1.toNat).2.2.1
def pickE (c s : Qad) (d x : Int) : Int := chkCh (Qvz s x) (eAnch c) (eHash c) d s.1
def pickF (c s : Qad) (v d x : Int) : Keep × Int := bif ine (pickE c s d x) 0 then (zK, 29) else ((v, (x, ())), 0)
def overF (c s : Qad) (v d : Int) (o l : List Int) : Keep × Int := match fstG (posE s o v) l with | none => (zK, 28) | some k => pickF c s v d (l.getD k 0)
abbrev outL (s : Qad) (o : List Int) : List Int := bif s.2.2.2.2.1 then Qao s else o
def withF (c s : Qad) (d m : Int) (o : List Int) : Keep × Int :=
 bif !Qcx c s then (zK, 19) else bif ilt d 0 then (zK, 2) else bif igt d 40000 then (zK, 2) else bif ilt m 1 then (zK, 2) else bif igt m 4 then (zK, 2) else
 bif ilt (imn m s.2.2.1) c.2.1 then (zK, 27) else bif ilt (imn m s.2.2.1) s.2.1 then (zK, 27) else overF c s (imn m s.2.2.1) d o (outL s o)
def QqM (c s : Qad) (_d _m : Int) (o : List Int) : Bool := Qcu c s && decide (o.length ≤ 100000)
theorem Qbk {e : Qad} (h : Qbw e = true) : nameG e.1 = true ∧ (Qao e).length ≤ 100000 ∧ (eIds e).length ≤ 100000 ∧ (eAnch e).length ≤ 100000 ∧ (eHash e).length ≤ 100000 ∧ (eIds e).all idLen = true := by
 simp only [Qbw, Bool.and_eq_true, decide_eq_true_eq] at h
 exact ⟨h.1.1, h.1.2.1, h.1.2.2.1, h.1.2.2.2.1, h.1.2.2.2.2, h.2⟩
theorem Qw0 {e : Qad} {c : Int} (h : (QaS e c).2 = true) : ∃ k, (QaS e c).1 = ((k : Nat) : Int) ∧ k < (eIds e).length := by
 unfold QaS ixAlg at h ⊢
 cases hi : ine (QaA c).2 0 with
 | true => rw [hi] at h; cases h
 | false =>
  rw [hi] at h
  cases hq : fstG (fun x => idAlg x (QaA c).1) (eIds e) with
  | none => rw [hq] at h; cases h
  | some k => exact ⟨k, rfl, (Qfx hq).1⟩
theorem QDa {e : Qad} {o : List Int} {v c : Int} (h : posE e o v c = true) : (QaS e c).2 = true := by
 simp only [posE, Bool.and_eq_true] at h
 exact h.2.2.2.2.2
theorem QDc {c s : Qad} {d v x : Int} {o : List Int} (hc : Qbw c = true) (hs : Qbw s = true) (h : posE s o v x = true) : cIx (eIds s) (QaS s x).1 = true ∧ Qg0 (Qvz s x) (eAnch c) (eHash c) d s.1 = true := by
 obtain ⟨k, hk, hl⟩ := Qw0 (QDa h)
 obtain ⟨_, _, _, h4, h5, _⟩ := Qbk hc
 have h6 := (Qbk hs).2.2.2.2.2
 unfold Qvz
 rw [hk, Qay, Int.toNat_natCast, QaG (y := Qak) hl]
 refine ⟨decide_eq_true hl, ?_⟩
 have := List.all_eq_true.1 h6 _ (List.getElem_mem hl)
 simp only [Qg0, Bool.and_eq_true, decide_eq_true_eq]
 exact ⟨this, h4, h5⟩
theorem QvD {e : Qad} {o l : List Int} {v : Int} {k : Nat} (h : fstG (posE e o v) l = some k) : k < l.length ∧ posE e o v (l.getD k 0) = true := by
 obtain ⟨q, h1⟩ := Qfx h
 refine ⟨q, ?_⟩
 rw [List.getD_eq_getElem?_getD, List.getElem?_eq_getElem q, Option.getD_some]
 exact h1
theorem eEta (p1 : Qad) : (p1.1, (p1.2.1, (p1.2.2.1, (p1.2.2.2.1, (p1.2.2.2.2.1, (p1.2.2.2.2.2.1, (p1.2.2.2.2.2.2.1, (p1.2.2.2.2.2.2.2.1, (p1.2.2.2.2.2.2.2.2.1, ()))))))))) = p1 := rfl
def outKI (p : Keep × Int) : Option (V × List VO) := some (.tu [.t Qam p.1, .t tI p.2], [])
theorem brT {a : Bool} {X Y : Option (V × List VO)} {x y : Keep × Int} (hx : X = outKI x) (hy : Y = outKI y) : br a X Y = outKI (bif a then x else y) := by
 cases a
 ·exact hy
 ·exact hx
noncomputable def QJB : List DO := dT Tryz.f16 15
noncomputable def QJA : List DO := dT Tryz.f16 16
noncomputable def QJz : List DO := dT Tryz.f16 18
noncomputable def QAh : TC := (.sq (.reg (rT Tryz.f16 0)) (.sq (.bk 0 (.sq (.reg (rT Tryz.f16 1)) (.cd (.t 18) (.sq (.reg (rT Tryz.f16 2)) .rt) (.sq (.reg (rT Tryz.f16 3)) (.cd (.t 24) (.sq (.reg (rT Tryz.f16 4)) .rt) .sk))))) (.sq (.reg (rT Tryz.f16 5)) (.sq (.sq (.reg (rT Tryz.f16 6)) (.cd (.t 58) (.sq (.reg (rT Tryz.f16 7)) .rt) .sk)) (.sq (.reg (rT Tryz.f16 8)) (.sq (.sq (.reg (rT Tryz.f16 9)) (.cd (.t 63) (.reg (rT Tryz.f16 10)) .sk)) (.sq (.reg (rT Tryz.f16 11)) (.sq (.reg (rT Tryz.f16 12)) (.sq (.sq (.reg (rT Tryz.f16 13)) (.cd (.t 73) (.sq (.reg (rT Tryz.f16 14)) .rt) .sk)) (.sq (.dr QJB [(0, [6]), (1, []), (2, []), (3, []), (4, []), (5, []), (6, []), (7, []), (8, []), (9, []), (10, [])] (.of [0, 1, 2, 3, 4, 5, 6, 7, 8, 9, 10])) (.sq (.sq (.dr QJA [(0, [6]), (1, [6]), (2, []), (3, []), (4, []), (5, []), (6, [5]), (7, [5]), (8, [5]), (9, [5]), (10, []), (11, [6]), (12, [6]), (13, []), (14, [])] (.of [0, 1, 2, 3, 4, 5, 6, 7, 8, 9, 10, 11, 12, 13, 14])) (.cd (.t 98) (.sq (.reg (rT Tryz.f16 17)) .rt) .sk)) (.sq (.dr QJz [(0, [12]), (1, [12]), (2, []), (3, []), (4, []), (5, []), (6, []), (7, [10]), (8, [])] (.of [0, 1, 2, 3, 4, 5, 6, 7, 8])) .rt))))))))))))
def QMg : List (RV × Option Ty) := [((.c 10 true 2), some Qam), ((.t 11), some tI)]
def g_f16 : G := ⟨TYs, [], 107, EL [(21, Qq9), (37, Qv6), (38, QK7), (39, QK6), (40, Qq7), (42, QK5)], keeps, (fun _ _ => none), IL [], RL []⟩
def r_f16 (p0 p1 : Qad) (p2 p3 : Int) (p4 : List Int) : Option (V × List VO) :=
 let a6 := imn p3 p1.2.2.1
 let a1 := ((p1.1, (p1.2.1, (p1.2.2.1, (p1.2.2.2.1, (p1.2.2.2.2.1, (p1.2.2.2.2.2.1, (p1.2.2.2.2.2.2.1, (p1.2.2.2.2.2.2.2.1, (p1.2.2.2.2.2.2.2.2.1, ()))))))))), (a6, (p4, ())))
 let a7 := ixPos (QdA a1) a1
 let a2 := lgt tI (QdA a1) (Int.toNat a7)
 let a8 := ixPos (Qfj a1) a1
 let a3 := lgt tI (Qfj a1) (Int.toNat a8)
 let a4 := ((((lgt Qak p1.2.2.2.2.2.1 (Int.toNat ((QaS p1 a3).1))).2).2).1)
 let a5 := ((((lgt Qak p1.2.2.2.2.2.1 (Int.toNat ((QaS p1 a2).1))).2).2).1)
 br (Qcu p0 p1) (br (!(Qcx p0 p1)) (some (.tu [(.t Qam (0, (0, ()))), (.t tI 19)], [])) (br (ilt p2 0) (some (.tu [(.t Qam (0, (0, ()))), (.t tI 2)], [])) (br (igt p2 40000) (some (.tu [(.t Qam (0, (0, ()))), (.t tI 2)], [])) (br (ilt p3 1) (some (.tu [(.t Qam (0, (0, ()))), (.t tI 2)], [])) (br (igt p3 4) (some (.tu [(.t Qam (0, (0, ()))), (.t tI 2)], [])) (br (ilt a6 p0.2.1) (some (.tu [(.t Qam (0, (0, ()))), (.t tI 27)], [])) (br (ilt a6 p1.2.1) (some (.tu [(.t Qam (0, (0, ()))), (.t tI 27)], [])) (br (p1.2.2.2.2.1) (br (okPos (Qfj a1) a1) (br (ilt a8 0) (some (.tu [(.t Qam (0, (0, ()))), (.t tI 28)], [])) (br (cIx (Qfj a1) a8) (br (idnOk p1 a3) (br (cIx p1.2.2.2.2.2.1 ((QaS p1 a3).1)) (br (Qg0 a4 p0.2.2.2.2.2.2.1 p0.2.2.2.2.2.2.2.1 p2 p1.1) (br (ine (chkCh a4 p0.2.2.2.2.2.2.1 p0.2.2.2.2.2.2.2.1 p2 p1.1) 0) (some (.tu [(.t Qam (0, (0, ()))), (.t tI 29)], [])) (br (cIx (Qfj a1) a8) (some (.tu [(.t Qam (a6, (a3, ()))), (.t tI 0)], [])) none)) none) none) none) none)) none) (br (okPos (QdA a1) a1) (br (ilt a7 0) (some (.tu [(.t Qam (0, (0, ()))), (.t tI 28)], [])) (br (cIx (QdA a1) a7) (br (idnOk p1 a2) (br (cIx p1.2.2.2.2.2.1 ((QaS p1 a2).1)) (br (Qg0 a5 p0.2.2.2.2.2.2.1 p0.2.2.2.2.2.2.2.1 p2 p1.1) (br (ine (chkCh a5 p0.2.2.2.2.2.2.1 p0.2.2.2.2.2.2.2.1 p2 p1.1) 0) (some (.tu [(.t Qam (0, (0, ()))), (.t tI 29)], [])) (br (cIx (QdA a1) a7) (some (.tu [(.t Qam (a6, (a2, ()))), (.t tI 0)], [])) none)) none) none) none) none)) none))))))))) none
theorem e_f16 (p0 p1 : Qad) (p2 p3 : Int) (p4 : List Int) : runF g_f16 QAh QMg false [.t Qai p0, .t Qai p1, .t tI p2, .t tI p3, .t (.sl tI) p4] [] = r_f16 p0 p1 p2 p3 p4 := by kernel_rfl
theorem en_f16 : Qag Tryz.prog 16 := .inr ⟨by decide, _, Tryz.func16, by kernel_rfl, by kernel_rfl⟩
theorem gk_f16 : GOk Tryz.prog g_f16 := Qan _ (gA (gC QxH Qww (gC QFk QDD (gC en_f38 ms_f38 (gC en_f39 ms_f39 (gC QFj QDC (gC en_f42 ms_f42 gN)))))))
theorem lk_f16 : QAh.lok g_f16 := by repeat (first | exact trivial | refine ⟨?_, ?_⟩)
theorem s_f16 (c s : Qad) (d m : Int) (o : List Int) (h : QqM c s d m o = true) : r_f16 c s d m o = some (.tu [.t Qam (withF c s d m o).1, .t tI (withF c s d m o).2], []) := by
 simp only [QqM, Bool.and_eq_true, decide_eq_true_eq] at h
 obtain ⟨hr, ho⟩ := h
 obtain ⟨hc, hs⟩ := Bool.and_eq_true_iff.1 hr
 have hs' := Qbk hs
 have hle : lenEE s o = true := decide_eq_true ⟨hs'.2.2.1, hs'.2.1, ho⟩
 have hid : ∀ x, idnOk s x = true := fun x => decide_eq_true hs'.2.2.1
 have hb1 : ∀ v, okPos (Qao s) (s, (v, (o, ()))) = true := fun v => Bool.and_eq_true_iff.2 ⟨decide_eq_true hs'.2.1, hle⟩
 have hb2 : ∀ v, okPos o (s, (v, (o, ()))) = true := fun v => Bool.and_eq_true_iff.2 ⟨decide_eq_true ho, hle⟩
 have hp : ∀ v, possF (s, (v, (o, ()))) = posE s o v := fun v => rfl
 simp only [r_f16, eEta, Qfj, QdA, tkE, tkO, hr, Qac, hb1, hb2, hid, ixPos, hp]
 show _ = outKI (withF c s d m o)
 have hg : ∀ (l : List Int) (k : Nat), lgt tI l k = l.getD k 0 := fun _ _ => rfl
 unfold withF
 refine brT rfl <| brT rfl <| brT rfl <| brT rfl <| brT rfl <| brT rfl <| brT rfl ?_
 cases hw : s.2.2.2.2.1 with
 | true =>
  rw [Qac]
  rw [show outL s o = Qao s by unfold outL; rw [hw]; rfl]
  unfold overF
  cases hq : fstG (posE s o (imn m s.2.2.1)) (Qao s) with
  | none => rfl
  | some k =>
   obtain ⟨hk, hp⟩ := QvD hq
   obtain ⟨h1, h2⟩ := QDc (d := d) hc hs hp
   simp only [show ilt (k : Int) 0 = false from decide_eq_false (by omega), Qae, Qay, hk, decide_true, Qac, Int.toNat_natCast, hg, h1]
   refine Eq.trans (congrArg (fun b => br b _ _) h2) ?_
   rw [Qac]
   exact brT rfl rfl
 | false =>
  rw [Qae]
  rw [show outL s o = o by unfold outL; rw [hw]; rfl]
  unfold overF
  cases hq : fstG (posE s o (imn m s.2.2.1)) (o) with
  | none => rfl
  | some k =>
   obtain ⟨hk, hp⟩ := QvD hq
   obtain ⟨h1, h2⟩ := QDc (d := d) hc hs hp
   simp only [show ilt (k : Int) 0 = false from decide_eq_false (by omega), Qae, Qay, hk, decide_true, Qac, Int.toNat_natCast, hg, h1]
   refine Eq.trans (congrArg (fun b => br b _ _) h2) ?_
   rw [Qac]
   exact brT rfl rfl
def QLh : Ent := spec (.pr Qai (.pr Qai (.pr tI (.pr tI (.pr (.sl tI) .nil))))) (fun x => (QqM x.1 x.2.1 x.2.2.1 x.2.2.2.1 x.2.2.2.2.1)) (fun x => (.tu [(.t Qam ((withF x.1 x.2.1 x.2.2.1 x.2.2.2.1 x.2.2.2.2.1).1)), (.t tI ((withF x.1 x.2.1 x.2.2.1 x.2.2.2.1 x.2.2.2.2.1).2))]))
theorem ms_f16 : Meets Tryz.prog 16 (strip QLh) := Qaf (R := runF g_f16 QAh QMg false) (mG Tryz.func16 (by kernel_rfl) Tryz.ntmps16 (by kernel_rfl) gk_f16 lk_f16) fun x hok => (e_f16 x.1 x.2.1 x.2.2.1 x.2.2.2.1 x.2.2.2.2.1).trans (s_f16 x.1 x.2.1 x.2.2.1 x.2.2.2.1 x.2.2.2.2.1 hok)
def QaU (c s : Qad) (d : Int) : Keep × Int := withF c s d c.2.2.1 (Qao c)
def QeV (c s : Qad) (_d : Int) : Bool := Qcu c s
theorem QbG {c : Qad} (h : QaO c = true) : 1 ≤ c.2.1 ∧ c.2.1 ≤ c.2.2.1 ∧ c.2.2.1 ≤ 4 := by
 simp only [QaO, Bool.and_eq_true, Bool.not_eq_true'] at h
 obtain ⟨_, h1, h2, h3, _⟩ := h
 have h1 := of_decide_eq_false h1
 have h2 := of_decide_eq_false h2
 have h3 := of_decide_eq_false h3
 omega
noncomputable def QAi : TC := (.sq (.reg (rT Tryz.f14 0)) (.sq (.sq (.reg (rT Tryz.f14 1)) (.cd (.t 11) (.sq (.reg (rT Tryz.f14 2)) .rt) .sk)) (.sq (.reg (rT Tryz.f14 3)) .rt)))
def QMh : List (RV × Option Ty) := [((.c 6 true 2), some Qam), ((.t 7), some tI)]
def g_f14 : G := ⟨TYs, [], 23, EL [(16, QLh), (37, Qv6)], keeps, (fun _ _ => none), IL [], RL []⟩
def r_f14 (p0 p1 : Qad) (p2 : Int) : Option (V × List VO) :=
 let a1 := withF p0 p1 p2 p0.2.2.1 p0.2.2.2.1
 br (Qcu p0 p1) (br (!(Qcx p0 p1)) (some (.tu [(.t Qam (0, (0, ()))), (.t tI 19)], [])) (br (QqM p0 p1 p2 p0.2.2.1 p0.2.2.2.1) (some (.tu [(.t Qam (a1.1)), (.t tI (a1.2))], [])) none)) none
theorem e_f14 (p0 p1 : Qad) (p2 : Int) : runF g_f14 QAi QMh false [.t Qai p0, .t Qai p1, .t tI p2] [] = r_f14 p0 p1 p2 := by kernel_rfl
theorem QMX : Qag Tryz.prog 14 := .inr ⟨by decide, _, Tryz.func14, by kernel_rfl, by kernel_rfl⟩
theorem gk_f14 : GOk Tryz.prog g_f14 := Qan _ (gA (gC en_f16 ms_f16 (gC QFk QDD gN)))
theorem lk_f14 : QAi.lok g_f14 := by repeat (first | exact trivial | refine ⟨?_, ?_⟩)
theorem s_f14 (c s : Qad) (d : Int) (h : QeV c s d = true) : r_f14 c s d = some (.tu [.t Qam (QaU c s d).1, .t tI (QaU c s d).2], []) := by
 have hr : Qcu c s = true := h
 have hw : QqM c s d c.2.2.1 (Qao c) = true := Bool.and_eq_true_iff.2 ⟨h, decide_eq_true (Qbk (Bool.and_eq_true_iff.1 h).1).2.1⟩
 simp only [r_f14, hr, hw, Qac]
 show _ = outKI (QaU c s d)
 unfold QaU withF
 cases Qcx c s <;> rfl
def QAY : Ent := spec (.pr Qai (.pr Qai (.pr tI .nil))) (fun x => (QeV x.1 x.2.1 x.2.2.1)) (fun x => (.tu [(.t Qam ((QaU x.1 x.2.1 x.2.2.1).1)), (.t tI ((QaU x.1 x.2.1 x.2.2.1).2))]))
theorem QMF : Meets Tryz.prog 14 (strip QAY) := Qaf (R := runF g_f14 QAi QMh false) (mG Tryz.func14 (by kernel_rfl) Tryz.ntmps14 (by kernel_rfl) gk_f14 lk_f14) fun x hok => (e_f14 x.1 x.2.1 x.2.2.1).trans (s_f14 x.1 x.2.1 x.2.2.1 hok)
def usesL (e : Qad) (c : Int) : List Keep :=
 [bif ieq (QaA c).1.2.2.1.2.1 0 then ((QaA c).1.2.2.1.1, ((lgt Qak (eIds e) (QaS e c).1.toNat).1.2.1, ())) else (QaA c).1.2.2.1, (lgt Qak (eIds e) (QaS e c).1.toNat).1, (QaA c).1.2.2.2.2.1, (QaA c).1.2.2.2.2.2.1]
def usesF (e : Qad) (o : Keep) : List Keep × Int :=
 bif !QaO e then ([], 19) else bif ine (QaA o.2.1).2 0 then ([], (QaA o.2.1).2) else bif !(QaS e o.2.1).2 then ([], 4) else (usesL e o.2.1, 0)
def Qzh (e : Qad) (_o : Keep) : Bool := Qbw e
def outLI (p : List Keep × Int) : Option (V × List VO) := some (.tu [.t (.sl Qam) p.1, .t tI p.2], [])
theorem QM6 {e : Qad} {c : Int} (h : (QaS e c).2 = true) : cIx (eIds e) (QaS e c).1 = true := by
 obtain ⟨k, hk, hl⟩ := Qw0 h
 rw [hk, Qay]
 exact decide_eq_true hl
noncomputable def QAe : TC := (.sq (.reg (rT Tryz.f23 0)) (.sq (.sq (.reg (rT Tryz.f23 1)) (.sq (.reg (rT Tryz.f23 2)) (.cd (.t 15) (.sq (.reg (rT Tryz.f23 3)) .rt) .sk))) (.sq (.reg (rT Tryz.f23 4)) (.sq (.sq (.reg (rT Tryz.f23 5)) (.cd (.t 24) (.sq (.reg (rT Tryz.f23 6)) .rt) .sk)) (.sq (.reg (rT Tryz.f23 7)) (.sq (.sq (.reg (rT Tryz.f23 8)) (.cd (.t 34) (.sq (.reg (rT Tryz.f23 9)) .rt) .sk)) (.sq (.reg (rT Tryz.f23 10)) (.sq (.sq (.reg (rT Tryz.f23 11)) (.cd (.t 44) (.reg (rT Tryz.f23 12)) .sk)) (.sq (.reg (rT Tryz.f23 13)) .rt)))))))))
def QMd : List (RV × Option Ty) := [((.t 4), some (.sl Qam)), ((.t 5), some tI)]
def g_f23 : G := ⟨TYs, [], 57, EL [(21, Qq9), (48, Qq5), (51, QAA)], keeps, (fun _ _ => none), IL [], RL []⟩
def r_f23 (p0 : Qad) (p1 : Keep) : Option (V × List VO) :=
 let a1 := ((lgt Qak p0.2.2.2.2.2.1 (Int.toNat ((QaS p0 p1.2.1).1))).1)
 let a2 := ((((QaA p1.2.1).1).2).2)
 let a3 := (((((a2.2).2).2).1).1, ((((((a2.2).2).2).1).2).1, ()))
 let a4 := ((((a2.2).2).1).1, (((((a2.2).2).1).2).1, ()))
 let a5 := ((a1.2).1, ())
 br (Qbw p0) (br (ine (Qe6 p0) 0) (some (.tu [(.t (.sl Qam) ([] : List Keep)), (.t tI (Qe6 p0))], [])) (br (ine ((QaA p1.2.1).2) 0) (some (.tu [(.t (.sl Qam) ([] : List Keep)), (.t tI ((QaA p1.2.1).2))], [])) (br (idnOk p0 p1.2.1) (br (!((QaS p0 p1.2.1).2)) (some (.tu [(.t (.sl Qam) ([] : List Keep)), (.t tI 4)], [])) (br (cIx p0.2.2.2.2.2.1 ((QaS p0 p1.2.1).1)) (br (ieq (((a2.1).2).1) 0) (some (.tu [(.t (.sl Qam) ([((a2.1).1, a5), (a1.1, a5), a4, a3])), (.t tI 0)], [])) (some (.tu [(.t (.sl Qam) ([((a2.1).1, (((a2.1).2).1, ())), (a1.1, a5), a4, a3])), (.t tI 0)], []))) none)) none))) none
theorem e_f23 (p0 : Qad) (p1 : Keep) : runF g_f23 QAe QMd false [.t Qai p0, .t Qam p1] [] = r_f23 p0 p1 := by kernel_rfl
theorem en_f23 : Qag Tryz.prog 23 := .inr ⟨by decide, _, Tryz.func23, by kernel_rfl, by kernel_rfl⟩
theorem gk_f23 : GOk Tryz.prog g_f23 := Qan _ (gA (gC QxH Qww (gC QxF Qwu (gC QMU QMD gN))))
theorem lk_f23 : QAe.lok g_f23 := by repeat (first | exact trivial | refine ⟨?_, ?_⟩)
theorem s_f23 (e : Qad) (o : Keep) (h : Qzh e o = true) : r_f23 e o = some (.tu [.t (.sl Qam) (usesF e o).1, .t tI (usesF e o).2], []) := by
 have hr : Qbw e = true := h
 have hid : ∀ x, idnOk e x = true := fun x => decide_eq_true (Qbk hr).2.2.1
 simp only [r_f23, hr, hid, Qac, QFS]
 show _ = outLI (usesF e o)
 unfold usesF Qe6
 cases QaO e with
 | false => rfl
 | true =>
  rw [Bool.not_true, Qae, cond_false]
  cases ine (QaA o.2.1).2 0 with
  | true => rfl
  | false =>
   rw [Qae, cond_false]
   cases hi : (QaS e o.2.1).2 with
   | false => rfl
   | true =>
    rw [Bool.not_true, Qae, cond_false]
    refine Eq.trans (congrArg (fun b => br b _ _) (QM6 hi)) ?_
    rw [Qac]
    unfold usesL
    cases ieq (QaA o.2.1).1.2.2.1.2.1 0 <;> rfl
def QLf : Ent := spec (.pr Qai (.pr Qam .nil)) (fun x => (Qzh x.1 x.2.1)) (fun x => (.tu [(.t (.sl Qam) ((usesF x.1 x.2.1).1)), (.t tI ((usesF x.1 x.2.1).2))]))
theorem ms_f23 : Meets Tryz.prog 23 (strip QLf) := Qaf (R := runF g_f23 QAe QMd false) (mG Tryz.func23 (by kernel_rfl) Tryz.ntmps23 (by kernel_rfl) gk_f23 lk_f23) fun x hok => (e_f23 x.1 x.2.1).trans (s_f23 x.1 x.2.1 hok)
end
end Go.Proofs.YtkngeegkjhipeaaGreat.K
