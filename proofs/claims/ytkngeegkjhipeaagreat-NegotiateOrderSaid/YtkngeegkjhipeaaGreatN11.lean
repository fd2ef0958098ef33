import Derived.Test.YtkngeegkjhipeaaGreatN10
set_option linter.unusedSimpArgs false
set_option linter.unusedVariables false
namespace Go.Proofs.YtkngeegkjhipeaaGreat.K
open Go.RowKit
noncomputable section
theorem QuB {c : Int} (h : ieq (QaC c).2 0 = true) : 1 ≤ c ∧ c ≤ 16 := by
 unfold QaC at h
 split at h
 ·simp [ieq] at h
 ·omega
theorem Qi9 {l : List Int} (h : suitF l = true) : ∀ (k : Nat) (hk : k < l.length), (1 ≤ l[k] ∧ l[k] ≤ 16) ∧ ¬ l[k] ∈ l.take k := by
 intro k hk
 simp only [suitF, QeZ, List.all_eq_true, List.mem_range'_1, Bool.and_eq_true, Bool.not_eq_true'] at h
 obtain ⟨h1, h2⟩ := h k ⟨by omega, by omega⟩
 simp only [List.getD_eq_getElem?_getD, List.getElem?_eq_getElem hk, Option.getD_some] at h1 h2
 refine ⟨QuB h1, fun hm => ?_⟩
 simp only [hasF] at h2
 rw [List.contains_iff_mem.2 hm] at h2
 cases h2
theorem Qi8 {l : List Int} (h : suitF l = true) : l.Nodup := by
 have h2 := Qi9 h
 rw [List.nodup_iff_pairwise_ne, List.pairwise_iff_getElem]
 intro i j hi hj hij he
 refine (h2 j hj).2 ?_
 rw [← he]
 exact List.mem_iff_getElem.2 ⟨i, by rw [List.length_take]; omega, by rw [List.getElem_take]⟩
theorem QHN {l : List Int} (h : suitF l = true) : l.length ≤ 16 := by
 have h1 := Qi8 h
 have h2 := Qi9 h
 have h3 : l ⊆ [1, 2, 3, 4, 5, 6, 7, 8, 9, 10, 11, 12, 13, 14, 15, 16] := by
  intro x hx
  obtain ⟨k, hk, rfl⟩ := List.mem_iff_getElem.1 hx
  have := (h2 k hk).1
  simp only [List.mem_cons, List.not_mem_nil, or_false]
  omega
 exact h1.length_le_of_subset h3
abbrev Qak (e : Qad) : List Int := e.2.2.2.1
abbrev eIds (e : Qad) : List Qal := e.2.2.2.2.2.1
abbrev eAnch (e : Qad) : List Int := e.2.2.2.2.2.2.1
abbrev eHash (e : Qad) : List Int := e.2.2.2.2.2.2.2.1
def idOk (x : Qal) : Bool := Qgw x.1 x.2.1 x.2.2.1
def idLen (x : Qal) : Bool := QaJ x.2.2.1
def Qa2 (e : Qad) : Bool := nameG e.1 && decide ((Qak e).length ≤ 100000 ∧ (eIds e).length ≤ 100000 ∧ (eAnch e).length ≤ 100000 ∧ (eHash e).length ≤ 100000) && (eIds e).all idLen
def QaM (e : Qad) : Bool :=
 wordF e.1 && (!ilt e.2.1 1 && (!igt e.2.1 e.2.2.1 && (!igt e.2.2.1 4 && (suitF (Qak e) && (!igt (llen (eIds e)) 4 && (!igt (llen (eAnch e)) 16 && (ascF (eAnch e) && (ascF (eHash e) && ((eIds e).all idOk && ((eAnch e).all keyI && (eHash e).all hashF))))))))))
def Qe6 (e : Qad) : Int := bif QaM e then 0 else 19
theorem QGA (e : Qad) : ieq (Qe6 e) 0 = QaM e := by
 unfold Qe6
 cases QaM e <;> rfl
theorem QGz (e : Qad) : ine (Qe6 e) 0 = !QaM e := by
 unfold Qe6
 cases QaM e <;> rfl
noncomputable def QJ7 : List DO := dT Tryz.f51 12
def QiC : Fg := ⟨[(1, none), (56, some (.sl Qam)), (57, some tI), (58, some tI)], [(1, some Qah)]⟩
noncomputable def Qkl : TC := (.sq (.reg (rT Tryz.f51 6)) (.sq (.cd (.t 59) .sk (.fg ⟨[(1, none)], [(1, some Qah)]⟩ (.ex 0))) (.sq (.bk 1 (.sq (.reg (rT Tryz.f51 7)) (.sq (.reg (rT Tryz.f51 8)) (.cd (.t 69) (.sq (.reg (rT Tryz.f51 9)) (.fg ⟨[(2, some tI)], []⟩ .rt)) .sk)))) (.reg (rT Tryz.f51 10)))))
noncomputable def QAz : TC := (.sq (.reg (rT Tryz.f51 0)) (.sq (.sq (.reg (rT Tryz.f51 1)) (.cd (.t 32) (.sq (.reg (rT Tryz.f51 2)) .rt) .sk)) (.sq (.sq (.reg (rT Tryz.f51 3)) (.cd (.t 54) (.sq (.reg (rT Tryz.f51 4)) .rt) .sk)) (.sq (.sq (.reg (rT Tryz.f51 5)) (.bk 0 (.lp 0 QiC Qkl))) (.sq (.reg (rT Tryz.f51 11)) (.sq (.sq (.dr QJ7 [(0, [1]), (1, [1]), (2, []), (3, [74, 5074, 10074, 15074]), (4, [74, 75, 5074, 5075, 10074, 10075, 15074, 15075]), (5, []), (6, [1]), (7, [1]), (8, []), (9, [80, 5080, 10080, 15080]), (10, [80, 81, 5080, 5081, 10080, 10081, 15080, 15081]), (11, [])] (.of [0, 1, 2, 3, 4, 5, 6, 7, 8, 9, 10, 11])) (.cd (.t 82) (.sq (.reg (rT Tryz.f51 13)) .rt) .sk)) (.sq (.reg (rT Tryz.f51 14)) .rt)))))))
def QMB : List (RV × Option Ty) := [((.t 2), some tI)]
abbrev Qpr : Sh := ⟨[(1, .ptr 1 0), (56, .ty (.sl Qam)), (57, .ty tI), (58, .ty tI)], [(1, .box Qah)]⟩
def Qo2 (x56 : List Qal) (x57 x58 : Int) (y1 : Qad) : VS := Qpr.st ((), x56, x57, x58, ()) (y1, ())
abbrev QrC : Sh := ⟨[(2, .ty tI)], []⟩
def Qda (x2 : Int) : VS := QrC.st (x2, ()) ()
abbrev Qu5 : Sh := ⟨[(1, .ptr 1 0)], [(1, .box Qah)]⟩
def Qem (y1 : Qad) : VS := Qu5.st ((), ()) (y1, ())
def QSf : VS → Option (Bool × List (Bool × Exit × VS)) := mkL Qpr (fun x y => (rngOk x.2.1 x.2.2.1 x.2.2.2.1 && x.2.1.all idLen)) (fun x y => [((!(x.2.1.drop x.2.2.2.1.toNat).all idOk), .ret, Qda (19)), (true, .exit 0, Qem (y.1))])
def g_f51 : G := ⟨TYs, [], 83, EL [(75, QLv), (76, QLu), (77, QLt), (78, QLs), (79, Qrh), (79, Qri), (81, QjB), (81, QjA)], keeps, (Ls [QSf]), IL [], RL []⟩
def QHj (x56 : List Qal) (x57 x58 : Int) (y1 : Qad) : Option (Exit × VS) :=
 let a1 := lgt Qam x56 (Int.toNat x58)
 br (ilt x58 x57) (br (cIx x56 x58) (br (Qmm (a1.1) ((a1.2).1) (((a1.2).2).1)) (br (!(Qgw (a1.1) ((a1.2).1) (((a1.2).2).1))) (some (.ret, Qda 19)) (some (.normal, Qo2 x56 x57 (iadd .i64 x58 1) y1))) none) none) (some (.exit 0, Qem y1))
noncomputable def Qk4 (x56 : List Qal) (x57 x58 : Int) (y1 : Qad) : Option (Exit × VS) := loopF (Qaj g_f51 QiC Qkl) (Qo2 x56 x57 x58 y1)
noncomputable def Qql (x56 : List Qal) (x57 x58 : Int) (y1 : Qad) : Option (Exit × VS) :=
 let a1 := lgt Qam x56 (Int.toNat x58)
 br (ilt x58 x57) (br (cIx x56 x58) (br (Qmm (a1.1) ((a1.2).1) (((a1.2).2).1)) (br (!(Qgw (a1.1) ((a1.2).1) (((a1.2).2).1))) (some (.ret, Qda 19)) (Qk4 x56 x57 (iadd .i64 x58 1) y1)) none) none) (some (.exit 0, Qem y1))
def Qlk (x56 : List Qal) (x57 x58 : Int) (y1 : Qad) : Option (Exit × VS) := br (!(x56.drop x58.toNat).all idOk) (some (.ret, Qda (19))) <| some (.exit 0, Qem (y1))
theorem QKC (x56 : List Qal) (x57 x58 : Int) (y1 : Qad) : Qaj g_f51 QiC Qkl (Qo2 x56 x57 x58 y1) = QHj x56 x57 x58 y1 := by kernel_rfl
theorem Qxk (x56 : List Qal) (x57 x58 : Int) (y1 : Qad) : Qk4 x56 x57 x58 y1 = Qql x56 x57 x58 y1 := (Qaq _ _).trans (by
 rw [QKC]
 simp only [QHj, Qql, QaE, nxt_n, nxt_r, nxt_e, nxt_0]
 rfl)
def r_f51 (p0 : Qad) : Option (V × List VO) :=
 let a1 := (((((((p0).2).2).2).2).2).2)
 br (nameG p0.1) (br (!(wordF p0.1)) (some (.t tI 19, [])) (br (ilt p0.2.1 1) (some (.t tI 19, [])) (br (igt p0.2.1 p0.2.2.1) (some (.t tI 19, [])) (br (igt p0.2.2.1 4) (some (.t tI 19, [])) (br (Qa8 p0.2.2.2.1) (br (!(suitF p0.2.2.2.1)) (some (.t tI 19, [])) (br (igt (llen p0.2.2.2.2.2.1) 4) (some (.t tI 19, [])) (br (igt (llen p0.2.2.2.2.2.2.1) 16) (some (.t tI 19, [])) (br (Qa8 p0.2.2.2.2.2.2.1) (br (!(ascF p0.2.2.2.2.2.2.1)) (some (.t tI 19, [])) (br (Qa8 p0.2.2.2.2.2.2.2.1) (br (!(ascF p0.2.2.2.2.2.2.2.1)) (some (.t tI 19, [])) (br (rngOk p0.2.2.2.2.2.1 (llen p0.2.2.2.2.2.1) (0 : Int) && p0.2.2.2.2.2.1.all idLen) (br (!(p0.2.2.2.2.2.1.drop (0 : Int).toNat).all idOk) (some (.t tI (19), [])) (br (Qa8 (a1.1)) (br (Qn3 (a1.1)) (some (.t tI 19, [])) (br (Qa8 ((a1.2).1)) (br (Qg3 ((a1.2).1)) (some (.t tI 19, [])) (some (.t tI 0, []))) none)) none)) none)) none)) none)))) none))))) none
theorem e_f51 (p0 : Qad) : runF g_f51 QAz QMB false [.t Qah p0] [] = r_f51 p0 := by kernel_rfl
theorem QNF : Qag Tryz.prog 51 := .inr ⟨by decide, _, Tryz.func51, by kernel_rfl, by kernel_rfl⟩
theorem gk_f51 : GOk Tryz.prog g_f51 := Qao _ (gA (gC en_f75 ms_f75 (gC en_f76 ms_f76 (gC en_f77 ms_f77 (gC en_f78 ms_f78 (gC QFT QEa (gC QFU QEb (gC Qtp QsE (gC Qto QsD gN)))))))))
theorem QP7 (x56 : List Qal) (x57 x58 : Int) (y1 : Qad) (h : (rngOk x56 x57 x58 && x56.all idLen) = true) : Qk4 x56 x57 x58 y1 = Qlk x56 x57 x58 y1 := by
 simp only [Bool.and_eq_true, List.all_eq_true] at h
 obtain ⟨h0, hc⟩ := h
 obtain ⟨rfl, h3, k, rfl, hk⟩ := rng_k h0
 clear h0
 refine Qav x56 (fun k => Qk4 x56 (x56.length : Int) (k : Int) y1 = Qlk x56 (x56.length : Int) (k : Int) y1) ?_ ?_ k hk
 ·rw [Qxk]
  simp only [Qql, Qlk, Qaz, Nat.lt_irrefl, decide_false, Qae, Int.toNat_natCast, List.drop_length, List.all_nil, Bool.not_true]
 ·intro k hk ih
  rw [Qxk]
  have hx : Qmm x56[k].1 x56[k].2.1 x56[k].2.2.1 = true := hc x56[k] (List.getElem_mem hk)
  simp only [Qql, Qaz, Qay, hk, decide_true, Qac, Int.toNat_natCast, add1 (show k < 4611686018427387904 by omega), QaG (y := Qam) hk, hx, ih]
  simp only [Qlk, Int.toNat_natCast, List.drop_eq_getElem_cons hk, List.all_cons, idOk]
  cases Qgw x56[k].1 x56[k].2.1 x56[k].2.2.1 <;> rfl
theorem QIJ : ∀ S l p, g_f51.L 0 (fgt QiC S) = some (true, l) → pickA l = some p → loopF (Qaj g_f51 QiC Qkl) S = some p :=
 QaF (s := Qpr) ⟨by decide, by decide⟩ (by kernel_rfl) fun x y hok p hp => by
 simp only [Qar, Qap] at hp
 exact (QP7 x.2.1 x.2.2.1 x.2.2.2.1 y.1 (by simpa using hok)).trans hp
theorem lk_f51 : QAz.lok g_f51 := by
 repeat (first | exact trivial | exact QIJ | refine ⟨?_, ?_⟩)
theorem s_f51 (e : Qad) (h : Qa2 e = true) : r_f51 e = some (.t tI (Qe6 e), []) := by
 simp only [Qa2, Bool.and_eq_true, decide_eq_true_eq] at h
 obtain ⟨⟨h1, h2, h3, h4, h5⟩, h6⟩ := h
 have q2 : Qa8 (Qak e) = true := decide_eq_true h2
 have q4 : Qa8 (eAnch e) = true := decide_eq_true h4
 have q5 : Qa8 (eHash e) = true := decide_eq_true h5
 unfold Qe6
 simp only [r_f51, h1, q2, q4, q5, rng_0 h3, h6, Bool.and_self, Qac, Int.toNat_zero, List.drop_zero, Qn3, Qg3]
 refine br9 (fun g => by simp only [Bool.not_eq_true'] at g; simp [QaM, g]) fun g1 => br9 (fun g => by simp [QaM, g]) fun g2 => br9 (fun g => by simp [QaM, g]) fun g3 => br9 (fun g => by simp [QaM, g]) fun g4 => br9 (fun g => by simp only [Bool.not_eq_true'] at g; simp [QaM, g]) fun g5 => br9 (fun g => by simp [QaM, g]) fun g6 => br9 (fun g => by simp [QaM, g]) fun g7 => br9 (fun g => by simp only [Bool.not_eq_true'] at g; simp [QaM, g]) fun g8 => br9 (fun g => by simp only [Bool.not_eq_true'] at g; simp [QaM, g]) fun g9 => br9 (fun g => by simp only [Bool.not_eq_true'] at g; simp [QaM, g]) fun g10 => br9 (fun g => by simp only [Bool.not_eq_true'] at g; simp [QaM, g]) fun g11 => br9 (fun g => by simp only [Bool.not_eq_true'] at g; simp [QaM, g]) fun g12 => ?_
 simp only [Bool.not_eq_false'] at g1 g5 g8 g9 g10 g11 g12
 have : QaM e = true := by
  simp only [QaM, g1, g2, g3, g4, g5, g6, g7, g8, g9, g10, g11, g12, Bool.not_false, Bool.and_self]
 rw [this]
 rfl
def QBf : Ent := spec (.pr Qah .nil) (fun x => (Qa2 x.1)) (fun x => (.t tI (Qe6 x.1)))
theorem QNm : Meets Tryz.prog 51 (strip QBf) := Qaf (R := runF g_f51 QAz QMB false) (mG Tryz.func51 (by kernel_rfl) Tryz.ntmps51 (by kernel_rfl) gk_f51 lk_f51) fun x hok => (e_f51 x.1).trans (s_f51 x.1 hok)
end
end Go.Proofs.YtkngeegkjhipeaaGreat.K
