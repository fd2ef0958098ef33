import Derived.Test.YtkngeegkjhipeaaGreatN10
set_option linter.unusedSimpArgs false
set_option linter.unusedVariables false
namespace Go.Proofs.YtkngeegkjhipeaaGreat.K
open Go.RowKit
noncomputable section
theorem QwO {c : Int} (h : ieq (Qay c).2 0 = true) : 1 ≤ c ∧ c ≤ 16 := by
 unfold Qay at h
 split at h
 ·simp [ieq] at h
 ·omega
theorem Qj3 {l : List Int} (h : suitF l = true) : ∀ (k : Nat) (hk : k < l.length), (1 ≤ l[k] ∧ l[k] ≤ 16) ∧ ¬ l[k] ∈ l.take k := by
 intro k hk
 simp only [suitF, Qdl, List.all_eq_true, List.mem_range'_1, Bool.and_eq_true, Bool.not_eq_true'] at h
 obtain ⟨h1, h2⟩ := h k ⟨by omega, by omega⟩
 simp only [List.getD_eq_getElem?_getD, List.getElem?_eq_getElem hk, Option.getD_some] at h1 h2
 refine ⟨QwO h1, fun hm => ?_⟩
 simp only [hasF] at h2
 rw [List.contains_iff_mem.2 hm] at h2
 cases h2
theorem QpR {l : List Int} (h : suitF l = true) : l.Nodup := by
 have h2 := Qj3 h
 rw [List.nodup_iff_pairwise_ne, List.pairwise_iff_getElem]
 intro i j hi hj hij he
 refine (h2 j hj).2 ?_
 rw [← he]
 exact List.mem_iff_getElem.2 ⟨i, by rw [List.length_take]; omega, by rw [List.getElem_take]⟩
theorem Qy4 {l : List Int} (h : suitF l = true) : l.length ≤ 16 := by
 have h1 := QpR h
 have h2 := Qj3 h
 have h3 : l ⊆ [1, 2, 3, 4, 5, 6, 7, 8, 9, 10, 11, 12, 13, 14, 15, 16] := by
  intro x hx
  obtain ⟨k, hk, rfl⟩ := List.mem_iff_getElem.1 hx
  have := (h2 k hk).1
  simp only [List.mem_cons, List.not_mem_nil, or_false]
  omega
 exact h1.length_le_of_subset h3
abbrev Qan (e : Qad) : List Int := e.2.2.2.1
abbrev eIds (e : Qad) : List Qaq := e.2.2.2.2.2.1
abbrev eAnch (e : Qad) : List Int := e.2.2.2.2.2.2.1
abbrev eHash (e : Qad) : List Int := e.2.2.2.2.2.2.2.1
def idOk (x : Qaq) : Bool := Qej x.1 x.2.1 x.2.2.1
def idLen (x : Qaq) : Bool := QaI x.2.2.1
def QaS (e : Qad) : Bool := nameG e.1 && decide ((Qan e).length ≤ 100000 ∧ (eIds e).length ≤ 100000 ∧ (eAnch e).length ≤ 100000 ∧ (eHash e).length ≤ 100000) && (eIds e).all idLen
def QaJ (e : Qad) : Bool :=
 wordF e.1 && (!ilt e.2.1 1 && (!igt e.2.1 e.2.2.1 && (!igt e.2.2.1 4 && (suitF (Qan e) && (!igt (llen (eIds e)) 4 && (!igt (llen (eAnch e)) 16 && (ascF (eAnch e) && (ascF (eHash e) && ((eIds e).all idOk && ((eAnch e).all keyI && (eHash e).all hashF))))))))))
def QbZ (e : Qad) : Int := bif QaJ e then 0 else 19
theorem QJv (e : Qad) : ieq (QbZ e) 0 = QaJ e := by
 unfold QbZ
 cases QaJ e <;> rfl
theorem QjI (e : Qad) : ine (QbZ e) 0 = !QaJ e := by
 unfold QbZ
 cases QaJ e <;> rfl
noncomputable def QNn : List DO := dT Tryz.f51 12
def Qji : Fg := ⟨[(1, none), (56, some (.sl Qam)), (57, some tI), (58, some tI)], [(1, some Qae)]⟩
noncomputable def Qln : TC := (.sq (.reg (rT Tryz.f51 6)) (.sq (.cd (.t 59) .sk (.fg ⟨[(1, none)], [(1, some Qae)]⟩ (.ex 0))) (.sq (.bk 1 (.sq (.reg (rT Tryz.f51 7)) (.sq (.reg (rT Tryz.f51 8)) (.cd (.t 69) (.sq (.reg (rT Tryz.f51 9)) (.fg ⟨[(2, some tI)], []⟩ .rt)) .sk)))) (.reg (rT Tryz.f51 10)))))
noncomputable def QDh : TC := (.sq (.reg (rT Tryz.f51 0)) (.sq (.sq (.reg (rT Tryz.f51 1)) (.cd (.t 32) (.sq (.reg (rT Tryz.f51 2)) .rt) .sk)) (.sq (.sq (.reg (rT Tryz.f51 3)) (.cd (.t 54) (.sq (.reg (rT Tryz.f51 4)) .rt) .sk)) (.sq (.sq (.reg (rT Tryz.f51 5)) (.bk 0 (.lp 0 Qji Qln))) (.sq (.reg (rT Tryz.f51 11)) (.sq (.sq (.dr QNn [(0, [1]), (1, [1]), (2, []), (3, [74, 5074, 10074, 15074]), (4, [74, 75, 5074, 5075, 10074, 10075, 15074, 15075]), (5, []), (6, [1]), (7, [1]), (8, []), (9, [80, 5080, 10080, 15080]), (10, [80, 81, 5080, 5081, 10080, 10081, 15080, 15081]), (11, [])] (.of [0, 1, 2, 3, 4, 5, 6, 7, 8, 9, 10, 11])) (.cd (.t 82) (.sq (.reg (rT Tryz.f51 13)) .rt) .sk)) (.sq (.reg (rT Tryz.f51 14)) .rt)))))))
def QQg : List (RV × Option Ty) := [((.t 2), some tI)]
abbrev Qq9 : Sh := ⟨[(1, .ptr 1 0), (56, .ty (.sl Qam)), (57, .ty tI), (58, .ty tI)], [(1, .box Qae)]⟩
def QqB (x56 : List Qaq) (x57 x58 : Int) (y1 : Qad) : VS := Qq9.st ((), x56, x57, x58, ()) (y1, ())
abbrev QtJ : Sh := ⟨[(2, .ty tI)], []⟩
def Qdv (x2 : Int) : VS := QtJ.st (x2, ()) ()
abbrev Qxj : Sh := ⟨[(1, .ptr 1 0)], [(1, .box Qae)]⟩
def QeO (y1 : Qad) : VS := Qxj.st ((), ()) (y1, ())
def QWd : VS → Option (Bool × List (Bool × Exit × VS)) := mkL Qq9 (fun x y => (rngOk x.2.1 x.2.2.1 x.2.2.2.1 && x.2.1.all idLen)) (fun x y => [((!(x.2.1.drop x.2.2.2.1.toNat).all idOk), .ret, Qdv (19)), (true, .exit 0, QeO (y.1))])
def g_f51 : G := ⟨TYs, [], 83, EL [(75, QO5), (76, QO4), (77, QO3), (78, QO2), (79, Qti), (79, Qtj), (81, QkB), (81, QkA)], keeps, (Ls [QWd]), IL [], RL []⟩
def QKh (x56 : List Qaq) (x57 x58 : Int) (y1 : Qad) : Option (Exit × VS) :=
 let a1 := lgt Qam x56 (Int.toNat x58)
 br (ilt x58 x57) (br (cIx x56 x58) (br (Qeb (a1.1) ((a1.2).1) (((a1.2).2).1)) (br (!(Qej (a1.1) ((a1.2).1) (((a1.2).2).1))) (some (.ret, Qdv 19)) (some (.normal, QqB x56 x57 (iadd .i64 x58 1) y1))) none) none) (some (.exit 0, QeO y1))
noncomputable def Qmk (x56 : List Qaq) (x57 x58 : Int) (y1 : Qad) : Option (Exit × VS) := loopF (Qaj g_f51 Qji Qln) (QqB x56 x57 x58 y1)
noncomputable def Qse (x56 : List Qaq) (x57 x58 : Int) (y1 : Qad) : Option (Exit × VS) :=
 let a1 := lgt Qam x56 (Int.toNat x58)
 br (ilt x58 x57) (br (cIx x56 x58) (br (Qeb (a1.1) ((a1.2).1) (((a1.2).2).1)) (br (!(Qej (a1.1) ((a1.2).1) (((a1.2).2).1))) (some (.ret, Qdv 19)) (Qmk x56 x57 (iadd .i64 x58 1) y1)) none) none) (some (.exit 0, QeO y1))
def QmL (x56 : List Qaq) (x57 x58 : Int) (y1 : Qad) : Option (Exit × VS) := br (!(x56.drop x58.toNat).all idOk) (some (.ret, Qdv (19))) <| some (.exit 0, QeO (y1))
theorem QN2 (x56 : List Qaq) (x57 x58 : Int) (y1 : Qad) : Qaj g_f51 Qji Qln (QqB x56 x57 x58 y1) = QKh x56 x57 x58 y1 := by kernel_rfl
theorem QzT (x56 : List Qaq) (x57 x58 : Int) (y1 : Qad) : Qmk x56 x57 x58 y1 = Qse x56 x57 x58 y1 := (Qap _ _).trans (by
 rw [QN2]
 simp only [QKh, Qse, QaB, nxt_n, nxt_r, nxt_e, nxt_0]
 rfl)
def r_f51 (p0 : Qad) : Option (V × List VO) :=
 let a1 := (((((((p0).2).2).2).2).2).2)
 br (nameG p0.1) (br (!(wordF p0.1)) (some (.t tI 19, [])) (br (ilt p0.2.1 1) (some (.t tI 19, [])) (br (igt p0.2.1 p0.2.2.1) (some (.t tI 19, [])) (br (igt p0.2.2.1 4) (some (.t tI 19, [])) (br (Qbe p0.2.2.2.1) (br (!(suitF p0.2.2.2.1)) (some (.t tI 19, [])) (br (igt (llen p0.2.2.2.2.2.1) 4) (some (.t tI 19, [])) (br (igt (llen p0.2.2.2.2.2.2.1) 16) (some (.t tI 19, [])) (br (Qbe p0.2.2.2.2.2.2.1) (br (!(ascF p0.2.2.2.2.2.2.1)) (some (.t tI 19, [])) (br (Qbe p0.2.2.2.2.2.2.2.1) (br (!(ascF p0.2.2.2.2.2.2.2.1)) (some (.t tI 19, [])) (br (rngOk p0.2.2.2.2.2.1 (llen p0.2.2.2.2.2.1) (0 : Int) && p0.2.2.2.2.2.1.all idLen) (br (!(p0.2.2.2.2.2.1.drop (0 : Int).toNat).all idOk) (some (.t tI (19), [])) (br (Qbe (a1.1)) (br (Qpy (a1.1)) (some (.t tI 19, [])) (br (Qbe ((a1.2).1)) (br (QhD ((a1.2).1)) (some (.t tI 19, [])) (some (.t tI 0, []))) none)) none)) none)) none)) none)))) none))))) none
theorem e_f51 (p0 : Qad) : runF g_f51 QDh QQg false [.t Qae p0] [] = r_f51 p0 := by kernel_rfl
theorem QRt : Qai Tryz.prog 51 := .inr ⟨by decide, _, Tryz.func51, by kernel_rfl, by kernel_rfl⟩
theorem gk_f51 : GOk Tryz.prog g_f51 := Qal _ (gA (gC en_f75 ms_f75 (gC en_f76 ms_f76 (gC en_f77 ms_f77 (gC en_f78 ms_f78 (gC QIN QG6 (gC QIO QG7 (gC QvC QuS (gC QvB QuR gN)))))))))
theorem QTX (x56 : List Qaq) (x57 x58 : Int) (y1 : Qad) (h : (rngOk x56 x57 x58 && x56.all idLen) = true) : Qmk x56 x57 x58 y1 = QmL x56 x57 x58 y1 := by
 simp only [Bool.and_eq_true, List.all_eq_true] at h
 obtain ⟨h0, hc⟩ := h
 obtain ⟨rfl, h3, k, rfl, hk⟩ := rng_k h0
 clear h0
 refine Qas x56 (fun k => Qmk x56 (x56.length : Int) (k : Int) y1 = QmL x56 (x56.length : Int) (k : Int) y1) ?_ ?_ k hk
 ·rw [QzT]
  simp only [Qse, QmL, QaA, Nat.lt_irrefl, decide_false, Qaf, Int.toNat_natCast, List.drop_length, List.all_nil, Bool.not_true]
 ·intro k hk ih
  rw [QzT]
  have hx : Qeb x56[k].1 x56[k].2.1 x56[k].2.2.1 = true := hc x56[k] (List.getElem_mem hk)
  simp only [Qse, QaA, Qaw, hk, decide_true, Qac, Int.toNat_natCast, add1 (show k < 4611686018427387904 by omega), QaE (y := Qam) hk, hx, ih]
  simp only [QmL, Int.toNat_natCast, List.drop_eq_getElem_cons hk, List.all_cons, idOk]
  cases Qej x56[k].1 x56[k].2.1 x56[k].2.2.1 <;> rfl
theorem QLO : ∀ S l p, g_f51.L 0 (fgt Qji S) = some (true, l) → pickA l = some p → loopF (Qaj g_f51 Qji Qln) S = some p :=
 QaD (s := Qq9) ⟨by decide, by decide⟩ (by kernel_rfl) fun x y hok p hp => by
 simp only [Qar, Qao] at hp
 exact (QTX x.2.1 x.2.2.1 x.2.2.2.1 y.1 (by simpa using hok)).trans hp
theorem lk_f51 : QDh.lok g_f51 := by
 repeat (first | exact trivial | exact QLO | refine ⟨?_, ?_⟩)
theorem s_f51 (e : Qad) (h : QaS e = true) : r_f51 e = some (.t tI (QbZ e), []) := by
 simp only [QaS, Bool.and_eq_true, decide_eq_true_eq] at h
 obtain ⟨⟨h1, h2, h3, h4, h5⟩, h6⟩ := h
 have q2 : Qbe (Qan e) = true := decide_eq_true h2
 have q4 : Qbe (eAnch e) = true := decide_eq_true h4
 have q5 : Qbe (eHash e) = true := decide_eq_true h5
 unfold QbZ
 simp only [r_f51, h1, q2, q4, q5, rng_0 h3, h6, Bool.and_self, Qac, Int.toNat_zero, List.drop_zero, Qpy, QhD]
 refine br9 (fun g => by simp only [Bool.not_eq_true'] at g; simp [QaJ, g]) fun g1 => br9 (fun g => by simp [QaJ, g]) fun g2 => br9 (fun g => by simp [QaJ, g]) fun g3 => br9 (fun g => by simp [QaJ, g]) fun g4 => br9 (fun g => by simp only [Bool.not_eq_true'] at g; simp [QaJ, g]) fun g5 => br9 (fun g => by simp [QaJ, g]) fun g6 => br9 (fun g => by simp [QaJ, g]) fun g7 => br9 (fun g => by simp only [Bool.not_eq_true'] at g; simp [QaJ, g]) fun g8 => br9 (fun g => by simp only [Bool.not_eq_true'] at g; simp [QaJ, g]) fun g9 => br9 (fun g => by simp only [Bool.not_eq_true'] at g; simp [QaJ, g]) fun g10 => br9 (fun g => by simp only [Bool.not_eq_true'] at g; simp [QaJ, g]) fun g11 => br9 (fun g => by simp only [Bool.not_eq_true'] at g; simp [QaJ, g]) fun g12 => ?_
 simp only [Bool.not_eq_false'] at g1 g5 g8 g9 g10 g11 g12
 have : QaJ e = true := by
  simp only [QaJ, g1, g2, g3, g4, g5, g6, g7, g8, g9, g10, g11, g12, Bool.not_false, Bool.and_self]
 rw [this]
 rfl
def QD4 : Ent := spec (.pr Qae .nil) (fun x => (QaS x.1)) (fun x => (.t tI (QbZ x.1)))
theorem QQ7 : Meets Tryz.prog 51 (strip QD4) := Qag (R := runF g_f51 QDh QQg false) (mG Tryz.func51 (by kernel_rfl) Tryz.ntmps51 (by kernel_rfl) gk_f51 lk_f51) fun x hok => (e_f51 x.1).trans (s_f51 x.1 hok)
noncomputable def QNr : List DO := dT Tryz.f43 6
noncomputable def QNq : List DO := dT Tryz.f43 11
noncomputable def QNp : List DO := dT Tryz.f43 16
noncomputable def QNo : List DO := dT Tryz.f43 21
def Qjo : Fg := ⟨[(1, none), (3, some tI)], [(1, some Qae)]⟩
noncomputable def Qlt : TC := (.sq (.sq (.reg (rT Tryz.f43 4)) (.cd (.t 52) .sk (.fg ⟨[(1, none)], [(1, some Qae)]⟩ (.ex 0)))) (.sq (.bk 1 (.sq (.reg (rT Tryz.f43 5)) (.sq (.dr QNr [(0, []), (1, []), (2, []), (3, [1]), (4, [1]), (5, []), (6, []), (7, [1]), (8, [1]), (9, []), (10, []), (11, []), (12, []), (13, [])] (.of [0, 1, 2, 3, 4, 5, 6, 7, 8, 9, 10, 11, 12, 13])) (.cd (.t 77) (.sq (.reg (rT Tryz.f43 7)) (.fg ⟨[(2, some tI)], []⟩ .rt)) .sk)))) (.reg (rT Tryz.f43 8))))
def Qjn : Fg := ⟨[(1, none), (6, some tI)], [(1, some Qae)]⟩
noncomputable def Qls : TC := (.sq (.sq (.reg (rT Tryz.f43 10)) (.cd (.t 82) .sk (.fg ⟨[(1, none)], [(1, some Qae)]⟩ (.ex 2)))) (.sq (.bk 3 (.sq (.dr QNq [(0, [1]), (1, [1]), (2, []), (3, []), (4, []), (5, []), (6, [1]), (7, [1]), (8, []), (9, []), (10, []), (11, []), (12, [1]), (13, [1]), (14, []), (15, []), (16, []), (17, []), (18, []), (19, [])] (.of [0, 1, 2, 3, 4, 5, 6, 7, 8, 9, 10, 11, 12, 13, 14, 15, 16, 17, 18, 19])) (.cd (.t 104) (.sq (.reg (rT Tryz.f43 12)) (.fg ⟨[(2, some tI)], []⟩ .rt)) .sk))) (.reg (rT Tryz.f43 13))))
def Qjm : Fg := ⟨[(1, none), (7, some tI)], [(1, some Qae)]⟩
noncomputable def Qlr : TC := (.sq (.sq (.reg (rT Tryz.f43 15)) (.cd (.t 109) .sk (.fg ⟨[(1, none)], [(1, some Qae)]⟩ (.ex 4)))) (.sq (.bk 5 (.sq (.dr QNp [(0, [1]), (1, [1]), (2, []), (3, []), (4, []), (5, []), (6, []), (7, [1]), (8, [1]), (9, []), (10, []), (11, []), (12, []), (13, []), (14, []), (15, []), (16, []), (17, []), (18, [1]), (19, [1]), (20, []), (21, []), (22, []), (23, []), (24, [1]), (25, [1]), (26, []), (27, []), (28, []), (29, []), (30, []), (31, [])] (.of [0, 1, 2, 3, 4, 5, 6, 7, 8, 9, 10, 11, 12, 13, 14, 15, 16, 17, 18, 19, 20, 21, 22, 23, 24, 25, 26, 27, 28, 29, 30, 31])) (.cd (.t 143) (.sq (.reg (rT Tryz.f43 17)) (.fg ⟨[(2, some tI)], []⟩ .rt)) .sk))) (.reg (rT Tryz.f43 18))))
def Qjl : Fg := ⟨[(1, none), (8, some tI)], [(1, some Qae)]⟩
noncomputable def Qlq : TC := (.sq (.sq (.reg (rT Tryz.f43 20)) (.cd (.t 148) .sk (.fg ⟨[], []⟩ (.ex 6)))) (.sq (.bk 7 (.sq (.dr QNo [(0, [1]), (1, [1]), (2, []), (3, []), (4, []), (5, []), (6, []), (7, []), (8, []), (9, []), (10, []), (11, [1]), (12, [1]), (13, []), (14, []), (15, []), (16, []), (17, [1]), (18, [1]), (19, []), (20, []), (21, []), (22, []), (23, []), (24, [])] (.of [0, 1, 2, 3, 4, 5, 6, 7, 8, 9, 10, 11, 12, 13, 14, 15, 16, 17, 18, 19, 20, 21, 22, 23, 24])) (.cd (.t 175) (.sq (.reg (rT Tryz.f43 22)) (.fg ⟨[(2, some tI)], []⟩ .rt)) .sk))) (.reg (rT Tryz.f43 23))))
noncomputable def QDn : TC := (.sq (.reg (rT Tryz.f43 0)) (.sq (.sq (.reg (rT Tryz.f43 1)) (.cd (.t 47) (.sq (.reg (rT Tryz.f43 2)) .rt) .sk)) (.sq (.sq (.reg (rT Tryz.f43 3)) (.bk 0 (.lp 0 Qjo Qlt))) (.sq (.sq (.reg (rT Tryz.f43 9)) (.bk 2 (.lp 1 Qjn Qls))) (.sq (.sq (.reg (rT Tryz.f43 14)) (.bk 4 (.lp 2 Qjm Qlr))) (.sq (.sq (.reg (rT Tryz.f43 19)) (.bk 6 (.lp 3 Qjl Qlq))) (.sq (.reg (rT Tryz.f43 24)) .rt)))))))
def QQm : List (RV × Option Ty) := [((.t 2), some tI)]
abbrev Qrf : Sh := ⟨[(1, .ptr 1 0), (3, .ty tI)], [(1, .box Qae)]⟩
def QqF (x3 : Int) (y1 : Qad) : VS := Qrf.st ((), x3, ()) (y1, ())
abbrev QtP : Sh := ⟨[(2, .ty tI)], []⟩
def QbQ (x2 : Int) : VS := QtP.st (x2, ()) ()
abbrev Qxp : Sh := ⟨[(1, .ptr 1 0)], [(1, .box Qae)]⟩
def QeU (y1 : Qad) : VS := Qxp.st ((), ()) (y1, ())
abbrev Qre : Sh := ⟨[(1, .ptr 1 0), (6, .ty tI)], [(1, .box Qae)]⟩
def QqE (x6 : Int) (y1 : Qad) : VS := Qre.st ((), x6, ()) (y1, ())
abbrev QtO : Sh := ⟨[(2, .ty tI)], []⟩
def Qdy (x2 : Int) : VS := QtO.st (x2, ()) ()
abbrev Qxo : Sh := ⟨[(1, .ptr 1 0)], [(1, .box Qae)]⟩
def QeT (y1 : Qad) : VS := Qxo.st ((), ()) (y1, ())
abbrev Qrd : Sh := ⟨[(1, .ptr 1 0), (7, .ty tI)], [(1, .box Qae)]⟩
def QlN (x7 : Int) (y1 : Qad) : VS := Qrd.st ((), x7, ()) (y1, ())
abbrev QtN : Sh := ⟨[(2, .ty tI)], []⟩
def Qba (x2 : Int) : VS := QtN.st (x2, ()) ()
abbrev Qxn : Sh := ⟨[(1, .ptr 1 0)], [(1, .box Qae)]⟩
def QeS (y1 : Qad) : VS := Qxn.st ((), ()) (y1, ())
abbrev Qrc : Sh := ⟨[(1, .ptr 1 0), (8, .ty tI)], [(1, .box Qae)]⟩
def QlM (x8 : Int) (y1 : Qad) : VS := Qrc.st ((), x8, ()) (y1, ())
abbrev QtM : Sh := ⟨[(2, .ty tI)], []⟩
def QbP (x2 : Int) : VS := QtM.st (x2, ()) ()
abbrev Qxm : Sh := ⟨[], []⟩
def QeR  : VS := Qxm.st () ()
def QWj : VS → Option (Bool × List (Bool × Exit × VS)) := mkL Qrf (fun x y => (decide (0 ≤ x.2.1 ∧ x.2.1 ≤ (Qan y.1).length ∧ (Qan y.1).length ≤ 100000))) (fun x y => [((!Qdl (Qan y.1) x.2.1.toNat), .ret, QbQ (19)), (true, .exit 0, QeU (y.1))])
def QWi : VS → Option (Bool × List (Bool × Exit × VS)) := mkL Qre (fun x y => (decide (0 ≤ x.2.1 ∧ x.2.1 ≤ (eIds y.1).length ∧ (eIds y.1).length ≤ 100000) && (eIds y.1).all idLen)) (fun x y => [((!((eIds y.1).drop x.2.1.toNat).all idOk), .ret, Qdy (19)), (true, .exit 2, QeT (y.1))])
def QWh : VS → Option (Bool × List (Bool × Exit × VS)) := mkL Qrd (fun x y => (decide (0 ≤ x.2.1 ∧ x.2.1 ≤ (eAnch y.1).length ∧ (eAnch y.1).length ≤ 100000))) (fun x y => [((!(((eAnch y.1).drop x.2.1.toNat).all keyI && ascUp (eAnch y.1) x.2.1.toNat)), .ret, Qba (19)), (true, .exit 4, QeS (y.1))])
def QWg : VS → Option (Bool × List (Bool × Exit × VS)) := mkL Qrc (fun x y => (decide (0 ≤ x.2.1 ∧ x.2.1 ≤ (eHash y.1).length ∧ (eHash y.1).length ≤ 100000))) (fun x y => [((!(((eHash y.1).drop x.2.1.toNat).all hashF && ascUp (eHash y.1) x.2.1.toNat)), .ret, QbP (19)), (true, .exit 6, QeR)])
def g_f43 : G := ⟨TYs, [], 176, EL [(26, QpW), (27, Qts), (67, QPa), (68, QO9), (69, Qy7)], keeps, (Ls [QWj, QWi, QWh, QWg]), IL [], RL []⟩
def QKn (x3 : Int) (y1 : Qad) : Option (Exit × VS) :=
 let a1 := lgt tI y1.2.2.2.1 (Int.toNat x3)
 br (ilt x3 (llen y1.2.2.2.1)) (br (cIx y1.2.2.2.1 x3) (br (ine ((Qay a1).2) 0) (some (.ret, QbQ 19)) (br (cSl y1.2.2.2.1 0 x3 ((List.length y1.2.2.2.1 : Nat) : Int)) (br (cIx y1.2.2.2.1 x3) (br (QaR (lsl y1.2.2.2.1 0 x3) a1) (br (hasF (lsl y1.2.2.2.1 0 x3) a1) (some (.ret, QbQ 19)) (some (.normal, QqF (iadd .i64 x3 1) y1))) none) none) none)) none) (some (.exit 0, QeU y1))
noncomputable def Qmo (x3 : Int) (y1 : Qad) : Option (Exit × VS) := loopF (Qaj g_f43 Qjo Qlt) (QqF x3 y1)
noncomputable def Qsk (x3 : Int) (y1 : Qad) : Option (Exit × VS) :=
 let a1 := lgt tI y1.2.2.2.1 (Int.toNat x3)
 br (ilt x3 (llen y1.2.2.2.1)) (br (cIx y1.2.2.2.1 x3) (br (ine ((Qay a1).2) 0) (some (.ret, QbQ 19)) (br (cSl y1.2.2.2.1 0 x3 ((List.length y1.2.2.2.1 : Nat) : Int)) (br (cIx y1.2.2.2.1 x3) (br (QaR (lsl y1.2.2.2.1 0 x3) a1) (br (hasF (lsl y1.2.2.2.1 0 x3) a1) (some (.ret, QbQ 19)) (Qmo (iadd .i64 x3 1) y1)) none) none) none)) none) (some (.exit 0, QeU y1))
def QmR (x3 : Int) (y1 : Qad) : Option (Exit × VS) := br (!Qdl (Qan y1) x3.toNat) (some (.ret, QbQ (19))) <| some (.exit 0, QeU (y1))
theorem QN8 (x3 : Int) (y1 : Qad) : Qaj g_f43 Qjo Qlt (QqF x3 y1) = QKn x3 y1 := by kernel_rfl
theorem QzZ (x3 : Int) (y1 : Qad) : Qmo x3 y1 = Qsk x3 y1 := (Qap _ _).trans (by
 rw [QN8]
 simp only [QKn, Qsk, QaB, nxt_n, nxt_r, nxt_e, nxt_0]
 rfl)
def QKm (x6 : Int) (y1 : Qad) : Option (Exit × VS) :=
 let a1 := lgt Qam y1.2.2.2.2.2.1 (Int.toNat x6)
 let a2 := cIx y1.2.2.2.2.2.1 x6
 br (ilt x6 (llen y1.2.2.2.2.2.1)) (br a2 (br a2 (br a2 (br (Qeb (a1.1) ((a1.2).1) (((a1.2).2).1)) (br (!(Qej (a1.1) ((a1.2).1) (((a1.2).2).1))) (some (.ret, Qdy 19)) (some (.normal, QqE (iadd .i64 x6 1) y1))) none) none) none) none) (some (.exit 2, QeT y1))
noncomputable def Qmn (x6 : Int) (y1 : Qad) : Option (Exit × VS) := loopF (Qaj g_f43 Qjn Qls) (QqE x6 y1)
noncomputable def Qsj (x6 : Int) (y1 : Qad) : Option (Exit × VS) :=
 let a1 := lgt Qam y1.2.2.2.2.2.1 (Int.toNat x6)
 let a2 := cIx y1.2.2.2.2.2.1 x6
 br (ilt x6 (llen y1.2.2.2.2.2.1)) (br a2 (br a2 (br a2 (br (Qeb (a1.1) ((a1.2).1) (((a1.2).2).1)) (br (!(Qej (a1.1) ((a1.2).1) (((a1.2).2).1))) (some (.ret, Qdy 19)) (Qmn (iadd .i64 x6 1) y1)) none) none) none) none) (some (.exit 2, QeT y1))
def QmQ (x6 : Int) (y1 : Qad) : Option (Exit × VS) := br (!((eIds y1).drop x6.toNat).all idOk) (some (.ret, Qdy (19))) <| some (.exit 2, QeT (y1))
theorem QN7 (x6 : Int) (y1 : Qad) : Qaj g_f43 Qjn Qls (QqE x6 y1) = QKm x6 y1 := by kernel_rfl
theorem QzY (x6 : Int) (y1 : Qad) : Qmn x6 y1 = Qsj x6 y1 := (Qap _ _).trans (by
 rw [QN7]
 simp only [QKm, Qsj, QaB, nxt_n, nxt_r, nxt_e, nxt_0]
 rfl)
def QKl (x7 : Int) (y1 : Qad) : Option (Exit × VS) :=
 let a1 := lgt tI y1.2.2.2.2.2.2.1 (Int.toNat x7)
 let a2 := cIx y1.2.2.2.2.2.2.1 x7
 br (ilt x7 (llen y1.2.2.2.2.2.2.1)) (br a2 (br (ilt a1 0) (some (.ret, Qba 19)) (br a2 (br (igt a1 2147483648) (some (.ret, Qba 19)) (br (igt x7 0) (br (cIx y1.2.2.2.2.2.2.1 (isub .i64 x7 1)) (br a2 (br (ige (lgt tI y1.2.2.2.2.2.2.1 (Int.toNat (isub .i64 x7 1))) a1) (some (.ret, Qba 19)) (some (.normal, QlN (iadd .i64 x7 1) y1))) none) none) (some (.normal, QlN (iadd .i64 x7 1) y1)))) none)) none) (some (.exit 4, QeS y1))
noncomputable def Qin (x7 : Int) (y1 : Qad) : Option (Exit × VS) := loopF (Qaj g_f43 Qjm Qlr) (QlN x7 y1)
noncomputable def Qsi (x7 : Int) (y1 : Qad) : Option (Exit × VS) :=
 let a1 := lgt tI y1.2.2.2.2.2.2.1 (Int.toNat x7)
 let a2 := cIx y1.2.2.2.2.2.2.1 x7
 br (ilt x7 (llen y1.2.2.2.2.2.2.1)) (br a2 (br (ilt a1 0) (some (.ret, Qba 19)) (br a2 (br (igt a1 2147483648) (some (.ret, Qba 19)) (br (igt x7 0) (br (cIx y1.2.2.2.2.2.2.1 (isub .i64 x7 1)) (br a2 (br (ige (lgt tI y1.2.2.2.2.2.2.1 (Int.toNat (isub .i64 x7 1))) a1) (some (.ret, Qba 19)) (Qin (iadd .i64 x7 1) y1)) none) none) (Qin (iadd .i64 x7 1) y1))) none)) none) (some (.exit 4, QeS y1))
def QmP (x7 : Int) (y1 : Qad) : Option (Exit × VS) := br (!(((eAnch y1).drop x7.toNat).all keyI && ascUp (eAnch y1) x7.toNat)) (some (.ret, Qba (19))) <| some (.exit 4, QeS (y1))
theorem QN6 (x7 : Int) (y1 : Qad) : Qaj g_f43 Qjm Qlr (QlN x7 y1) = QKl x7 y1 := by kernel_rfl
theorem QzX (x7 : Int) (y1 : Qad) : Qin x7 y1 = Qsi x7 y1 := (Qap _ _).trans (by
 rw [QN6]
 simp only [QKl, Qsi, QaB, nxt_n, nxt_r, nxt_e, nxt_0]
 rfl)
def QKk (x8 : Int) (y1 : Qad) : Option (Exit × VS) :=
 let a1 := lgt tI y1.2.2.2.2.2.2.2.1 (Int.toNat x8)
 let a2 := cIx y1.2.2.2.2.2.2.2.1 x8
 br (ilt x8 (llen y1.2.2.2.2.2.2.2.1)) (br a2 (br (ine (kindF a1) 1) (some (.ret, QbP 19)) (br (igt x8 0) (br (cIx y1.2.2.2.2.2.2.2.1 (isub .i64 x8 1)) (br a2 (br (ige (lgt tI y1.2.2.2.2.2.2.2.1 (Int.toNat (isub .i64 x8 1))) a1) (some (.ret, QbP 19)) (some (.normal, QlM (iadd .i64 x8 1) y1))) none) none) (some (.normal, QlM (iadd .i64 x8 1) y1)))) none) (some (.exit 6, QeR))
noncomputable def Qim (x8 : Int) (y1 : Qad) : Option (Exit × VS) := loopF (Qaj g_f43 Qjl Qlq) (QlM x8 y1)
noncomputable def Qsh (x8 : Int) (y1 : Qad) : Option (Exit × VS) :=
 let a1 := lgt tI y1.2.2.2.2.2.2.2.1 (Int.toNat x8)
 let a2 := cIx y1.2.2.2.2.2.2.2.1 x8
 br (ilt x8 (llen y1.2.2.2.2.2.2.2.1)) (br a2 (br (ine (kindF a1) 1) (some (.ret, QbP 19)) (br (igt x8 0) (br (cIx y1.2.2.2.2.2.2.2.1 (isub .i64 x8 1)) (br a2 (br (ige (lgt tI y1.2.2.2.2.2.2.2.1 (Int.toNat (isub .i64 x8 1))) a1) (some (.ret, QbP 19)) (Qim (iadd .i64 x8 1) y1)) none) none) (Qim (iadd .i64 x8 1) y1))) none) (some (.exit 6, QeR))
def QmO (x8 : Int) (y1 : Qad) : Option (Exit × VS) := br (!(((eHash y1).drop x8.toNat).all hashF && ascUp (eHash y1) x8.toNat)) (some (.ret, QbP (19))) <| some (.exit 6, QeR)
theorem QN5 (x8 : Int) (y1 : Qad) : Qaj g_f43 Qjl Qlq (QlM x8 y1) = QKk x8 y1 := by kernel_rfl
theorem QzW (x8 : Int) (y1 : Qad) : Qim x8 y1 = Qsh x8 y1 := (Qap _ _).trans (by
 rw [QN5]
 simp only [QKk, Qsh, QaB, nxt_n, nxt_r, nxt_e, nxt_0]
 rfl)
def r_f43 (p0 : Qad) : Option (V × List VO) := br (nameG p0.1) (br (!(wordF p0.1)) (some (.t tI 19, [])) (br (ilt p0.2.1 1) (some (.t tI 19, [])) (br (igt p0.2.1 p0.2.2.1) (some (.t tI 19, [])) (br (igt p0.2.2.1 4) (some (.t tI 19, [])) (br (igt (llen p0.2.2.2.1) 16) (some (.t tI 19, [])) (br (igt (llen p0.2.2.2.2.2.1) 4) (some (.t tI 19, [])) (br (igt (llen p0.2.2.2.2.2.2.1) 16) (some (.t tI 19, [])) (br (decide (0 ≤ (0 : Int) ∧ (0 : Int) ≤ (Qan p0).length ∧ (Qan p0).length ≤ 100000)) (br (!Qdl (Qan p0) (0 : Int).toNat) (some (.t tI (19), [])) (br (decide (0 ≤ (0 : Int) ∧ (0 : Int) ≤ (eIds (p0)).length ∧ (eIds (p0)).length ≤ 100000) && (eIds (p0)).all idLen) (br (!((eIds (p0)).drop (0 : Int).toNat).all idOk) (some (.t tI (19), [])) (br (decide (0 ≤ (0 : Int) ∧ (0 : Int) ≤ (eAnch (p0)).length ∧ (eAnch (p0)).length ≤ 100000)) (br (!(((eAnch (p0)).drop (0 : Int).toNat).all keyI && ascUp (eAnch (p0)) (0 : Int).toNat)) (some (.t tI (19), [])) (br (decide (0 ≤ (0 : Int) ∧ (0 : Int) ≤ (eHash (p0)).length ∧ (eHash (p0)).length ≤ 100000)) (br (!(((eHash (p0)).drop (0 : Int).toNat).all hashF && ascUp (eHash (p0)) (0 : Int).toNat)) (some (.t tI (19), [])) (some (.t tI 0, []))) none)) none)) none)) none)))))))) none
theorem e_f43 (p0 : Qad) : runF g_f43 QDn QQm false [.t Qae p0] [] = r_f43 p0 := by kernel_rfl
theorem QIV : Qai Tryz.prog 43 := .inr ⟨by decide, _, Tryz.func43, by kernel_rfl, by kernel_rfl⟩
theorem gk_f43 : GOk Tryz.prog g_f43 := Qal _ (gA (gC QvH QuW (gC QvG QzA (gC en_f67 ms_f67 (gC en_f68 ms_f68 (gC QIQ QG9 gN))))))
theorem QT3 (x3 : Int) (y1 : Qad) (h : (decide (0 ≤ x3 ∧ x3 ≤ (Qan y1).length ∧ (Qan y1).length ≤ 100000)) = true) : Qmo x3 y1 = QmR x3 y1 := by
 simp only [decide_eq_true_eq] at h
 obtain ⟨h0, h1, h2⟩ := h
 obtain ⟨k, rfl⟩ := Int.eq_ofNat_of_zero_le h0
 refine Qas (Qan y1) (fun k => Qmo (k : Int) y1 = QmR (k : Int) y1) ?_ ?_ k (by omega)
 ·rw [QzZ]
  simp only [Qsk, QmR, show ilt ((Qan y1).length : Int) (llen (Qan y1)) = false from decide_eq_false (by simp only [llen]; omega), Qaf, Int.toNat_natCast, QpS, Bool.not_true]
 ·intro k hk ih
  rw [QzZ]
  have hi : QaR ((Qan y1).take k) (Qan y1)[k] = true := decide_eq_true (by rw [List.length_take]; omega)
  simp only [Qsk, show ilt (k : Int) (llen (Qan y1)) = true from decide_eq_true (by simp only [llen]; omega), Qaw, hk, decide_true, Qac, Int.toNat_natCast, add1 (show k < 4611686018427387904 by omega), QaE (y := tI) hk, ih, QzE, QBi (show k ≤ (Qan y1).length by omega), hi, Qkk]
  simp only [QmR, Int.toNat_natCast, Qnu hk]
  cases ieq (Qay (Qan y1)[k]).2 0 <;> cases hasF ((Qan y1).take k) (Qan y1)[k] <;> rfl
theorem QT2 (x6 : Int) (y1 : Qad) (h : (decide (0 ≤ x6 ∧ x6 ≤ (eIds y1).length ∧ (eIds y1).length ≤ 100000) && (eIds y1).all idLen) = true) : Qmn x6 y1 = QmQ x6 y1 := by
 simp only [Bool.and_eq_true, decide_eq_true_eq, List.all_eq_true] at h
 obtain ⟨⟨h0, h1, h2⟩, hc⟩ := h
 obtain ⟨k, rfl⟩ := Int.eq_ofNat_of_zero_le h0
 refine Qas (eIds y1) (fun k => Qmn (k : Int) y1 = QmQ (k : Int) y1) ?_ ?_ k (by omega)
 ·rw [QzY]
  simp only [Qsj, QmQ, show ilt ((eIds y1).length : Int) (llen (eIds y1)) = false from decide_eq_false (by simp only [llen]; omega), Qaf, Int.toNat_natCast, List.drop_length, List.all_nil, Bool.not_true]
 ·intro k hk ih
  rw [QzY]
  have hx : Qeb (eIds y1)[k].1 (eIds y1)[k].2.1 (eIds y1)[k].2.2.1 = true := hc (eIds y1)[k] (List.getElem_mem hk)
  simp only [Qsj, show ilt (k : Int) (llen (eIds y1)) = true from decide_eq_true (by simp only [llen]; omega), Qaw, hk, decide_true, Qac, Int.toNat_natCast, add1 (show k < 4611686018427387904 by omega), QaE (y := Qam) hk, hx, ih]
  simp only [QmQ, Int.toNat_natCast, List.drop_eq_getElem_cons hk, List.all_cons, idOk]
  cases Qej (eIds y1)[k].1 (eIds y1)[k].2.1 (eIds y1)[k].2.2.1 <;> rfl
theorem QT1 (x7 : Int) (y1 : Qad) (h : (decide (0 ≤ x7 ∧ x7 ≤ (eAnch y1).length ∧ (eAnch y1).length ≤ 100000)) = true) : Qin x7 y1 = QmP x7 y1 := by
 simp only [decide_eq_true_eq] at h
 obtain ⟨h0, h1, h2⟩ := h
 obtain ⟨k, rfl⟩ := Int.eq_ofNat_of_zero_le h0
 refine Qas (eAnch y1) (fun k => Qin (k : Int) y1 = QmP (k : Int) y1) ?_ ?_ k (by omega)
 ·rw [QzX]
  simp only [Qsi, QmP, show ilt ((eAnch y1).length : Int) (llen (eAnch y1)) = false from decide_eq_false (by simp only [llen]; omega), Qaf, Int.toNat_natCast, List.drop_length, List.all_nil, Qpx, Bool.and_self, Bool.not_true]
 ·intro k hk ih
  rw [QzX]
  simp only [Qsi, show ilt (k : Int) (llen (eAnch y1)) = true from decide_eq_true (by simp only [llen]; omega), Qaw, hk, decide_true, Qac, Int.toNat_natCast, add1 (show k < 4611686018427387904 by omega), QaE (y := tI) hk, ih, QKF hk (show k < 4611686018427387904 by omega)]
  simp only [QmP, Int.toNat_natCast, Qkv hk, List.drop_eq_getElem_cons hk, List.all_cons, keyI]
  cases ilt (eAnch y1)[k] 0 <;> cases igt (eAnch y1)[k] 2147483648 <;> cases decide (k = 0) || ilt ((eAnch y1).getD (k - 1) 0) (eAnch y1)[k] <;> simp [Qac, Qaf]
theorem QT0 (x8 : Int) (y1 : Qad) (h : (decide (0 ≤ x8 ∧ x8 ≤ (eHash y1).length ∧ (eHash y1).length ≤ 100000)) = true) : Qim x8 y1 = QmO x8 y1 := by
 simp only [decide_eq_true_eq] at h
 obtain ⟨h0, h1, h2⟩ := h
 obtain ⟨k, rfl⟩ := Int.eq_ofNat_of_zero_le h0
 refine Qas (eHash y1) (fun k => Qim (k : Int) y1 = QmO (k : Int) y1) ?_ ?_ k (by omega)
 ·rw [QzW]
  simp only [Qsh, QmO, show ilt ((eHash y1).length : Int) (llen (eHash y1)) = false from decide_eq_false (by simp only [llen]; omega), Qaf, Int.toNat_natCast, List.drop_length, List.all_nil, Qpx, Bool.and_self, Bool.not_true]
 ·intro k hk ih
  rw [QzW]
  simp only [Qsh, show ilt (k : Int) (llen (eHash y1)) = true from decide_eq_true (by simp only [llen]; omega), Qaw, hk, decide_true, Qac, Int.toNat_natCast, add1 (show k < 4611686018427387904 by omega), QaE (y := tI) hk, ih, QKF hk (show k < 4611686018427387904 by omega), Qkk]
  simp only [QmO, Int.toNat_natCast, Qkv hk, List.drop_eq_getElem_cons hk, List.all_cons, hashF]
  cases ieq (kindF (eHash y1)[k]) 1 <;> cases decide (k = 0) || ilt ((eHash y1).getD (k - 1) 0) (eHash y1)[k] <;> simp [Qac, Qaf]
theorem QLU : ∀ S l p, g_f43.L 0 (fgt Qjo S) = some (true, l) → pickA l = some p → loopF (Qaj g_f43 Qjo Qlt) S = some p :=
 QaD (s := Qrf) ⟨by decide, by decide⟩ (by kernel_rfl) fun x y hok p hp => by
 simp only [Qar, Qao] at hp
 exact (QT3 x.2.1 y.1 (by simpa using hok)).trans hp
theorem QLT : ∀ S l p, g_f43.L 1 (fgt Qjn S) = some (true, l) → pickA l = some p → loopF (Qaj g_f43 Qjn Qls) S = some p :=
 QaD (s := Qre) ⟨by decide, by decide⟩ (by kernel_rfl) fun x y hok p hp => by
 simp only [Qar, Qao] at hp
 exact (QT2 x.2.1 y.1 (by simpa using hok)).trans hp
theorem QLS : ∀ S l p, g_f43.L 2 (fgt Qjm S) = some (true, l) → pickA l = some p → loopF (Qaj g_f43 Qjm Qlr) S = some p :=
 QaD (s := Qrd) ⟨by decide, by decide⟩ (by kernel_rfl) fun x y hok p hp => by
 simp only [Qar, Qao] at hp
 exact (QT1 x.2.1 y.1 (by simpa using hok)).trans hp
theorem QLR : ∀ S l p, g_f43.L 3 (fgt Qjl S) = some (true, l) → pickA l = some p → loopF (Qaj g_f43 Qjl Qlq) S = some p :=
 QaD (s := Qrc) ⟨by decide, by decide⟩ (by kernel_rfl) fun x y hok p hp => by
 simp only [Qar, Qao] at hp
 exact (QT0 x.2.1 y.1 (by simpa using hok)).trans hp
theorem lk_f43 : QDn.lok g_f43 := by
 repeat (first | exact trivial | exact QLU | exact QLT | exact QLS | exact QLR | refine ⟨?_, ?_⟩)
theorem s_f43 (e : Qad) (h : QaS e = true) : r_f43 e = some (.t tI (QbZ e), []) := by
 simp only [QaS, Bool.and_eq_true, decide_eq_true_eq] at h
 obtain ⟨⟨h1, h2, h3, h4, h5⟩, h6⟩ := h
 have q2 : decide ((0 : Int) ≤ 0 ∧ (0 : Int) ≤ (Qan e).length ∧ (Qan e).length ≤ 100000) = true := decide_eq_true (by omega)
 have q3 : decide ((0 : Int) ≤ 0 ∧ (0 : Int) ≤ (eIds e).length ∧ (eIds e).length ≤ 100000) = true := decide_eq_true (by omega)
 have q4 : decide ((0 : Int) ≤ 0 ∧ (0 : Int) ≤ (eAnch e).length ∧ (eAnch e).length ≤ 100000) = true := decide_eq_true (by omega)
 have q5 : decide ((0 : Int) ≤ 0 ∧ (0 : Int) ≤ (eHash e).length ∧ (eHash e).length ≤ 100000) = true := decide_eq_true (by omega)
 unfold QbZ
 simp only [r_f43, h1, q2, q3, q4, q5, h6, Bool.and_self, Qac, Int.toNat_zero, List.drop_zero]
 refine br9 (fun g => by simp only [Bool.not_eq_true'] at g; simp [QaJ, g]) fun g1 => br9 (fun g => by simp [QaJ, g]) fun g2 => br9 (fun g => by simp [QaJ, g]) fun g3 => br9 (fun g => by simp [QaJ, g]) fun g4 => br9 (fun g => ?_) fun g5 => br9 (fun g => by simp [QaJ, g]) fun g6 => br9 (fun g => by simp [QaJ, g]) fun g7 => br9 (fun g => by simp only [Bool.not_eq_true'] at g; have : suitF (Qan e) = false := g; simp [QaJ, this]) fun g8 => br9 (fun g => by simp only [Bool.not_eq_true'] at g; simp [QaJ, g]) fun g9 => br9 (fun g => ?_) fun g10 => br9 (fun g => ?_) fun g11 => ?_
 ·have : suitF (Qan e) = false := by
   cases hs : suitF (Qan e) with
   | false => rfl
   | true =>
    have h16 : e.2.2.2.1.length ≤ 16 := Qy4 hs
    simp only [igt, llen, decide_eq_true_eq] at g
    omega
  simp [QaJ, this]
 ·simp only [Bool.not_eq_true', Bool.and_eq_false_iff] at g
  rcases g with g | g
  ·simp [QaJ, g]
  ·have : ascF (eAnch e) = false := g
   simp [QaJ, this]
 ·simp only [Bool.not_eq_true', Bool.and_eq_false_iff] at g
  rcases g with g | g
  ·simp [QaJ, g]
  ·have : ascF (eHash e) = false := g
   simp [QaJ, this]
 simp only [Bool.not_eq_false', Bool.and_eq_true] at g1 g8 g9 g10 g11
 have k1 : suitF (Qan e) = true := g8
 have k2 : ascF (eAnch e) = true := g10.2
 have k3 : ascF (eHash e) = true := g11.2
 have : QaJ e = true := by
  simp only [QaJ, g1, g2, g3, g4, k1, g6, g7, k2, k3, g9, g10.1, g11.1, Bool.not_false, Bool.and_self]
 rw [this]
 rfl
def Qy8 : Ent := spec (.pr Qae .nil) (fun x => (QaS x.1)) (fun x => (.t tI (QbZ x.1)))
theorem QHe : Meets Tryz.prog 43 (strip Qy8) := Qag (R := runF g_f43 QDn QQm false) (mG Tryz.func43 (by kernel_rfl) Tryz.ntmps43 (by kernel_rfl) gk_f43 lk_f43) fun x hok => (e_f43 x.1).trans (s_f43 x.1 hok)
end
end Go.Proofs.YtkngeegkjhipeaaGreat.K
