import Derived.Test.YtkngeegkjhipeaaGreatN10
set_option linter.unusedSimpArgs false
set_option linter.unusedVariables false
namespace Go.Proofs.YtkngeegkjhipeaaGreat.K
open Go.RowKit
noncomputable section
theorem QlM {c : Int} (h : ieq (QaA c).2 0 = true) : 1 ≤ c ∧ c ≤ 16 := by
 unfold QaA at h
 split at h
 ·simp [ieq] at h
 ·omega
theorem Qi2 {l : List Int} (h : suitF l = true) : ∀ (k : Nat) (hk : k < l.length), (1 ≤ l[k] ∧ l[k] ≤ 16) ∧ ¬ l[k] ∈ l.take k := by
 intro k hk
 simp only [suitF, QeZ, List.all_eq_true, List.mem_range'_1, Bool.and_eq_true, Bool.not_eq_true'] at h
 obtain ⟨h1, h2⟩ := h k ⟨by omega, by omega⟩
 simp only [List.getD_eq_getElem?_getD, List.getElem?_eq_getElem hk, Option.getD_some] at h1 h2
 refine ⟨QlM h1, fun hm => ?_⟩
 simp only [hasF] at h2
 rw [List.contains_iff_mem.2 hm] at h2
 cases h2
theorem Qn7 {l : List Int} (h : suitF l = true) : l.Nodup := by
 have h2 := Qi2 h
 rw [List.nodup_iff_pairwise_ne, List.pairwise_iff_getElem]
 intro i j hi hj hij he
 refine (h2 j hj).2 ?_
 rw [← he]
 exact List.mem_iff_getElem.2 ⟨i, by rw [List.length_take]; omega, by rw [List.getElem_take]⟩
theorem QG6 {l : List Int} (h : suitF l = true) : l.length ≤ 16 := by
 have h1 := Qn7 h
 have h2 := Qi2 h
 have h3 : l ⊆ [1, 2, 3, 4, 5, 6, 7, 8, 9, 10, 11, 12, 13, 14, 15, 16] := by
  intro x hx
  obtain ⟨k, hk, rfl⟩ := List.mem_iff_getElem.1 hx
  have := (h2 k hk).1
  simp only [List.mem_cons, List.not_mem_nil, or_false]
  omega
 exact h1.length_le_of_subset h3
abbrev Qao (e : Qad) : List Int := e.2.2.2.1
abbrev eIds (e : Qad) : List Qal := e.2.2.2.2.2.1
abbrev eAnch (e : Qad) : List Int := e.2.2.2.2.2.2.1
abbrev eHash (e : Qad) : List Int := e.2.2.2.2.2.2.2.1
def idOk (x : Qal) : Bool := Qgv x.1 x.2.1 x.2.2.1
def idLen (x : Qal) : Bool := QaJ x.2.2.1
def Qbw (e : Qad) : Bool := nameG e.1 && decide ((Qao e).length ≤ 100000 ∧ (eIds e).length ≤ 100000 ∧ (eAnch e).length ≤ 100000 ∧ (eHash e).length ≤ 100000) && (eIds e).all idLen
def QaO (e : Qad) : Bool :=
 wordF e.1 && (!ilt e.2.1 1 && (!igt e.2.1 e.2.2.1 && (!igt e.2.2.1 4 && (suitF (Qao e) && (!igt (llen (eIds e)) 4 && (!igt (llen (eAnch e)) 16 && (ascF (eAnch e) && (ascF (eHash e) && ((eIds e).all idOk && ((eAnch e).all keyI && (eHash e).all hashF))))))))))
def Qe6 (e : Qad) : Int := bif QaO e then 0 else 19
theorem QFT (e : Qad) : ieq (Qe6 e) 0 = QaO e := by
 unfold Qe6
 cases QaO e <;> rfl
theorem QFS (e : Qad) : ine (Qe6 e) 0 = !QaO e := by
 unfold Qe6
 cases QaO e <;> rfl
noncomputable def QJt : List DO := dT Tryz.f51 12
def Qiy : Fg := ⟨[(1, none), (56, some (.sl Qak)), (57, some tI), (58, some tI)], [(1, some Qai)]⟩
noncomputable def Qkg : TC := (.sq (.reg (rT Tryz.f51 6)) (.sq (.cd (.t 59) .sk (.fg ⟨[(1, none)], [(1, some Qai)]⟩ (.ex 0))) (.sq (.bk 1 (.sq (.reg (rT Tryz.f51 7)) (.sq (.reg (rT Tryz.f51 8)) (.cd (.t 69) (.sq (.reg (rT Tryz.f51 9)) (.fg ⟨[(2, some tI)], []⟩ .rt)) .sk)))) (.reg (rT Tryz.f51 10)))))
noncomputable def QzW : TC := (.sq (.reg (rT Tryz.f51 0)) (.sq (.sq (.reg (rT Tryz.f51 1)) (.cd (.t 32) (.sq (.reg (rT Tryz.f51 2)) .rt) .sk)) (.sq (.sq (.reg (rT Tryz.f51 3)) (.cd (.t 54) (.sq (.reg (rT Tryz.f51 4)) .rt) .sk)) (.sq (.sq (.reg (rT Tryz.f51 5)) (.bk 0 (.lp 0 Qiy Qkg))) (.sq (.reg (rT Tryz.f51 11)) (.sq (.sq (.dr QJt [(0, [1]), (1, [1]), (2, []), (3, [74, 5074, 10074, 15074]), (4, [74, 75, 5074, 5075, 10074, 10075, 15074, 15075]), (5, []), (6, [1]), (7, [1]), (8, []), (9, [80, 5080, 10080, 15080]), (10, [80, 81, 5080, 5081, 10080, 10081, 15080, 15081]), (11, [])] (.of [0, 1, 2, 3, 4, 5, 6, 7, 8, 9, 10, 11])) (.cd (.t 82) (.sq (.reg (rT Tryz.f51 13)) .rt) .sk)) (.sq (.reg (rT Tryz.f51 14)) .rt)))))))
def QLV : List (RV × Option Ty) := [((.t 2), some tI)]
abbrev Qo9 : Sh := ⟨[(1, .ptr 1 0), (56, .ty (.sl Qak)), (57, .ty tI), (58, .ty tI)], [(1, .box Qai)]⟩
def QoL (x56 : List Qal) (x57 x58 : Int) (y1 : Qad) : VS := Qo9.st ((), x56, x57, x58, ()) (y1, ())
abbrev Qrl : Sh := ⟨[(2, .ty tI)], []⟩
def Qdb (x2 : Int) : VS := Qrl.st (x2, ()) ()
abbrev QuC : Sh := ⟨[(1, .ptr 1 0)], [(1, .box Qai)]⟩
def Qen (y1 : Qad) : VS := QuC.st ((), ()) (y1, ())
def QRo : VS → Option (Bool × List (Bool × Exit × VS)) := mkL Qo9 (fun x y => (rngOk x.2.1 x.2.2.1 x.2.2.2.1 && x.2.1.all idLen)) (fun x y => [((!(x.2.1.drop x.2.2.2.1.toNat).all idOk), .ret, Qdb (19)), (true, .exit 0, Qen (y.1))])
def g_f51 : G := ⟨TYs, [], 83, EL [(75, QKP), (76, QKO), (77, QKN), (78, QKM), (79, QqZ), (79, Qq0), (81, Qjv), (81, Qju)], keeps, (Ls [QRo]), IL [], RL []⟩
def QGC (x56 : List Qal) (x57 x58 : Int) (y1 : Qad) : Option (Exit × VS) :=
 let a1 := lgt Qak x56 (Int.toNat x58)
 br (ilt x58 x57) (br (cIx x56 x58) (br (Qmd (a1.1) ((a1.2).1) (((a1.2).2).1)) (br (!(Qgv (a1.1) ((a1.2).1) (((a1.2).2).1))) (some (.ret, Qdb 19)) (some (.normal, QoL x56 x57 (iadd .i64 x58 1) y1))) none) none) (some (.exit 0, Qen y1))
noncomputable def QkY (x56 : List Qal) (x57 x58 : Int) (y1 : Qad) : Option (Exit × VS) := loopF (Qaj g_f51 Qiy Qkg) (QoL x56 x57 x58 y1)
noncomputable def Qp1 (x56 : List Qal) (x57 x58 : Int) (y1 : Qad) : Option (Exit × VS) :=
 let a1 := lgt Qak x56 (Int.toNat x58)
 br (ilt x58 x57) (br (cIx x56 x58) (br (Qmd (a1.1) ((a1.2).1) (((a1.2).2).1)) (br (!(Qgv (a1.1) ((a1.2).1) (((a1.2).2).1))) (some (.ret, Qdb 19)) (QkY x56 x57 (iadd .i64 x58 1) y1)) none) none) (some (.exit 0, Qen y1))
def Qld (x56 : List Qal) (x57 x58 : Int) (y1 : Qad) : Option (Exit × VS) := br (!(x56.drop x58.toNat).all idOk) (some (.ret, Qdb (19))) <| some (.exit 0, Qen (y1))
theorem QJX (x56 : List Qal) (x57 x58 : Int) (y1 : Qad) : Qaj g_f51 Qiy Qkg (QoL x56 x57 x58 y1) = QGC x56 x57 x58 y1 := by kernel_rfl
theorem QwJ (x56 : List Qal) (x57 x58 : Int) (y1 : Qad) : QkY x56 x57 x58 y1 = Qp1 x56 x57 x58 y1 := (Qaq _ _).trans (by
 rw [QJX]
 simp only [QGC, Qp1, QaE, nxt_n, nxt_r, nxt_e, nxt_0]
 rfl)
def r_f51 (p0 : Qad) : Option (V × List VO) :=
 let a1 := (((((((p0).2).2).2).2).2).2)
 br (nameG p0.1) (br (!(wordF p0.1)) (some (.t tI 19, [])) (br (ilt p0.2.1 1) (some (.t tI 19, [])) (br (igt p0.2.1 p0.2.2.1) (some (.t tI 19, [])) (br (igt p0.2.2.1 4) (some (.t tI 19, [])) (br (Qa8 p0.2.2.2.1) (br (!(suitF p0.2.2.2.1)) (some (.t tI 19, [])) (br (igt (llen p0.2.2.2.2.2.1) 4) (some (.t tI 19, [])) (br (igt (llen p0.2.2.2.2.2.2.1) 16) (some (.t tI 19, [])) (br (Qa8 p0.2.2.2.2.2.2.1) (br (!(ascF p0.2.2.2.2.2.2.1)) (some (.t tI 19, [])) (br (Qa8 p0.2.2.2.2.2.2.2.1) (br (!(ascF p0.2.2.2.2.2.2.2.1)) (some (.t tI 19, [])) (br (rngOk p0.2.2.2.2.2.1 (llen p0.2.2.2.2.2.1) (0 : Int) && p0.2.2.2.2.2.1.all idLen) (br (!(p0.2.2.2.2.2.1.drop (0 : Int).toNat).all idOk) (some (.t tI (19), [])) (br (Qa8 (a1.1)) (br (QnN (a1.1)) (some (.t tI 19, [])) (br (Qa8 ((a1.2).1)) (br (Qg2 ((a1.2).1)) (some (.t tI 19, [])) (some (.t tI 0, []))) none)) none)) none)) none)) none)))) none))))) none
theorem e_f51 (p0 : Qad) : runF g_f51 QzW QLV false [.t Qai p0] [] = r_f51 p0 := by kernel_rfl
theorem QMU : Qag Tryz.prog 51 := .inr ⟨by decide, _, Tryz.func51, by kernel_rfl, by kernel_rfl⟩
theorem gk_f51 : GOk Tryz.prog g_f51 := Qan _ (gA (gC en_f75 ms_f75 (gC en_f76 ms_f76 (gC en_f77 ms_f77 (gC en_f78 ms_f78 (gC QFc QDv (gC QFd QDw (gC Qs0 Qse (gC QsZ Qsd gN)))))))))
theorem QPj (x56 : List Qal) (x57 x58 : Int) (y1 : Qad) (h : (rngOk x56 x57 x58 && x56.all idLen) = true) : QkY x56 x57 x58 y1 = Qld x56 x57 x58 y1 := by
 simp only [Bool.and_eq_true, List.all_eq_true] at h
 obtain ⟨h0, hc⟩ := h
 obtain ⟨rfl, h3, k, rfl, hk⟩ := rng_k h0
 clear h0
 refine Qav x56 (fun k => QkY x56 (x56.length : Int) (k : Int) y1 = Qld x56 (x56.length : Int) (k : Int) y1) ?_ ?_ k hk
 ·rw [QwJ]
  simp only [Qp1, Qld, Qaz, Nat.lt_irrefl, decide_false, Qae, Int.toNat_natCast, List.drop_length, List.all_nil, Bool.not_true]
 ·intro k hk ih
  rw [QwJ]
  have hx : Qmd x56[k].1 x56[k].2.1 x56[k].2.2.1 = true := hc x56[k] (List.getElem_mem hk)
  simp only [Qp1, Qaz, Qay, hk, decide_true, Qac, Int.toNat_natCast, add1 (show k < 4611686018427387904 by omega), QaG (y := Qak) hk, hx, ih]
  simp only [Qld, Int.toNat_natCast, List.drop_eq_getElem_cons hk, List.all_cons, idOk]
  cases Qgv x56[k].1 x56[k].2.1 x56[k].2.2.1 <;> rfl
theorem QH2 : ∀ S l p, g_f51.L 0 (fgt Qiy S) = some (true, l) → pickA l = some p → loopF (Qaj g_f51 Qiy Qkg) S = some p :=
 QaF (s := Qo9) ⟨by decide, by decide⟩ (by kernel_rfl) fun x y hok p hp => by
 simp only [Qas, Qap] at hp
 exact (QPj x.2.1 x.2.2.1 x.2.2.2.1 y.1 (by simpa using hok)).trans hp
theorem lk_f51 : QzW.lok g_f51 := by
 repeat (first | exact trivial | exact QH2 | refine ⟨?_, ?_⟩)
theorem s_f51 (e : Qad) (h : Qbw e = true) : r_f51 e = some (.t tI (Qe6 e), []) := by
 simp only [Qbw, Bool.and_eq_true, decide_eq_true_eq] at h
 obtain ⟨⟨h1, h2, h3, h4, h5⟩, h6⟩ := h
 have q2 : Qa8 (Qao e) = true := decide_eq_true h2
 have q4 : Qa8 (eAnch e) = true := decide_eq_true h4
 have q5 : Qa8 (eHash e) = true := decide_eq_true h5
 unfold Qe6
 simp only [r_f51, h1, q2, q4, q5, rng_0 h3, h6, Bool.and_self, Qac, Int.toNat_zero, List.drop_zero, QnN, Qg2]
 refine br9 (fun g => by simp only [Bool.not_eq_true'] at g; simp [QaO, g]) fun g1 => br9 (fun g => by simp [QaO, g]) fun g2 => br9 (fun g => by simp [QaO, g]) fun g3 => br9 (fun g => by simp [QaO, g]) fun g4 => br9 (fun g => by simp only [Bool.not_eq_true'] at g; simp [QaO, g]) fun g5 => br9 (fun g => by simp [QaO, g]) fun g6 => br9 (fun g => by simp [QaO, g]) fun g7 => br9 (fun g => by simp only [Bool.not_eq_true'] at g; simp [QaO, g]) fun g8 => br9 (fun g => by simp only [Bool.not_eq_true'] at g; simp [QaO, g]) fun g9 => br9 (fun g => by simp only [Bool.not_eq_true'] at g; simp [QaO, g]) fun g10 => br9 (fun g => by simp only [Bool.not_eq_true'] at g; simp [QaO, g]) fun g11 => br9 (fun g => by simp only [Bool.not_eq_true'] at g; simp [QaO, g]) fun g12 => ?_
 simp only [Bool.not_eq_false'] at g1 g5 g8 g9 g10 g11 g12
 have : QaO e = true := by
  simp only [QaO, g1, g2, g3, g4, g5, g6, g7, g8, g9, g10, g11, g12, Bool.not_false, Bool.and_self]
 rw [this]
 rfl
def QAA : Ent := spec (.pr Qai .nil) (fun x => (Qbw x.1)) (fun x => (.t tI (Qe6 x.1)))
theorem QMD : Meets Tryz.prog 51 (strip QAA) := Qaf (R := runF g_f51 QzW QLV false) (mG Tryz.func51 (by kernel_rfl) Tryz.ntmps51 (by kernel_rfl) gk_f51 lk_f51) fun x hok => (e_f51 x.1).trans (s_f51 x.1 hok)
end
end Go.Proofs.YtkngeegkjhipeaaGreat.K
