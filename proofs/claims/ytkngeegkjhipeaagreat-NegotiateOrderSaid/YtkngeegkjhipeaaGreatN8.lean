import Derived.Test.YtkngeegkjhipeaaGreatN7
set_option linter.unusedSimpArgs false
set_option linter.unusedVariables false
namespace Go.Proofs.YtkngeegkjhipeaaGreat.K
open Go.RowKit
noncomputable section
theorem QNd (n : Int) : (intL n).length ≤ 8 := by
 rw [intL, Qn0]
 exact QsB n
theorem QgW (n : Nat) (m : Int) : okT (n + 1) (intT m) = true := by
 have := QNd m
 show okV (n + 1) (.mk 2 (intL m) false []) = true
 simp only [okV, List.isEmpty_nil, cond_false, List.all_nil, Bool.and_true, List.length_nil]
 rw [decide_eq_true (by omega)]
 rfl
theorem Qqb (n : Nat) {s : ByteArray} (h : s.size ≤ 100000) : okT (n + 1) (txtT s) = true := by
 have := QcO s
 show okV (n + 1) (.mk 12 (QaH s) false []) = true
 simp only [okV, List.isEmpty_nil, cond_false, List.all_nil, Bool.and_true, List.length_nil]
 rw [decide_eq_true (by omega)]
 rfl
theorem QIh (n : Nat) (b : Bool) : okT (n + 1) (boolT b) = true := by cases b <;> rfl
theorem QvG {n : Nat} {l : List ValT} (hl : l.length ≤ 100000) (h : ∀ x ∈ l, okT n x = true) : okT (n + 1) (lstT l) = true := by
 show okV (n + 1) (.mk 48 [] true (l.map Val.of)) = true
 simp only [okV, List.isEmpty_nil, cond_true, Bool.and_true, List.length_nil, List.length_map, Bool.and_eq_true, List.all_eq_true, List.mem_map]
 refine ⟨⟨⟨rfl, rfl⟩, decide_eq_true ⟨by omega, hl⟩⟩, ?_⟩
 rintro v ⟨x, hx, rfl⟩
 exact h x hx
theorem QnW {n : Nat} {l : List ValT} (hl : l.length ≤ 100000) (h : ∀ x ∈ l, okT n x = true) : copLF (n + 1) l = true := by
 simp only [copLF, Bool.and_eq_true, decide_eq_true_eq, List.all_eq_true]
 exact ⟨hl, h⟩
theorem Qi6 (x : ValT) : ((x.1, (x.2.1, (x.2.2.1, (List.map Val.of (List.map Val.un x.2.2.2.1), ())))) : ValT) = x := by
 rw [Qcq]
theorem Qg0 (m : Int) : (encT (intT m)).length ≤ 18 := by
 have h1 := QNd m
 have h2 := Qgi ((intL m).length + 0)
 rw [QnO]
 simp only [intT, encVs, List.length_cons, List.length_append, List.length_nil]
 omega
theorem Qwb (s : ByteArray) : (encT (txtT s)).length ≤ 10 + s.size := by
 have h1 := QcO s
 have h2 := Qgi ((QaH s).length + 0)
 rw [QnO]
 simp only [txtT, encVs, List.length_cons, List.length_append, List.length_nil]
 omega
theorem QJz (b : Bool) : (encT (boolT b)).length ≤ 11 := by cases b <;> decide
theorem Qwc (l : List ValT) : (encT (lstT l)).length ≤ 10 + (encL l).length := by
 have h2 := Qgi (0 + (encVs (l.map Val.of)).length)
 rw [QnO]
 simp only [lstT, encL, List.length_cons, List.length_append, List.length_nil]
 omega
def useT (u : Keep) : ValT := lstT [intT u.1, intT u.2.1]
def Qc2 (u : Keep) : Bool := i64Ok u.1 && i64Ok u.2.1
theorem QDU (n : Nat) (u : Keep) : okT (n + 2) (useT u) = true :=
 QvG (by simp) fun x hx => by
  simp only [List.mem_cons, List.not_mem_nil, or_false] at hx
  rcases hx with rfl | rfl <;> exact QgW _ _
theorem QFN (u : Keep) : (encT (useT u)).length ≤ 46 := by
 have h0 := Qwc [intT u.1, intT u.2.1]
 have h1 := Qg0 u.1
 have h2 := Qg0 u.2.1
 simp only [Qb1, Qgo, List.length_append, List.length_nil] at h0
 unfold useT
 omega
theorem QzV (u : Keep) : copOk [intT u.1, intT u.2.1] = true :=
 QnW (n := 11) (by simp) fun x hx => by
  simp only [List.mem_cons, List.not_mem_nil, or_false] at hx
  rcases hx with rfl | rfl <;> exact QgW _ _
noncomputable def QGl : List DO := dT Tryz.f163 1
noncomputable def QtY : TC := (.sq (.reg (rT Tryz.f163 0)) (.sq (.dr QGl [(0, [1]), (1, [1]), (2, []), (3, [1]), (4, [1]), (5, []), (6, []), (7, []), (8, [2])] (.of [0, 1, 2, 3, 4, 5, 6, 7, 8])) .rt))
def QCi : List (RV × Option Ty) := [((.c 2 true 4), some Qai)]
def QxL : G := ⟨TYs, [], 11, EL [(161, Qpc), (162, QuI)], keeps, (fun _ _ => none), IL [], RL []⟩
def QDi (p0 : Keep) : Option (V × List VO) :=
 let a1 := ((intT p0.2.1).1, (((intT p0.2.1).2).1, ((((intT p0.2.1).2).2).1, ((List.map Val.of (List.map Val.un (((((intT p0.2.1).2).2).2).1))), ()))))
 let a2 := ((intT p0.1).1, (((intT p0.1).2).1, ((((intT p0.1).2).2).1, ((List.map Val.of (List.map Val.un (((((intT p0.1).2).2).2).1))), ()))))
 br (i64Ok p0.1) (br (i64Ok p0.2.1) (br (copOk ([a2, a1])) (some (.t Qai (lstT ([a2, a1])), [])) none) none) none
theorem e_f163 (p0 : Keep) : runF QxL QtY QCi false [.t Qan p0] [] = QDi p0 := by kernel_rfl
theorem QRk : Qag Tryz.prog 163 := .inr ⟨by decide, _, Tryz.func163, by kernel_rfl, by kernel_rfl⟩
theorem QQy : GOk Tryz.prog QxL := Qao _ (gA (gC Qwf QvL (gC QF7 QEl gN)))
theorem QPj : QtY.lok QxL := by repeat (first | exact trivial | refine ⟨?_, ?_⟩)
theorem s_f163 (u : Keep) (h : Qc2 u = true) : QDi u = some (.t Qai (useT u), []) := by
 simp only [Qc2, Bool.and_eq_true] at h
 simp only [QDi, h.1, h.2, Qi6, QzV, Qac]
 rfl
def QBs : Ent := spec (.pr Qan .nil) (fun x => (Qc2 x.1)) (fun x => (.t Qai (useT x.1)))
theorem QOt : Meets Tryz.prog 163 (strip QBs) := Qaf (R := runF QxL QtY QCi false) (mG Tryz.func163 (by kernel_rfl) Tryz.ntmps163 (by kernel_rfl) QQy QPj) fun x hok => (e_f163 x.1).trans (s_f163 x.1 hok)
noncomputable def QGm : List DO := dT Tryz.f155 1
noncomputable def Qt5 : TC := (.sq (.reg (rT Tryz.f155 0)) (.sq (.dr QGm [(0, [1]), (1, [1]), (2, []), (3, [1]), (4, [1]), (5, []), (6, []), (7, []), (8, [2])] (.of [0, 1, 2, 3, 4, 5, 6, 7, 8])) .rt))
def QCp : List (RV × Option Ty) := [((.c 2 true 4), some Qai)]
def QxQ : G := ⟨TYs, [], 11, EL [(153, QuK), (154, QuJ)], keeps, (fun _ _ => none), IL [], RL []⟩
def QDo (p0 : Keep) : Option (V × List VO) :=
 let a1 := ((intT p0.2.1).1, (((intT p0.2.1).2).1, ((((intT p0.2.1).2).2).1, ((List.map Val.of (List.map Val.un (((((intT p0.2.1).2).2).2).1))), ()))))
 let a2 := ((intT p0.1).1, (((intT p0.1).2).1, ((((intT p0.1).2).2).1, ((List.map Val.of (List.map Val.un (((((intT p0.1).2).2).2).1))), ()))))
 br (i64Ok p0.1) (br (i64Ok p0.2.1) (br (copOk ([a2, a1])) (some (.t Qai (lstT ([a2, a1])), [])) none) none) none
theorem e_f155 (p0 : Keep) : runF QxQ Qt5 QCp false [.t Qan p0] [] = QDo p0 := by kernel_rfl
theorem QRn : Qag Tryz.prog 155 := .inr ⟨by decide, _, Tryz.func155, by kernel_rfl, by kernel_rfl⟩
theorem QQF : GOk Tryz.prog QxQ := Qao _ (gA (gC QGb QEn (gC QGa QEm gN)))
theorem QPq : Qt5.lok QxQ := by repeat (first | exact trivial | refine ⟨?_, ?_⟩)
theorem s_f155 (u : Keep) (h : Qc2 u = true) : QDo u = some (.t Qai (useT u), []) := by
 simp only [Qc2, Bool.and_eq_true] at h
 simp only [QDo, h.1, h.2, Qi6, QzV, Qac]
 rfl
def QBx : Ent := spec (.pr Qan .nil) (fun x => (Qc2 x.1)) (fun x => (.t Qai (useT x.1)))
theorem QOy : Meets Tryz.prog 155 (strip QBx) := Qaf (R := runF QxQ Qt5 QCp false) (mG Tryz.func155 (by kernel_rfl) Tryz.ntmps155 (by kernel_rfl) QQF QPq) fun x hok => (e_f155 x.1).trans (s_f155 x.1 hok)
def Qfn (c : Qaa) : List ValT := [intT c.1, txtT c.2.1, txtT c.2.2.1, useT c.2.2.2.1, intT c.2.2.2.2.1, useT c.2.2.2.2.2.1, intT c.2.2.2.2.2.2.1, intT c.2.2.2.2.2.2.2.1, boolT c.2.2.2.2.2.2.2.2.1, intT c.2.2.2.2.2.2.2.2.2.1, lstT ((QaD c).map txtT)]
def bodyT (c : Qaa) : ValT := lstT (Qfn c)
def Qe7 (c : Qaa) : Bool := QaA c && QaB c
theorem QyY {u : Keep} (h : Qct u = true) : 0 ≤ u.2.1 ∧ u.2.1 ≤ 16384 ∧ 1 ≤ u.1 ∧ u.1 ≤ 22 := by
 simp only [Qct, decide_eq_true_eq] at h
 have ham : ∀ (s t : List Int), (∀ x ∈ s, 0 ≤ x ∧ x ≤ 16384) → Qbh u.2.1 s t > 0 → 0 ≤ u.2.1 ∧ u.2.1 ≤ 16384 := by
  intro s t hs hg
  unfold Qbh at hg
  split at hg
  ·rename_i k hk
   have hm : u.2.1 ∈ s := by
    have key : ∀ (s : List Int) (k : Nat), idxN u.2.1 s = some k → u.2.1 ∈ s := by
     intro s
     induction s with
     | nil => intro k hk; cases hk
     | cons a s ih =>
      intro k hk
      unfold idxN at hk
      split at hk
      ·rename_i ha
       have := eq_of_beq ha
       rw [this]; exact List.mem_cons_self
      ·obtain ⟨j, hj, _⟩ := Option.map_eq_some_iff.1 hk
       exact List.mem_cons_of_mem _ (ih j hj)
    exact key s k hk
   exact hs _ hm
  ·omega
 rw [← and_assoc]
 unfold strF at h
 repeat' split at h
 ·refine ⟨?_, by omega⟩
  unfold QdD at h
  split at h <;> omega
 ·refine ⟨?_, by omega⟩
  unfold QoE at h
  split at h
  ·rename_i hc
   simp only [hasF, List.contains_iff_mem, List.mem_cons, List.not_mem_nil, or_false] at hc
   omega
  ·omega
 ·exact ⟨ham _ _ (by simp) h, by omega⟩
 ·exact ⟨ham _ _ (by simp) h, by omega⟩
 ·exact ⟨ham _ _ (by simp) h, by omega⟩
 ·exact ⟨ham _ _ (by simp) h, by omega⟩
 ·exact ⟨ham _ _ (by simp) h, by omega⟩
 ·refine ⟨ham _ _ (by simp) h, ?_⟩
  unfold Qbh at h
  split at h
  ·rename_i k hk
   unfold idxN at hk
   split at hk
   ·injection hk with hk
    subst hk
    simp only [List.getD_cons_zero, Qcs] at h
    repeat' split at h
    all_goals omega
   ·cases hk
  ·omega
theorem Qtc {u : Keep} {k : Int} (h : kindU u k = true) : Qc2 u = true := by
 simp only [kindU, Bool.and_eq_true] at h
 have := QyY h.1
 simp only [Qc2, i64Ok, Bool.and_eq_true, decide_eq_true_eq]
 omega
theorem Qjj {s : ByteArray} (h : QaT s = true) : s.size ≤ 32 := by
 simp only [QaT, Bool.and_eq_true, decide_eq_true_eq] at h
 exact h.2.2
theorem Qzh {l : List ByteArray} : ∀ {k : Nat}, Qcw l k = true → ∀ j (hj : j < l.length), k ≤ j → QaT l[j] = true := by
 intro k h j hj hk
 simp only [Qcw, List.all_eq_true, List.mem_range'_1, Bool.and_eq_true] at h
 have := (h j ⟨hk, by omega⟩).1
 simpa only [List.getD_eq_getElem?_getD, List.getElem?_eq_getElem hj, Option.getD_some] using this
theorem QD1 {l : List ByteArray} (h : QdB l = true) : l.length ≤ 8 ∧ ∀ s ∈ l, s.size ≤ 32 := by
 simp only [QdB, Bool.and_eq_true, Bool.not_eq_true', igt, llen, decide_eq_false_iff_not] at h
 refine ⟨by omega, fun s hs => ?_⟩
 obtain ⟨j, hj, rfl⟩ := List.mem_iff_getElem.1 hs
 exact Qjj (Qzh h.1 j hj (Nat.zero_le _))
theorem Qe8 {c : Qaa} (h : QaB c = true) : i64Ok c.1 = true ∧ c.2.1.size ≤ 32 ∧ c.2.2.1.size ≤ 32 ∧ Qc2 c.2.2.2.1 = true ∧ i64Ok c.2.2.2.2.1 = true ∧ Qc2 c.2.2.2.2.2.1 = true ∧ i64Ok c.2.2.2.2.2.2.1 = true ∧ i64Ok c.2.2.2.2.2.2.2.1 = true ∧ i64Ok c.2.2.2.2.2.2.2.2.2.1 = true ∧ (QaD c).length ≤ 8 ∧ ∀ s ∈ QaD c, s.size ≤ 32 := by
 simp only [QaB, keyI, Bool.and_eq_true, Bool.not_eq_true', ilt, igt, decide_eq_false_iff_not] at h
 obtain ⟨h1, h2, h3, h4, h5, h6, ⟨h7, h7'⟩, h8, ⟨h9, h9'⟩, h10, h11, h12, h13, h14, h15, h16⟩ := h
 have hn := QD1 h5
 refine ⟨decide_eq_true (by omega), Qjj h3, Qjj h4, Qtc h6, decide_eq_true (by omega), Qtc h8, decide_eq_true (by omega), decide_eq_true (by omega), decide_eq_true (by omega), hn.1, hn.2⟩
theorem QDV (n : Nat) {l : List ByteArray} (h : l.length ≤ 8) (hs : ∀ s ∈ l, s.size ≤ 32) : okT (n + 2) (lstT (l.map txtT)) = true :=
 QvG (by rw [List.length_map]; omega) fun x hx => by
  obtain ⟨s, hm, rfl⟩ := List.mem_map.1 hx
  exact Qqb _ (by have := hs s hm; omega)
theorem Qsx (n : Nat) {c : Qaa} (h : QaB c = true) : ∀ x ∈ Qfn c, okT (n + 2) x = true := by
 obtain ⟨h1, h2, h3, h4, h5, h6, h7, h8, h9, h10, h11⟩ := Qe8 h
 intro x hx
 simp only [Qfn, List.mem_cons, List.not_mem_nil, or_false] at hx
 rcases hx with rfl | rfl | rfl | rfl | rfl | rfl | rfl | rfl | rfl | rfl | rfl
 ·exact QgW _ _
 ·exact Qqb _ (by omega)
 ·exact Qqb _ (by omega)
 ·exact QDU _ _
 ·exact QgW _ _
 ·exact QDU _ _
 ·exact QgW _ _
 ·exact QgW _ _
 ·exact QIh _ _
 ·exact QgW _ _
 ·exact QDV _ h10 h11
theorem Qyh : ∀ {l : List ByteArray}, (∀ s ∈ l, s.size ≤ 32) → (encL (l.map txtT)).length ≤ 42 * l.length
 | [], _ => by simp [Qgo]
 | s :: l, h => by
  have h1 := h s (by simp)
  have h2 := Qwb s
  have h3 := Qyh (l := l) fun u hu => h u (by simp [hu])
  rw [List.map_cons, Qb1, List.length_append, List.length_cons]
  omega
theorem QqN {c : Qaa} (h : QaB c = true) : (encT (bodyT c)).length ≤ 1000 := by
 obtain ⟨h1, h2, h3, h4, h5, h6, h7, h8, h9, h10, h11⟩ := Qe8 h
 have e0 := Qwc (Qfn c)
 have e1 := Qg0 c.1
 have e2 := Qwb c.2.1
 have e3 := Qwb c.2.2.1
 have e4 := QFN c.2.2.2.1
 have e5 := Qg0 c.2.2.2.2.1
 have e6 := QFN c.2.2.2.2.2.1
 have e7 := Qg0 c.2.2.2.2.2.2.1
 have e8 := Qg0 c.2.2.2.2.2.2.2.1
 have e9 := QJz c.2.2.2.2.2.2.2.2.1
 have e10 := Qg0 c.2.2.2.2.2.2.2.2.2.1
 have e11 := Qwc ((QaD c).map txtT)
 have e12 := Qyh h11
 simp only [Qfn, Qb1, Qgo, List.length_append, List.length_nil] at e0
 unfold bodyT
 simp only [Qfn]
 omega
theorem QNw {c : Qaa} (h : QaB c = true) : encOk (bodyT c) = true := by
 have := QqN h
 simp only [encOk, Bool.and_eq_true, decide_eq_true_eq]
 refine ⟨QvG (by simp [Qfn]) (Qsx 9 h), by omega⟩
theorem QsC {c : Qaa} (h : QaB c = true) : copOk ((QaD c).map txtT) = true := by
 obtain ⟨h1, h2, h3, h4, h5, h6, h7, h8, h9, h10, h11⟩ := Qe8 h
 exact QnW (n := 11) (by rw [List.length_map]; omega) fun x hx => by
  obtain ⟨s, hm, rfl⟩ := List.mem_map.1 hx
  exact Qqb _ (by have := h11 s hm; omega)
theorem Qsv {c : Qaa} (h : QaB c = true) : copOk (Qfn c) = true := QnW (n := 11) (by simp [Qfn]) (Qsx 9 h)
theorem QcN {s : ByteArray} (h : s.size ≤ 32) : Qa1 s = true := decide_eq_true (by omega)
noncomputable def QGo : List DO := dT Tryz.f139 7
def QfL : Fg := ⟨[(1, none), (2, none), (3, none), (7, some (.sl .str)), (8, some tI), (9, some tI)], [(1, some Qab), (2, some Qai), (3, none), (17, none)]⟩
noncomputable def Qhl : TC := (.sq (.reg (rT Tryz.f139 3)) (.sq (.cd (.t 10) .sk (.fg ⟨[(1, none), (2, none), (3, none)], [(1, some Qab), (2, some Qai), (3, none), (17, none)]⟩ (.ex 0))) (.sq (.bk 1 (.sq (.reg (rT Tryz.f139 4)) (.reg (rT Tryz.f139 5)))) (.reg (rT Tryz.f139 6)))))
noncomputable def Que : TC := (.sq (.reg (rT Tryz.f139 0)) (.sq (.reg (rT Tryz.f139 1)) (.sq (.sq (.reg (rT Tryz.f139 2)) (.bk 0 (.nw 3 163 (.lp 0 QfL Qhl)))) (.sq (.dr QGo [(0, [1]), (1, [1]), (2, []), (3, [1]), (4, [1]), (5, []), (6, [1]), (7, [1]), (8, []), (9, [1]), (10, [1]), (11, []), (12, [1]), (13, [1]), (14, []), (15, [1]), (16, [1]), (17, []), (18, [1]), (19, [1]), (20, []), (21, [1]), (22, [1]), (23, []), (24, [1]), (25, [1]), (26, []), (27, [1]), (28, [1]), (29, []), (30, [3, 17]), (31, [3, 17, 50, 5050, 10050, 15050]), (32, []), (33, []), (34, [2])] (.of [0, 1, 2, 3, 4, 5, 6, 7, 8, 9, 10, 11, 12, 13, 14, 15, 16, 17, 18, 19, 20, 21, 22, 23, 24, 25, 26, 27, 28, 29, 30, 31, 32, 33, 34])) .rt))))
def QCy : List (RV × Option Ty) := [((.c 2 true 4), some Qai)]
abbrev QmF : Sh := ⟨[(1, .ptr 1 0), (2, .ptr 2 0), (3, .ms 3), (7, .ty (.sl .str)), (8, .ty tI), (9, .ty tI)], [(1, .box Qab), (2, .box Qai), (3, .arr 163 Qai), (17, .no)]⟩
def Qma (x7 : List ByteArray) (x8 x9 : Int) (y1 : Qaa) (y2 : ValT) (y3 : List ValT) : VS := QmF.st ((), (), (), x7, x8, x9, ()) (y1, y2, y3, (), ())
abbrev QrU : Sh := ⟨[(1, .ptr 1 0), (2, .ptr 2 0), (3, .ms 3)], [(1, .box Qab), (2, .box Qai), (3, .arr 163 Qai), (17, .no)]⟩
def Qdq (y1 : Qaa) (y2 : ValT) (y3 : List ValT) : VS := QrU.st ((), (), (), ()) (y1, y2, y3, (), ())
def QK6 : VS → Option (Bool × List (Bool × Exit × VS)) := mkL QmF (fun x y => (rngOk x.2.2.2.1 x.2.2.2.2.1 x.2.2.2.2.2.1 && decide (y.2.2.1.length ≤ x.2.2.2.2.2.1.toNat ∧ x.2.2.2.1.length ≤ 8) && x.2.2.2.1.all fun s => decide (s.size ≤ 32))) (fun x y => [(true, .exit 0, Qdq (y.1) (y.2.1) (y.2.2.1 ++ (x.2.2.2.1.drop x.2.2.2.2.2.1.toNat).map txtT))])
def QjZ : G := ⟨TYs, [], 53, EL [(160, QBt), (161, Qpc), (162, QuI), (163, QBs), (164, QBr), (165, QBq)], keeps, (Ls [QK6]), IL [], RL []⟩
def QyK (x7 : List ByteArray) (x8 x9 : Int) (y1 : Qaa) (y2 : ValT) (y3 : List ValT) : Option (Exit × VS) :=
 let a1 := ((txtT (lgt .str x7 (Int.toNat x9))).1, (((txtT (lgt .str x7 (Int.toNat x9))).2).1, ((((txtT (lgt .str x7 (Int.toNat x9))).2).2).1, ((List.map Val.of (List.map Val.un (((((txtT (lgt .str x7 (Int.toNat x9))).2).2).2).1))), ()))))
 br (ilt x9 x8) (br (cIx x7 x9) (br (Qa1 (lgt .str x7 (Int.toNat x9))) (br (cApp y3 ([a1]) 64) (some (.normal, Qma x7 x8 (iadd .i64 x9 1) y1 y2 (y3 ++ ([a1])))) none) none) none) (some (.exit 0, Qdq y1 y2 y3))
noncomputable def QhW (x7 : List ByteArray) (x8 x9 : Int) (y1 : Qaa) (y2 : ValT) (y3 : List ValT) : Option (Exit × VS) := loopF (Qaj QjZ QfL Qhl) (Qma x7 x8 x9 y1 y2 y3)
noncomputable def QkP (x7 : List ByteArray) (x8 x9 : Int) (y1 : Qaa) (y2 : ValT) (y3 : List ValT) : Option (Exit × VS) :=
 let a1 := ((txtT (lgt .str x7 (Int.toNat x9))).1, (((txtT (lgt .str x7 (Int.toNat x9))).2).1, ((((txtT (lgt .str x7 (Int.toNat x9))).2).2).1, ((List.map Val.of (List.map Val.un (((((txtT (lgt .str x7 (Int.toNat x9))).2).2).2).1))), ()))))
 br (ilt x9 x8) (br (cIx x7 x9) (br (Qa1 (lgt .str x7 (Int.toNat x9))) (br (cApp y3 ([a1]) 64) (QhW x7 x8 (iadd .i64 x9 1) y1 y2 (y3 ++ ([a1]))) none) none) none) (some (.exit 0, Qdq y1 y2 y3))
def Qie (x7 : List ByteArray) (x8 x9 : Int) (y1 : Qaa) (y2 : ValT) (y3 : List ValT) : Option (Exit × VS) := some (.exit 0, Qdq (y1) (y2) (y3 ++ (x7.drop x9.toNat).map txtT))
theorem QG1 (x7 : List ByteArray) (x8 x9 : Int) (y1 : Qaa) (y2 : ValT) (y3 : List ValT) : Qaj QjZ QfL Qhl (Qma x7 x8 x9 y1 y2 y3) = QyK x7 x8 x9 y1 y2 y3 := by kernel_rfl
theorem QsX (x7 : List ByteArray) (x8 x9 : Int) (y1 : Qaa) (y2 : ValT) (y3 : List ValT) : QhW x7 x8 x9 y1 y2 y3 = QkP x7 x8 x9 y1 y2 y3 := (Qaq _ _).trans (by
 rw [QG1]
 simp only [QyK, QkP, QaE, nxt_n, nxt_r, nxt_e, nxt_0]
 rfl)
def QDw (p0 : Qaa) : Option (V × List VO) :=
 let a3 := ((((p0).2).2).2)
 let a1 := ((a3.2).2)
 let a2 := (lstT (([] : List ValT) ++ (p0.2.2.2.2.2.2.2.2.2.2.1.drop (0 : Int).toNat).map txtT))
 let a4 := ((intT (((((a1.2).2).2).2).1)).1, (((intT (((((a1.2).2).2).2).1)).2).1, ((((intT (((((a1.2).2).2).2).1)).2).2).1, ((List.map Val.of (List.map Val.un (((((intT (((((a1.2).2).2).2).1)).2).2).2).1))), ()))))
 let a5 := ((boolT ((((a1.2).2).2).1)).1, (((boolT ((((a1.2).2).2).1)).2).1, ((((boolT ((((a1.2).2).2).1)).2).2).1, ((List.map Val.of (List.map Val.un (((((boolT ((((a1.2).2).2).1)).2).2).2).1))), ()))))
 let a6 := ((txtT ((((p0).2).2).1)).1, (((txtT ((((p0).2).2).1)).2).1, ((((txtT ((((p0).2).2).1)).2).2).1, ((List.map Val.of (List.map Val.un (((((txtT ((((p0).2).2).1)).2).2).2).1))), ()))))
 let a7 := ((intT (((a1.2).2).1)).1, (((intT (((a1.2).2).1)).2).1, ((((intT (((a1.2).2).1)).2).2).1, ((List.map Val.of (List.map Val.un (((((intT (((a1.2).2).1)).2).2).2).1))), ()))))
 let a8 := ((txtT (((p0).2).1)).1, (((txtT (((p0).2).1)).2).1, ((((txtT (((p0).2).1)).2).2).1, ((List.map Val.of (List.map Val.un (((((txtT (((p0).2).1)).2).2).2).1))), ()))))
 let a9 := ((intT ((a3.2).1)).1, (((intT ((a3.2).1)).2).1, ((((intT ((a3.2).1)).2).2).1, ((List.map Val.of (List.map Val.un (((((intT ((a3.2).1)).2).2).2).1))), ()))))
 let a10 := ((intT ((a1.2).1)).1, (((intT ((a1.2).1)).2).1, ((((intT ((a1.2).1)).2).2).1, ((List.map Val.of (List.map Val.un (((((intT ((a1.2).1)).2).2).2).1))), ()))))
 let a11 := ((intT ((p0).1)).1, (((intT ((p0).1)).2).1, ((((intT ((p0).1)).2).2).1, ((List.map Val.of (List.map Val.un (((((intT ((p0).1)).2).2).2).1))), ()))))
 let a12 := ((useT (a3.1)).1, (((useT (a3.1)).2).1, ((((useT (a3.1)).2).2).1, ((List.map Val.of (List.map Val.un (((((useT (a3.1)).2).2).2).1))), ()))))
 let a13 := ((useT (a1.1)).1, (((useT (a1.1)).2).1, ((((useT (a1.1)).2).2).1, ((List.map Val.of (List.map Val.un (((((useT (a1.1)).2).2).2).1))), ()))))
 let a14 := ((a2.2).1, (((a2.2).2).1, ((List.map Val.of (List.map Val.un ((((a2.2).2).2).1))), ())))
 br (rngOk p0.2.2.2.2.2.2.2.2.2.2.1 (llen p0.2.2.2.2.2.2.2.2.2.2.1) (0 : Int) && decide (([] : List ValT).length ≤ (0 : Int).toNat ∧ p0.2.2.2.2.2.2.2.2.2.2.1.length ≤ 8) && p0.2.2.2.2.2.2.2.2.2.2.1.all fun s => decide (s.size ≤ 32)) (br (i64Ok ((p0).1)) (br (Qa1 (((p0).2).1)) (br (Qa1 ((((p0).2).2).1)) (br (Qc2 (a3.1)) (br (i64Ok ((a3.2).1)) (br (Qc2 (a1.1)) (br (i64Ok ((a1.2).1)) (br (i64Ok (((a1.2).2).1)) (br (i64Ok (((((a1.2).2).2).2).1)) (br (copOk (([] : List ValT) ++ (p0.2.2.2.2.2.2.2.2.2.2.1.drop (0 : Int).toNat).map txtT)) (br (copOk ([a11, a8, a6, a12, a9, a13, a10, a7, a5, a4, (a2.1, a14)])) (some (.t Qai (lstT ([a11, a8, a6, a12, a9, a13, a10, a7, a5, a4, (a2.1, a14)])), [])) none) none) none) none) none) none) none) none) none) none) none) none
theorem e_f139 (p0 : Qaa) : runF QjZ Que QCy false [.t Qab p0] [] = QDw p0 := by kernel_rfl
theorem QRr : Qag Tryz.prog 139 := .inr ⟨by decide, _, Tryz.func139, by kernel_rfl, by kernel_rfl⟩
theorem QQO : GOk Tryz.prog QjZ := Qao _ (gA (gC QRl QOu (gC Qwf QvL (gC QF7 QEl (gC QRk QOt (gC QRj QOs (gC QRi QOr gN)))))))
theorem QJd (x7 : List ByteArray) (x8 x9 : Int) (y1 : Qaa) (y2 : ValT) (y3 : List ValT) (h : (rngOk x7 x8 x9 && decide (y3.length ≤ x9.toNat ∧ x7.length ≤ 8) && x7.all fun s => decide (s.size ≤ 32)) = true) : QhW x7 x8 x9 y1 y2 y3 = Qie x7 x8 x9 y1 y2 y3 := by
 simp only [Bool.and_eq_true, decide_eq_true_eq, List.all_eq_true] at h
 obtain ⟨⟨h0, h1, h2⟩, hn⟩ := h
 obtain ⟨rfl, h3, k, rfl, hk⟩ := rng_k h0
 clear h0
 rw [Int.toNat_natCast] at h1
 revert y3
 refine Qav x7 (fun k => ∀ y3 : List ValT, y3.length ≤ k → QhW x7 (x7.length : Int) (k : Int) y1 y2 y3 = Qie x7 (x7.length : Int) (k : Int) y1 y2 y3) ?_ ?_ k hk
 ·intro y3 _
  rw [QsX]
  simp only [QkP, Qie, Qaz, Nat.lt_irrefl, decide_false, Qae, Int.toNat_natCast, List.drop_length, List.map_nil, List.append_nil]
 ·intro k hk ih y3 hy
  rw [QsX]
  have hx := hn x7[k] (List.getElem_mem hk)
  simp only [QkP, Qaz, Qay, hk, decide_true, Qac, Int.toNat_natCast, add1 (show k < 4611686018427387904 by omega), QaG (y := .str) hk, QcN hx, Qi6]
  rw [cAppN (by omega) (by simp only [List.length_singleton]; omega), Qac, ih _ (by simp only [List.length_append, List.length_singleton]; omega)]
  simp only [Qie, Int.toNat_natCast, List.drop_eq_getElem_cons hk, List.map_cons, List.append_assoc, List.singleton_append]
theorem QEN : ∀ S l p, QjZ.L 0 (fgt QfL S) = some (true, l) → pickA l = some p → loopF (Qaj QjZ QfL Qhl) S = some p :=
 QaF (s := QmF) ⟨by decide, by decide⟩ (by kernel_rfl) fun x y hok p hp => by
 simp only [Qar, Qap] at hp
 exact (QJd x.2.2.2.1 x.2.2.2.2.1 x.2.2.2.2.2.1 y.1 y.2.1 y.2.2.1 (by simpa using hok)).trans hp
theorem QPz : Que.lok QjZ := by
 repeat (first | exact trivial | exact QEN | refine ⟨?_, ?_⟩)
theorem s_f139 (c : Qaa) (h : Qe7 c = true) : QDw c = some (.t Qai (bodyT c), []) := by
 simp only [Qe7, Bool.and_eq_true] at h
 obtain ⟨_, hv⟩ := h
 obtain ⟨h1, h2, h3, h4, h5, h6, h7, h8, h9, h10, h11⟩ := Qe8 hv
 have hc := QsC hv
 have hp := Qsv hv
 have ha : ((QaD c).all fun s => decide (s.size ≤ 32)) = true := List.all_eq_true.2 fun s hs => decide_eq_true (h11 s hs)
 have hl : ([] : List ValT).length ≤ 0 ∧ (QaD c).length ≤ 8 := ⟨by simp, h10⟩
 simp only [Qfn] at hp
 simp only [QDw, rng_0 (show (QaD c).length ≤ 100000 by omega), ha, Bool.and_self, h1, QcN h2, QcN h3, h4, h5, h6, h7, h8, h9, Qac, Int.toNat_zero, List.drop_zero, List.nil_append, Qi6, hc, hp]
 rw [decide_eq_true hl]
 rfl
def QBF : Ent := spec (.pr Qab .nil) (fun x => (Qe7 x.1)) (fun x => (.t Qai (bodyT x.1)))
theorem QOF : Meets Tryz.prog 139 (strip QBF) := Qaf (R := runF QjZ Que QCy false) (mG Tryz.func139 (by kernel_rfl) Tryz.ntmps139 (by kernel_rfl) QQO QPz) fun x hok => (e_f139 x.1).trans (s_f139 x.1 hok)
noncomputable def QGp : List DO := dT Tryz.f137 6
def QfM : Fg := ⟨[(1, none), (2, none), (3, none), (4, some tI)], [(1, some Qab), (2, some Qai), (3, none), (20, none)]⟩
noncomputable def Qhm : TC := (.sq (.sq (.reg (rT Tryz.f137 3)) (.cd (.t 9) .sk (.fg ⟨[(1, none), (2, none), (3, none)], [(1, some Qab), (2, some Qai), (3, none), (20, none)]⟩ (.ex 0)))) (.sq (.bk 1 (.reg (rT Tryz.f137 4))) (.reg (rT Tryz.f137 5))))
noncomputable def Qug : TC := (.sq (.reg (rT Tryz.f137 0)) (.sq (.reg (rT Tryz.f137 1)) (.sq (.sq (.reg (rT Tryz.f137 2)) (.bk 0 (.nw 3 163 (.lp 0 QfM Qhm)))) (.sq (.dr QGp [(0, [1]), (1, [1]), (2, []), (3, [1]), (4, [1]), (5, []), (6, [1]), (7, [1]), (8, []), (9, [1]), (10, [1]), (11, []), (12, [1]), (13, [1]), (14, []), (15, [1]), (16, [1]), (17, []), (18, [1]), (19, [1]), (20, []), (21, [1]), (22, [1]), (23, []), (24, [1]), (25, [1]), (26, []), (27, [1]), (28, [1]), (29, []), (30, [3, 20]), (31, [3, 20, 52, 5052, 10052, 15052]), (32, []), (33, []), (34, [2])] (.of [0, 1, 2, 3, 4, 5, 6, 7, 8, 9, 10, 11, 12, 13, 14, 15, 16, 17, 18, 19, 20, 21, 22, 23, 24, 25, 26, 27, 28, 29, 30, 31, 32, 33, 34])) .rt))))
def QCA : List (RV × Option Ty) := [((.c 2 true 4), some Qai)]
abbrev QmG : Sh := ⟨[(1, .ptr 1 0), (2, .ptr 2 0), (3, .ms 3), (4, .ty tI)], [(1, .box Qab), (2, .box Qai), (3, .arr 163 Qai), (20, .no)]⟩
def Qmb (x4 : Int) (y1 : Qaa) (y2 : ValT) (y3 : List ValT) : VS := QmG.st ((), (), (), x4, ()) (y1, y2, y3, (), ())
abbrev QrV : Sh := ⟨[(1, .ptr 1 0), (2, .ptr 2 0), (3, .ms 3)], [(1, .box Qab), (2, .box Qai), (3, .arr 163 Qai), (20, .no)]⟩
def Qdr (y1 : Qaa) (y2 : ValT) (y3 : List ValT) : VS := QrV.st ((), (), (), ()) (y1, y2, y3, (), ())
def QK7 : VS → Option (Bool × List (Bool × Exit × VS)) := mkL QmG (fun x y => (decide (0 ≤ x.2.2.2.1 ∧ x.2.2.2.1 ≤ (QaD y.1).length ∧ y.2.2.1.length ≤ x.2.2.2.1.toNat ∧ (QaD y.1).length ≤ 8) && (QaD y.1).all fun s => decide (s.size ≤ 32))) (fun x y => [(true, .exit 0, Qdr (y.1) (y.2.1) (y.2.2.1 ++ ((QaD y.1).drop x.2.2.2.1.toNat).map txtT))])
def Qj0 : G := ⟨TYs, [], 55, EL [(152, QBy), (153, QuK), (154, QuJ), (155, QBx), (156, QBw)], keeps, (Ls [QK7]), IL [], RL []⟩
def QyL (x4 : Int) (y1 : Qaa) (y2 : ValT) (y3 : List ValT) : Option (Exit × VS) :=
 let a1 := txtT (lgt .str y1.2.2.2.2.2.2.2.2.2.2.1 (Int.toNat x4))
 let a2 := ((a1.2).1, (((a1.2).2).1, ((List.map Val.of (List.map Val.un ((((a1.2).2).2).1))), ())))
 br (ilt x4 (llen y1.2.2.2.2.2.2.2.2.2.2.1)) (br (cIx y1.2.2.2.2.2.2.2.2.2.2.1 x4) (br (Qa1 (lgt .str y1.2.2.2.2.2.2.2.2.2.2.1 (Int.toNat x4))) (br (cApp y3 ([(a1.1, a2)]) 64) (some (.normal, Qmb (iadd .i64 x4 1) y1 y2 (y3 ++ ([(a1.1, a2)])))) none) none) none) (some (.exit 0, Qdr y1 y2 y3))
noncomputable def QhX (x4 : Int) (y1 : Qaa) (y2 : ValT) (y3 : List ValT) : Option (Exit × VS) := loopF (Qaj Qj0 QfM Qhm) (Qmb x4 y1 y2 y3)
noncomputable def QkQ (x4 : Int) (y1 : Qaa) (y2 : ValT) (y3 : List ValT) : Option (Exit × VS) :=
 let a1 := txtT (lgt .str y1.2.2.2.2.2.2.2.2.2.2.1 (Int.toNat x4))
 let a2 := ((a1.2).1, (((a1.2).2).1, ((List.map Val.of (List.map Val.un ((((a1.2).2).2).1))), ())))
 br (ilt x4 (llen y1.2.2.2.2.2.2.2.2.2.2.1)) (br (cIx y1.2.2.2.2.2.2.2.2.2.2.1 x4) (br (Qa1 (lgt .str y1.2.2.2.2.2.2.2.2.2.2.1 (Int.toNat x4))) (br (cApp y3 ([(a1.1, a2)]) 64) (QhX (iadd .i64 x4 1) y1 y2 (y3 ++ ([(a1.1, a2)]))) none) none) none) (some (.exit 0, Qdr y1 y2 y3))
def Qif (x4 : Int) (y1 : Qaa) (y2 : ValT) (y3 : List ValT) : Option (Exit × VS) := some (.exit 0, Qdr (y1) (y2) (y3 ++ ((QaD y1).drop x4.toNat).map txtT))
theorem QG2 (x4 : Int) (y1 : Qaa) (y2 : ValT) (y3 : List ValT) : Qaj Qj0 QfM Qhm (Qmb x4 y1 y2 y3) = QyL x4 y1 y2 y3 := by kernel_rfl
theorem QsY (x4 : Int) (y1 : Qaa) (y2 : ValT) (y3 : List ValT) : QhX x4 y1 y2 y3 = QkQ x4 y1 y2 y3 := (Qaq _ _).trans (by
 rw [QG2]
 simp only [QyL, QkQ, QaE, nxt_n, nxt_r, nxt_e, nxt_0]
 rfl)
def QDy (p0 : Qaa) : Option (V × List VO) :=
 let a3 := ((((p0).2).2).2)
 let a1 := ((a3.2).2)
 let a2 := (lstT (([] : List ValT) ++ ((QaD p0).drop (0 : Int).toNat).map txtT))
 let a4 := ((intT (((((a1.2).2).2).2).1)).1, (((intT (((((a1.2).2).2).2).1)).2).1, ((((intT (((((a1.2).2).2).2).1)).2).2).1, ((List.map Val.of (List.map Val.un (((((intT (((((a1.2).2).2).2).1)).2).2).2).1))), ()))))
 let a5 := ((boolT ((((a1.2).2).2).1)).1, (((boolT ((((a1.2).2).2).1)).2).1, ((((boolT ((((a1.2).2).2).1)).2).2).1, ((List.map Val.of (List.map Val.un (((((boolT ((((a1.2).2).2).1)).2).2).2).1))), ()))))
 let a6 := ((txtT ((((p0).2).2).1)).1, (((txtT ((((p0).2).2).1)).2).1, ((((txtT ((((p0).2).2).1)).2).2).1, ((List.map Val.of (List.map Val.un (((((txtT ((((p0).2).2).1)).2).2).2).1))), ()))))
 let a7 := ((intT (((a1.2).2).1)).1, (((intT (((a1.2).2).1)).2).1, ((((intT (((a1.2).2).1)).2).2).1, ((List.map Val.of (List.map Val.un (((((intT (((a1.2).2).1)).2).2).2).1))), ()))))
 let a8 := ((txtT (((p0).2).1)).1, (((txtT (((p0).2).1)).2).1, ((((txtT (((p0).2).1)).2).2).1, ((List.map Val.of (List.map Val.un (((((txtT (((p0).2).1)).2).2).2).1))), ()))))
 let a9 := ((intT ((a3.2).1)).1, (((intT ((a3.2).1)).2).1, ((((intT ((a3.2).1)).2).2).1, ((List.map Val.of (List.map Val.un (((((intT ((a3.2).1)).2).2).2).1))), ()))))
 let a10 := ((intT ((a1.2).1)).1, (((intT ((a1.2).1)).2).1, ((((intT ((a1.2).1)).2).2).1, ((List.map Val.of (List.map Val.un (((((intT ((a1.2).1)).2).2).2).1))), ()))))
 let a11 := ((intT ((p0).1)).1, (((intT ((p0).1)).2).1, ((((intT ((p0).1)).2).2).1, ((List.map Val.of (List.map Val.un (((((intT ((p0).1)).2).2).2).1))), ()))))
 let a12 := ((useT (a3.1)).1, (((useT (a3.1)).2).1, ((((useT (a3.1)).2).2).1, ((List.map Val.of (List.map Val.un (((((useT (a3.1)).2).2).2).1))), ()))))
 let a13 := ((useT (a1.1)).1, (((useT (a1.1)).2).1, ((((useT (a1.1)).2).2).1, ((List.map Val.of (List.map Val.un (((((useT (a1.1)).2).2).2).1))), ()))))
 let a14 := ((a2.2).1, (((a2.2).2).1, ((List.map Val.of (List.map Val.un ((((a2.2).2).2).1))), ())))
 br (decide (0 ≤ (0 : Int) ∧ (0 : Int) ≤ (QaD p0).length ∧ ([] : List ValT).length ≤ (0 : Int).toNat ∧ (QaD p0).length ≤ 8) && (QaD p0).all fun s => decide (s.size ≤ 32)) (br (i64Ok ((p0).1)) (br (Qa1 (((p0).2).1)) (br (Qa1 ((((p0).2).2).1)) (br (Qc2 (a3.1)) (br (i64Ok ((a3.2).1)) (br (Qc2 (a1.1)) (br (i64Ok ((a1.2).1)) (br (i64Ok (((a1.2).2).1)) (br (i64Ok (((((a1.2).2).2).2).1)) (br (copOk (([] : List ValT) ++ ((QaD p0).drop (0 : Int).toNat).map txtT)) (br (copOk ([a11, a8, a6, a12, a9, a13, a10, a7, a5, a4, (a2.1, a14)])) (some (.t Qai (lstT ([a11, a8, a6, a12, a9, a13, a10, a7, a5, a4, (a2.1, a14)])), [])) none) none) none) none) none) none) none) none) none) none) none) none
theorem e_f137 (p0 : Qaa) : runF Qj0 Qug QCA false [.t Qab p0] [] = QDy p0 := by kernel_rfl
theorem QRt : Qag Tryz.prog 137 := .inr ⟨by decide, _, Tryz.func137, by kernel_rfl, by kernel_rfl⟩
theorem QQQ : GOk Tryz.prog Qj0 := Qao _ (gA (gC QRo QOz (gC QGb QEn (gC QGa QEm (gC QRn QOy (gC QRm QOx gN))))))
theorem QJe (x4 : Int) (y1 : Qaa) (y2 : ValT) (y3 : List ValT) (h : (decide (0 ≤ x4 ∧ x4 ≤ (QaD y1).length ∧ y3.length ≤ x4.toNat ∧ (QaD y1).length ≤ 8) && (QaD y1).all fun s => decide (s.size ≤ 32)) = true) : QhX x4 y1 y2 y3 = Qif x4 y1 y2 y3 := by
 simp only [Bool.and_eq_true, decide_eq_true_eq, List.all_eq_true] at h
 obtain ⟨⟨h0, h1, h2, h3⟩, hn⟩ := h
 obtain ⟨k, rfl⟩ := Int.eq_ofNat_of_zero_le h0
 rw [Int.toNat_natCast] at h2
 revert y3
 refine Qav (QaD y1) (fun k => ∀ y3 : List ValT, y3.length ≤ k → QhX (k : Int) y1 y2 y3 = Qif (k : Int) y1 y2 y3) ?_ ?_ k (by omega)
 ·intro y3 _
  rw [QsY]
  simp only [QkQ, Qif, show ilt ((QaD y1).length : Int) (llen (QaD y1)) = false from decide_eq_false (by simp only [llen]; omega), Qae, Int.toNat_natCast, List.drop_length, List.map_nil, List.append_nil]
 ·intro k hk ih y3 hy
  rw [QsY]
  have hx := hn (QaD y1)[k] (List.getElem_mem hk)
  simp only [QkQ, show ilt (k : Int) (llen (QaD y1)) = true from decide_eq_true (by simp only [llen]; omega), Qay, hk, decide_true, Qac, Int.toNat_natCast, add1 (show k < 4611686018427387904 by omega), QaG (y := .str) hk, QcN hx, Qi6]
  rw [cAppN (by omega) (by simp only [List.length_singleton]; omega), Qac, ih _ (by simp only [List.length_append, List.length_singleton]; omega)]
  simp only [Qif, Int.toNat_natCast, List.drop_eq_getElem_cons hk, List.map_cons, List.append_assoc, List.singleton_append]
theorem QEO : ∀ S l p, Qj0.L 0 (fgt QfM S) = some (true, l) → pickA l = some p → loopF (Qaj Qj0 QfM Qhm) S = some p :=
 QaF (s := QmG) ⟨by decide, by decide⟩ (by kernel_rfl) fun x y hok p hp => by
 simp only [Qar, Qap] at hp
 exact (QJe x.2.2.2.1 y.1 y.2.1 y.2.2.1 (by simpa using hok)).trans hp
theorem QPB : Qug.lok Qj0 := by
 repeat (first | exact trivial | exact QEO | refine ⟨?_, ?_⟩)
theorem s_f137 (c : Qaa) (h : Qe7 c = true) : QDy c = some (.t Qai (bodyT c), []) := by
 simp only [Qe7, Bool.and_eq_true] at h
 obtain ⟨_, hv⟩ := h
 obtain ⟨h1, h2, h3, h4, h5, h6, h7, h8, h9, h10, h11⟩ := Qe8 hv
 have hc := QsC hv
 have hp := Qsv hv
 have ha : ((QaD c).all fun s => decide (s.size ≤ 32)) = true := List.all_eq_true.2 fun s hs => decide_eq_true (h11 s hs)
 have hl : (0 : Int) ≤ 0 ∧ (0 : Int) ≤ (QaD c).length ∧ ([] : List ValT).length ≤ 0 ∧ (QaD c).length ≤ 8 := ⟨by omega, by omega, by simp, h10⟩
 simp only [Qfn] at hp
 simp only [QDy, ha, Bool.and_self, h1, QcN h2, QcN h3, h4, h5, h6, h7, h8, h9, Qac, Int.toNat_zero, List.drop_zero, List.nil_append, Qi6, hc, hp]
 rw [decide_eq_true hl]
 rfl
def QBH : Ent := spec (.pr Qab .nil) (fun x => (Qe7 x.1)) (fun x => (.t Qai (bodyT x.1)))
theorem QOH : Meets Tryz.prog 137 (strip QBH) := Qaf (R := runF Qj0 Qug QCA false) (mG Tryz.func137 (by kernel_rfl) Tryz.ntmps137 (by kernel_rfl) QQQ QPB) fun x hok => (e_f137 x.1).trans (s_f137 x.1 hok)
end
end Go.Proofs.YtkngeegkjhipeaaGreat.K
