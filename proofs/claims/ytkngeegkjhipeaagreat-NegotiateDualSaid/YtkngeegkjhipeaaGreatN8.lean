import Derived.Test.YtkngeegkjhipeaaGreatN7
set_option linter.unusedSimpArgs false
set_option linter.unusedVariables false
namespace Go.Proofs.YtkngeegkjhipeaaGreat.K
open Go.RowKit
noncomputable section
theorem QMu (n : Int) : (intL n).length ≤ 8 := by
 rw [intL, QnK]
 exact Qsb n
theorem QgV (n : Nat) (m : Int) : okT (n + 1) (intT m) = true := by
 have := QMu m
 show okV (n + 1) (.mk 2 (intL m) false []) = true
 simp only [okV, List.isEmpty_nil, cond_false, List.all_nil, Bool.and_true, List.length_nil]
 rw [decide_eq_true (by omega)]
 rfl
theorem QpR (n : Nat) {s : ByteArray} (h : s.size ≤ 100000) : okT (n + 1) (txtT s) = true := by
 have := QcQ s
 show okV (n + 1) (.mk 12 (QaH s) false []) = true
 simp only [okV, List.isEmpty_nil, cond_false, List.all_nil, Bool.and_true, List.length_nil]
 rw [decide_eq_true (by omega)]
 rfl
theorem QHA (n : Nat) (b : Bool) : okT (n + 1) (boolT b) = true := by cases b <;> rfl
theorem Qvc {n : Nat} {l : List ValT} (hl : l.length ≤ 100000) (h : ∀ x ∈ l, okT n x = true) : okT (n + 1) (lstT l) = true := by
 show okV (n + 1) (.mk 48 [] true (l.map Val.of)) = true
 simp only [okV, List.isEmpty_nil, cond_true, Bool.and_true, List.length_nil, List.length_map, Bool.and_eq_true, List.all_eq_true, List.mem_map]
 refine ⟨⟨⟨rfl, rfl⟩, decide_eq_true ⟨by omega, hl⟩⟩, ?_⟩
 rintro v ⟨x, hx, rfl⟩
 exact h x hx
theorem QnG {n : Nat} {l : List ValT} (hl : l.length ≤ 100000) (h : ∀ x ∈ l, okT n x = true) : copLF (n + 1) l = true := by
 simp only [copLF, Bool.and_eq_true, decide_eq_true_eq, List.all_eq_true]
 exact ⟨hl, h⟩
theorem Qi0 (x : ValT) : ((x.1, (x.2.1, (x.2.2.1, (List.map Val.of (List.map Val.un x.2.2.2.1), ())))) : ValT) = x := by
 rw [Qcq]
theorem QgZ (m : Int) : (encT (intT m)).length ≤ 18 := by
 have h1 := QMu m
 have h2 := Qgh ((intL m).length + 0)
 rw [Qny]
 simp only [intT, encVs, List.length_cons, List.length_append, List.length_nil]
 omega
theorem QvH (s : ByteArray) : (encT (txtT s)).length ≤ 10 + s.size := by
 have h1 := QcQ s
 have h2 := Qgh ((QaH s).length + 0)
 rw [Qny]
 simp only [txtT, encVs, List.length_cons, List.length_append, List.length_nil]
 omega
theorem QIU (b : Bool) : (encT (boolT b)).length ≤ 11 := by cases b <;> decide
theorem QvI (l : List ValT) : (encT (lstT l)).length ≤ 10 + (encL l).length := by
 have h2 := Qgh (0 + (encVs (l.map Val.of)).length)
 rw [Qny]
 simp only [lstT, encL, List.length_cons, List.length_append, List.length_nil]
 omega
def useT (u : Keep) : ValT := lstT [intT u.1, intT u.2.1]
def Qc3 (u : Keep) : Bool := i64Ok u.1 && i64Ok u.2.1
theorem QDf (n : Nat) (u : Keep) : okT (n + 2) (useT u) = true :=
 Qvc (by simp) fun x hx => by
  simp only [List.mem_cons, List.not_mem_nil, or_false] at hx
  rcases hx with rfl | rfl <;> exact QgV _ _
theorem QE6 (u : Keep) : (encT (useT u)).length ≤ 46 := by
 have h0 := QvI [intT u.1, intT u.2.1]
 have h1 := QgZ u.1
 have h2 := QgZ u.2.1
 simp only [QbZ, Qgn, List.length_append, List.length_nil] at h0
 unfold useT
 omega
theorem Qzi (u : Keep) : copOk [intT u.1, intT u.2.1] = true :=
 QnG (n := 11) (by simp) fun x hx => by
  simp only [List.mem_cons, List.not_mem_nil, or_false] at hx
  rcases hx with rfl | rfl <;> exact QgV _ _
noncomputable def QFD : List DO := dT Tryz.f163 1
noncomputable def Qtx : TC := (.sq (.reg (rT Tryz.f163 0)) (.sq (.dr QFD [(0, [1]), (1, [1]), (2, []), (3, [1]), (4, [1]), (5, []), (6, []), (7, []), (8, [2])] (.of [0, 1, 2, 3, 4, 5, 6, 7, 8])) .rt))
def QBB : List (RV × Option Ty) := [((.c 2 true 4), some Qah)]
def Qw7 : G := ⟨TYs, [], 11, EL [(161, QoU), (162, Quf)], keeps, (fun _ _ => none), IL [], RL []⟩
def QCB (p0 : Keep) : Option (V × List VO) :=
 let a1 := ((intT p0.2.1).1, (((intT p0.2.1).2).1, ((((intT p0.2.1).2).2).1, ((List.map Val.of (List.map Val.un (((((intT p0.2.1).2).2).2).1))), ()))))
 let a2 := ((intT p0.1).1, (((intT p0.1).2).1, ((((intT p0.1).2).2).1, ((List.map Val.of (List.map Val.un (((((intT p0.1).2).2).2).1))), ()))))
 br (i64Ok p0.1) (br (i64Ok p0.2.1) (br (copOk ([a2, a1])) (some (.t Qah (lstT ([a2, a1])), [])) none) none) none
theorem e_f163 (p0 : Keep) : runF Qw7 Qtx QBB false [.t Qam p0] [] = QCB p0 := by kernel_rfl
theorem QQx : Qag Tryz.prog 163 := .inr ⟨by decide, _, Tryz.func163, by kernel_rfl, by kernel_rfl⟩
theorem QPK : GOk Tryz.prog Qw7 := Qan _ (gA (gC QvL Qvh (gC QFp QDF gN)))
theorem QOv : Qtx.lok Qw7 := by repeat (first | exact trivial | refine ⟨?_, ?_⟩)
theorem s_f163 (u : Keep) (h : Qc3 u = true) : QCB u = some (.t Qah (useT u), []) := by
 simp only [Qc3, Bool.and_eq_true] at h
 simp only [QCB, h.1, h.2, Qi0, Qzi, Qac]
 rfl
def QAM : Ent := spec (.pr Qam .nil) (fun x => (Qc3 x.1)) (fun x => (.t Qah (useT x.1)))
theorem QNG : Meets Tryz.prog 163 (strip QAM) := Qaf (R := runF Qw7 Qtx QBB false) (mG Tryz.func163 (by kernel_rfl) Tryz.ntmps163 (by kernel_rfl) QPK QOv) fun x hok => (e_f163 x.1).trans (s_f163 x.1 hok)
noncomputable def QFE : List DO := dT Tryz.f155 1
noncomputable def QtE : TC := (.sq (.reg (rT Tryz.f155 0)) (.sq (.dr QFE [(0, [1]), (1, [1]), (2, []), (3, [1]), (4, [1]), (5, []), (6, []), (7, []), (8, [2])] (.of [0, 1, 2, 3, 4, 5, 6, 7, 8])) .rt))
def QBI : List (RV × Option Ty) := [((.c 2 true 4), some Qah)]
def Qxc : G := ⟨TYs, [], 11, EL [(153, Quh), (154, Qug)], keeps, (fun _ _ => none), IL [], RL []⟩
def QCH (p0 : Keep) : Option (V × List VO) :=
 let a1 := ((intT p0.2.1).1, (((intT p0.2.1).2).1, ((((intT p0.2.1).2).2).1, ((List.map Val.of (List.map Val.un (((((intT p0.2.1).2).2).2).1))), ()))))
 let a2 := ((intT p0.1).1, (((intT p0.1).2).1, ((((intT p0.1).2).2).1, ((List.map Val.of (List.map Val.un (((((intT p0.1).2).2).2).1))), ()))))
 br (i64Ok p0.1) (br (i64Ok p0.2.1) (br (copOk ([a2, a1])) (some (.t Qah (lstT ([a2, a1])), [])) none) none) none
theorem e_f155 (p0 : Keep) : runF Qxc QtE QBI false [.t Qam p0] [] = QCH p0 := by kernel_rfl
theorem QQA : Qag Tryz.prog 155 := .inr ⟨by decide, _, Tryz.func155, by kernel_rfl, by kernel_rfl⟩
theorem QPR : GOk Tryz.prog Qxc := Qan _ (gA (gC QFt QDH (gC QFs QDG gN)))
theorem QOC : QtE.lok Qxc := by repeat (first | exact trivial | refine ⟨?_, ?_⟩)
theorem s_f155 (u : Keep) (h : Qc3 u = true) : QCH u = some (.t Qah (useT u), []) := by
 simp only [Qc3, Bool.and_eq_true] at h
 simp only [QCH, h.1, h.2, Qi0, Qzi, Qac]
 rfl
def QAR : Ent := spec (.pr Qam .nil) (fun x => (Qc3 x.1)) (fun x => (.t Qah (useT x.1)))
theorem QNL : Meets Tryz.prog 155 (strip QAR) := Qaf (R := runF Qxc QtE QBI false) (mG Tryz.func155 (by kernel_rfl) Tryz.ntmps155 (by kernel_rfl) QPR QOC) fun x hok => (e_f155 x.1).trans (s_f155 x.1 hok)
def Qfn (c : Qaa) : List ValT := [intT c.1, txtT c.2.1, txtT c.2.2.1, useT c.2.2.2.1, intT c.2.2.2.2.1, useT c.2.2.2.2.2.1, intT c.2.2.2.2.2.2.1, intT c.2.2.2.2.2.2.2.1, boolT c.2.2.2.2.2.2.2.2.1, intT c.2.2.2.2.2.2.2.2.2.1, lstT ((QaD c).map txtT)]
def bodyT (c : Qaa) : ValT := lstT (Qfn c)
def Qe7 (c : Qaa) : Bool := QaB c && QaC c
theorem Qym {u : Keep} (h : Qcv u = true) : 0 ≤ u.2.1 ∧ u.2.1 ≤ 16384 ∧ 1 ≤ u.1 ∧ u.1 ≤ 22 := by
 simp only [Qcv, decide_eq_true_eq] at h
 have ham : ∀ (s t : List Int), (∀ x ∈ s, 0 ≤ x ∧ x ≤ 16384) → Qbh u.2.1 s t > 0 → 0 ≤ u.2.1 ∧ u.2.1 ≤ 16384 := by
  intro s t hs hg
  unfold Qbh at hg
  split at hg
  ·rename_i k hk
   have hm : u.2.1 ∈ s := by
    have key : ∀ (s : List Int) (k : Nat), idxN u.2.1 s = some k → u.2.1 ∈ s := by
     intro s
     induction s with
     | nil => intro k hk; cases hk
     | cons a s ih =>
      intro k hk
      unfold idxN at hk
      split at hk
      ·rename_i ha
       have := eq_of_beq ha
       rw [this]; exact List.mem_cons_self
      ·obtain ⟨j, hj, _⟩ := Option.map_eq_some_iff.1 hk
       exact List.mem_cons_of_mem _ (ih j hj)
    exact key s k hk
   exact hs _ hm
  ·omega
 rw [← and_assoc]
 unfold strF at h
 repeat' split at h
 ·refine ⟨?_, by omega⟩
  unfold QdD at h
  split at h <;> omega
 ·refine ⟨?_, by omega⟩
  unfold Qoo at h
  split at h
  ·rename_i hc
   simp only [hasF, List.contains_iff_mem, List.mem_cons, List.not_mem_nil, or_false] at hc
   omega
  ·omega
 ·exact ⟨ham _ _ (by simp) h, by omega⟩
 ·exact ⟨ham _ _ (by simp) h, by omega⟩
 ·exact ⟨ham _ _ (by simp) h, by omega⟩
 ·exact ⟨ham _ _ (by simp) h, by omega⟩
 ·exact ⟨ham _ _ (by simp) h, by omega⟩
 ·refine ⟨ham _ _ (by simp) h, ?_⟩
  unfold Qbh at h
  split at h
  ·rename_i k hk
   unfold idxN at hk
   split at hk
   ·injection hk with hk
    subst hk
    simp only [List.getD_cons_zero, Qct] at h
    repeat' split at h
    all_goals omega
   ·cases hk
  ·omega
theorem QsM {u : Keep} {k : Int} (h : kindU u k = true) : Qc3 u = true := by
 simp only [kindU, Bool.and_eq_true] at h
 have := Qym h.1
 simp only [Qc3, i64Ok, Bool.and_eq_true, decide_eq_true_eq]
 omega
theorem Qjd {s : ByteArray} (h : QaV s = true) : s.size ≤ 32 := by
 simp only [QaV, Bool.and_eq_true, decide_eq_true_eq] at h
 exact h.2.2
theorem QyD {l : List ByteArray} : ∀ {k : Nat}, Qcz l k = true → ∀ j (hj : j < l.length), k ≤ j → QaV l[j] = true := by
 intro k h j hj hk
 simp only [Qcz, List.all_eq_true, List.mem_range'_1, Bool.and_eq_true] at h
 have := (h j ⟨hk, by omega⟩).1
 simpa only [List.getD_eq_getElem?_getD, List.getElem?_eq_getElem hj, Option.getD_some] using this
theorem QDm {l : List ByteArray} (h : QdB l = true) : l.length ≤ 8 ∧ ∀ s ∈ l, s.size ≤ 32 := by
 simp only [QdB, Bool.and_eq_true, Bool.not_eq_true', igt, llen, decide_eq_false_iff_not] at h
 refine ⟨by omega, fun s hs => ?_⟩
 obtain ⟨j, hj, rfl⟩ := List.mem_iff_getElem.1 hs
 exact Qjd (QyD h.1 j hj (Nat.zero_le _))
theorem Qe8 {c : Qaa} (h : QaC c = true) : i64Ok c.1 = true ∧ c.2.1.size ≤ 32 ∧ c.2.2.1.size ≤ 32 ∧ Qc3 c.2.2.2.1 = true ∧ i64Ok c.2.2.2.2.1 = true ∧ Qc3 c.2.2.2.2.2.1 = true ∧ i64Ok c.2.2.2.2.2.2.1 = true ∧ i64Ok c.2.2.2.2.2.2.2.1 = true ∧ i64Ok c.2.2.2.2.2.2.2.2.2.1 = true ∧ (QaD c).length ≤ 8 ∧ ∀ s ∈ QaD c, s.size ≤ 32 := by
 simp only [QaC, keyI, Bool.and_eq_true, Bool.not_eq_true', ilt, igt, decide_eq_false_iff_not] at h
 obtain ⟨h1, h2, h3, h4, h5, h6, ⟨h7, h7'⟩, h8, ⟨h9, h9'⟩, h10, h11, h12, h13, h14, h15, h16⟩ := h
 have hn := QDm h5
 refine ⟨decide_eq_true (by omega), Qjd h3, Qjd h4, QsM h6, decide_eq_true (by omega), QsM h8, decide_eq_true (by omega), decide_eq_true (by omega), decide_eq_true (by omega), hn.1, hn.2⟩
theorem QDg (n : Nat) {l : List ByteArray} (h : l.length ≤ 8) (hs : ∀ s ∈ l, s.size ≤ 32) : okT (n + 2) (lstT (l.map txtT)) = true :=
 Qvc (by rw [List.length_map]; omega) fun x hx => by
  obtain ⟨s, hm, rfl⟩ := List.mem_map.1 hx
  exact QpR _ (by have := hs s hm; omega)
theorem Qr7 (n : Nat) {c : Qaa} (h : QaC c = true) : ∀ x ∈ Qfn c, okT (n + 2) x = true := by
 obtain ⟨h1, h2, h3, h4, h5, h6, h7, h8, h9, h10, h11⟩ := Qe8 h
 intro x hx
 simp only [Qfn, List.mem_cons, List.not_mem_nil, or_false] at hx
 rcases hx with rfl | rfl | rfl | rfl | rfl | rfl | rfl | rfl | rfl | rfl | rfl
 ·exact QgV _ _
 ·exact QpR _ (by omega)
 ·exact QpR _ (by omega)
 ·exact QDf _ _
 ·exact QgV _ _
 ·exact QDf _ _
 ·exact QgV _ _
 ·exact QgV _ _
 ·exact QHA _ _
 ·exact QgV _ _
 ·exact QDg _ h10 h11
theorem QxD : ∀ {l : List ByteArray}, (∀ s ∈ l, s.size ≤ 32) → (encL (l.map txtT)).length ≤ 42 * l.length
 | [], _ => by simp [Qgn]
 | s :: l, h => by
  have h1 := h s (by simp)
  have h2 := QvH s
  have h3 := QxD (l := l) fun u hu => h u (by simp [hu])
  rw [List.map_cons, QbZ, List.length_append, List.length_cons]
  omega
theorem Qqv {c : Qaa} (h : QaC c = true) : (encT (bodyT c)).length ≤ 1000 := by
 obtain ⟨h1, h2, h3, h4, h5, h6, h7, h8, h9, h10, h11⟩ := Qe8 h
 have e0 := QvI (Qfn c)
 have e1 := QgZ c.1
 have e2 := QvH c.2.1
 have e3 := QvH c.2.2.1
 have e4 := QE6 c.2.2.2.1
 have e5 := QgZ c.2.2.2.2.1
 have e6 := QE6 c.2.2.2.2.2.1
 have e7 := QgZ c.2.2.2.2.2.2.1
 have e8 := QgZ c.2.2.2.2.2.2.2.1
 have e9 := QIU c.2.2.2.2.2.2.2.2.1
 have e10 := QgZ c.2.2.2.2.2.2.2.2.2.1
 have e11 := QvI ((QaD c).map txtT)
 have e12 := QxD h11
 simp only [Qfn, QbZ, Qgn, List.length_append, List.length_nil] at e0
 unfold bodyT
 simp only [Qfn]
 omega
theorem QML {c : Qaa} (h : QaC c = true) : encOk (bodyT c) = true := by
 have := Qqv h
 simp only [encOk, Bool.and_eq_true, decide_eq_true_eq]
 refine ⟨Qvc (by simp [Qfn]) (Qr7 9 h), by omega⟩
theorem Qsc {c : Qaa} (h : QaC c = true) : copOk ((QaD c).map txtT) = true := by
 obtain ⟨h1, h2, h3, h4, h5, h6, h7, h8, h9, h10, h11⟩ := Qe8 h
 exact QnG (n := 11) (by rw [List.length_map]; omega) fun x hx => by
  obtain ⟨s, hm, rfl⟩ := List.mem_map.1 hx
  exact QpR _ (by have := h11 s hm; omega)
theorem Qr5 {c : Qaa} (h : QaC c = true) : copOk (Qfn c) = true := QnG (n := 11) (by simp [Qfn]) (Qr7 9 h)
theorem QcP {s : ByteArray} (h : s.size ≤ 32) : Qa3 s = true := decide_eq_true (by omega)
noncomputable def QFG : List DO := dT Tryz.f139 7
def QfM : Fg := ⟨[(1, none), (2, none), (3, none), (7, some (.sl .str)), (8, some tI), (9, some tI)], [(1, some Qab), (2, some Qah), (3, none), (17, none)]⟩
noncomputable def Qhk : TC := (.sq (.reg (rT Tryz.f139 3)) (.sq (.cd (.t 10) .sk (.fg ⟨[(1, none), (2, none), (3, none)], [(1, some Qab), (2, some Qah), (3, none), (17, none)]⟩ (.ex 0))) (.sq (.bk 1 (.sq (.reg (rT Tryz.f139 4)) (.reg (rT Tryz.f139 5)))) (.reg (rT Tryz.f139 6)))))
noncomputable def QtN : TC := (.sq (.reg (rT Tryz.f139 0)) (.sq (.reg (rT Tryz.f139 1)) (.sq (.sq (.reg (rT Tryz.f139 2)) (.bk 0 (.nw 3 163 (.lp 0 QfM Qhk)))) (.sq (.dr QFG [(0, [1]), (1, [1]), (2, []), (3, [1]), (4, [1]), (5, []), (6, [1]), (7, [1]), (8, []), (9, [1]), (10, [1]), (11, []), (12, [1]), (13, [1]), (14, []), (15, [1]), (16, [1]), (17, []), (18, [1]), (19, [1]), (20, []), (21, [1]), (22, [1]), (23, []), (24, [1]), (25, [1]), (26, []), (27, [1]), (28, [1]), (29, []), (30, [3, 17]), (31, [3, 17, 50, 5050, 10050, 15050]), (32, []), (33, []), (34, [2])] (.of [0, 1, 2, 3, 4, 5, 6, 7, 8, 9, 10, 11, 12, 13, 14, 15, 16, 17, 18, 19, 20, 21, 22, 23, 24, 25, 26, 27, 28, 29, 30, 31, 32, 33, 34])) .rt))))
def QBR : List (RV × Option Ty) := [((.c 2 true 4), some Qah)]
abbrev Qmw : Sh := ⟨[(1, .ptr 1 0), (2, .ptr 2 0), (3, .ms 3), (7, .ty (.sl .str)), (8, .ty tI), (9, .ty tI)], [(1, .box Qab), (2, .box Qah), (3, .arr 163 Qah), (17, .no)]⟩
def Ql1 (x7 : List ByteArray) (x8 x9 : Int) (y1 : Qaa) (y2 : ValT) (y3 : List ValT) : VS := Qmw.st ((), (), (), x7, x8, x9, ()) (y1, y2, y3, (), ())
abbrev QrC : Sh := ⟨[(1, .ptr 1 0), (2, .ptr 2 0), (3, .ms 3)], [(1, .box Qab), (2, .box Qah), (3, .arr 163 Qah), (17, .no)]⟩
def Qdq (y1 : Qaa) (y2 : ValT) (y3 : List ValT) : VS := QrC.st ((), (), (), ()) (y1, y2, y3, (), ())
def QKq : VS → Option (Bool × List (Bool × Exit × VS)) := mkL Qmw (fun x y => (rngOk x.2.2.2.1 x.2.2.2.2.1 x.2.2.2.2.2.1 && decide (y.2.2.1.length ≤ x.2.2.2.2.2.1.toNat ∧ x.2.2.2.1.length ≤ 8) && x.2.2.2.1.all fun s => decide (s.size ≤ 32))) (fun x y => [(true, .exit 0, Qdq (y.1) (y.2.1) (y.2.2.1 ++ (x.2.2.2.1.drop x.2.2.2.2.2.1.toNat).map txtT))])
def QjT : G := ⟨TYs, [], 53, EL [(160, QAN), (161, QoU), (162, Quf), (163, QAM), (164, QAL), (165, QAK)], keeps, (Ls [QKq]), IL [], RL []⟩
def Qx7 (x7 : List ByteArray) (x8 x9 : Int) (y1 : Qaa) (y2 : ValT) (y3 : List ValT) : Option (Exit × VS) :=
 let a1 := ((txtT (lgt .str x7 (Int.toNat x9))).1, (((txtT (lgt .str x7 (Int.toNat x9))).2).1, ((((txtT (lgt .str x7 (Int.toNat x9))).2).2).1, ((List.map Val.of (List.map Val.un (((((txtT (lgt .str x7 (Int.toNat x9))).2).2).2).1))), ()))))
 br (ilt x9 x8) (br (cIx x7 x9) (br (Qa3 (lgt .str x7 (Int.toNat x9))) (br (cApp y3 ([a1]) 64) (some (.normal, Ql1 x7 x8 (iadd .i64 x9 1) y1 y2 (y3 ++ ([a1])))) none) none) none) (some (.exit 0, Qdq y1 y2 y3))
noncomputable def QhT (x7 : List ByteArray) (x8 x9 : Int) (y1 : Qaa) (y2 : ValT) (y3 : List ValT) : Option (Exit × VS) := loopF (Qaj QjT QfM Qhk) (Ql1 x7 x8 x9 y1 y2 y3)
noncomputable def QkJ (x7 : List ByteArray) (x8 x9 : Int) (y1 : Qaa) (y2 : ValT) (y3 : List ValT) : Option (Exit × VS) :=
 let a1 := ((txtT (lgt .str x7 (Int.toNat x9))).1, (((txtT (lgt .str x7 (Int.toNat x9))).2).1, ((((txtT (lgt .str x7 (Int.toNat x9))).2).2).1, ((List.map Val.of (List.map Val.un (((((txtT (lgt .str x7 (Int.toNat x9))).2).2).2).1))), ()))))
 br (ilt x9 x8) (br (cIx x7 x9) (br (Qa3 (lgt .str x7 (Int.toNat x9))) (br (cApp y3 ([a1]) 64) (QhT x7 x8 (iadd .i64 x9 1) y1 y2 (y3 ++ ([a1]))) none) none) none) (some (.exit 0, Qdq y1 y2 y3))
def Qib (x7 : List ByteArray) (x8 x9 : Int) (y1 : Qaa) (y2 : ValT) (y3 : List ValT) : Option (Exit × VS) := some (.exit 0, Qdq (y1) (y2) (y3 ++ (x7.drop x9.toNat).map txtT))
theorem QGk (x7 : List ByteArray) (x8 x9 : Int) (y1 : Qaa) (y2 : ValT) (y3 : List ValT) : Qaj QjT QfM Qhk (Ql1 x7 x8 x9 y1 y2 y3) = Qx7 x7 x8 x9 y1 y2 y3 := by kernel_rfl
theorem Qsx (x7 : List ByteArray) (x8 x9 : Int) (y1 : Qaa) (y2 : ValT) (y3 : List ValT) : QhT x7 x8 x9 y1 y2 y3 = QkJ x7 x8 x9 y1 y2 y3 := (Qaq _ _).trans (by
 rw [QGk]
 simp only [Qx7, QkJ, QaE, nxt_n, nxt_r, nxt_e, nxt_0]
 rfl)
def QCP (p0 : Qaa) : Option (V × List VO) :=
 let a3 := ((((p0).2).2).2)
 let a1 := ((a3.2).2)
 let a2 := (lstT (([] : List ValT) ++ (p0.2.2.2.2.2.2.2.2.2.2.1.drop (0 : Int).toNat).map txtT))
 let a4 := ((intT (((((a1.2).2).2).2).1)).1, (((intT (((((a1.2).2).2).2).1)).2).1, ((((intT (((((a1.2).2).2).2).1)).2).2).1, ((List.map Val.of (List.map Val.un (((((intT (((((a1.2).2).2).2).1)).2).2).2).1))), ()))))
 let a5 := ((boolT ((((a1.2).2).2).1)).1, (((boolT ((((a1.2).2).2).1)).2).1, ((((boolT ((((a1.2).2).2).1)).2).2).1, ((List.map Val.of (List.map Val.un (((((boolT ((((a1.2).2).2).1)).2).2).2).1))), ()))))
 let a6 := ((txtT ((((p0).2).2).1)).1, (((txtT ((((p0).2).2).1)).2).1, ((((txtT ((((p0).2).2).1)).2).2).1, ((List.map Val.of (List.map Val.un (((((txtT ((((p0).2).2).1)).2).2).2).1))), ()))))
 let a7 := ((intT (((a1.2).2).1)).1, (((intT (((a1.2).2).1)).2).1, ((((intT (((a1.2).2).1)).2).2).1, ((List.map Val.of (List.map Val.un (((((intT (((a1.2).2).1)).2).2).2).1))), ()))))
 let a8 := ((txtT (((p0).2).1)).1, (((txtT (((p0).2).1)).2).1, ((((txtT (((p0).2).1)).2).2).1, ((List.map Val.of (List.map Val.un (((((txtT (((p0).2).1)).2).2).2).1))), ()))))
 let a9 := ((intT ((a3.2).1)).1, (((intT ((a3.2).1)).2).1, ((((intT ((a3.2).1)).2).2).1, ((List.map Val.of (List.map Val.un (((((intT ((a3.2).1)).2).2).2).1))), ()))))
 let a10 := ((intT ((a1.2).1)).1, (((intT ((a1.2).1)).2).1, ((((intT ((a1.2).1)).2).2).1, ((List.map Val.of (List.map Val.un (((((intT ((a1.2).1)).2).2).2).1))), ()))))
 let a11 := ((intT ((p0).1)).1, (((intT ((p0).1)).2).1, ((((intT ((p0).1)).2).2).1, ((List.map Val.of (List.map Val.un (((((intT ((p0).1)).2).2).2).1))), ()))))
 let a12 := ((useT (a3.1)).1, (((useT (a3.1)).2).1, ((((useT (a3.1)).2).2).1, ((List.map Val.of (List.map Val.un (((((useT (a3.1)).2).2).2).1))), ()))))
 let a13 := ((useT (a1.1)).1, (((useT (a1.1)).2).1, ((((useT (a1.1)).2).2).1, ((List.map Val.of (List.map Val.un (((((useT (a1.1)).2).2).2).1))), ()))))
 let a14 := ((a2.2).1, (((a2.2).2).1, ((List.map Val.of (List.map Val.un ((((a2.2).2).2).1))), ())))
 br (rngOk p0.2.2.2.2.2.2.2.2.2.2.1 (llen p0.2.2.2.2.2.2.2.2.2.2.1) (0 : Int) && decide (([] : List ValT).length ≤ (0 : Int).toNat ∧ p0.2.2.2.2.2.2.2.2.2.2.1.length ≤ 8) && p0.2.2.2.2.2.2.2.2.2.2.1.all fun s => decide (s.size ≤ 32)) (br (i64Ok ((p0).1)) (br (Qa3 (((p0).2).1)) (br (Qa3 ((((p0).2).2).1)) (br (Qc3 (a3.1)) (br (i64Ok ((a3.2).1)) (br (Qc3 (a1.1)) (br (i64Ok ((a1.2).1)) (br (i64Ok (((a1.2).2).1)) (br (i64Ok (((((a1.2).2).2).2).1)) (br (copOk (([] : List ValT) ++ (p0.2.2.2.2.2.2.2.2.2.2.1.drop (0 : Int).toNat).map txtT)) (br (copOk ([a11, a8, a6, a12, a9, a13, a10, a7, a5, a4, (a2.1, a14)])) (some (.t Qah (lstT ([a11, a8, a6, a12, a9, a13, a10, a7, a5, a4, (a2.1, a14)])), [])) none) none) none) none) none) none) none) none) none) none) none) none
theorem e_f139 (p0 : Qaa) : runF QjT QtN QBR false [.t Qab p0] [] = QCP p0 := by kernel_rfl
theorem QQE : Qag Tryz.prog 139 := .inr ⟨by decide, _, Tryz.func139, by kernel_rfl, by kernel_rfl⟩
theorem QP0 : GOk Tryz.prog QjT := Qan _ (gA (gC QQy QNH (gC QvL Qvh (gC QFp QDF (gC QQx QNG (gC QQw QNF (gC QQv QNE gN)))))))
theorem QIv (x7 : List ByteArray) (x8 x9 : Int) (y1 : Qaa) (y2 : ValT) (y3 : List ValT) (h : (rngOk x7 x8 x9 && decide (y3.length ≤ x9.toNat ∧ x7.length ≤ 8) && x7.all fun s => decide (s.size ≤ 32)) = true) : QhT x7 x8 x9 y1 y2 y3 = Qib x7 x8 x9 y1 y2 y3 := by
 simp only [Bool.and_eq_true, decide_eq_true_eq, List.all_eq_true] at h
 obtain ⟨⟨h0, h1, h2⟩, hn⟩ := h
 obtain ⟨rfl, h3, k, rfl, hk⟩ := rng_k h0
 clear h0
 rw [Int.toNat_natCast] at h1
 revert y3
 refine Qav x7 (fun k => ∀ y3 : List ValT, y3.length ≤ k → QhT x7 (x7.length : Int) (k : Int) y1 y2 y3 = Qib x7 (x7.length : Int) (k : Int) y1 y2 y3) ?_ ?_ k hk
 ·intro y3 _
  rw [Qsx]
  simp only [QkJ, Qib, Qaz, Nat.lt_irrefl, decide_false, Qae, Int.toNat_natCast, List.drop_length, List.map_nil, List.append_nil]
 ·intro k hk ih y3 hy
  rw [Qsx]
  have hx := hn x7[k] (List.getElem_mem hk)
  simp only [QkJ, Qaz, Qay, hk, decide_true, Qac, Int.toNat_natCast, add1 (show k < 4611686018427387904 by omega), QaG (y := .str) hk, QcP hx, Qi0]
  rw [cAppN (by omega) (by simp only [List.length_singleton]; omega), Qac, ih _ (by simp only [List.length_append, List.length_singleton]; omega)]
  simp only [Qib, Int.toNat_natCast, List.drop_eq_getElem_cons hk, List.map_cons, List.append_assoc, List.singleton_append]
theorem QD7 : ∀ S l p, QjT.L 0 (fgt QfM S) = some (true, l) → pickA l = some p → loopF (Qaj QjT QfM Qhk) S = some p :=
 QaF (s := Qmw) ⟨by decide, by decide⟩ (by kernel_rfl) fun x y hok p hp => by
 simp only [Qas, Qap] at hp
 exact (QIv x.2.2.2.1 x.2.2.2.2.1 x.2.2.2.2.2.1 y.1 y.2.1 y.2.2.1 (by simpa using hok)).trans hp
theorem QOL : QtN.lok QjT := by
 repeat (first | exact trivial | exact QD7 | refine ⟨?_, ?_⟩)
theorem s_f139 (c : Qaa) (h : Qe7 c = true) : QCP c = some (.t Qah (bodyT c), []) := by
 simp only [Qe7, Bool.and_eq_true] at h
 obtain ⟨_, hv⟩ := h
 obtain ⟨h1, h2, h3, h4, h5, h6, h7, h8, h9, h10, h11⟩ := Qe8 hv
 have hc := Qsc hv
 have hp := Qr5 hv
 have ha : ((QaD c).all fun s => decide (s.size ≤ 32)) = true := List.all_eq_true.2 fun s hs => decide_eq_true (h11 s hs)
 have hl : ([] : List ValT).length ≤ 0 ∧ (QaD c).length ≤ 8 := ⟨by simp, h10⟩
 simp only [Qfn] at hp
 simp only [QCP, rng_0 (show (QaD c).length ≤ 100000 by omega), ha, Bool.and_self, h1, QcP h2, QcP h3, h4, h5, h6, h7, h8, h9, Qac, Int.toNat_zero, List.drop_zero, List.nil_append, Qi0, hc, hp]
 rw [decide_eq_true hl]
 rfl
def QAZ : Ent := spec (.pr Qab .nil) (fun x => (Qe7 x.1)) (fun x => (.t Qah (bodyT x.1)))
theorem QNS : Meets Tryz.prog 139 (strip QAZ) := Qaf (R := runF QjT QtN QBR false) (mG Tryz.func139 (by kernel_rfl) Tryz.ntmps139 (by kernel_rfl) QP0 QOL) fun x hok => (e_f139 x.1).trans (s_f139 x.1 hok)
noncomputable def QFH : List DO := dT Tryz.f137 6
def QfN : Fg := ⟨[(1, none), (2, none), (3, none), (4, some tI)], [(1, some Qab), (2, some Qah), (3, none), (20, none)]⟩
noncomputable def Qhl : TC := (.sq (.sq (.reg (rT Tryz.f137 3)) (.cd (.t 9) .sk (.fg ⟨[(1, none), (2, none), (3, none)], [(1, some Qab), (2, some Qah), (3, none), (20, none)]⟩ (.ex 0)))) (.sq (.bk 1 (.reg (rT Tryz.f137 4))) (.reg (rT Tryz.f137 5))))
noncomputable def QtP : TC := (.sq (.reg (rT Tryz.f137 0)) (.sq (.reg (rT Tryz.f137 1)) (.sq (.sq (.reg (rT Tryz.f137 2)) (.bk 0 (.nw 3 163 (.lp 0 QfN Qhl)))) (.sq (.dr QFH [(0, [1]), (1, [1]), (2, []), (3, [1]), (4, [1]), (5, []), (6, [1]), (7, [1]), (8, []), (9, [1]), (10, [1]), (11, []), (12, [1]), (13, [1]), (14, []), (15, [1]), (16, [1]), (17, []), (18, [1]), (19, [1]), (20, []), (21, [1]), (22, [1]), (23, []), (24, [1]), (25, [1]), (26, []), (27, [1]), (28, [1]), (29, []), (30, [3, 20]), (31, [3, 20, 52, 5052, 10052, 15052]), (32, []), (33, []), (34, [2])] (.of [0, 1, 2, 3, 4, 5, 6, 7, 8, 9, 10, 11, 12, 13, 14, 15, 16, 17, 18, 19, 20, 21, 22, 23, 24, 25, 26, 27, 28, 29, 30, 31, 32, 33, 34])) .rt))))
def QBT : List (RV × Option Ty) := [((.c 2 true 4), some Qah)]
abbrev Qmx : Sh := ⟨[(1, .ptr 1 0), (2, .ptr 2 0), (3, .ms 3), (4, .ty tI)], [(1, .box Qab), (2, .box Qah), (3, .arr 163 Qah), (20, .no)]⟩
def Ql2 (x4 : Int) (y1 : Qaa) (y2 : ValT) (y3 : List ValT) : VS := Qmx.st ((), (), (), x4, ()) (y1, y2, y3, (), ())
abbrev QrD : Sh := ⟨[(1, .ptr 1 0), (2, .ptr 2 0), (3, .ms 3)], [(1, .box Qab), (2, .box Qah), (3, .arr 163 Qah), (20, .no)]⟩
def Qdr (y1 : Qaa) (y2 : ValT) (y3 : List ValT) : VS := QrD.st ((), (), (), ()) (y1, y2, y3, (), ())
def QKr : VS → Option (Bool × List (Bool × Exit × VS)) := mkL Qmx (fun x y => (decide (0 ≤ x.2.2.2.1 ∧ x.2.2.2.1 ≤ (QaD y.1).length ∧ y.2.2.1.length ≤ x.2.2.2.1.toNat ∧ (QaD y.1).length ≤ 8) && (QaD y.1).all fun s => decide (s.size ≤ 32))) (fun x y => [(true, .exit 0, Qdr (y.1) (y.2.1) (y.2.2.1 ++ ((QaD y.1).drop x.2.2.2.1.toNat).map txtT))])
def QjU : G := ⟨TYs, [], 55, EL [(152, QAS), (153, Quh), (154, Qug), (155, QAR), (156, QAQ)], keeps, (Ls [QKr]), IL [], RL []⟩
def Qx8 (x4 : Int) (y1 : Qaa) (y2 : ValT) (y3 : List ValT) : Option (Exit × VS) :=
 let a1 := txtT (lgt .str y1.2.2.2.2.2.2.2.2.2.2.1 (Int.toNat x4))
 let a2 := ((a1.2).1, (((a1.2).2).1, ((List.map Val.of (List.map Val.un ((((a1.2).2).2).1))), ())))
 br (ilt x4 (llen y1.2.2.2.2.2.2.2.2.2.2.1)) (br (cIx y1.2.2.2.2.2.2.2.2.2.2.1 x4) (br (Qa3 (lgt .str y1.2.2.2.2.2.2.2.2.2.2.1 (Int.toNat x4))) (br (cApp y3 ([(a1.1, a2)]) 64) (some (.normal, Ql2 (iadd .i64 x4 1) y1 y2 (y3 ++ ([(a1.1, a2)])))) none) none) none) (some (.exit 0, Qdr y1 y2 y3))
noncomputable def QhU (x4 : Int) (y1 : Qaa) (y2 : ValT) (y3 : List ValT) : Option (Exit × VS) := loopF (Qaj QjU QfN Qhl) (Ql2 x4 y1 y2 y3)
noncomputable def QkK (x4 : Int) (y1 : Qaa) (y2 : ValT) (y3 : List ValT) : Option (Exit × VS) :=
 let a1 := txtT (lgt .str y1.2.2.2.2.2.2.2.2.2.2.1 (Int.toNat x4))
 let a2 := ((a1.2).1, (((a1.2).2).1, ((List.map Val.of (List.map Val.un ((((a1.2).2).2).1))), ())))
 br (ilt x4 (llen y1.2.2.2.2.2.2.2.2.2.2.1)) (br (cIx y1.2.2.2.2.2.2.2.2.2.2.1 x4) (br (Qa3 (lgt .str y1.2.2.2.2.2.2.2.2.2.2.1 (Int.toNat x4))) (br (cApp y3 ([(a1.1, a2)]) 64) (QhU (iadd .i64 x4 1) y1 y2 (y3 ++ ([(a1.1, a2)]))) none) none) none) (some (.exit 0, Qdr y1 y2 y3))
def Qic (x4 : Int) (y1 : Qaa) (y2 : ValT) (y3 : List ValT) : Option (Exit × VS) := some (.exit 0, Qdr (y1) (y2) (y3 ++ ((QaD y1).drop x4.toNat).map txtT))
theorem QGl (x4 : Int) (y1 : Qaa) (y2 : ValT) (y3 : List ValT) : Qaj QjU QfN Qhl (Ql2 x4 y1 y2 y3) = Qx8 x4 y1 y2 y3 := by kernel_rfl
theorem Qsy (x4 : Int) (y1 : Qaa) (y2 : ValT) (y3 : List ValT) : QhU x4 y1 y2 y3 = QkK x4 y1 y2 y3 := (Qaq _ _).trans (by
 rw [QGl]
 simp only [Qx8, QkK, QaE, nxt_n, nxt_r, nxt_e, nxt_0]
 rfl)
def QCR (p0 : Qaa) : Option (V × List VO) :=
 let a3 := ((((p0).2).2).2)
 let a1 := ((a3.2).2)
 let a2 := (lstT (([] : List ValT) ++ ((QaD p0).drop (0 : Int).toNat).map txtT))
 let a4 := ((intT (((((a1.2).2).2).2).1)).1, (((intT (((((a1.2).2).2).2).1)).2).1, ((((intT (((((a1.2).2).2).2).1)).2).2).1, ((List.map Val.of (List.map Val.un (((((intT (((((a1.2).2).2).2).1)).2).2).2).1))), ()))))
 let a5 := ((boolT ((((a1.2).2).2).1)).1, (((boolT ((((a1.2).2).2).1)).2).1, ((((boolT ((((a1.2).2).2).1)).2).2).1, ((List.map Val.of (List.map Val.un (((((boolT ((((a1.2).2).2).1)).2).2).2).1))), ()))))
 let a6 := ((txtT ((((p0).2).2).1)).1, (((txtT ((((p0).2).2).1)).2).1, ((((txtT ((((p0).2).2).1)).2).2).1, ((List.map Val.of (List.map Val.un (((((txtT ((((p0).2).2).1)).2).2).2).1))), ()))))
 let a7 := ((intT (((a1.2).2).1)).1, (((intT (((a1.2).2).1)).2).1, ((((intT (((a1.2).2).1)).2).2).1, ((List.map Val.of (List.map Val.un (((((intT (((a1.2).2).1)).2).2).2).1))), ()))))
 let a8 := ((txtT (((p0).2).1)).1, (((txtT (((p0).2).1)).2).1, ((((txtT (((p0).2).1)).2).2).1, ((List.map Val.of (List.map Val.un (((((txtT (((p0).2).1)).2).2).2).1))), ()))))
 let a9 := ((intT ((a3.2).1)).1, (((intT ((a3.2).1)).2).1, ((((intT ((a3.2).1)).2).2).1, ((List.map Val.of (List.map Val.un (((((intT ((a3.2).1)).2).2).2).1))), ()))))
 let a10 := ((intT ((a1.2).1)).1, (((intT ((a1.2).1)).2).1, ((((intT ((a1.2).1)).2).2).1, ((List.map Val.of (List.map Val.un (((((intT ((a1.2).1)).2).2).2).1))), ()))))
 let a11 := ((intT ((p0).1)).1, (((intT ((p0).1)).2).1, ((((intT ((p0).1)).2).2).1, ((List.map Val.of (List.map Val.un (((((intT ((p0).1)).2).2).2).1))), ()))))
 let a12 := ((useT (a3.1)).1, (((useT (a3.1)).2).1, ((((useT (a3.1)).2).2).1, ((List.map Val.of (List.map Val.un (((((useT (a3.1)).2).2).2).1))), ()))))
 let a13 := ((useT (a1.1)).1, (((useT (a1.1)).2).1, ((((useT (a1.1)).2).2).1, ((List.map Val.of (List.map Val.un (((((useT (a1.1)).2).2).2).1))), ()))))
 let a14 := ((a2.2).1, (((a2.2).2).1, ((List.map Val.of (List.map Val.un ((((a2.2).2).2).1))), ())))
 br (decide (0 ≤ (0 : Int) ∧ (0 : Int) ≤ (QaD p0).length ∧ ([] : List ValT).length ≤ (0 : Int).toNat ∧ (QaD p0).length ≤ 8) && (QaD p0).all fun s => decide (s.size ≤ 32)) (br (i64Ok ((p0).1)) (br (Qa3 (((p0).2).1)) (br (Qa3 ((((p0).2).2).1)) (br (Qc3 (a3.1)) (br (i64Ok ((a3.2).1)) (br (Qc3 (a1.1)) (br (i64Ok ((a1.2).1)) (br (i64Ok (((a1.2).2).1)) (br (i64Ok (((((a1.2).2).2).2).1)) (br (copOk (([] : List ValT) ++ ((QaD p0).drop (0 : Int).toNat).map txtT)) (br (copOk ([a11, a8, a6, a12, a9, a13, a10, a7, a5, a4, (a2.1, a14)])) (some (.t Qah (lstT ([a11, a8, a6, a12, a9, a13, a10, a7, a5, a4, (a2.1, a14)])), [])) none) none) none) none) none) none) none) none) none) none) none) none
theorem e_f137 (p0 : Qaa) : runF QjU QtP QBT false [.t Qab p0] [] = QCR p0 := by kernel_rfl
theorem QQG : Qag Tryz.prog 137 := .inr ⟨by decide, _, Tryz.func137, by kernel_rfl, by kernel_rfl⟩
theorem QP2 : GOk Tryz.prog QjU := Qan _ (gA (gC QQB QNM (gC QFt QDH (gC QFs QDG (gC QQA QNL (gC QQz QNK gN))))))
theorem QIw (x4 : Int) (y1 : Qaa) (y2 : ValT) (y3 : List ValT) (h : (decide (0 ≤ x4 ∧ x4 ≤ (QaD y1).length ∧ y3.length ≤ x4.toNat ∧ (QaD y1).length ≤ 8) && (QaD y1).all fun s => decide (s.size ≤ 32)) = true) : QhU x4 y1 y2 y3 = Qic x4 y1 y2 y3 := by
 simp only [Bool.and_eq_true, decide_eq_true_eq, List.all_eq_true] at h
 obtain ⟨⟨h0, h1, h2, h3⟩, hn⟩ := h
 obtain ⟨k, rfl⟩ := Int.eq_ofNat_of_zero_le h0
 rw [Int.toNat_natCast] at h2
 revert y3
 refine Qav (QaD y1) (fun k => ∀ y3 : List ValT, y3.length ≤ k → QhU (k : Int) y1 y2 y3 = Qic (k : Int) y1 y2 y3) ?_ ?_ k (by omega)
 ·intro y3 _
  rw [Qsy]
  simp only [QkK, Qic, show ilt ((QaD y1).length : Int) (llen (QaD y1)) = false from decide_eq_false (by simp only [llen]; omega), Qae, Int.toNat_natCast, List.drop_length, List.map_nil, List.append_nil]
 ·intro k hk ih y3 hy
  rw [Qsy]
  have hx := hn (QaD y1)[k] (List.getElem_mem hk)
  simp only [QkK, show ilt (k : Int) (llen (QaD y1)) = true from decide_eq_true (by simp only [llen]; omega), Qay, hk, decide_true, Qac, Int.toNat_natCast, add1 (show k < 4611686018427387904 by omega), QaG (y := .str) hk, QcP hx, Qi0]
  rw [cAppN (by omega) (by simp only [List.length_singleton]; omega), Qac, ih _ (by simp only [List.length_append, List.length_singleton]; omega)]
  simp only [Qic, Int.toNat_natCast, List.drop_eq_getElem_cons hk, List.map_cons, List.append_assoc, List.singleton_append]
theorem QD8 : ∀ S l p, QjU.L 0 (fgt QfN S) = some (true, l) → pickA l = some p → loopF (Qaj QjU QfN Qhl) S = some p :=
 QaF (s := Qmx) ⟨by decide, by decide⟩ (by kernel_rfl) fun x y hok p hp => by
 simp only [Qas, Qap] at hp
 exact (QIw x.2.2.2.1 y.1 y.2.1 y.2.2.1 (by simpa using hok)).trans hp
theorem QON : QtP.lok QjU := by
 repeat (first | exact trivial | exact QD8 | refine ⟨?_, ?_⟩)
theorem s_f137 (c : Qaa) (h : Qe7 c = true) : QCR c = some (.t Qah (bodyT c), []) := by
 simp only [Qe7, Bool.and_eq_true] at h
 obtain ⟨_, hv⟩ := h
 obtain ⟨h1, h2, h3, h4, h5, h6, h7, h8, h9, h10, h11⟩ := Qe8 hv
 have hc := Qsc hv
 have hp := Qr5 hv
 have ha : ((QaD c).all fun s => decide (s.size ≤ 32)) = true := List.all_eq_true.2 fun s hs => decide_eq_true (h11 s hs)
 have hl : (0 : Int) ≤ 0 ∧ (0 : Int) ≤ (QaD c).length ∧ ([] : List ValT).length ≤ 0 ∧ (QaD c).length ≤ 8 := ⟨by omega, by omega, by simp, h10⟩
 simp only [Qfn] at hp
 simp only [QCR, ha, Bool.and_self, h1, QcP h2, QcP h3, h4, h5, h6, h7, h8, h9, Qac, Int.toNat_zero, List.drop_zero, List.nil_append, Qi0, hc, hp]
 rw [decide_eq_true hl]
 rfl
def QA1 : Ent := spec (.pr Qab .nil) (fun x => (Qe7 x.1)) (fun x => (.t Qah (bodyT x.1)))
theorem QNU : Meets Tryz.prog 137 (strip QA1) := Qaf (R := runF QjU QtP QBT false) (mG Tryz.func137 (by kernel_rfl) Tryz.ntmps137 (by kernel_rfl) QP2 QON) fun x hok => (e_f137 x.1).trans (s_f137 x.1 hok)
end
end Go.Proofs.YtkngeegkjhipeaaGreat.K
