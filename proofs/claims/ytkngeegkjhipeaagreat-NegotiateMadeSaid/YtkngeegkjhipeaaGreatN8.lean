import Derived.Test.YtkngeegkjhipeaaGreatN7
set_option linter.unusedSimpArgs false
set_option linter.unusedVariables false
namespace Go.Proofs.YtkngeegkjhipeaaGreat.K
open Go.RowKit
noncomputable section
theorem QQ0 (n : Int) : (intL n).length ≤ 8 := by
 rw [intL, Qpr]
 exact QuO n
theorem Qhy (n : Nat) (m : Int) : okT (n + 1) (intT m) = true := by
 have := QQ0 m
 show okV (n + 1) (.mk 2 (intL m) false []) = true
 simp only [okV, List.isEmpty_nil, cond_false, List.all_nil, Bool.and_true, List.length_nil]
 rw [decide_eq_true (by omega)]
 rfl
theorem Qr1 (n : Nat) {s : ByteArray} (h : s.size ≤ 100000) : okT (n + 1) (txtT s) = true := by
 have := Qco s
 show okV (n + 1) (.mk 12 (QaG s) false []) = true
 simp only [okV, List.isEmpty_nil, cond_false, List.all_nil, Bool.and_true, List.length_nil]
 rw [decide_eq_true (by omega)]
 rfl
theorem QLk (n : Nat) (b : Bool) : okT (n + 1) (boolT b) = true := by cases b <;> rfl
theorem Qx7 {n : Nat} {l : List ValT} (hl : l.length ≤ 100000) (h : ∀ x ∈ l, okT n x = true) : okT (n + 1) (lstT l) = true := by
 show okV (n + 1) (.mk 48 [] true (l.map Val.of)) = true
 simp only [okV, List.isEmpty_nil, cond_true, Bool.and_true, List.length_nil, List.length_map, Bool.and_eq_true, List.all_eq_true, List.mem_map]
 refine ⟨⟨⟨rfl, rfl⟩, decide_eq_true ⟨by omega, hl⟩⟩, ?_⟩
 rintro v ⟨x, hx, rfl⟩
 exact h x hx
theorem Qpo {n : Nat} {l : List ValT} (hl : l.length ≤ 100000) (h : ∀ x ∈ l, okT n x = true) : copLF (n + 1) l = true := by
 simp only [copLF, Bool.and_eq_true, decide_eq_true_eq, List.all_eq_true]
 exact ⟨hl, h⟩
theorem Qj1 (x : ValT) : ((x.1, (x.2.1, (x.2.2.1, (List.map Val.of (List.map Val.un x.2.2.2.1), ())))) : ValT) = x := by
 rw [QcD]
theorem QhB (m : Int) : (encT (intT m)).length ≤ 18 := by
 have h1 := QQ0 m
 have h2 := QgR ((intL m).length + 0)
 rw [Qpf]
 simp only [intT, encVs, List.length_cons, List.length_append, List.length_nil]
 omega
theorem QyC (s : ByteArray) : (encT (txtT s)).length ≤ 10 + s.size := by
 have h1 := Qco s
 have h2 := QgR ((QaG s).length + 0)
 rw [Qpf]
 simp only [txtT, encVs, List.length_cons, List.length_append, List.length_nil]
 omega
theorem QML (b : Bool) : (encT (boolT b)).length ≤ 11 := by cases b <;> decide
theorem QyD (l : List ValT) : (encT (lstT l)).length ≤ 10 + (encL l).length := by
 have h2 := QgR (0 + (encVs (l.map Val.of)).length)
 rw [Qpf]
 simp only [lstT, encL, List.length_cons, List.length_append, List.length_nil]
 omega
def useT (u : Keep) : ValT := lstT [intT u.1, intT u.2.1]
def Qdi (u : Keep) : Bool := i64Ok u.1 && i64Ok u.2.1
theorem QGQ (n : Nat) (u : Keep) : okT (n + 2) (useT u) = true :=
 Qx7 (by simp) fun x hx => by
  simp only [List.mem_cons, List.not_mem_nil, or_false] at hx
  rcases hx with rfl | rfl <;> exact Qhy _ _
theorem QIH (u : Keep) : (encT (useT u)).length ≤ 46 := by
 have h0 := QyD [intT u.1, intT u.2.1]
 have h1 := QhB u.1
 have h2 := QhB u.2.1
 simp only [Qcc, QgX, List.length_append, List.length_nil] at h0
 unfold useT
 omega
theorem QCA (u : Keep) : copOk [intT u.1, intT u.2.1] = true :=
 Qpo (n := 11) (by simp) fun x hx => by
  simp only [List.mem_cons, List.not_mem_nil, or_false] at hx
  rcases hx with rfl | rfl <;> exact Qhy _ _
noncomputable def QJi : List DO := dT Tryz.f163 1
noncomputable def Qv9 : TC := (.sq (.reg (rT Tryz.f163 0)) (.sq (.dr QJi [(0, [1]), (1, [1]), (2, []), (3, [1]), (4, [1]), (5, []), (6, []), (7, []), (8, [2])] (.of [0, 1, 2, 3, 4, 5, 6, 7, 8])) .rt))
def QFd : List (RV × Option Ty) := [((.c 2 true 4), some Qak)]
def QAu : G := ⟨TYs, [], 11, EL [(161, QqS), (162, QwS)], keeps, (fun _ _ => none), IL [], RL []⟩
def QGg (p0 : Keep) : Option (V × List VO) :=
 let a1 := ((intT p0.2.1).1, (((intT p0.2.1).2).1, ((((intT p0.2.1).2).2).1, ((List.map Val.of (List.map Val.un (((((intT p0.2.1).2).2).2).1))), ()))))
 let a2 := ((intT p0.1).1, (((intT p0.1).2).1, ((((intT p0.1).2).2).1, ((List.map Val.of (List.map Val.un (((((intT p0.1).2).2).2).1))), ()))))
 br (i64Ok p0.1) (br (i64Ok p0.2.1) (br (copOk ([a2, a1])) (some (.t Qak (lstT ([a2, a1])), [])) none) none) none
theorem e_f163 (p0 : Keep) : runF QAu Qv9 QFd false [.t Qah p0] [] = QGg p0 := by kernel_rfl
theorem QVk : Qai Tryz.prog 163 := .inr ⟨by decide, _, Tryz.func163, by kernel_rfl, by kernel_rfl⟩
theorem QUw : GOk Tryz.prog QAu := Qal _ (gA (gC QyG Qyc (gC QI2 QHi gN)))
theorem QS5 : Qv9.lok QAu := by repeat (first | exact trivial | refine ⟨?_, ?_⟩)
theorem s_f163 (u : Keep) (h : Qdi u = true) : QGg u = some (.t Qak (useT u), []) := by
 simp only [Qdi, Bool.and_eq_true] at h
 simp only [QGg, h.1, h.2, Qj1, QCA, Qac]
 rfl
def QEl : Ent := spec (.pr Qah .nil) (fun x => (Qdi x.1)) (fun x => (.t Qak (useT x.1)))
theorem QSg : Meets Tryz.prog 163 (strip QEl) := Qag (R := runF QAu Qv9 QFd false) (mG Tryz.func163 (by kernel_rfl) Tryz.ntmps163 (by kernel_rfl) QUw QS5) fun x hok => (e_f163 x.1).trans (s_f163 x.1 hok)
noncomputable def QJj : List DO := dT Tryz.f155 1
noncomputable def Qwg : TC := (.sq (.reg (rT Tryz.f155 0)) (.sq (.dr QJj [(0, [1]), (1, [1]), (2, []), (3, [1]), (4, [1]), (5, []), (6, []), (7, []), (8, [2])] (.of [0, 1, 2, 3, 4, 5, 6, 7, 8])) .rt))
def QFk : List (RV × Option Ty) := [((.c 2 true 4), some Qak)]
def QAz : G := ⟨TYs, [], 11, EL [(153, QwU), (154, QwT)], keeps, (fun _ _ => none), IL [], RL []⟩
def QGm (p0 : Keep) : Option (V × List VO) :=
 let a1 := ((intT p0.2.1).1, (((intT p0.2.1).2).1, ((((intT p0.2.1).2).2).1, ((List.map Val.of (List.map Val.un (((((intT p0.2.1).2).2).2).1))), ()))))
 let a2 := ((intT p0.1).1, (((intT p0.1).2).1, ((((intT p0.1).2).2).1, ((List.map Val.of (List.map Val.un (((((intT p0.1).2).2).2).1))), ()))))
 br (i64Ok p0.1) (br (i64Ok p0.2.1) (br (copOk ([a2, a1])) (some (.t Qak (lstT ([a2, a1])), [])) none) none) none
theorem e_f155 (p0 : Keep) : runF QAz Qwg QFk false [.t Qah p0] [] = QGm p0 := by kernel_rfl
theorem QVn : Qai Tryz.prog 155 := .inr ⟨by decide, _, Tryz.func155, by kernel_rfl, by kernel_rfl⟩
theorem QUD : GOk Tryz.prog QAz := Qal _ (gA (gC QI6 QHk (gC QI5 QHj gN)))
theorem QTc : Qwg.lok QAz := by repeat (first | exact trivial | refine ⟨?_, ?_⟩)
theorem s_f155 (u : Keep) (h : Qdi u = true) : QGm u = some (.t Qak (useT u), []) := by
 simp only [Qdi, Bool.and_eq_true] at h
 simp only [QGm, h.1, h.2, Qj1, QCA, Qac]
 rfl
def QEr : Ent := spec (.pr Qah .nil) (fun x => (Qdi x.1)) (fun x => (.t Qak (useT x.1)))
theorem QSl : Meets Tryz.prog 155 (strip QEr) := Qag (R := runF QAz Qwg QFk false) (mG Tryz.func155 (by kernel_rfl) Tryz.ntmps155 (by kernel_rfl) QUD QTc) fun x hok => (e_f155 x.1).trans (s_f155 x.1 hok)
def QfZ (c : Qaa) : List ValT := [intT c.1, txtT c.2.1, txtT c.2.2.1, useT c.2.2.2.1, intT c.2.2.2.2.1, useT c.2.2.2.2.2.1, intT c.2.2.2.2.2.2.1, intT c.2.2.2.2.2.2.2.1, boolT c.2.2.2.2.2.2.2.2.1, intT c.2.2.2.2.2.2.2.2.2.1, lstT ((QaF c).map txtT)]
def bodyT (c : Qaa) : ValT := lstT (QfZ c)
def QfH (c : Qaa) : Bool := QaC c && QaH c
theorem QBN {u : Keep} (h : QfA u = true) : 0 ≤ u.2.1 ∧ u.2.1 ≤ 16384 ∧ 1 ≤ u.1 ∧ u.1 ≤ 22 := by
 simp only [QfA, decide_eq_true_eq] at h
 have ham : ∀ (s t : List Int), (∀ x ∈ s, 0 ≤ x ∧ x ≤ 16384) → Qbq u.2.1 s t > 0 → 0 ≤ u.2.1 ∧ u.2.1 ≤ 16384 := by
  intro s t hs hg
  unfold Qbq at hg
  split at hg
  ·rename_i k hk
   have hm : u.2.1 ∈ s := by
    have key : ∀ (s : List Int) (k : Nat), idxN u.2.1 s = some k → u.2.1 ∈ s := by
     intro s
     induction s with
     | nil => intro k hk; cases hk
     | cons a s ih =>
      intro k hk
      unfold idxN at hk
      split at hk
      ·rename_i ha
       have := eq_of_beq ha
       rw [this]; exact List.mem_cons_self
      ·obtain ⟨j, hj, _⟩ := Option.map_eq_some_iff.1 hk
       exact List.mem_cons_of_mem _ (ih j hj)
    exact key s k hk
   exact hs _ hm
  ·omega
 rw [← and_assoc]
 unfold strF at h
 repeat' split at h
 ·refine ⟨?_, by omega⟩
  unfold Qd1 at h
  split at h <;> omega
 ·refine ⟨?_, by omega⟩
  unfold Qqc at h
  split at h
  ·rename_i hc
   simp only [hasF, List.contains_iff_mem, List.mem_cons, List.not_mem_nil, or_false] at hc
   omega
  ·omega
 ·exact ⟨ham _ _ (by simp) h, by omega⟩
 ·exact ⟨ham _ _ (by simp) h, by omega⟩
 ·exact ⟨ham _ _ (by simp) h, by omega⟩
 ·exact ⟨ham _ _ (by simp) h, by omega⟩
 ·exact ⟨ham _ _ (by simp) h, by omega⟩
 ·refine ⟨ham _ _ (by simp) h, ?_⟩
  unfold Qbq at h
  split at h
  ·rename_i k hk
   unfold idxN at hk
   split at hk
   ·injection hk with hk
    subst hk
    simp only [List.getD_cons_zero, QcF] at h
    repeat' split at h
    all_goals omega
   ·cases hk
  ·omega
theorem Qvq {u : Keep} {k : Int} (h : kindU u k = true) : Qdi u = true := by
 simp only [kindU, Bool.and_eq_true] at h
 have := QBN h.1
 simp only [Qdi, i64Ok, Bool.and_eq_true, decide_eq_true_eq]
 omega
theorem Qkf {s : ByteArray} (h : Qbr s = true) : s.size ≤ 32 := by
 simp only [Qbr, Bool.and_eq_true, decide_eq_true_eq] at h
 exact h.2.2
theorem QBZ {l : List ByteArray} : ∀ {k : Nat}, QcJ l k = true → ∀ j (hj : j < l.length), k ≤ j → Qbr l[j] = true := by
 intro k h j hj hk
 simp only [QcJ, List.all_eq_true, List.mem_range'_1, Bool.and_eq_true] at h
 have := (h j ⟨hk, by omega⟩).1
 simpa only [List.getD_eq_getElem?_getD, List.getElem?_eq_getElem hj, Option.getD_some] using this
theorem QGY {l : List ByteArray} (h : Qg6 l = true) : l.length ≤ 8 ∧ ∀ s ∈ l, s.size ≤ 32 := by
 simp only [Qg6, Bool.and_eq_true, Bool.not_eq_true', igt, llen, decide_eq_false_iff_not] at h
 refine ⟨by omega, fun s hs => ?_⟩
 obtain ⟨j, hj, rfl⟩ := List.mem_iff_getElem.1 hs
 exact Qkf (QBZ h.1 j hj (Nat.zero_le _))
theorem QfI {c : Qaa} (h : QaH c = true) : i64Ok c.1 = true ∧ c.2.1.size ≤ 32 ∧ c.2.2.1.size ≤ 32 ∧ Qdi c.2.2.2.1 = true ∧ i64Ok c.2.2.2.2.1 = true ∧ Qdi c.2.2.2.2.2.1 = true ∧ i64Ok c.2.2.2.2.2.2.1 = true ∧ i64Ok c.2.2.2.2.2.2.2.1 = true ∧ i64Ok c.2.2.2.2.2.2.2.2.2.1 = true ∧ (QaF c).length ≤ 8 ∧ ∀ s ∈ QaF c, s.size ≤ 32 := by
 simp only [QaH, keyI, Bool.and_eq_true, Bool.not_eq_true', ilt, igt, decide_eq_false_iff_not] at h
 obtain ⟨h1, h2, h3, h4, h5, h6, ⟨h7, h7'⟩, h8, ⟨h9, h9'⟩, h10, h11, h12, h13, h14, h15, h16⟩ := h
 have hn := QGY h5
 refine ⟨decide_eq_true (by omega), Qkf h3, Qkf h4, Qvq h6, decide_eq_true (by omega), Qvq h8, decide_eq_true (by omega), decide_eq_true (by omega), decide_eq_true (by omega), hn.1, hn.2⟩
theorem QGR (n : Nat) {l : List ByteArray} (h : l.length ≤ 8) (hs : ∀ s ∈ l, s.size ≤ 32) : okT (n + 2) (lstT (l.map txtT)) = true :=
 Qx7 (by rw [List.length_map]; omega) fun x hx => by
  obtain ⟨s, hm, rfl⟩ := List.mem_map.1 hx
  exact Qr1 _ (by have := hs s hm; omega)
theorem QuK (n : Nat) {c : Qaa} (h : QaH c = true) : ∀ x ∈ QfZ c, okT (n + 2) x = true := by
 obtain ⟨h1, h2, h3, h4, h5, h6, h7, h8, h9, h10, h11⟩ := QfI h
 intro x hx
 simp only [QfZ, List.mem_cons, List.not_mem_nil, or_false] at hx
 rcases hx with rfl | rfl | rfl | rfl | rfl | rfl | rfl | rfl | rfl | rfl | rfl
 ·exact Qhy _ _
 ·exact Qr1 _ (by omega)
 ·exact Qr1 _ (by omega)
 ·exact QGQ _ _
 ·exact Qhy _ _
 ·exact QGQ _ _
 ·exact Qhy _ _
 ·exact Qhy _ _
 ·exact QLk _ _
 ·exact Qhy _ _
 ·exact QGR _ h10 h11
theorem QA3 : ∀ {l : List ByteArray}, (∀ s ∈ l, s.size ≤ 32) → (encL (l.map txtT)).length ≤ 42 * l.length
 | [], _ => by simp [QgX]
 | s :: l, h => by
  have h1 := h s (by simp)
  have h2 := QyC s
  have h3 := QA3 (l := l) fun u hu => h u (by simp [hu])
  rw [List.map_cons, Qcc, List.length_append, List.length_cons]
  omega
theorem QsP {c : Qaa} (h : QaH c = true) : (encT (bodyT c)).length ≤ 1000 := by
 obtain ⟨h1, h2, h3, h4, h5, h6, h7, h8, h9, h10, h11⟩ := QfI h
 have e0 := QyD (QfZ c)
 have e1 := QhB c.1
 have e2 := QyC c.2.1
 have e3 := QyC c.2.2.1
 have e4 := QIH c.2.2.2.1
 have e5 := QhB c.2.2.2.2.1
 have e6 := QIH c.2.2.2.2.2.1
 have e7 := QhB c.2.2.2.2.2.2.1
 have e8 := QhB c.2.2.2.2.2.2.2.1
 have e9 := QML c.2.2.2.2.2.2.2.2.1
 have e10 := QhB c.2.2.2.2.2.2.2.2.2.1
 have e11 := QyD ((QaF c).map txtT)
 have e12 := QA3 h11
 simp only [QfZ, Qcc, QgX, List.length_append, List.length_nil] at e0
 unfold bodyT
 simp only [QfZ]
 omega
theorem QRm {c : Qaa} (h : QaH c = true) : encOk (bodyT c) = true := by
 have := QsP h
 simp only [encOk, Bool.and_eq_true, decide_eq_true_eq]
 refine ⟨Qx7 (by simp [QfZ]) (QuK 9 h), by omega⟩
theorem QuQ {c : Qaa} (h : QaH c = true) : copOk ((QaF c).map txtT) = true := by
 obtain ⟨h1, h2, h3, h4, h5, h6, h7, h8, h9, h10, h11⟩ := QfI h
 exact Qpo (n := 11) (by rw [List.length_map]; omega) fun x hx => by
  obtain ⟨s, hm, rfl⟩ := List.mem_map.1 hx
  exact Qr1 _ (by have := h11 s hm; omega)
theorem QuI {c : Qaa} (h : QaH c = true) : copOk (QfZ c) = true := Qpo (n := 11) (by simp [QfZ]) (QuK 9 h)
theorem Qc1 {s : ByteArray} (h : s.size ≤ 32) : Qa6 s = true := decide_eq_true (by omega)
noncomputable def QJl : List DO := dT Tryz.f139 7
def Qgn : Fg := ⟨[(1, none), (2, none), (3, none), (7, some (.sl .str)), (8, some tI), (9, some tI)], [(1, some Qab), (2, some Qak), (3, none), (17, none)]⟩
noncomputable def QhV : TC := (.sq (.reg (rT Tryz.f139 3)) (.sq (.cd (.t 10) .sk (.fg ⟨[(1, none), (2, none), (3, none)], [(1, some Qab), (2, some Qak), (3, none), (17, none)]⟩ (.ex 0))) (.sq (.bk 1 (.sq (.reg (rT Tryz.f139 4)) (.reg (rT Tryz.f139 5)))) (.reg (rT Tryz.f139 6)))))
noncomputable def Qwp : TC := (.sq (.reg (rT Tryz.f139 0)) (.sq (.reg (rT Tryz.f139 1)) (.sq (.sq (.reg (rT Tryz.f139 2)) (.bk 0 (.nw 3 163 (.lp 0 Qgn QhV)))) (.sq (.dr QJl [(0, [1]), (1, [1]), (2, []), (3, [1]), (4, [1]), (5, []), (6, [1]), (7, [1]), (8, []), (9, [1]), (10, [1]), (11, []), (12, [1]), (13, [1]), (14, []), (15, [1]), (16, [1]), (17, []), (18, [1]), (19, [1]), (20, []), (21, [1]), (22, [1]), (23, []), (24, [1]), (25, [1]), (26, []), (27, [1]), (28, [1]), (29, []), (30, [3, 17]), (31, [3, 17, 50, 5050, 10050, 15050]), (32, []), (33, []), (34, [2])] (.of [0, 1, 2, 3, 4, 5, 6, 7, 8, 9, 10, 11, 12, 13, 14, 15, 16, 17, 18, 19, 20, 21, 22, 23, 24, 25, 26, 27, 28, 29, 30, 31, 32, 33, 34])) .rt))))
def QFt : List (RV × Option Ty) := [((.c 2 true 4), some Qak)]
abbrev Qoc : Sh := ⟨[(1, .ptr 1 0), (2, .ptr 2 0), (3, .ms 3), (7, .ty (.sl .str)), (8, .ty tI), (9, .ty tI)], [(1, .box Qab), (2, .box Qak), (3, .arr 163 Qak), (17, .no)]⟩
def QnJ (x7 : List ByteArray) (x8 x9 : Int) (y1 : Qaa) (y2 : ValT) (y3 : List ValT) : VS := Qoc.st ((), (), (), x7, x8, x9, ()) (y1, y2, y3, (), ())
abbrev Qua : Sh := ⟨[(1, .ptr 1 0), (2, .ptr 2 0), (3, .ms 3)], [(1, .box Qab), (2, .box Qak), (3, .arr 163 Qak), (17, .no)]⟩
def QdP (y1 : Qaa) (y2 : ValT) (y3 : List ValT) : VS := Qua.st ((), (), (), ()) (y1, y2, y3, (), ())
def QOG : VS → Option (Bool × List (Bool × Exit × VS)) := mkL Qoc (fun x y => (rngOk x.2.2.2.1 x.2.2.2.2.1 x.2.2.2.2.2.1 && decide (y.2.2.1.length ≤ x.2.2.2.2.2.1.toNat ∧ x.2.2.2.1.length ≤ 8) && x.2.2.2.1.all fun s => decide (s.size ≤ 32))) (fun x y => [(true, .exit 0, QdP (y.1) (y.2.1) (y.2.2.1 ++ (x.2.2.2.1.drop x.2.2.2.2.2.1.toNat).map txtT))])
def QkZ : G := ⟨TYs, [], 53, EL [(160, QEm), (161, QqS), (162, QwS), (163, QEl), (164, QEk), (165, QEj)], keeps, (Ls [QOG]), IL [], RL []⟩
def QBy (x7 : List ByteArray) (x8 x9 : Int) (y1 : Qaa) (y2 : ValT) (y3 : List ValT) : Option (Exit × VS) :=
 let a1 := ((txtT (lgt .str x7 (Int.toNat x9))).1, (((txtT (lgt .str x7 (Int.toNat x9))).2).1, ((((txtT (lgt .str x7 (Int.toNat x9))).2).2).1, ((List.map Val.of (List.map Val.un (((((txtT (lgt .str x7 (Int.toNat x9))).2).2).2).1))), ()))))
 br (ilt x9 x8) (br (cIx x7 x9) (br (Qa6 (lgt .str x7 (Int.toNat x9))) (br (cApp y3 ([a1]) 64) (some (.normal, QnJ x7 x8 (iadd .i64 x9 1) y1 y2 (y3 ++ ([a1])))) none) none) none) (some (.exit 0, QdP y1 y2 y3))
noncomputable def QiA (x7 : List ByteArray) (x8 x9 : Int) (y1 : Qaa) (y2 : ValT) (y3 : List ValT) : Option (Exit × VS) := loopF (Qaj QkZ Qgn QhV) (QnJ x7 x8 x9 y1 y2 y3)
noncomputable def Ql3 (x7 : List ByteArray) (x8 x9 : Int) (y1 : Qaa) (y2 : ValT) (y3 : List ValT) : Option (Exit × VS) :=
 let a1 := ((txtT (lgt .str x7 (Int.toNat x9))).1, (((txtT (lgt .str x7 (Int.toNat x9))).2).1, ((((txtT (lgt .str x7 (Int.toNat x9))).2).2).1, ((List.map Val.of (List.map Val.un (((((txtT (lgt .str x7 (Int.toNat x9))).2).2).2).1))), ()))))
 br (ilt x9 x8) (br (cIx x7 x9) (br (Qa6 (lgt .str x7 (Int.toNat x9))) (br (cApp y3 ([a1]) 64) (QiA x7 x8 (iadd .i64 x9 1) y1 y2 (y3 ++ ([a1]))) none) none) none) (some (.exit 0, QdP y1 y2 y3))
def QiS (x7 : List ByteArray) (x8 x9 : Int) (y1 : Qaa) (y2 : ValT) (y3 : List ValT) : Option (Exit × VS) := some (.exit 0, QdP (y1) (y2) (y3 ++ (x7.drop x9.toNat).map txtT))
theorem QJW (x7 : List ByteArray) (x8 x9 : Int) (y1 : Qaa) (y2 : ValT) (y3 : List ValT) : Qaj QkZ Qgn QhV (QnJ x7 x8 x9 y1 y2 y3) = QBy x7 x8 x9 y1 y2 y3 := by kernel_rfl
theorem Qvb (x7 : List ByteArray) (x8 x9 : Int) (y1 : Qaa) (y2 : ValT) (y3 : List ValT) : QiA x7 x8 x9 y1 y2 y3 = Ql3 x7 x8 x9 y1 y2 y3 := (Qap _ _).trans (by
 rw [QJW]
 simp only [QBy, Ql3, QaB, nxt_n, nxt_r, nxt_e, nxt_0]
 rfl)
def QGu (p0 : Qaa) : Option (V × List VO) :=
 let a3 := ((((p0).2).2).2)
 let a1 := ((a3.2).2)
 let a2 := (lstT (([] : List ValT) ++ (p0.2.2.2.2.2.2.2.2.2.2.1.drop (0 : Int).toNat).map txtT))
 let a4 := ((intT (((((a1.2).2).2).2).1)).1, (((intT (((((a1.2).2).2).2).1)).2).1, ((((intT (((((a1.2).2).2).2).1)).2).2).1, ((List.map Val.of (List.map Val.un (((((intT (((((a1.2).2).2).2).1)).2).2).2).1))), ()))))
 let a5 := ((boolT ((((a1.2).2).2).1)).1, (((boolT ((((a1.2).2).2).1)).2).1, ((((boolT ((((a1.2).2).2).1)).2).2).1, ((List.map Val.of (List.map Val.un (((((boolT ((((a1.2).2).2).1)).2).2).2).1))), ()))))
 let a6 := ((txtT ((((p0).2).2).1)).1, (((txtT ((((p0).2).2).1)).2).1, ((((txtT ((((p0).2).2).1)).2).2).1, ((List.map Val.of (List.map Val.un (((((txtT ((((p0).2).2).1)).2).2).2).1))), ()))))
 let a7 := ((intT (((a1.2).2).1)).1, (((intT (((a1.2).2).1)).2).1, ((((intT (((a1.2).2).1)).2).2).1, ((List.map Val.of (List.map Val.un (((((intT (((a1.2).2).1)).2).2).2).1))), ()))))
 let a8 := ((txtT (((p0).2).1)).1, (((txtT (((p0).2).1)).2).1, ((((txtT (((p0).2).1)).2).2).1, ((List.map Val.of (List.map Val.un (((((txtT (((p0).2).1)).2).2).2).1))), ()))))
 let a9 := ((intT ((a3.2).1)).1, (((intT ((a3.2).1)).2).1, ((((intT ((a3.2).1)).2).2).1, ((List.map Val.of (List.map Val.un (((((intT ((a3.2).1)).2).2).2).1))), ()))))
 let a10 := ((intT ((a1.2).1)).1, (((intT ((a1.2).1)).2).1, ((((intT ((a1.2).1)).2).2).1, ((List.map Val.of (List.map Val.un (((((intT ((a1.2).1)).2).2).2).1))), ()))))
 let a11 := ((intT ((p0).1)).1, (((intT ((p0).1)).2).1, ((((intT ((p0).1)).2).2).1, ((List.map Val.of (List.map Val.un (((((intT ((p0).1)).2).2).2).1))), ()))))
 let a12 := ((useT (a3.1)).1, (((useT (a3.1)).2).1, ((((useT (a3.1)).2).2).1, ((List.map Val.of (List.map Val.un (((((useT (a3.1)).2).2).2).1))), ()))))
 let a13 := ((useT (a1.1)).1, (((useT (a1.1)).2).1, ((((useT (a1.1)).2).2).1, ((List.map Val.of (List.map Val.un (((((useT (a1.1)).2).2).2).1))), ()))))
 let a14 := ((a2.2).1, (((a2.2).2).1, ((List.map Val.of (List.map Val.un ((((a2.2).2).2).1))), ())))
 br (rngOk p0.2.2.2.2.2.2.2.2.2.2.1 (llen p0.2.2.2.2.2.2.2.2.2.2.1) (0 : Int) && decide (([] : List ValT).length ≤ (0 : Int).toNat ∧ p0.2.2.2.2.2.2.2.2.2.2.1.length ≤ 8) && p0.2.2.2.2.2.2.2.2.2.2.1.all fun s => decide (s.size ≤ 32)) (br (i64Ok ((p0).1)) (br (Qa6 (((p0).2).1)) (br (Qa6 ((((p0).2).2).1)) (br (Qdi (a3.1)) (br (i64Ok ((a3.2).1)) (br (Qdi (a1.1)) (br (i64Ok ((a1.2).1)) (br (i64Ok (((a1.2).2).1)) (br (i64Ok (((((a1.2).2).2).2).1)) (br (copOk (([] : List ValT) ++ (p0.2.2.2.2.2.2.2.2.2.2.1.drop (0 : Int).toNat).map txtT)) (br (copOk ([a11, a8, a6, a12, a9, a13, a10, a7, a5, a4, (a2.1, a14)])) (some (.t Qak (lstT ([a11, a8, a6, a12, a9, a13, a10, a7, a5, a4, (a2.1, a14)])), [])) none) none) none) none) none) none) none) none) none) none) none) none
theorem e_f139 (p0 : Qaa) : runF QkZ Qwp QFt false [.t Qab p0] [] = QGu p0 := by kernel_rfl
theorem QVr : Qai Tryz.prog 139 := .inr ⟨by decide, _, Tryz.func139, by kernel_rfl, by kernel_rfl⟩
theorem QUM : GOk Tryz.prog QkZ := Qal _ (gA (gC QVl QSh (gC QyG Qyc (gC QI2 QHi (gC QVk QSg (gC QVj QSf (gC QVi QSe gN)))))))
theorem QMs (x7 : List ByteArray) (x8 x9 : Int) (y1 : Qaa) (y2 : ValT) (y3 : List ValT) (h : (rngOk x7 x8 x9 && decide (y3.length ≤ x9.toNat ∧ x7.length ≤ 8) && x7.all fun s => decide (s.size ≤ 32)) = true) : QiA x7 x8 x9 y1 y2 y3 = QiS x7 x8 x9 y1 y2 y3 := by
 simp only [Bool.and_eq_true, decide_eq_true_eq, List.all_eq_true] at h
 obtain ⟨⟨h0, h1, h2⟩, hn⟩ := h
 obtain ⟨rfl, h3, k, rfl, hk⟩ := rng_k h0
 clear h0
 rw [Int.toNat_natCast] at h1
 revert y3
 refine Qas x7 (fun k => ∀ y3 : List ValT, y3.length ≤ k → QiA x7 (x7.length : Int) (k : Int) y1 y2 y3 = QiS x7 (x7.length : Int) (k : Int) y1 y2 y3) ?_ ?_ k hk
 ·intro y3 _
  rw [Qvb]
  simp only [Ql3, QiS, QaA, Nat.lt_irrefl, decide_false, Qaf, Int.toNat_natCast, List.drop_length, List.map_nil, List.append_nil]
 ·intro k hk ih y3 hy
  rw [Qvb]
  have hx := hn x7[k] (List.getElem_mem hk)
  simp only [Ql3, QaA, Qaw, hk, decide_true, Qac, Int.toNat_natCast, add1 (show k < 4611686018427387904 by omega), QaE (y := .str) hk, Qc1 hx, Qj1]
  rw [cAppN (by omega) (by simp only [List.length_singleton]; omega), Qac, ih _ (by simp only [List.length_append, List.length_singleton]; omega)]
  simp only [QiS, Int.toNat_natCast, List.drop_eq_getElem_cons hk, List.map_cons, List.append_assoc, List.singleton_append]
theorem QHM : ∀ S l p, QkZ.L 0 (fgt Qgn S) = some (true, l) → pickA l = some p → loopF (Qaj QkZ Qgn QhV) S = some p :=
 QaD (s := Qoc) ⟨by decide, by decide⟩ (by kernel_rfl) fun x y hok p hp => by
 simp only [Qar, Qao] at hp
 exact (QMs x.2.2.2.1 x.2.2.2.2.1 x.2.2.2.2.2.1 y.1 y.2.1 y.2.2.1 (by simpa using hok)).trans hp
theorem QTl : Qwp.lok QkZ := by
 repeat (first | exact trivial | exact QHM | refine ⟨?_, ?_⟩)
theorem s_f139 (c : Qaa) (h : QfH c = true) : QGu c = some (.t Qak (bodyT c), []) := by
 simp only [QfH, Bool.and_eq_true] at h
 obtain ⟨_, hv⟩ := h
 obtain ⟨h1, h2, h3, h4, h5, h6, h7, h8, h9, h10, h11⟩ := QfI hv
 have hc := QuQ hv
 have hp := QuI hv
 have ha : ((QaF c).all fun s => decide (s.size ≤ 32)) = true := List.all_eq_true.2 fun s hs => decide_eq_true (h11 s hs)
 have hl : ([] : List ValT).length ≤ 0 ∧ (QaF c).length ≤ 8 := ⟨by simp, h10⟩
 simp only [QfZ] at hp
 simp only [QGu, rng_0 (show (QaF c).length ≤ 100000 by omega), ha, Bool.and_self, h1, Qc1 h2, Qc1 h3, h4, h5, h6, h7, h8, h9, Qac, Int.toNat_zero, List.drop_zero, List.nil_append, Qj1, hc, hp]
 rw [decide_eq_true hl]
 rfl
def QEz : Ent := spec (.pr Qab .nil) (fun x => (QfH x.1)) (fun x => (.t Qak (bodyT x.1)))
theorem QSs : Meets Tryz.prog 139 (strip QEz) := Qag (R := runF QkZ Qwp QFt false) (mG Tryz.func139 (by kernel_rfl) Tryz.ntmps139 (by kernel_rfl) QUM QTl) fun x hok => (e_f139 x.1).trans (s_f139 x.1 hok)
noncomputable def QJm : List DO := dT Tryz.f137 6
def Qgo : Fg := ⟨[(1, none), (2, none), (3, none), (4, some tI)], [(1, some Qab), (2, some Qak), (3, none), (20, none)]⟩
noncomputable def QhW : TC := (.sq (.sq (.reg (rT Tryz.f137 3)) (.cd (.t 9) .sk (.fg ⟨[(1, none), (2, none), (3, none)], [(1, some Qab), (2, some Qak), (3, none), (20, none)]⟩ (.ex 0)))) (.sq (.bk 1 (.reg (rT Tryz.f137 4))) (.reg (rT Tryz.f137 5))))
noncomputable def Qwr : TC := (.sq (.reg (rT Tryz.f137 0)) (.sq (.reg (rT Tryz.f137 1)) (.sq (.sq (.reg (rT Tryz.f137 2)) (.bk 0 (.nw 3 163 (.lp 0 Qgo QhW)))) (.sq (.dr QJm [(0, [1]), (1, [1]), (2, []), (3, [1]), (4, [1]), (5, []), (6, [1]), (7, [1]), (8, []), (9, [1]), (10, [1]), (11, []), (12, [1]), (13, [1]), (14, []), (15, [1]), (16, [1]), (17, []), (18, [1]), (19, [1]), (20, []), (21, [1]), (22, [1]), (23, []), (24, [1]), (25, [1]), (26, []), (27, [1]), (28, [1]), (29, []), (30, [3, 20]), (31, [3, 20, 52, 5052, 10052, 15052]), (32, []), (33, []), (34, [2])] (.of [0, 1, 2, 3, 4, 5, 6, 7, 8, 9, 10, 11, 12, 13, 14, 15, 16, 17, 18, 19, 20, 21, 22, 23, 24, 25, 26, 27, 28, 29, 30, 31, 32, 33, 34])) .rt))))
def QFv : List (RV × Option Ty) := [((.c 2 true 4), some Qak)]
abbrev Qod : Sh := ⟨[(1, .ptr 1 0), (2, .ptr 2 0), (3, .ms 3), (4, .ty tI)], [(1, .box Qab), (2, .box Qak), (3, .arr 163 Qak), (20, .no)]⟩
def QnK (x4 : Int) (y1 : Qaa) (y2 : ValT) (y3 : List ValT) : VS := Qod.st ((), (), (), x4, ()) (y1, y2, y3, (), ())
abbrev Qub : Sh := ⟨[(1, .ptr 1 0), (2, .ptr 2 0), (3, .ms 3)], [(1, .box Qab), (2, .box Qak), (3, .arr 163 Qak), (20, .no)]⟩
def QdQ (y1 : Qaa) (y2 : ValT) (y3 : List ValT) : VS := Qub.st ((), (), (), ()) (y1, y2, y3, (), ())
def QOH : VS → Option (Bool × List (Bool × Exit × VS)) := mkL Qod (fun x y => (decide (0 ≤ x.2.2.2.1 ∧ x.2.2.2.1 ≤ (QaF y.1).length ∧ y.2.2.1.length ≤ x.2.2.2.1.toNat ∧ (QaF y.1).length ≤ 8) && (QaF y.1).all fun s => decide (s.size ≤ 32))) (fun x y => [(true, .exit 0, QdQ (y.1) (y.2.1) (y.2.2.1 ++ ((QaF y.1).drop x.2.2.2.1.toNat).map txtT))])
def Qk0 : G := ⟨TYs, [], 55, EL [(152, QEs), (153, QwU), (154, QwT), (155, QEr), (156, QEq)], keeps, (Ls [QOH]), IL [], RL []⟩
def QBz (x4 : Int) (y1 : Qaa) (y2 : ValT) (y3 : List ValT) : Option (Exit × VS) :=
 let a1 := txtT (lgt .str y1.2.2.2.2.2.2.2.2.2.2.1 (Int.toNat x4))
 let a2 := ((a1.2).1, (((a1.2).2).1, ((List.map Val.of (List.map Val.un ((((a1.2).2).2).1))), ())))
 br (ilt x4 (llen y1.2.2.2.2.2.2.2.2.2.2.1)) (br (cIx y1.2.2.2.2.2.2.2.2.2.2.1 x4) (br (Qa6 (lgt .str y1.2.2.2.2.2.2.2.2.2.2.1 (Int.toNat x4))) (br (cApp y3 ([(a1.1, a2)]) 64) (some (.normal, QnK (iadd .i64 x4 1) y1 y2 (y3 ++ ([(a1.1, a2)])))) none) none) none) (some (.exit 0, QdQ y1 y2 y3))
noncomputable def QiB (x4 : Int) (y1 : Qaa) (y2 : ValT) (y3 : List ValT) : Option (Exit × VS) := loopF (Qaj Qk0 Qgo QhW) (QnK x4 y1 y2 y3)
noncomputable def Ql4 (x4 : Int) (y1 : Qaa) (y2 : ValT) (y3 : List ValT) : Option (Exit × VS) :=
 let a1 := txtT (lgt .str y1.2.2.2.2.2.2.2.2.2.2.1 (Int.toNat x4))
 let a2 := ((a1.2).1, (((a1.2).2).1, ((List.map Val.of (List.map Val.un ((((a1.2).2).2).1))), ())))
 br (ilt x4 (llen y1.2.2.2.2.2.2.2.2.2.2.1)) (br (cIx y1.2.2.2.2.2.2.2.2.2.2.1 x4) (br (Qa6 (lgt .str y1.2.2.2.2.2.2.2.2.2.2.1 (Int.toNat x4))) (br (cApp y3 ([(a1.1, a2)]) 64) (QiB (iadd .i64 x4 1) y1 y2 (y3 ++ ([(a1.1, a2)]))) none) none) none) (some (.exit 0, QdQ y1 y2 y3))
def QiT (x4 : Int) (y1 : Qaa) (y2 : ValT) (y3 : List ValT) : Option (Exit × VS) := some (.exit 0, QdQ (y1) (y2) (y3 ++ ((QaF y1).drop x4.toNat).map txtT))
theorem QJX (x4 : Int) (y1 : Qaa) (y2 : ValT) (y3 : List ValT) : Qaj Qk0 Qgo QhW (QnK x4 y1 y2 y3) = QBz x4 y1 y2 y3 := by kernel_rfl
theorem Qvc (x4 : Int) (y1 : Qaa) (y2 : ValT) (y3 : List ValT) : QiB x4 y1 y2 y3 = Ql4 x4 y1 y2 y3 := (Qap _ _).trans (by
 rw [QJX]
 simp only [QBz, Ql4, QaB, nxt_n, nxt_r, nxt_e, nxt_0]
 rfl)
def QGw (p0 : Qaa) : Option (V × List VO) :=
 let a3 := ((((p0).2).2).2)
 let a1 := ((a3.2).2)
 let a2 := (lstT (([] : List ValT) ++ ((QaF p0).drop (0 : Int).toNat).map txtT))
 let a4 := ((intT (((((a1.2).2).2).2).1)).1, (((intT (((((a1.2).2).2).2).1)).2).1, ((((intT (((((a1.2).2).2).2).1)).2).2).1, ((List.map Val.of (List.map Val.un (((((intT (((((a1.2).2).2).2).1)).2).2).2).1))), ()))))
 let a5 := ((boolT ((((a1.2).2).2).1)).1, (((boolT ((((a1.2).2).2).1)).2).1, ((((boolT ((((a1.2).2).2).1)).2).2).1, ((List.map Val.of (List.map Val.un (((((boolT ((((a1.2).2).2).1)).2).2).2).1))), ()))))
 let a6 := ((txtT ((((p0).2).2).1)).1, (((txtT ((((p0).2).2).1)).2).1, ((((txtT ((((p0).2).2).1)).2).2).1, ((List.map Val.of (List.map Val.un (((((txtT ((((p0).2).2).1)).2).2).2).1))), ()))))
 let a7 := ((intT (((a1.2).2).1)).1, (((intT (((a1.2).2).1)).2).1, ((((intT (((a1.2).2).1)).2).2).1, ((List.map Val.of (List.map Val.un (((((intT (((a1.2).2).1)).2).2).2).1))), ()))))
 let a8 := ((txtT (((p0).2).1)).1, (((txtT (((p0).2).1)).2).1, ((((txtT (((p0).2).1)).2).2).1, ((List.map Val.of (List.map Val.un (((((txtT (((p0).2).1)).2).2).2).1))), ()))))
 let a9 := ((intT ((a3.2).1)).1, (((intT ((a3.2).1)).2).1, ((((intT ((a3.2).1)).2).2).1, ((List.map Val.of (List.map Val.un (((((intT ((a3.2).1)).2).2).2).1))), ()))))
 let a10 := ((intT ((a1.2).1)).1, (((intT ((a1.2).1)).2).1, ((((intT ((a1.2).1)).2).2).1, ((List.map Val.of (List.map Val.un (((((intT ((a1.2).1)).2).2).2).1))), ()))))
 let a11 := ((intT ((p0).1)).1, (((intT ((p0).1)).2).1, ((((intT ((p0).1)).2).2).1, ((List.map Val.of (List.map Val.un (((((intT ((p0).1)).2).2).2).1))), ()))))
 let a12 := ((useT (a3.1)).1, (((useT (a3.1)).2).1, ((((useT (a3.1)).2).2).1, ((List.map Val.of (List.map Val.un (((((useT (a3.1)).2).2).2).1))), ()))))
 let a13 := ((useT (a1.1)).1, (((useT (a1.1)).2).1, ((((useT (a1.1)).2).2).1, ((List.map Val.of (List.map Val.un (((((useT (a1.1)).2).2).2).1))), ()))))
 let a14 := ((a2.2).1, (((a2.2).2).1, ((List.map Val.of (List.map Val.un ((((a2.2).2).2).1))), ())))
 br (decide (0 ≤ (0 : Int) ∧ (0 : Int) ≤ (QaF p0).length ∧ ([] : List ValT).length ≤ (0 : Int).toNat ∧ (QaF p0).length ≤ 8) && (QaF p0).all fun s => decide (s.size ≤ 32)) (br (i64Ok ((p0).1)) (br (Qa6 (((p0).2).1)) (br (Qa6 ((((p0).2).2).1)) (br (Qdi (a3.1)) (br (i64Ok ((a3.2).1)) (br (Qdi (a1.1)) (br (i64Ok ((a1.2).1)) (br (i64Ok (((a1.2).2).1)) (br (i64Ok (((((a1.2).2).2).2).1)) (br (copOk (([] : List ValT) ++ ((QaF p0).drop (0 : Int).toNat).map txtT)) (br (copOk ([a11, a8, a6, a12, a9, a13, a10, a7, a5, a4, (a2.1, a14)])) (some (.t Qak (lstT ([a11, a8, a6, a12, a9, a13, a10, a7, a5, a4, (a2.1, a14)])), [])) none) none) none) none) none) none) none) none) none) none) none) none
theorem e_f137 (p0 : Qaa) : runF Qk0 Qwr QFv false [.t Qab p0] [] = QGw p0 := by kernel_rfl
theorem QVt : Qai Tryz.prog 137 := .inr ⟨by decide, _, Tryz.func137, by kernel_rfl, by kernel_rfl⟩
theorem QUO : GOk Tryz.prog Qk0 := Qal _ (gA (gC QVo QSm (gC QI6 QHk (gC QI5 QHj (gC QVn QSl (gC QVm QSk gN))))))
theorem QMt (x4 : Int) (y1 : Qaa) (y2 : ValT) (y3 : List ValT) (h : (decide (0 ≤ x4 ∧ x4 ≤ (QaF y1).length ∧ y3.length ≤ x4.toNat ∧ (QaF y1).length ≤ 8) && (QaF y1).all fun s => decide (s.size ≤ 32)) = true) : QiB x4 y1 y2 y3 = QiT x4 y1 y2 y3 := by
 simp only [Bool.and_eq_true, decide_eq_true_eq, List.all_eq_true] at h
 obtain ⟨⟨h0, h1, h2, h3⟩, hn⟩ := h
 obtain ⟨k, rfl⟩ := Int.eq_ofNat_of_zero_le h0
 rw [Int.toNat_natCast] at h2
 revert y3
 refine Qas (QaF y1) (fun k => ∀ y3 : List ValT, y3.length ≤ k → QiB (k : Int) y1 y2 y3 = QiT (k : Int) y1 y2 y3) ?_ ?_ k (by omega)
 ·intro y3 _
  rw [Qvc]
  simp only [Ql4, QiT, show ilt ((QaF y1).length : Int) (llen (QaF y1)) = false from decide_eq_false (by simp only [llen]; omega), Qaf, Int.toNat_natCast, List.drop_length, List.map_nil, List.append_nil]
 ·intro k hk ih y3 hy
  rw [Qvc]
  have hx := hn (QaF y1)[k] (List.getElem_mem hk)
  simp only [Ql4, show ilt (k : Int) (llen (QaF y1)) = true from decide_eq_true (by simp only [llen]; omega), Qaw, hk, decide_true, Qac, Int.toNat_natCast, add1 (show k < 4611686018427387904 by omega), QaE (y := .str) hk, Qc1 hx, Qj1]
  rw [cAppN (by omega) (by simp only [List.length_singleton]; omega), Qac, ih _ (by simp only [List.length_append, List.length_singleton]; omega)]
  simp only [QiT, Int.toNat_natCast, List.drop_eq_getElem_cons hk, List.map_cons, List.append_assoc, List.singleton_append]
theorem QHN : ∀ S l p, Qk0.L 0 (fgt Qgo S) = some (true, l) → pickA l = some p → loopF (Qaj Qk0 Qgo QhW) S = some p :=
 QaD (s := Qod) ⟨by decide, by decide⟩ (by kernel_rfl) fun x y hok p hp => by
 simp only [Qar, Qao] at hp
 exact (QMt x.2.2.2.1 y.1 y.2.1 y.2.2.1 (by simpa using hok)).trans hp
theorem QTn : Qwr.lok Qk0 := by
 repeat (first | exact trivial | exact QHN | refine ⟨?_, ?_⟩)
theorem s_f137 (c : Qaa) (h : QfH c = true) : QGw c = some (.t Qak (bodyT c), []) := by
 simp only [QfH, Bool.and_eq_true] at h
 obtain ⟨_, hv⟩ := h
 obtain ⟨h1, h2, h3, h4, h5, h6, h7, h8, h9, h10, h11⟩ := QfI hv
 have hc := QuQ hv
 have hp := QuI hv
 have ha : ((QaF c).all fun s => decide (s.size ≤ 32)) = true := List.all_eq_true.2 fun s hs => decide_eq_true (h11 s hs)
 have hl : (0 : Int) ≤ 0 ∧ (0 : Int) ≤ (QaF c).length ∧ ([] : List ValT).length ≤ 0 ∧ (QaF c).length ≤ 8 := ⟨by omega, by omega, by simp, h10⟩
 simp only [QfZ] at hp
 simp only [QGw, ha, Bool.and_self, h1, Qc1 h2, Qc1 h3, h4, h5, h6, h7, h8, h9, Qac, Int.toNat_zero, List.drop_zero, List.nil_append, Qj1, hc, hp]
 rw [decide_eq_true hl]
 rfl
def QEB : Ent := spec (.pr Qab .nil) (fun x => (QfH x.1)) (fun x => (.t Qak (bodyT x.1)))
theorem QSu : Meets Tryz.prog 137 (strip QEB) := Qag (R := runF Qk0 Qwr QFv false) (mG Tryz.func137 (by kernel_rfl) Tryz.ntmps137 (by kernel_rfl) QUO QTn) fun x hok => (e_f137 x.1).trans (s_f137 x.1 hok)
end
end Go.Proofs.YtkngeegkjhipeaaGreat.K
