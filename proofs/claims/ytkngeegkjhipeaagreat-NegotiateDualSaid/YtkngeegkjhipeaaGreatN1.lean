import Derived.Test.YtkngeegkjhipeaaGreatN0
import Derived.Test.YtkngeegkjhipeaaGreatPD
import Derived.Test.YtkngeegkjhipeaaGreatKY
set_option linter.unusedSimpArgs false
set_option linter.unusedVariables false
namespace Go.Proofs.YtkngeegkjhipeaaGreat.K
open Go.RowKit
noncomputable section
theorem cAppN {α : Type} {l l2 : List α} {c : Nat} (hc : c ≤ 1000) (h : l.length + l2.length ≤ 100000000000) : cApp l l2 c = true := by
 simp only [cApp, decide_eq_true_eq]
 have : (l.length + l2.length) * (c + 1) ≤ 100000000000 * 1001 := Nat.mul_le_mul h (by omega)
 omega
def clonB (l : List Int) : List Int := l
def QxR (l : List Int) : Bool := decide (l.length ≤ 4000000)
def QAC : Ent := spec (.pr (.sl (.int .u8)) .nil) (fun x => (QxR x.1)) (fun x => (.t (.sl (.int .u8)) (clonB x.1)))
theorem QQq : Qag Tryz.prog 178 := .inr ⟨by decide, _, Tryz.func178, by kernel_rfl, by kernel_rfl⟩
theorem elemU8 : ElemOk Tryz.prog 136 5 1 1 := ElemOk.of (.int .u8 0) (by kernel_rfl) (by kernel_rfl) (by kernel_rfl) (by decide)
theorem Qn1 {P : Program} (w : World) (t e : TypeId) (a : Option Addr) (l c : Nat) (h : P.underlying t = some (.slice e)) : (binOp .eql t (.slice a l c) (.slice none 0 0)).run P w = .ok (.bool a.isNone) w := by
 simp [binOp, run_equal_slice_nil w t e a l c h]
set_option maxHeartbeats 400000 in
theorem QvS (A : Option Addr) (c n : Nat) (cells : List Value) (w : World) (h : Sl w (.slice A n c) 1 n cells) (h1 : ∀ u ∈ cells, u.oneCell' = true) (hn : n ≤ 4000000) :
  Calls Tryz.prog 178 #[.slice A n c] w fun r w' => ∃ sv, r = .returned sv ∧ w'.ownsRow w.heap.size 5 1 sv n cells ∧ Below w.heap.size w w' := by
 have he := Qn1 (P := Tryz.prog) w 136 5 A n c (by kernel_rfl)
 rcases A with _ | ad
 ·have hnil : n = 0 := Classical.byContradiction fun h0 => by
   obtain ⟨_, A', c', hv, _, _, h3⟩ := h
   obtain ⟨b, off, e, _⟩ := h3 (by omega)
   rw [e] at hv
   simp at hv
  subst hnil
  have hc : cells = [] := List.eq_nil_of_length_eq_zero (by rw [h.1, Nat.zero_mul])
  subst hc
  clear h
  simp only [Option.isNone_none] at he
  go_enter Tryz.func178, Tryz.ntmps178
  go_wp2_with fail
  go_ret
  exact ⟨_, rfl, World.ownsRow_nil _ _ _ _, Below.refl _ _⟩
 ·simp only [Option.isNone_some] at he
  have hown := World.ownsRow_made w #[] (size := 1) (e := 5) 0 (Nat.le_refl _) (Nat.zero_le _) rfl
  have hsrc := h.alloc (.cells #[] 5)
  have HSRC := Lib.hid hsrc
  clear h hsrc
  go_enter Tryz.func178, Tryz.ntmps178
  go_wp2_with (at_builtin; refine Qyk elemU8 rfl _ _ rfl w.heap.size (.slice (some ⟨w.heap.size, 0, none⟩) 0 0) 0 [] rfl hown (some ad) n c cells rfl HSRC.out h1 (by omega) (by omega) (by simp) ?_; intro v' w4 hown4 hg4 hat4)
  go_ret
  refine ⟨v', rfl, by simpa using hown4, ?_⟩
  have hal := (Below.refl w.heap.size w).alloc (Nat.le_refl _) (.cells #[] 5)
  exact QqE hal hg4 (Nat.le_refl _) hal.size
theorem QNw : Meets Tryz.prog 178 (strip QAC) :=
 QHP (a := .pr (.sl (.int .u8)) .nil) (e := 5) (y := .int .u8) (L := fun x => x.1) (Qvl (e := 5) (y := .int .u8) (by decide) (fun x hx => of_decide_eq_true hx) fun A c n cells w h h1 hn => QvS A c n cells w h h1 hn)
def tagB (n : Int) : Bool := decide (1 ≤ n ∧ n ≤ 255) && (iband .i64 n 31 != 31)
noncomputable def Qtr : TC := (.sq (.reg (rT Tryz.f171 0)) (.sq (.reg (rT Tryz.f171 1)) .rt))
def QBv : List (RV × Option Ty) := [((.t 2), some .bool)]
def Qw3 : G := ⟨TYs, [], 14, EL [], keeps, (fun _ _ => none), IL [], RL []⟩
def QCw (p0 : Int) : Option (V × List VO) := br (ige p0 1) (br (ile p0 255) (some (.t .bool (ine (iband .i64 p0 31) 31), [])) (some (.t .bool false, []))) (some (.t .bool false, []))
theorem e_f171 (p0 : Int) : runF Qw3 Qtr QBv false [.t tI p0] [] = QCw p0 := by kernel_rfl
theorem QQs : Qag Tryz.prog 171 := .inr ⟨by decide, _, Tryz.func171, by kernel_rfl, by kernel_rfl⟩
theorem QPE : GOk Tryz.prog Qw3 := Qan _ (fun p hp => by cases hp)
theorem QOp : Qtr.lok Qw3 := by repeat (first | exact trivial | refine ⟨?_, ?_⟩)
theorem s_f171 (n : Int) : QCw n = some (.t .bool (tagB n), []) := by
 simp only [QCw]
 unfold tagB
 refine QaP (fun h1 => QaP (fun h2 => ?_) (fun h2 => ?_)) (fun h1 => ?_)
 ·simp only [ige, ile, decide_eq_true_eq] at h1 h2
  rw [decide_eq_true (show 1 ≤ n ∧ n ≤ 255 by omega), Bool.true_and]
 ·simp only [ige, ile, decide_eq_true_eq, decide_eq_false_iff_not] at h1 h2
  rw [decide_eq_false (show ¬ (1 ≤ n ∧ n ≤ 255) by omega), Bool.false_and]
 ·simp only [ige, decide_eq_false_iff_not] at h1
  rw [decide_eq_false (show ¬ (1 ≤ n ∧ n ≤ 255) by omega), Bool.false_and]
def QAG : Ent := spec (.pr tI .nil) (fun x => true) (fun x => (.t .bool (tagB x.1)))
theorem QNA : Meets Tryz.prog 171 (strip QAG) := Qaf (R := runF Qw3 Qtr QBv false) (mG Tryz.func171 (by kernel_rfl) Tryz.ntmps171 (by kernel_rfl) QPE QOp) fun x _ => (e_f171 x.1).trans (s_f171 x.1)
def tagR (n : Int) : Bool := decide (1 ≤ n ∧ n ≤ 255) && (irem n 32 != 31)
noncomputable def Qtu : TC := (.sq (.reg (rT Tryz.f168 0)) (.sq (.reg (rT Tryz.f168 1)) .rt))
def QBy : List (RV × Option Ty) := [((.t 2), some .bool)]
def Qw4 : G := ⟨TYs, [], 14, EL [], keeps, (fun _ _ => none), IL [], RL []⟩
def QCz (p0 : Int) : Option (V × List VO) := br (ige p0 1) (br (ile p0 255) (br (cNz 32) (some (.t .bool (ine (irem p0 32) 31), [])) none) (some (.t .bool false, []))) (some (.t .bool false, []))
theorem e_f168 (p0 : Int) : runF Qw4 Qtu QBy false [.t tI p0] [] = QCz p0 := by kernel_rfl
theorem QQu : Qag Tryz.prog 168 := .inr ⟨by decide, _, Tryz.func168, by kernel_rfl, by kernel_rfl⟩
theorem QPH : GOk Tryz.prog Qw4 := Qan _ (fun p hp => by cases hp)
theorem QOs : Qtu.lok Qw4 := by repeat (first | exact trivial | refine ⟨?_, ?_⟩)
theorem s_f168 (n : Int) : QCz n = some (.t .bool (tagR n), []) := by
 simp only [QCz, show cNz 32 = true from rfl, Qac]
 unfold tagR
 refine QaP (fun h1 => QaP (fun h2 => ?_) (fun h2 => ?_)) (fun h1 => ?_)
 ·simp only [ige, ile, decide_eq_true_eq] at h1 h2
  rw [decide_eq_true (show 1 ≤ n ∧ n ≤ 255 by omega), Bool.true_and]
 ·simp only [ige, ile, decide_eq_true_eq, decide_eq_false_iff_not] at h1 h2
  rw [decide_eq_false (show ¬ (1 ≤ n ∧ n ≤ 255) by omega), Bool.false_and]
 ·simp only [ige, decide_eq_false_iff_not] at h1
  rw [decide_eq_false (show ¬ (1 ≤ n ∧ n ≤ 255) by omega), Bool.false_and]
def QAJ : Ent := spec (.pr tI .nil) (fun x => true) (fun x => (.t .bool (tagR x.1)))
theorem QND : Meets Tryz.prog 168 (strip QAJ) := Qaf (R := runF Qw4 Qtu QBy false) (mG Tryz.func168 (by kernel_rfl) Tryz.ntmps168 (by kernel_rfl) QPH QOs) fun x _ => (e_f168 x.1).trans (s_f168 x.1)
def lenA (b : List Int) (n : Int) : List Int := b ++ lenL n.toNat
def Qnf (b : List Int) (n : Int) : Bool := decide (b.length ≤ 1000000000 ∧ 0 ≤ n ∧ n ≤ 1000000000)
theorem byt_low (n : Nat) (h : n < 256) : byt (n : Int) 0 = n := by
 rw [QqD]
 simp
 omega
theorem ishr8 (n : Nat) : ishr .i64 (n : Int) 8 = ((n / 256 : Nat) : Int) := by
 have := Qlk (kd := .i64) rfl (n : Int) 1 (by omega)
 rw [show ((8 * 1 : Nat) : Int) = 8 from rfl] at this
 rw [this]
 omega
def QfA : Fg := ⟨[(0, none), (1, some tI), (5, some tI), (6, some tI)], [(0, none), (27, none), (41, none), (49000, none), (50000, none)]⟩
noncomputable def Qg8 : TC := (.sq (.sq (.reg (rT Tryz.f175 5)) (.cd (.t 17) .sk (.fg ⟨[(0, none), (1, some tI), (5, some tI)], [(0, none), (27, none), (41, none), (49000, none), (50000, none)]⟩ (.ex 0)))) (.sq (.bk 1 (.reg (rT Tryz.f175 6))) (.reg (rT Tryz.f175 7))))
def Qfz : Fg := ⟨[(0, none), (1, some tI), (7, some tI)], [(0, none), (27, none), (41, none), (49000, none), (50000, none)]⟩
noncomputable def Qg7 : TC := (.sq (.sq (.reg (rT Tryz.f175 10)) (.cd (.t 31) .sk (.fg ⟨[(0, none)], [(0, none), (27, none), (41, none), (49000, none), (50000, none)]⟩ (.ex 2)))) (.sq (.bk 3 (.reg (rT Tryz.f175 11))) (.reg (rT Tryz.f175 12))))
noncomputable def Qto : TC := (.ad [(50000, 49000)] (.sq (.reg (rT Tryz.f175 0)) (.sq (.sq (.reg (rT Tryz.f175 1)) (.cd (.t 9) (.sq (.reg (rT Tryz.f175 2)) .rt) .sk)) (.sq (.reg (rT Tryz.f175 3)) (.sq (.sq (.reg (rT Tryz.f175 4)) (.bk 0 (.lp 0 QfA Qg8))) (.sq (.reg (rT Tryz.f175 8)) (.sq (.sq (.reg (rT Tryz.f175 9)) (.bk 2 (.nw 0 5 (.lp 1 Qfz Qg7)))) (.sq (.reg (rT Tryz.f175 13)) .rt))))))))
def QBs : List (RV × Option Ty) := [((.t 4), none)]
abbrev Qmk : Sh := ⟨[(0, .ms 49000), (1, .ty tI), (5, .ty tI), (6, .ty tI)], [(0, .no), (27, .no), (41, .no), (49000, .arr 5 (.int .u8)), (50000, .no)]⟩
def QlP (x1 x5 x6 : Int) (y49000 : List Int) : VS := Qmk.st ((), x1, x5, x6, ()) ((), (), (), y49000, (), ())
abbrev Qrq : Sh := ⟨[(0, .ms 49000), (1, .ty tI), (5, .ty tI)], [(0, .no), (27, .no), (41, .no), (49000, .arr 5 (.int .u8)), (50000, .no)]⟩
def Qdg (x1 x5 : Int) (y49000 : List Int) : VS := Qrq.st ((), x1, x5, ()) ((), (), (), y49000, (), ())
abbrev Qmj : Sh := ⟨[(0, .ms 49000), (1, .ty tI), (7, .ty tI)], [(0, .no), (27, .no), (41, .no), (49000, .arr 5 (.int .u8)), (50000, .no)]⟩
def QlO (x1 x7 : Int) (y49000 : List Int) : VS := Qmj.st ((), x1, x7, ()) ((), (), (), y49000, (), ())
abbrev Qrp : Sh := ⟨[(0, .ms 49000)], [(0, .no), (27, .no), (41, .no), (49000, .arr 5 (.int .u8)), (50000, .no)]⟩
def Qdf (y49000 : List Int) : VS := Qrp.st ((), ()) ((), (), (), y49000, (), ())
def QKe : VS → Option (Bool × List (Bool × Exit × VS)) := mkL Qmk (fun x y => (decide (0 ≤ x.2.2.2.1 ∧ x.2.2.2.1 ≤ 1000000000 ∧ 0 ≤ x.2.2.1 ∧ x.2.2.1 ≤ 100))) (fun x y => [(true, .exit 0, Qdg (x.2.1) (x.2.2.1 + (cntL 8 x.2.2.2.1.toNat : Nat)) (y.2.2.2.1))])
def QKd : VS → Option (Bool × List (Bool × Exit × VS)) := mkL Qmj (fun x y => (decide (y.2.2.2.1.length ≤ 2000000000 ∧ -1 ≤ x.2.2.1 ∧ x.2.2.1 ≤ 7))) (fun x y => [(true, .exit 2, Qdf (y.2.2.2.1 ++ bytsN x.2.1 (x.2.2.1 + 1).toNat))])
def Qe4 : G := ⟨TYs, [], 43, EL [], keeps, (Ls [QKe, QKd]), IL [], RL []⟩
def QxV (x1 x5 x6 : Int) (y49000 : List Int) : Option (Exit × VS) := br (igt x6 0) (br (decide ((0 : Int) ≤ 8)) (some (.normal, QlP x1 (iadd .i64 x5 1) (ishr .i64 x6 8) y49000)) none) (some (.exit 0, Qdg x1 x5 y49000))
noncomputable def QhJ (x1 x5 x6 : Int) (y49000 : List Int) : Option (Exit × VS) := loopF (Qaj Qe4 QfA Qg8) (QlP x1 x5 x6 y49000)
noncomputable def Qhy (x1 x5 x6 : Int) (y49000 : List Int) : Option (Exit × VS) := br (igt x6 0) (br (decide ((0 : Int) ≤ 8)) (QhJ x1 (iadd .i64 x5 1) (ishr .i64 x6 8) y49000) none) (some (.exit 0, Qdg x1 x5 y49000))
def Qfu (x1 x5 x6 : Int) (y49000 : List Int) : Option (Exit × VS) := some (.exit 0, Qdg (x1) (x5 + (cntL 8 x6.toNat : Nat)) (y49000))
theorem QF8 (x1 x5 x6 : Int) (y49000 : List Int) : Qaj Qe4 QfA Qg8 (QlP x1 x5 x6 y49000) = QxV x1 x5 x6 y49000 := by kernel_rfl
theorem Qsn (x1 x5 x6 : Int) (y49000 : List Int) : QhJ x1 x5 x6 y49000 = Qhy x1 x5 x6 y49000 := (Qaq _ _).trans (by
 rw [QF8]
 simp only [QxV, Qhy, QaE, nxt_n, nxt_r, nxt_e, nxt_0]
 rfl)
def QxU (x1 x7 : Int) (y49000 : List Int) : Option (Exit × VS) :=
 let a1 := icv .u8 (ishr .i64 x1 (imul .i64 8 x7))
 br (ige x7 0) (br (decide ((0 : Int) ≤ (imul .i64 8 x7))) (br (cApp y49000 ([a1]) 1) (some (.normal, QlO x1 (isub .i64 x7 1) (y49000 ++ ([a1])))) none) none) (some (.exit 2, Qdf y49000))
noncomputable def Qm6 (x1 x7 : Int) (y49000 : List Int) : Option (Exit × VS) := loopF (Qaj Qe4 Qfz Qg7) (QlO x1 x7 y49000)
noncomputable def QkB (x1 x7 : Int) (y49000 : List Int) : Option (Exit × VS) :=
 let a1 := icv .u8 (ishr .i64 x1 (imul .i64 8 x7))
 br (ige x7 0) (br (decide ((0 : Int) ≤ (imul .i64 8 x7))) (br (cApp y49000 ([a1]) 1) (Qm6 x1 (isub .i64 x7 1) (y49000 ++ ([a1]))) none) none) (some (.exit 2, Qdf y49000))
def Qng (x1 x7 : Int) (y49000 : List Int) : Option (Exit × VS) := some (.exit 2, Qdf (y49000 ++ bytsN x1 (x7 + 1).toNat))
theorem QF7 (x1 x7 : Int) (y49000 : List Int) : Qaj Qe4 Qfz Qg7 (QlO x1 x7 y49000) = QxU x1 x7 y49000 := by kernel_rfl
theorem Qsm (x1 x7 : Int) (y49000 : List Int) : Qm6 x1 x7 y49000 = QkB x1 x7 y49000 := (Qaq _ _).trans (by
 rw [QF7]
 simp only [QxU, QkB, QaE, nxt_n, nxt_r, nxt_e, nxt_0]
 rfl)
def QCt (p0 : List Int) (p1 : Int) : Option (V × List VO) :=
 let a1 := (icv .u8 (iadd .i64 128 ((0 : Int) + (cntL 8 p1.toNat : Nat))))
 let a2 := (isub .i64 ((0 : Int) + (cntL 8 p1.toNat : Nat)) 1)
 br (ilt p1 128) (br (cApp p0 ([(icv .u8 p1)]) 1) (some (.ms 50001, [.no, .arr 5 (.int .u8) (p0 ++ ([(icv .u8 p1)]))])) none) (br (decide (0 ≤ p1 ∧ p1 ≤ 1000000000 ∧ 0 ≤ (0 : Int) ∧ (0 : Int) ≤ 100)) (br (cApp (p0) ([a1]) 1) (br (decide (((p0) ++ ([a1])).length ≤ 2000000000 ∧ -1 ≤ a2 ∧ a2 ≤ 7)) (some (.ms 50001, [.no, .arr 5 (.int .u8) (((p0) ++ ([a1])) ++ bytsN (p1) (a2 + 1).toNat)])) none) none) none)
theorem e_f175 (p0 : List Int) (p1 : Int) : runF Qe4 Qto QBs true [.ms 50000, .t tI p1] [.arr 5 (.int .u8) p0] = QCt p0 p1 := by kernel_rfl
theorem QFm : Qag Tryz.prog 175 := .inr ⟨by decide, _, Tryz.func175, by kernel_rfl, by kernel_rfl⟩
theorem QPB : GOk Tryz.prog Qe4 := Qan _ (fun p hp => by cases hp)
theorem QFO {f n : Nat} (hn : n ≠ 0) (hf : n < 256 ^ f) : cntL f n = cntL (f - 1) (n / 256) + 1 := by
 cases f with
 | zero => simp at hf; omega
 | succ f => rw [cntL, if_neg hn]; rfl
theorem Qtb : ∀ (f g n : Nat), n < 256 ^ f → n < 256 ^ g → cntL f n = cntL g n
 | 0, g, n, h1, h2 => by
  have : n = 0 := by simpa using h1
  subst this
  cases g <;> rfl
 | f + 1, 0, n, h1, h2 => by
  have : n = 0 := by simpa using h2
  subst this
  rfl
 | f + 1, g + 1, n, h1, h2 => by
  rw [cntL, cntL]
  split
  ·rfl
  ·rw [Nat.pow_succ] at h1 h2
   rw [Qtb f g (n / 256) (by omega) (by omega)]
theorem QIj (x1 x5 x6 : Int) (y49000 : List Int) (h : (decide (0 ≤ x6 ∧ x6 ≤ 1000000000 ∧ 0 ≤ x5 ∧ x5 ≤ 100)) = true) : QhJ x1 x5 x6 y49000 = Qfu x1 x5 x6 y49000 := by
 simp only [decide_eq_true_eq] at h
 obtain ⟨h1, h2, h3, h4⟩ := h
 obtain ⟨n, rfl⟩ := Int.eq_ofNat_of_zero_le h1
 have key : ∀ (m n : Nat), n ≤ m → n ≤ 1000000000 → ∀ x5 : Int, 0 ≤ x5 → x5 + n ≤ 2000000000 → QhJ x1 x5 (n : Int) y49000 = Qfu x1 x5 (n : Int) y49000 := by
  intro m
  induction m with
  | zero =>
   intro n hn _ x5 _ _
   have : n = 0 := by omega
   subst this
   rw [Qsn]
   simp only [Qhy, Qfu, show igt ((0 : Nat) : Int) 0 = false from rfl, Qae, Int.toNat_natCast, show cntL 8 0 = 0 from rfl]
   simp
  | succ m ih =>
   intro n hn hb x5 h5 h6
   rw [Qsn]
   by_cases h0 : n = 0
   ·subst h0
    simp only [Qhy, Qfu, show igt ((0 : Nat) : Int) 0 = false from rfl, Qae, Int.toNat_natCast, show cntL 8 0 = 0 from rfl]
    simp
   ·simp only [Qhy, show igt (n : Int) 0 = true from decide_eq_true (by omega), Qac, show decide ((0 : Int) ≤ 8) = true from rfl, ishr8]
    rw [Qb9 (by omega), ih (n / 256) (by omega) (by omega) (x5 + 1) (by omega) (by omega)]
    simp only [Qfu, Int.toNat_natCast]
    rw [QFO (f := 8) h0 (by omega), Qtb 7 8 (n / 256) (by omega) (by omega)]
    have : x5 + 1 + (cntL 8 (n / 256) : Int) = x5 + ((cntL 8 (n / 256) + 1 : Nat) : Int) := by omega
    rw [this]
 exact key n n (Nat.le_refl _) (by omega) x5 h3 (by omega)
theorem QIi (x1 x7 : Int) (y49000 : List Int) (h : (decide (y49000.length ≤ 2000000000 ∧ -1 ≤ x7 ∧ x7 ≤ 7)) = true) : Qm6 x1 x7 y49000 = Qng x1 x7 y49000 := by
 simp only [decide_eq_true_eq] at h
 obtain ⟨h1, h2, h3⟩ := h
 obtain ⟨k, hk⟩ : ∃ k : Nat, x7 = (k : Int) - 1 := ⟨(x7 + 1).toNat, by omega⟩
 subst hk
 have hk8 : k ≤ 8 := by omega
 have h9 : y49000.length + k ≤ 2000000009 := by omega
 clear h1 h2 h3
 induction k generalizing y49000 with
 | zero =>
  rw [Qsm]
  simp [QkB, Qng, ige, Qae, bytsN]
 | succ k ih =>
  rw [Qsm]
  have e0 : (((k + 1 : Nat) : Int) - 1) = (k : Int) := by omega
  rw [e0]
  have e1 : imul .i64 8 (k : Int) = ((8 * k : Nat) : Int) := by rw [QPw (by omega)]; omega
  simp only [QkB, show ige (k : Int) 0 = true from decide_eq_true (by omega), Qac, e1, show decide ((0 : Int) ≤ ((8 * k : Nat) : Int)) = true from decide_eq_true (by omega), QQ7 x1 k (by omega)]
  rw [cAppN (by omega) (by simp only [List.length_singleton]; omega), Qac, QbE (by omega), ih (y49000 ++ [byt x1 k]) (by omega) (by simp only [List.length_append, List.length_singleton]; omega)]
  simp only [Qng, show ((k : Int) - 1 + 1).toNat = k by omega, show ((k : Int) + 1).toNat = k + 1 by omega, bytsN, List.append_assoc, List.singleton_append]
theorem QDV : ∀ S l p, Qe4.L 0 (fgt QfA S) = some (true, l) → pickA l = some p → loopF (Qaj Qe4 QfA Qg8) S = some p :=
 QaF (s := Qmk) ⟨by decide, by decide⟩ (by kernel_rfl) fun x y hok p hp => by
 simp only [Qas, Qap] at hp
 exact (QIj x.2.1 x.2.2.1 x.2.2.2.1 y.2.2.2.1 (by simpa using hok)).trans hp
theorem QDU : ∀ S l p, Qe4.L 1 (fgt Qfz S) = some (true, l) → pickA l = some p → loopF (Qaj Qe4 Qfz Qg7) S = some p :=
 QaF (s := Qmj) ⟨by decide, by decide⟩ (by kernel_rfl) fun x y hok p hp => by
 simp only [Qas, Qap] at hp
 exact (QIi x.2.1 x.2.2.1 y.2.2.2.1 (by simpa using hok)).trans hp
theorem QOm : Qto.lok Qe4 := by
 repeat (first | exact trivial | exact QDV | exact QDU | refine ⟨?_, ?_⟩)
theorem Qik {n : Nat} (h : n < 256) : icv .u8 (n : Int) = n := by
 rw [icv8]
 omega
theorem s_f175 (b : List Int) (n : Int) (h : Qnf b n = true) : QCt b n = some (.ms 50001, [.no, .arr 5 (.int .u8) (lenA b n)]) := by
 simp only [Qnf, decide_eq_true_eq] at h
 obtain ⟨h1, h2, h3⟩ := h
 obtain ⟨n, rfl⟩ := Int.eq_ofNat_of_zero_le h2
 have hc := QqB 8 n
 simp only [QCt]
 by_cases hn : n < 128
 ·rw [show ilt (n : Int) 128 = true from decide_eq_true (by omega), Qac, cAppN (by omega) (by simp only [List.length_singleton]; omega), Qac]
  simp only [lenA, lenL, Int.toNat_natCast, if_pos hn, Qik (show n < 256 by omega)]
 ·rw [show ilt (n : Int) 128 = false from decide_eq_false (by omega), Qae, decide_eq_true ⟨by omega, by omega, by omega, by omega⟩, Qac]
  simp only [Int.toNat_natCast, Int.zero_add]
  rw [Qb9 (by omega), cAppN (by omega) (by simp only [List.length_singleton]; omega), Qac, QbE (by omega), decide_eq_true ⟨by simp only [List.length_append, List.length_singleton]; omega, by omega, by omega⟩, Qac]
  simp only [lenA, lenL, Int.toNat_natCast, if_neg hn, Qs6]
  have e1 : ((cntL 8 n : Int) - 1 + 1).toNat = cntL 8 n := by omega
  have e2 : (128 + (cntL 8 n : Int)) = ((128 + cntL 8 n : Nat) : Int) := by omega
  rw [e1, e2, Qik (by omega), List.append_assoc, List.singleton_append]
def Que : Ent := specS [.ms 50000, .ty tI] [.arr 5 (.int .u8)] (fun x y => (Qnf y.1 x.2.1)) (fun x y => (.ms 50001)) (fun x y => [.no, .arr 5 (.int .u8) (lenA y.1 x.2.1)])
theorem QDE : Meets Tryz.prog 175 (strip Que) := QaI (R := runF Qe4 Qto QBs true) (mG Tryz.func175 (by kernel_rfl) Tryz.ntmps175 (by kernel_rfl) QPB QOm) fun x y hok => (e_f175 y.1 x.2.1).trans (s_f175 y.1 x.2.1 hok)
def lenR (n : Int) : List Int := lenL n.toNat
def QsK (n : Int) : Bool := decide (0 ≤ n ∧ n ≤ 1000000000)
def QfD : Fg := ⟨[(0, some tI), (3, none)], [(3, none), (14, none), (16, none)]⟩
noncomputable def Qhb : TC := (.mv [(14, 3)] (.sq (.sq (.reg (rT Tryz.f169 4)) (.cd (.t 10) .sk (.fg ⟨[(3, none)], [(3, none), (14, none), (16, none)]⟩ (.ex 0)))) (.bk 1 (.sq (.reg (rT Tryz.f169 5)) (.reg (rT Tryz.f169 6))))))
noncomputable def Qtt : TC := (.sq (.reg (rT Tryz.f169 0)) (.sq (.sq (.reg (rT Tryz.f169 1)) (.cd (.t 5) (.sq (.reg (rT Tryz.f169 2)) .rt) .sk)) (.sq (.reg (rT Tryz.f169 3)) (.sq (.bk 0 (.nw 3 5 (.lp 0 QfD Qhb))) (.sq (.reg (rT Tryz.f169 7)) .rt)))))
def QBx : List (RV × Option Ty) := [((.t 2), some (.sl (.int .u8)))]
abbrev Qmn : Sh := ⟨[(0, .ty tI), (3, .ms 3)], [(3, .arr 5 (.int .u8)), (14, .no), (16, .no)]⟩
def QlS (x0 : Int) (y3 : List Int) : VS := Qmn.st (x0, (), ()) (y3, (), (), ())
abbrev Qrt : Sh := ⟨[(3, .ms 3)], [(3, .arr 5 (.int .u8)), (14, .no), (16, .no)]⟩
def Qdj (y3 : List Int) : VS := Qrt.st ((), ()) (y3, (), (), ())
def QKh : VS → Option (Bool × List (Bool × Exit × VS)) := mkL Qmn (fun x y => (decide (0 ≤ x.1 ∧ x.1 ≤ 1000000000 ∧ y.1.length ≤ 100))) (fun x y => [(true, .exit 0, Qdj (digL 8 x.1.toNat ++ y.1))])
def QjM : G := ⟨TYs, [14, 23], 26, EL [], keeps, (Ls [QKh]), IL [], RL []⟩
def QxY (x0 : Int) (y3 : List Int) : Option (Exit × VS) :=
 let a1 := icv .u8 (irem x0 256)
 br (igt x0 0) (br (cNz 256) (br (cApp ([a1]) y3 1) (br (cNz 256) (some (.normal, QlS (iquo .i64 x0 256) (([a1]) ++ y3))) none) none) none) (some (.exit 0, Qdj y3))
noncomputable def QhM (x0 : Int) (y3 : List Int) : Option (Exit × VS) := loopF (Qaj QjM QfD Qhb) (QlS x0 y3)
noncomputable def Qhz (x0 : Int) (y3 : List Int) : Option (Exit × VS) :=
 let a1 := icv .u8 (irem x0 256)
 br (igt x0 0) (br (cNz 256) (br (cApp ([a1]) y3 1) (br (cNz 256) (QhM (iquo .i64 x0 256) (([a1]) ++ y3)) none) none) none) (some (.exit 0, Qdj y3))
def Qfv (x0 : Int) (y3 : List Int) : Option (Exit × VS) := some (.exit 0, Qdj (digL 8 x0.toNat ++ y3))
theorem QGb (x0 : Int) (y3 : List Int) : Qaj QjM QfD Qhb (QlS x0 y3) = QxY x0 y3 := by kernel_rfl
theorem Qsq (x0 : Int) (y3 : List Int) : QhM x0 y3 = Qhz x0 y3 := (Qaq _ _).trans (by
 rw [QGb]
 simp only [QxY, Qhz, QaE, nxt_n, nxt_r, nxt_e, nxt_0]
 rfl)
def QCy (p0 : Int) : Option (V × List VO) :=
 let a1 := (digL 8 p0.toNat ++ ([] : List Int))
 let a2 := icv .u8 (iadd .i64 128 (llen a1))
 br (ilt p0 128) (some (.t (.sl (.int .u8)) ([(icv .u8 p0)]), [])) (br (decide (0 ≤ p0 ∧ p0 ≤ 1000000000 ∧ ([] : List Int).length ≤ 100)) (br (cApp ([a2]) a1 1) (some (.t (.sl (.int .u8)) (([a2]) ++ a1), [])) none) none)
theorem e_f169 (p0 : Int) : runF QjM Qtt QBx false [.t tI p0] [] = QCy p0 := by kernel_rfl
theorem QQt : Qag Tryz.prog 169 := .inr ⟨by decide, _, Tryz.func169, by kernel_rfl, by kernel_rfl⟩
theorem QPG : GOk Tryz.prog QjM := Qan _ (fun p hp => by cases hp)
theorem Qs5 : ∀ (f g n : Nat), n < 256 ^ f → n < 256 ^ g → digL f n = digL g n
 | 0, g, n, h1, h2 => by
  have : n = 0 := by simpa using h1
  subst this
  cases g <;> rfl
 | f + 1, 0, n, h1, h2 => by
  have : n = 0 := by simpa using h2
  subst this
  rfl
 | f + 1, g + 1, n, h1, h2 => by
  rw [digL, digL]
  split
  ·rfl
  ·rw [Nat.pow_succ] at h1 h2
   rw [Qs5 f g (n / 256) (by omega) (by omega)]
theorem QIm (x0 : Int) (y3 : List Int) (h : (decide (0 ≤ x0 ∧ x0 ≤ 1000000000 ∧ y3.length ≤ 100)) = true) : QhM x0 y3 = Qfv x0 y3 := by
 simp only [decide_eq_true_eq] at h
 obtain ⟨h1, h2, h3⟩ := h
 obtain ⟨n, rfl⟩ := Int.eq_ofNat_of_zero_le h1
 have key : ∀ (m n : Nat), n ≤ m → n ≤ 1000000000 → ∀ y3 : List Int, y3.length + n ≤ 2000000000 → QhM (n : Int) y3 = Qfv (n : Int) y3 := by
  intro m
  induction m with
  | zero =>
   intro n hn _ y3 _
   have : n = 0 := by omega
   subst this
   rw [Qsq]
   simp only [Qhz, Qfv, show igt ((0 : Nat) : Int) 0 = false from rfl, Qae, Int.toNat_natCast, show digL 8 0 = [] from rfl, List.nil_append]
  | succ m ih =>
   intro n hn hb y3 h6
   rw [Qsq]
   by_cases h0 : n = 0
   ·subst h0
    simp only [Qhz, Qfv, show igt ((0 : Nat) : Int) 0 = false from rfl, Qae, Int.toNat_natCast, show digL 8 0 = [] from rfl, List.nil_append]
   ·have e1 : irem (n : Int) 256 = ((n % 256 : Nat) : Int) := by
     show (n : Int).tmod 256 = _
     rw [Int.tmod_eq_emod_of_nonneg (by omega)]
     omega
    have e2 : iquo .i64 (n : Int) 256 = ((n / 256 : Nat) : Int) := by
     show IntKind.i64.wrap ((n : Int).tdiv 256) = _
     rw [Int.tdiv_eq_ediv_of_nonneg (by omega), Go.IntWalk.i64_in _ (by omega)]
     omega
    simp only [Qhz, show igt (n : Int) 0 = true from decide_eq_true (by omega), Qac, show cNz 256 = true from rfl, e1, e2, Qik (show n % 256 < 256 by omega)]
    rw [cAppN (by omega) (by simp only [List.length_singleton]; omega), Qac, ih (n / 256) (by omega) (by omega) _ (by simp only [List.length_append, List.length_singleton]; omega)]
    simp only [Qfv, Int.toNat_natCast]
    have : digL 8 n = digL 8 (n / 256) ++ [((n % 256 : Nat) : Int)] := by
     rw [show digL 8 n = (if n = 0 then [] else digL 7 (n / 256) ++ [((n % 256 : Nat) : Int)]) from rfl, if_neg h0, Qs5 7 8 (n / 256) (by omega) (by omega)]
    rw [this, List.append_assoc]
 exact key n n (Nat.le_refl _) (by omega) y3 (by omega)
theorem QDY : ∀ S l p, QjM.L 0 (fgt QfD S) = some (true, l) → pickA l = some p → loopF (Qaj QjM QfD Qhb) S = some p :=
 QaF (s := Qmn) ⟨by decide, by decide⟩ (by kernel_rfl) fun x y hok p hp => by
 simp only [Qas, Qap] at hp
 exact (QIm x.1 y.1 (by simpa using hok)).trans hp
theorem QOr : Qtt.lok QjM := by
 repeat (first | exact trivial | exact QDY | refine ⟨?_, ?_⟩)
theorem s_f169 (n : Int) (h : QsK n = true) : QCy n = some (.t (.sl (.int .u8)) (lenR n), []) := by
 simp only [QsK, decide_eq_true_eq] at h
 obtain ⟨h2, h3⟩ := h
 obtain ⟨n, rfl⟩ := Int.eq_ofNat_of_zero_le h2
 have hc := QqB 8 n
 have hd := Qqx 8 n
 simp only [QCy]
 by_cases hn : n < 128
 ·rw [show ilt (n : Int) 128 = true from decide_eq_true (by omega), Qac]
  simp only [lenR, lenL, Int.toNat_natCast, if_pos hn, Qik (show n < 256 by omega)]
 ·rw [show ilt (n : Int) 128 = false from decide_eq_false (by omega), Qae, decide_eq_true ⟨by omega, by omega, by simp⟩, Qac]
  simp only [Int.toNat_natCast, List.append_nil, llen, hd]
  rw [cAppN (by omega) (by simp only [List.length_singleton]; omega), Qac, Qb9 (by omega)]
  have e2 : (128 + (cntL 8 n : Int)) = ((128 + cntL 8 n : Nat) : Int) := by omega
  simp only [lenR, lenL, Int.toNat_natCast, if_neg hn]
  rw [e2, Qik (by omega), List.singleton_append]
def QAI : Ent := spec (.pr tI .nil) (fun x => (QsK x.1)) (fun x => (.t (.sl (.int .u8)) (lenR x.1)))
theorem QNC : Meets Tryz.prog 169 (strip QAI) := Qaf (R := runF QjM Qtt QBx false) (mG Tryz.func169 (by kernel_rfl) Tryz.ntmps169 (by kernel_rfl) QPG QOr) fun x hok => (e_f169 x.1).trans (s_f169 x.1 hok)
end
end Go.Proofs.YtkngeegkjhipeaaGreat.K
