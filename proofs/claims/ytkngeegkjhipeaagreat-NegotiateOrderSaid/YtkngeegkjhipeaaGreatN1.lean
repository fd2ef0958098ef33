import Derived.Test.YtkngeegkjhipeaaGreatN0
import Derived.Test.YtkngeegkjhipeaaGreatPD
import Derived.Test.YtkngeegkjhipeaaGreatKY
set_option linter.unusedSimpArgs false
set_option linter.unusedVariables false
namespace Go.Proofs.YtkngeegkjhipeaaGreat.K
open Go.RowKit
noncomputable section
theorem cAppN {α : Type} {l l2 : List α} {c : Nat} (hc : c ≤ 1000) (h : l.length + l2.length ≤ 100000000000) : cApp l l2 c = true := by
 simp only [cApp, decide_eq_true_eq]
 have : (l.length + l2.length) * (c + 1) ≤ 100000000000 * 1001 := Nat.mul_le_mul h (by omega)
 omega
def clonB (l : List Int) : List Int := l
def Qyu (l : List Int) : Bool := decide (l.length ≤ 4000000)
def QBi : Ent := spec (.pr (.sl (.int .u8)) .nil) (fun x => (Qyu x.1)) (fun x => (.t (.sl (.int .u8)) (clonB x.1)))
theorem QRd : Qag Tryz.prog 178 := .inr ⟨by decide, _, Tryz.func178, by kernel_rfl, by kernel_rfl⟩
theorem elemU8 : ElemOk Tryz.prog 136 5 1 1 := ElemOk.of (.int .u8 0) (by kernel_rfl) (by kernel_rfl) (by kernel_rfl) (by decide)
theorem Qoh {P : Program} (w : World) (t e : TypeId) (a : Option Addr) (l c : Nat) (h : P.underlying t = some (.slice e)) : (binOp .eql t (.slice a l c) (.slice none 0 0)).run P w = .ok (.bool a.isNone) w := by
 simp [binOp, run_equal_slice_nil w t e a l c h]
set_option maxHeartbeats 400000 in
theorem Qwm (A : Option Addr) (c n : Nat) (cells : List Value) (w : World) (h : Sl w (.slice A n c) 1 n cells) (h1 : ∀ u ∈ cells, u.oneCell' = true) (hn : n ≤ 4000000) :
  Calls Tryz.prog 178 #[.slice A n c] w fun r w' => ∃ sv, r = .returned sv ∧ w'.ownsRow w.heap.size 5 1 sv n cells ∧ Below w.heap.size w w' := by
 have he := Qoh (P := Tryz.prog) w 136 5 A n c (by kernel_rfl)
 rcases A with _ | ad
 ·have hnil : n = 0 := Classical.byContradiction fun h0 => by
   obtain ⟨_, A', c', hv, _, _, h3⟩ := h
   obtain ⟨b, off, e, _⟩ := h3 (by omega)
   rw [e] at hv
   simp at hv
  subst hnil
  have hc : cells = [] := List.eq_nil_of_length_eq_zero (by rw [h.1, Nat.zero_mul])
  subst hc
  clear h
  simp only [Option.isNone_none] at he
  go_enter Tryz.func178, Tryz.ntmps178
  go_wp2_with fail
  go_ret
  exact ⟨_, rfl, World.ownsRow_nil _ _ _ _, Below.refl _ _⟩
 ·simp only [Option.isNone_some] at he
  have hown := World.ownsRow_made w #[] (size := 1) (e := 5) 0 (Nat.le_refl _) (Nat.zero_le _) rfl
  have hsrc := h.alloc (.cells #[] 5)
  have HSRC := Lib.hid hsrc
  clear h hsrc
  go_enter Tryz.func178, Tryz.ntmps178
  go_wp2_with (at_builtin; refine QyX elemU8 rfl _ _ rfl w.heap.size (.slice (some ⟨w.heap.size, 0, none⟩) 0 0) 0 [] rfl hown (some ad) n c cells rfl HSRC.out h1 (by omega) (by omega) (by simp) ?_; intro v' w4 hown4 hg4 hat4)
  go_ret
  refine ⟨v', rfl, by simpa using hown4, ?_⟩
  have hal := (Below.refl w.heap.size w).alloc (Nat.le_refl _) (.cells #[] 5)
  exact QqW hal hg4 (Nat.le_refl _) hal.size
theorem QOj : Meets Tryz.prog 178 (strip QBi) :=
 QIw (a := .pr (.sl (.int .u8)) .nil) (e := 5) (y := .int .u8) (L := fun x => x.1) (QvP (e := 5) (y := .int .u8) (by decide) (fun x hx => of_decide_eq_true hx) fun A c n cells w h h1 hn => Qwm A c n cells w h h1 hn)
def tagB (n : Int) : Bool := decide (1 ≤ n ∧ n ≤ 255) && (iband .i64 n 31 != 31)
noncomputable def QtS : TC := (.sq (.reg (rT Tryz.f171 0)) (.sq (.reg (rT Tryz.f171 1)) .rt))
def QCc : List (RV × Option Ty) := [((.t 2), some .bool)]
def QxH : G := ⟨TYs, [], 14, EL [], keeps, (fun _ _ => none), IL [], RL []⟩
def QDd (p0 : Int) : Option (V × List VO) := br (ige p0 1) (br (ile p0 255) (some (.t .bool (ine (iband .i64 p0 31) 31), [])) (some (.t .bool false, []))) (some (.t .bool false, []))
theorem e_f171 (p0 : Int) : runF QxH QtS QCc false [.t tI p0] [] = QDd p0 := by kernel_rfl
theorem QRf : Qag Tryz.prog 171 := .inr ⟨by decide, _, Tryz.func171, by kernel_rfl, by kernel_rfl⟩
theorem QQs : GOk Tryz.prog QxH := Qao _ (fun p hp => by cases hp)
theorem QPd : QtS.lok QxH := by repeat (first | exact trivial | refine ⟨?_, ?_⟩)
theorem s_f171 (n : Int) : QDd n = some (.t .bool (tagB n), []) := by
 simp only [QDd]
 unfold tagB
 refine QaP (fun h1 => QaP (fun h2 => ?_) (fun h2 => ?_)) (fun h1 => ?_)
 ·simp only [ige, ile, decide_eq_true_eq] at h1 h2
  rw [decide_eq_true (show 1 ≤ n ∧ n ≤ 255 by omega), Bool.true_and]
 ·simp only [ige, ile, decide_eq_true_eq, decide_eq_false_iff_not] at h1 h2
  rw [decide_eq_false (show ¬ (1 ≤ n ∧ n ≤ 255) by omega), Bool.false_and]
 ·simp only [ige, decide_eq_false_iff_not] at h1
  rw [decide_eq_false (show ¬ (1 ≤ n ∧ n ≤ 255) by omega), Bool.false_and]
def QBm : Ent := spec (.pr tI .nil) (fun x => true) (fun x => (.t .bool (tagB x.1)))
theorem QOn : Meets Tryz.prog 171 (strip QBm) := Qaf (R := runF QxH QtS QCc false) (mG Tryz.func171 (by kernel_rfl) Tryz.ntmps171 (by kernel_rfl) QQs QPd) fun x _ => (e_f171 x.1).trans (s_f171 x.1)
def tagR (n : Int) : Bool := decide (1 ≤ n ∧ n ≤ 255) && (irem n 32 != 31)
noncomputable def QtV : TC := (.sq (.reg (rT Tryz.f168 0)) (.sq (.reg (rT Tryz.f168 1)) .rt))
def QCf : List (RV × Option Ty) := [((.t 2), some .bool)]
def QxI : G := ⟨TYs, [], 14, EL [], keeps, (fun _ _ => none), IL [], RL []⟩
def QDg (p0 : Int) : Option (V × List VO) := br (ige p0 1) (br (ile p0 255) (br (cNz 32) (some (.t .bool (ine (irem p0 32) 31), [])) none) (some (.t .bool false, []))) (some (.t .bool false, []))
theorem e_f168 (p0 : Int) : runF QxI QtV QCf false [.t tI p0] [] = QDg p0 := by kernel_rfl
theorem QRh : Qag Tryz.prog 168 := .inr ⟨by decide, _, Tryz.func168, by kernel_rfl, by kernel_rfl⟩
theorem QQv : GOk Tryz.prog QxI := Qao _ (fun p hp => by cases hp)
theorem QPg : QtV.lok QxI := by repeat (first | exact trivial | refine ⟨?_, ?_⟩)
theorem s_f168 (n : Int) : QDg n = some (.t .bool (tagR n), []) := by
 simp only [QDg, show cNz 32 = true from rfl, Qac]
 unfold tagR
 refine QaP (fun h1 => QaP (fun h2 => ?_) (fun h2 => ?_)) (fun h1 => ?_)
 ·simp only [ige, ile, decide_eq_true_eq] at h1 h2
  rw [decide_eq_true (show 1 ≤ n ∧ n ≤ 255 by omega), Bool.true_and]
 ·simp only [ige, ile, decide_eq_true_eq, decide_eq_false_iff_not] at h1 h2
  rw [decide_eq_false (show ¬ (1 ≤ n ∧ n ≤ 255) by omega), Bool.false_and]
 ·simp only [ige, decide_eq_false_iff_not] at h1
  rw [decide_eq_false (show ¬ (1 ≤ n ∧ n ≤ 255) by omega), Bool.false_and]
def QBp : Ent := spec (.pr tI .nil) (fun x => true) (fun x => (.t .bool (tagR x.1)))
theorem QOq : Meets Tryz.prog 168 (strip QBp) := Qaf (R := runF QxI QtV QCf false) (mG Tryz.func168 (by kernel_rfl) Tryz.ntmps168 (by kernel_rfl) QQv QPg) fun x _ => (e_f168 x.1).trans (s_f168 x.1)
def lenA (b : List Int) (n : Int) : List Int := b ++ lenL n.toNat
def Qnr (b : List Int) (n : Int) : Bool := decide (b.length ≤ 1000000000 ∧ 0 ≤ n ∧ n ≤ 1000000000)
theorem byt_low (n : Nat) (h : n < 256) : byt (n : Int) 0 = n := by
 rw [QqV]
 simp
 omega
theorem ishr8 (n : Nat) : ishr .i64 (n : Int) 8 = ((n / 256 : Nat) : Int) := by
 have := Qls (kd := .i64) rfl (n : Int) 1 (by omega)
 rw [show ((8 * 1 : Nat) : Int) = 8 from rfl] at this
 rw [this]
 omega
def Qfz : Fg := ⟨[(0, none), (1, some tI), (5, some tI), (6, some tI)], [(0, none), (27, none), (41, none), (49000, none), (50000, none)]⟩
noncomputable def Qg9 : TC := (.sq (.sq (.reg (rT Tryz.f175 5)) (.cd (.t 17) .sk (.fg ⟨[(0, none), (1, some tI), (5, some tI)], [(0, none), (27, none), (41, none), (49000, none), (50000, none)]⟩ (.ex 0)))) (.sq (.bk 1 (.reg (rT Tryz.f175 6))) (.reg (rT Tryz.f175 7))))
def Qfy : Fg := ⟨[(0, none), (1, some tI), (7, some tI)], [(0, none), (27, none), (41, none), (49000, none), (50000, none)]⟩
noncomputable def Qg8 : TC := (.sq (.sq (.reg (rT Tryz.f175 10)) (.cd (.t 31) .sk (.fg ⟨[(0, none)], [(0, none), (27, none), (41, none), (49000, none), (50000, none)]⟩ (.ex 2)))) (.sq (.bk 3 (.reg (rT Tryz.f175 11))) (.reg (rT Tryz.f175 12))))
noncomputable def QtP : TC := (.ad [(50000, 49000)] (.sq (.reg (rT Tryz.f175 0)) (.sq (.sq (.reg (rT Tryz.f175 1)) (.cd (.t 9) (.sq (.reg (rT Tryz.f175 2)) .rt) .sk)) (.sq (.reg (rT Tryz.f175 3)) (.sq (.sq (.reg (rT Tryz.f175 4)) (.bk 0 (.lp 0 Qfz Qg9))) (.sq (.reg (rT Tryz.f175 8)) (.sq (.sq (.reg (rT Tryz.f175 9)) (.bk 2 (.nw 0 5 (.lp 1 Qfy Qg8)))) (.sq (.reg (rT Tryz.f175 13)) .rt))))))))
def QB9 : List (RV × Option Ty) := [((.t 4), none)]
abbrev Qmt : Sh := ⟨[(0, .ms 49000), (1, .ty tI), (5, .ty tI), (6, .ty tI)], [(0, .no), (27, .no), (41, .no), (49000, .arr 5 (.int .u8)), (50000, .no)]⟩
def QlY (x1 x5 x6 : Int) (y49000 : List Int) : VS := Qmt.st ((), x1, x5, x6, ()) ((), (), (), y49000, (), ())
abbrev QrI : Sh := ⟨[(0, .ms 49000), (1, .ty tI), (5, .ty tI)], [(0, .no), (27, .no), (41, .no), (49000, .arr 5 (.int .u8)), (50000, .no)]⟩
def Qdg (x1 x5 : Int) (y49000 : List Int) : VS := QrI.st ((), x1, x5, ()) ((), (), (), y49000, (), ())
abbrev Qms : Sh := ⟨[(0, .ms 49000), (1, .ty tI), (7, .ty tI)], [(0, .no), (27, .no), (41, .no), (49000, .arr 5 (.int .u8)), (50000, .no)]⟩
def QlX (x1 x7 : Int) (y49000 : List Int) : VS := Qms.st ((), x1, x7, ()) ((), (), (), y49000, (), ())
abbrev QrH : Sh := ⟨[(0, .ms 49000)], [(0, .no), (27, .no), (41, .no), (49000, .arr 5 (.int .u8)), (50000, .no)]⟩
def Qdf (y49000 : List Int) : VS := QrH.st ((), ()) ((), (), (), y49000, (), ())
def QKU : VS → Option (Bool × List (Bool × Exit × VS)) := mkL Qmt (fun x y => (decide (0 ≤ x.2.2.2.1 ∧ x.2.2.2.1 ≤ 1000000000 ∧ 0 ≤ x.2.2.1 ∧ x.2.2.1 ≤ 100))) (fun x y => [(true, .exit 0, Qdg (x.2.1) (x.2.2.1 + (cntL 8 x.2.2.2.1.toNat : Nat)) (y.2.2.2.1))])
def QKT : VS → Option (Bool × List (Bool × Exit × VS)) := mkL Qms (fun x y => (decide (y.2.2.2.1.length ≤ 2000000000 ∧ -1 ≤ x.2.2.1 ∧ x.2.2.1 ≤ 7))) (fun x y => [(true, .exit 2, Qdf (y.2.2.2.1 ++ bytsN x.2.1 (x.2.2.1 + 1).toNat))])
def Qe4 : G := ⟨TYs, [], 43, EL [], keeps, (Ls [QKU, QKT]), IL [], RL []⟩
def Qyy (x1 x5 x6 : Int) (y49000 : List Int) : Option (Exit × VS) := br (igt x6 0) (br (decide ((0 : Int) ≤ 8)) (some (.normal, QlY x1 (iadd .i64 x5 1) (ishr .i64 x6 8) y49000)) none) (some (.exit 0, Qdg x1 x5 y49000))
noncomputable def QhM (x1 x5 x6 : Int) (y49000 : List Int) : Option (Exit × VS) := loopF (Qaj Qe4 Qfz Qg9) (QlY x1 x5 x6 y49000)
noncomputable def QhB (x1 x5 x6 : Int) (y49000 : List Int) : Option (Exit × VS) := br (igt x6 0) (br (decide ((0 : Int) ≤ 8)) (QhM x1 (iadd .i64 x5 1) (ishr .i64 x6 8) y49000) none) (some (.exit 0, Qdg x1 x5 y49000))
def Qfu (x1 x5 x6 : Int) (y49000 : List Int) : Option (Exit × VS) := some (.exit 0, Qdg (x1) (x5 + (cntL 8 x6.toNat : Nat)) (y49000))
theorem QGP (x1 x5 x6 : Int) (y49000 : List Int) : Qaj Qe4 Qfz Qg9 (QlY x1 x5 x6 y49000) = Qyy x1 x5 x6 y49000 := by kernel_rfl
theorem QsN (x1 x5 x6 : Int) (y49000 : List Int) : QhM x1 x5 x6 y49000 = QhB x1 x5 x6 y49000 := (Qaq _ _).trans (by
 rw [QGP]
 simp only [Qyy, QhB, QaE, nxt_n, nxt_r, nxt_e, nxt_0]
 rfl)
def Qyx (x1 x7 : Int) (y49000 : List Int) : Option (Exit × VS) :=
 let a1 := icv .u8 (ishr .i64 x1 (imul .i64 8 x7))
 br (ige x7 0) (br (decide ((0 : Int) ≤ (imul .i64 8 x7))) (br (cApp y49000 ([a1]) 1) (some (.normal, QlX x1 (isub .i64 x7 1) (y49000 ++ ([a1])))) none) none) (some (.exit 2, Qdf y49000))
noncomputable def Qni (x1 x7 : Int) (y49000 : List Int) : Option (Exit × VS) := loopF (Qaj Qe4 Qfy Qg8) (QlX x1 x7 y49000)
noncomputable def QkH (x1 x7 : Int) (y49000 : List Int) : Option (Exit × VS) :=
 let a1 := icv .u8 (ishr .i64 x1 (imul .i64 8 x7))
 br (ige x7 0) (br (decide ((0 : Int) ≤ (imul .i64 8 x7))) (br (cApp y49000 ([a1]) 1) (Qni x1 (isub .i64 x7 1) (y49000 ++ ([a1]))) none) none) (some (.exit 2, Qdf y49000))
def Qnu (x1 x7 : Int) (y49000 : List Int) : Option (Exit × VS) := some (.exit 2, Qdf (y49000 ++ bytsN x1 (x7 + 1).toNat))
theorem QGO (x1 x7 : Int) (y49000 : List Int) : Qaj Qe4 Qfy Qg8 (QlX x1 x7 y49000) = Qyx x1 x7 y49000 := by kernel_rfl
theorem QsM (x1 x7 : Int) (y49000 : List Int) : Qni x1 x7 y49000 = QkH x1 x7 y49000 := (Qaq _ _).trans (by
 rw [QGO]
 simp only [Qyx, QkH, QaE, nxt_n, nxt_r, nxt_e, nxt_0]
 rfl)
def QDa (p0 : List Int) (p1 : Int) : Option (V × List VO) :=
 let a1 := (icv .u8 (iadd .i64 128 ((0 : Int) + (cntL 8 p1.toNat : Nat))))
 let a2 := (isub .i64 ((0 : Int) + (cntL 8 p1.toNat : Nat)) 1)
 br (ilt p1 128) (br (cApp p0 ([(icv .u8 p1)]) 1) (some (.ms 50001, [.no, .arr 5 (.int .u8) (p0 ++ ([(icv .u8 p1)]))])) none) (br (decide (0 ≤ p1 ∧ p1 ≤ 1000000000 ∧ 0 ≤ (0 : Int) ∧ (0 : Int) ≤ 100)) (br (cApp (p0) ([a1]) 1) (br (decide (((p0) ++ ([a1])).length ≤ 2000000000 ∧ -1 ≤ a2 ∧ a2 ≤ 7)) (some (.ms 50001, [.no, .arr 5 (.int .u8) (((p0) ++ ([a1])) ++ bytsN (p1) (a2 + 1).toNat)])) none) none) none)
theorem e_f175 (p0 : List Int) (p1 : Int) : runF Qe4 QtP QB9 true [.ms 50000, .t tI p1] [.arr 5 (.int .u8) p0] = QDa p0 p1 := by kernel_rfl
theorem QF4 : Qag Tryz.prog 175 := .inr ⟨by decide, _, Tryz.func175, by kernel_rfl, by kernel_rfl⟩
theorem QQp : GOk Tryz.prog Qe4 := Qao _ (fun p hp => by cases hp)
theorem QGw {f n : Nat} (hn : n ≠ 0) (hf : n < 256 ^ f) : cntL f n = cntL (f - 1) (n / 256) + 1 := by
 cases f with
 | zero => simp at hf; omega
 | succ f => rw [cntL, if_neg hn]; rfl
theorem QtA : ∀ (f g n : Nat), n < 256 ^ f → n < 256 ^ g → cntL f n = cntL g n
 | 0, g, n, h1, h2 => by
  have : n = 0 := by simpa using h1
  subst this
  cases g <;> rfl
 | f + 1, 0, n, h1, h2 => by
  have : n = 0 := by simpa using h2
  subst this
  rfl
 | f + 1, g + 1, n, h1, h2 => by
  rw [cntL, cntL]
  split
  ·rfl
  ·rw [Nat.pow_succ] at h1 h2
   rw [QtA f g (n / 256) (by omega) (by omega)]
theorem QI1 (x1 x5 x6 : Int) (y49000 : List Int) (h : (decide (0 ≤ x6 ∧ x6 ≤ 1000000000 ∧ 0 ≤ x5 ∧ x5 ≤ 100)) = true) : QhM x1 x5 x6 y49000 = Qfu x1 x5 x6 y49000 := by
 simp only [decide_eq_true_eq] at h
 obtain ⟨h1, h2, h3, h4⟩ := h
 obtain ⟨n, rfl⟩ := Int.eq_ofNat_of_zero_le h1
 have key : ∀ (m n : Nat), n ≤ m → n ≤ 1000000000 → ∀ x5 : Int, 0 ≤ x5 → x5 + n ≤ 2000000000 → QhM x1 x5 (n : Int) y49000 = Qfu x1 x5 (n : Int) y49000 := by
  intro m
  induction m with
  | zero =>
   intro n hn _ x5 _ _
   have : n = 0 := by omega
   subst this
   rw [QsN]
   simp only [QhB, Qfu, show igt ((0 : Nat) : Int) 0 = false from rfl, Qae, Int.toNat_natCast, show cntL 8 0 = 0 from rfl]
   simp
  | succ m ih =>
   intro n hn hb x5 h5 h6
   rw [QsN]
   by_cases h0 : n = 0
   ·subst h0
    simp only [QhB, Qfu, show igt ((0 : Nat) : Int) 0 = false from rfl, Qae, Int.toNat_natCast, show cntL 8 0 = 0 from rfl]
    simp
   ·simp only [QhB, show igt (n : Int) 0 = true from decide_eq_true (by omega), Qac, show decide ((0 : Int) ≤ 8) = true from rfl, ishr8]
    rw [QbX (by omega), ih (n / 256) (by omega) (by omega) (x5 + 1) (by omega) (by omega)]
    simp only [Qfu, Int.toNat_natCast]
    rw [QGw (f := 8) h0 (by omega), QtA 7 8 (n / 256) (by omega) (by omega)]
    have : x5 + 1 + (cntL 8 (n / 256) : Int) = x5 + ((cntL 8 (n / 256) + 1 : Nat) : Int) := by omega
    rw [this]
 exact key n n (Nat.le_refl _) (by omega) x5 h3 (by omega)
theorem QI0 (x1 x7 : Int) (y49000 : List Int) (h : (decide (y49000.length ≤ 2000000000 ∧ -1 ≤ x7 ∧ x7 ≤ 7)) = true) : Qni x1 x7 y49000 = Qnu x1 x7 y49000 := by
 simp only [decide_eq_true_eq] at h
 obtain ⟨h1, h2, h3⟩ := h
 obtain ⟨k, hk⟩ : ∃ k : Nat, x7 = (k : Int) - 1 := ⟨(x7 + 1).toNat, by omega⟩
 subst hk
 have hk8 : k ≤ 8 := by omega
 have h9 : y49000.length + k ≤ 2000000009 := by omega
 clear h1 h2 h3
 induction k generalizing y49000 with
 | zero =>
  rw [QsM]
  simp [QkH, Qnu, ige, Qae, bytsN]
 | succ k ih =>
  rw [QsM]
  have e0 : (((k + 1 : Nat) : Int) - 1) = (k : Int) := by omega
  rw [e0]
  have e1 : imul .i64 8 (k : Int) = ((8 * k : Nat) : Int) := by rw [QQl (by omega)]; omega
  simp only [QkH, show ige (k : Int) 0 = true from decide_eq_true (by omega), Qac, e1, show decide ((0 : Int) ≤ ((8 * k : Nat) : Int)) = true from decide_eq_true (by omega), QRY x1 k (by omega)]
  rw [cAppN (by omega) (by simp only [List.length_singleton]; omega), Qac, QbF (by omega), ih (y49000 ++ [byt x1 k]) (by omega) (by simp only [List.length_append, List.length_singleton]; omega)]
  simp only [Qnu, show ((k : Int) - 1 + 1).toNat = k by omega, show ((k : Int) + 1).toNat = k + 1 by omega, bytsN, List.append_assoc, List.singleton_append]
theorem QEB : ∀ S l p, Qe4.L 0 (fgt Qfz S) = some (true, l) → pickA l = some p → loopF (Qaj Qe4 Qfz Qg9) S = some p :=
 QaF (s := Qmt) ⟨by decide, by decide⟩ (by kernel_rfl) fun x y hok p hp => by
 simp only [Qar, Qap] at hp
 exact (QI1 x.2.1 x.2.2.1 x.2.2.2.1 y.2.2.2.1 (by simpa using hok)).trans hp
theorem QEA : ∀ S l p, Qe4.L 1 (fgt Qfy S) = some (true, l) → pickA l = some p → loopF (Qaj Qe4 Qfy Qg8) S = some p :=
 QaF (s := Qms) ⟨by decide, by decide⟩ (by kernel_rfl) fun x y hok p hp => by
 simp only [Qar, Qap] at hp
 exact (QI0 x.2.1 x.2.2.1 y.2.2.2.1 (by simpa using hok)).trans hp
theorem QPa : QtP.lok Qe4 := by
 repeat (first | exact trivial | exact QEB | exact QEA | refine ⟨?_, ?_⟩)
theorem Qin {n : Nat} (h : n < 256) : icv .u8 (n : Int) = n := by
 rw [icv8]
 omega
theorem s_f175 (b : List Int) (n : Int) (h : Qnr b n = true) : QDa b n = some (.ms 50001, [.no, .arr 5 (.int .u8) (lenA b n)]) := by
 simp only [Qnr, decide_eq_true_eq] at h
 obtain ⟨h1, h2, h3⟩ := h
 obtain ⟨n, rfl⟩ := Int.eq_ofNat_of_zero_le h2
 have hc := QqT 8 n
 simp only [QDa]
 by_cases hn : n < 128
 ·rw [show ilt (n : Int) 128 = true from decide_eq_true (by omega), Qac, cAppN (by omega) (by simp only [List.length_singleton]; omega), Qac]
  simp only [lenA, lenL, Int.toNat_natCast, if_pos hn, Qin (show n < 256 by omega)]
 ·rw [show ilt (n : Int) 128 = false from decide_eq_false (by omega), Qae, decide_eq_true ⟨by omega, by omega, by omega, by omega⟩, Qac]
  simp only [Int.toNat_natCast, Int.zero_add]
  rw [QbX (by omega), cAppN (by omega) (by simp only [List.length_singleton]; omega), Qac, QbF (by omega), decide_eq_true ⟨by simp only [List.length_append, List.length_singleton]; omega, by omega, by omega⟩, Qac]
  simp only [lenA, lenL, Int.toNat_natCast, if_neg hn, Qtv]
  have e1 : ((cntL 8 n : Int) - 1 + 1).toNat = cntL 8 n := by omega
  have e2 : (128 + (cntL 8 n : Int)) = ((128 + cntL 8 n : Nat) : Int) := by omega
  rw [e1, e2, Qin (by omega), List.append_assoc, List.singleton_append]
def QuH : Ent := specS [.ms 50000, .ty tI] [.arr 5 (.int .u8)] (fun x y => (Qnr y.1 x.2.1)) (fun x y => (.ms 50001)) (fun x y => [.no, .arr 5 (.int .u8) (lenA y.1 x.2.1)])
theorem QEk : Meets Tryz.prog 175 (strip QuH) := QaI (R := runF Qe4 QtP QB9 true) (mG Tryz.func175 (by kernel_rfl) Tryz.ntmps175 (by kernel_rfl) QQp QPa) fun x y hok => (e_f175 y.1 x.2.1).trans (s_f175 y.1 x.2.1 hok)
def lenR (n : Int) : List Int := lenL n.toNat
def Qta (n : Int) : Bool := decide (0 ≤ n ∧ n ≤ 1000000000)
def QfC : Fg := ⟨[(0, some tI), (3, none)], [(3, none), (14, none), (16, none)]⟩
noncomputable def Qhc : TC := (.mv [(14, 3)] (.sq (.sq (.reg (rT Tryz.f169 4)) (.cd (.t 10) .sk (.fg ⟨[(3, none)], [(3, none), (14, none), (16, none)]⟩ (.ex 0)))) (.bk 1 (.sq (.reg (rT Tryz.f169 5)) (.reg (rT Tryz.f169 6))))))
noncomputable def QtU : TC := (.sq (.reg (rT Tryz.f169 0)) (.sq (.sq (.reg (rT Tryz.f169 1)) (.cd (.t 5) (.sq (.reg (rT Tryz.f169 2)) .rt) .sk)) (.sq (.reg (rT Tryz.f169 3)) (.sq (.bk 0 (.nw 3 5 (.lp 0 QfC Qhc))) (.sq (.reg (rT Tryz.f169 7)) .rt)))))
def QCe : List (RV × Option Ty) := [((.t 2), some (.sl (.int .u8)))]
abbrev Qmw : Sh := ⟨[(0, .ty tI), (3, .ms 3)], [(3, .arr 5 (.int .u8)), (14, .no), (16, .no)]⟩
def Ql1 (x0 : Int) (y3 : List Int) : VS := Qmw.st (x0, (), ()) (y3, (), (), ())
abbrev QrL : Sh := ⟨[(3, .ms 3)], [(3, .arr 5 (.int .u8)), (14, .no), (16, .no)]⟩
def Qdj (y3 : List Int) : VS := QrL.st ((), ()) (y3, (), (), ())
def QKX : VS → Option (Bool × List (Bool × Exit × VS)) := mkL Qmw (fun x y => (decide (0 ≤ x.1 ∧ x.1 ≤ 1000000000 ∧ y.1.length ≤ 100))) (fun x y => [(true, .exit 0, Qdj (digL 8 x.1.toNat ++ y.1))])
def QjS : G := ⟨TYs, [14, 23], 26, EL [], keeps, (Ls [QKX]), IL [], RL []⟩
def QyB (x0 : Int) (y3 : List Int) : Option (Exit × VS) :=
 let a1 := icv .u8 (irem x0 256)
 br (igt x0 0) (br (cNz 256) (br (cApp ([a1]) y3 1) (br (cNz 256) (some (.normal, Ql1 (iquo .i64 x0 256) (([a1]) ++ y3))) none) none) none) (some (.exit 0, Qdj y3))
noncomputable def QhP (x0 : Int) (y3 : List Int) : Option (Exit × VS) := loopF (Qaj QjS QfC Qhc) (Ql1 x0 y3)
noncomputable def QhC (x0 : Int) (y3 : List Int) : Option (Exit × VS) :=
 let a1 := icv .u8 (irem x0 256)
 br (igt x0 0) (br (cNz 256) (br (cApp ([a1]) y3 1) (br (cNz 256) (QhP (iquo .i64 x0 256) (([a1]) ++ y3)) none) none) none) (some (.exit 0, Qdj y3))
def Qfv (x0 : Int) (y3 : List Int) : Option (Exit × VS) := some (.exit 0, Qdj (digL 8 x0.toNat ++ y3))
theorem QGS (x0 : Int) (y3 : List Int) : Qaj QjS QfC Qhc (Ql1 x0 y3) = QyB x0 y3 := by kernel_rfl
theorem QsQ (x0 : Int) (y3 : List Int) : QhP x0 y3 = QhC x0 y3 := (Qaq _ _).trans (by
 rw [QGS]
 simp only [QyB, QhC, QaE, nxt_n, nxt_r, nxt_e, nxt_0]
 rfl)
def QDf (p0 : Int) : Option (V × List VO) :=
 let a1 := (digL 8 p0.toNat ++ ([] : List Int))
 let a2 := icv .u8 (iadd .i64 128 (llen a1))
 br (ilt p0 128) (some (.t (.sl (.int .u8)) ([(icv .u8 p0)]), [])) (br (decide (0 ≤ p0 ∧ p0 ≤ 1000000000 ∧ ([] : List Int).length ≤ 100)) (br (cApp ([a2]) a1 1) (some (.t (.sl (.int .u8)) (([a2]) ++ a1), [])) none) none)
theorem e_f169 (p0 : Int) : runF QjS QtU QCe false [.t tI p0] [] = QDf p0 := by kernel_rfl
theorem QRg : Qag Tryz.prog 169 := .inr ⟨by decide, _, Tryz.func169, by kernel_rfl, by kernel_rfl⟩
theorem QQu : GOk Tryz.prog QjS := Qao _ (fun p hp => by cases hp)
theorem Qtu : ∀ (f g n : Nat), n < 256 ^ f → n < 256 ^ g → digL f n = digL g n
 | 0, g, n, h1, h2 => by
  have : n = 0 := by simpa using h1
  subst this
  cases g <;> rfl
 | f + 1, 0, n, h1, h2 => by
  have : n = 0 := by simpa using h2
  subst this
  rfl
 | f + 1, g + 1, n, h1, h2 => by
  rw [digL, digL]
  split
  ·rfl
  ·rw [Nat.pow_succ] at h1 h2
   rw [Qtu f g (n / 256) (by omega) (by omega)]
theorem QI4 (x0 : Int) (y3 : List Int) (h : (decide (0 ≤ x0 ∧ x0 ≤ 1000000000 ∧ y3.length ≤ 100)) = true) : QhP x0 y3 = Qfv x0 y3 := by
 simp only [decide_eq_true_eq] at h
 obtain ⟨h1, h2, h3⟩ := h
 obtain ⟨n, rfl⟩ := Int.eq_ofNat_of_zero_le h1
 have key : ∀ (m n : Nat), n ≤ m → n ≤ 1000000000 → ∀ y3 : List Int, y3.length + n ≤ 2000000000 → QhP (n : Int) y3 = Qfv (n : Int) y3 := by
  intro m
  induction m with
  | zero =>
   intro n hn _ y3 _
   have : n = 0 := by omega
   subst this
   rw [QsQ]
   simp only [QhC, Qfv, show igt ((0 : Nat) : Int) 0 = false from rfl, Qae, Int.toNat_natCast, show digL 8 0 = [] from rfl, List.nil_append]
  | succ m ih =>
   intro n hn hb y3 h6
   rw [QsQ]
   by_cases h0 : n = 0
   ·subst h0
    simp only [QhC, Qfv, show igt ((0 : Nat) : Int) 0 = false from rfl, Qae, Int.toNat_natCast, show digL 8 0 = [] from rfl, List.nil_append]
   ·have e1 : irem (n : Int) 256 = ((n % 256 : Nat) : Int) := by
     show (n : Int).tmod 256 = _
     rw [Int.tmod_eq_emod_of_nonneg (by omega)]
     omega
    have e2 : iquo .i64 (n : Int) 256 = ((n / 256 : Nat) : Int) := by
     show IntKind.i64.wrap ((n : Int).tdiv 256) = _
     rw [Int.tdiv_eq_ediv_of_nonneg (by omega), Go.IntWalk.i64_in _ (by omega)]
     omega
    simp only [QhC, show igt (n : Int) 0 = true from decide_eq_true (by omega), Qac, show cNz 256 = true from rfl, e1, e2, Qin (show n % 256 < 256 by omega)]
    rw [cAppN (by omega) (by simp only [List.length_singleton]; omega), Qac, ih (n / 256) (by omega) (by omega) _ (by simp only [List.length_append, List.length_singleton]; omega)]
    simp only [Qfv, Int.toNat_natCast]
    have : digL 8 n = digL 8 (n / 256) ++ [((n % 256 : Nat) : Int)] := by
     rw [show digL 8 n = (if n = 0 then [] else digL 7 (n / 256) ++ [((n % 256 : Nat) : Int)]) from rfl, if_neg h0, Qtu 7 8 (n / 256) (by omega) (by omega)]
    rw [this, List.append_assoc]
 exact key n n (Nat.le_refl _) (by omega) y3 (by omega)
theorem QEE : ∀ S l p, QjS.L 0 (fgt QfC S) = some (true, l) → pickA l = some p → loopF (Qaj QjS QfC Qhc) S = some p :=
 QaF (s := Qmw) ⟨by decide, by decide⟩ (by kernel_rfl) fun x y hok p hp => by
 simp only [Qar, Qap] at hp
 exact (QI4 x.1 y.1 (by simpa using hok)).trans hp
theorem QPf : QtU.lok QjS := by
 repeat (first | exact trivial | exact QEE | refine ⟨?_, ?_⟩)
theorem s_f169 (n : Int) (h : Qta n = true) : QDf n = some (.t (.sl (.int .u8)) (lenR n), []) := by
 simp only [Qta, decide_eq_true_eq] at h
 obtain ⟨h2, h3⟩ := h
 obtain ⟨n, rfl⟩ := Int.eq_ofNat_of_zero_le h2
 have hc := QqT 8 n
 have hd := QqP 8 n
 simp only [QDf]
 by_cases hn : n < 128
 ·rw [show ilt (n : Int) 128 = true from decide_eq_true (by omega), Qac]
  simp only [lenR, lenL, Int.toNat_natCast, if_pos hn, Qin (show n < 256 by omega)]
 ·rw [show ilt (n : Int) 128 = false from decide_eq_false (by omega), Qae, decide_eq_true ⟨by omega, by omega, by simp⟩, Qac]
  simp only [Int.toNat_natCast, List.append_nil, llen, hd]
  rw [cAppN (by omega) (by simp only [List.length_singleton]; omega), Qac, QbX (by omega)]
  have e2 : (128 + (cntL 8 n : Int)) = ((128 + cntL 8 n : Nat) : Int) := by omega
  simp only [lenR, lenL, Int.toNat_natCast, if_neg hn]
  rw [e2, Qin (by omega), List.singleton_append]
def QBo : Ent := spec (.pr tI .nil) (fun x => (Qta x.1)) (fun x => (.t (.sl (.int .u8)) (lenR x.1)))
theorem QOp : Meets Tryz.prog 169 (strip QBo) := Qaf (R := runF QjS QtU QCe false) (mG Tryz.func169 (by kernel_rfl) Tryz.ntmps169 (by kernel_rfl) QQu QPf) fun x hok => (e_f169 x.1).trans (s_f169 x.1 hok)
end
end Go.Proofs.YtkngeegkjhipeaaGreat.K
