import Derived.Test.YtkngeegkjhipeaaGreatN26
set_option linter.unusedSimpArgs false
set_option linter.unusedVariables false
namespace Go.Proofs.YtkngeegkjhipeaaGreat.K
open Go.RowKit
noncomputable section
def idL (l : List Int) : List Int := l
def sortL (l : List Int) : List Int := sortI l
def Qa9 : Fg := ⟨[(2, none)], [(60000, none), (11, none), (20200, none), (50000, some (.sl tI))]⟩
noncomputable def Qc7 : TC := (.reg (rT Tryz.f102 2))
noncomputable def Qc6 : TC := (.bk 1 (.reg (rT Tryz.f102 3)))
noncomputable def QiZ : TC := (.sq (.reg (rT Tryz.f102 0)) (.sq (.sq (.reg (rT Tryz.f102 1)) (.bk 0 (.nf 2 0 3 20200 (.rf 0 Qa9 (.t 6) (.pr tI .nil) [7] [2] Qc7 Qc6)))) (.sq (.reg (rT Tryz.f102 4)) .rt)))
def Qof : List (RV × Option Ty) := [((.t 4), none)]
abbrev Qfi : Sh := ⟨[(2, .ptr 60000 0)], [(60000, .bag [.ms 20200]), (11, .no), (20200, .arr 3 tI), (50000, .box (.sl tI))]⟩
def Qfd (y20200 y50000 : List Int) : VS := Qfi.st ((), ()) (((), ()), (), y20200, y50000, ())
abbrev QgN : Sh := ⟨[(2, .ptr 60000 0)], [(60000, .bag [.ms 20200]), (11, .no), (20200, .arr 3 tI), (50000, .box (.sl tI))]⟩
def QcS (y20200 y50000 : List Int) : VS := QgN.st ((), ()) (((), ()), (), y20200, y50000, ())
def QeY : VS → List (Ty.T (.pr tI .nil)) → Option (Bool × List (Bool × Exit × VS)) := mkR Qfi (fun zs x y => (decide (zs.length + y.2.2.1.length ≤ 100000))) (fun zs x y => [(true, .normal, QcS (y.2.2.1 ++ zs.map (fun z => z.1)) (y.2.2.2.1))])
def QbV : G := ⟨TYs, [], 13, EL [], keeps, (Ls [fun _ => none]), IL [(1000073, Qlj)], (RL [⟨(.pr tI .nil), QeY⟩])⟩
def QnO (z : (Int × Unit)) (y20200 y50000 : List Int) : Option (Exit × VS) := br (cApp y20200 ([z.1]) 8) (some (.normal, Qfd (y20200 ++ ([z.1])) y50000)) none
noncomputable def Qfu (zs : List (Int × Unit)) (y20200 y50000 : List Int) : Option (Exit × VS) := Qe1 (QjD QbV Qa9 (.pr tI .nil) [7] Qc7 Qc6) zs (Qfd y20200 y50000)
noncomputable def QgX (z : (Int × Unit)) (zs : List (Int × Unit)) (y20200 y50000 : List Int) : Option (Exit × VS) := br (cApp y20200 ([z.1]) 8) (Qfu zs (y20200 ++ ([z.1])) y50000) none
def Qfx (zs : List (Int × Unit)) (y20200 y50000 : List Int) : Option (Exit × VS) := some (.normal, QcS (y20200 ++ zs.map (fun z => z.1)) (y50000))
theorem Qtd (z : (Int × Unit)) (y20200 y50000 : List Int) : QjD QbV Qa9 (.pr tI .nil) [7] Qc7 Qc6 z (Qfd y20200 y50000) = QnO z y20200 y50000 := by kernel_rfl
theorem QsE (z : (Int × Unit)) (zs : List (Int × Unit)) (y20200 y50000 : List Int) : Qfu (z :: zs) y20200 y50000 = QgX z zs y20200 y50000 := (QuW _ _ _ _).trans (by
 rw [Qtd]
 simp only [QnO, QgX, QaE, nxt_n, nxt_r, nxt_e, nxt_0]
 rfl)
def QmS (d0 : List Int) : Option (V × List VO) := br (Qe3 d0) (br (decide ((valI d0).length + ([] : List Int).length ≤ 100000)) (some (.ms 50001, [.box (.t (.sl tI) (d0)), .arr 3 tI (([] : List Int) ++ (valI d0).map (fun z => z.1))])) none) none
theorem QFF (d0 : List Int) : runF QbV QiZ Qof true [.c (.slice none 0 0), .fn 73 [(.ptr 50000 0)]] [.box (.t (.sl tI) d0)] = QmS d0 := by kernel_rfl
theorem QyX : Qag Tryz.prog 102 := .inr ⟨by decide, _, Tryz.func102, by kernel_rfl, by kernel_rfl⟩
theorem QyS : GOk Tryz.prog QbV := Qal _ (fun p hp => by cases hp) [(1000073, Qlj)] (by
 intro p hp
 simp only [List.mem_cons, List.not_mem_nil, or_false] at hp
 rcases hp with rfl
 ·exact QED)
theorem Qvt (zs : List (Int × Unit)) (y20200 y50000 : List Int) (h : (decide (zs.length + y20200.length ≤ 100000)) = true) : Qfu zs y20200 y50000 = Qfx zs y20200 y50000 := by
 induction zs generalizing y20200 with
 | nil =>
  simp only [Qfx, List.map_nil, List.append_nil]
  rfl
 | cons z zs ih =>
  rw [QsE]
  have h := of_decide_eq_true h
  rw [List.length_cons] at h
  have c1 : cApp y20200 [z.1] 8 = true := cAppN (by omega) (by simp only [List.length_singleton]; omega)
  simp only [QgX, c1, Qac]
  rw [ih (y20200 ++ [z.1]) (decide_eq_true (by simp only [List.length_append, List.length_singleton]; omega))]
  simp only [Qfx, List.map_cons, List.append_assoc, List.singleton_append]
theorem Qsj : ∀ S (rows : List (Ty.T (.pr tI .nil))) l p, QbV.R 0 (fgt Qa9 S) (.pr tI .nil) rows = some (true, l) → pickA l = some p → Qe1 (QjD QbV Qa9 (.pr tI .nil) [7] Qc7 Qc6) rows (fgt Qa9 S) = some p := by
 intro S rows l p hR hp
 rw [show QbV.R 0 (fgt Qa9 S) (.pr tI .nil) rows = QeY (fgt Qa9 S) rows from RL_at (l := [⟨(.pr tI .nil), QeY⟩]) (j := 0) (F := QeY) rfl _ _] at hR
 refine QOh (s := Qfi) ⟨by decide, by decide⟩ (by kernel_rfl) (fun zs x y hok p hp => ?_) S rows l p hR hp
 simp only [Qas, Qao] at hp
 exact (Qvt zs y.2.2.1 y.2.2.2.1 (by first | rfl | simpa using hok)).trans hp
theorem QyM : QiZ.lok QbV := by
 repeat (first | exact trivial | exact Qsj | refine ⟨?_, ?_⟩)
theorem QG1 (l : List Int) : (valI l).map (fun z => z.1) = l := by
 unfold valI
 rw [List.map_map]
 exact List.map_id _
theorem QBw (l : List Int) (h : Qe3 l = true) : QmS l = some (.ms 50001, [.box (.t (.sl tI) l), .arr 3 tI (idL l)]) := by
 have hl : l.length ≤ 100000 := of_decide_eq_true h
 have c1 : decide ((valI l).length + ([] : List Int).length ≤ 100000) = true := decide_eq_true (by simp only [valI, List.length_map, List.length_nil]; omega)
 simp only [QmS, h, Qac]
 refine Eq.trans (congrArg (fun b => br b _ _) c1) ?_
 rw [Qac, List.nil_append, QG1]
 rfl
def Qoe : Ent := specB [.nl, .fn 73 [(50000, 0)]] [.box (.sl tI)] (fun x y => (Qe3 y.1)) (fun x y => (.ms 50001)) (fun x y => [.box (.t (.sl tI) y.1), .arr 3 tI (idL y.1)])
theorem QyJ : Meets Tryz.prog 102 (strip Qoe) := Qca (QaI (R := runF QbV QiZ Qof true) (mG Tryz.func102 (by kernel_rfl) Tryz.ntmps102 (by kernel_rfl) QyS QyM) fun x y hok => (QFF y.1).trans (QBw y.1 hok))
noncomputable def QlF : TC := (.sq (.reg (rT Tryz.f71 0)) (.sq (.reg (rT Tryz.f71 1)) .rt))
def QrR : List (RV × Option Ty) := [((.t 2), none)]
def Qlp : G := ⟨TYs, [], 5, EL [(102, Qoe)], keeps, (fun _ _ => none), IL [], RL []⟩
def QpD (d0 : List Int) : Option (V × List VO) := br (Qe3 d0) (some (.ms 50001, [.box (.t (.sl tI) d0), .arr 3 tI (idL d0)])) none
theorem QJf (d0 : List Int) : runF Qlp QlF QrR true [.fn 73 [(.ptr 50000 0)]] [.box (.t (.sl tI) d0)] = QpD d0 := by kernel_rfl
theorem QFh : Qag Tryz.prog 71 := .inr ⟨by decide, _, Tryz.func71, by kernel_rfl, by kernel_rfl⟩
theorem QEX : GOk Tryz.prog Qlp := Qal _ (gA (gC QyX QyJ gN))
theorem QEr : QlF.lok Qlp := by repeat (first | exact trivial | refine ⟨?_, ?_⟩)
theorem QHs (l : List Int) (h : Qe3 l = true) : QpD l = some (.ms 50001, [.box (.t (.sl tI) l), .arr 3 tI (idL l)]) := by
 simp only [QpD, h, Qac]
def Qq0 : Ent := specB [.fn 73 [(50000, 0)]] [.box (.sl tI)] (fun x y => (Qe3 y.1)) (fun x y => (.ms 50001)) (fun x y => [.box (.t (.sl tI) y.1), .arr 3 tI (idL y.1)])
theorem QDB : Meets Tryz.prog 71 (strip Qq0) := Qca (QaI (R := runF Qlp QlF QrR true) (mG Tryz.func71 (by kernel_rfl) Tryz.ntmps71 (by kernel_rfl) QEX QEr) fun x y hok => (QJf y.1).trans (QHs y.1 hok))
noncomputable def QlJ : TC := (.sq (.reg (rT Tryz.f46 0)) (.sq (.reg (rT Tryz.f46 1)) (.sq (.reg (rT Tryz.f46 2)) (.sq (.reg (rT Tryz.f46 3)) .rt))))
def QrV : List (RV × Option Ty) := [((.t 2), none)]
def Qls : G := ⟨TYs, [], 9, EL [(71, Qq0), (72, QKS)], keeps, (fun _ _ => none), IL [], RL []⟩
def QpI (d0 : List Int) : Option (V × List VO) := br (Qe3 d0) (br (lenOk (idL d0)) (some (.ms 50001, [.box (.t (.sl tI) d0), .arr 3 tI (sortI (idL d0))])) none) none
theorem QJj (d0 : List Int) : runF Qls QlJ QrV true [.fn 73 [(.ptr 50000 0)]] [.box (.t (.sl tI) d0)] = QpI d0 := by kernel_rfl
theorem QFl : Qag Tryz.prog 46 := .inr ⟨by decide, _, Tryz.func46, by kernel_rfl, by kernel_rfl⟩
theorem QE1 : GOk Tryz.prog Qls := Qal _ (gA (gC QFh QDB (gC en_f72 ms_f72 gN)))
theorem QEv : QlJ.lok Qls := by repeat (first | exact trivial | refine ⟨?_, ?_⟩)
theorem QHw (l : List Int) (h : Qe3 l = true) : QpI l = some (.ms 50001, [.box (.t (.sl tI) l), .arr 3 tI (sortL l)]) := by
 have hl : l.length ≤ 100000 := of_decide_eq_true h
 have c1 : lenOk (idL l) = true := decide_eq_true (by show l.length < _; omega)
 simp only [QpI, h, c1, Qac]
 rfl
def Qq5 : Ent := specB [.fn 73 [(50000, 0)]] [.box (.sl tI)] (fun x y => (Qe3 y.1)) (fun x y => (.ms 50001)) (fun x y => [.box (.t (.sl tI) y.1), .arr 3 tI (sortL y.1)])
theorem QDF : Meets Tryz.prog 46 (strip Qq5) := Qca (QaI (R := runF Qls QlJ QrV true) (mG Tryz.func46 (by kernel_rfl) Tryz.ntmps46 (by kernel_rfl) QE1 QEv) fun x y hok => (QJj y.1).trans (QHw y.1 hok))
end
end Go.Proofs.YtkngeegkjhipeaaGreat.K
