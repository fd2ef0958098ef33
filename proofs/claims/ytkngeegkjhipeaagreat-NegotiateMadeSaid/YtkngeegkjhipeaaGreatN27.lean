import Derived.Test.YtkngeegkjhipeaaGreatN26
set_option linter.unusedSimpArgs false
set_option linter.unusedVariables false
namespace Go.Proofs.YtkngeegkjhipeaaGreat.K
open Go.RowKit
noncomputable section
def idL (l : List Int) : List Int := l
def sortL (l : List Int) : List Int := sortI l
def Qbf : Fg := ⟨[(2, none)], [(60000, none), (11, none), (20200, none), (50000, some (.sl tI))]⟩
noncomputable def Qdk : TC := (.reg (rT Tryz.f102 2))
noncomputable def Qdj : TC := (.bk 1 (.reg (rT Tryz.f102 3)))
noncomputable def Qj2 : TC := (.sq (.reg (rT Tryz.f102 0)) (.sq (.sq (.reg (rT Tryz.f102 1)) (.bk 0 (.nf 2 0 3 20200 (.rf 0 Qbf (.t 6) (.pr tI .nil) [7] [2] Qdk Qdj)))) (.sq (.reg (rT Tryz.f102 4)) .rt)))
def QpY : List (RV × Option Ty) := [((.t 4), none)]
abbrev QfS : Sh := ⟨[(2, .ptr 60000 0)], [(60000, .bag [.ms 20200]), (11, .no), (20200, .arr 3 tI), (50000, .box (.sl tI))]⟩
def QfN (y20200 y50000 : List Int) : VS := QfS.st ((), ()) (((), ()), (), y20200, y50000, ())
abbrev Qho : Sh := ⟨[(2, .ptr 60000 0)], [(60000, .bag [.ms 20200]), (11, .no), (20200, .arr 3 tI), (50000, .box (.sl tI))]⟩
def Qc2 (y20200 y50000 : List Int) : VS := Qho.st ((), ()) (((), ()), (), y20200, y50000, ())
def Qfz : VS → List (Ty.T (.pr tI .nil)) → Option (Bool × List (Bool × Exit × VS)) := mkR QfS (fun zs x y => (decide (zs.length + y.2.2.1.length ≤ 100000))) (fun zs x y => [(true, .normal, Qc2 (y.2.2.1 ++ zs.map (fun z => z.1)) (y.2.2.2.1))])
def Qb9 : G := ⟨TYs, [], 13, EL [], keeps, (Ls [fun _ => none]), IL [(1000073, Qm2)], (RL [⟨(.pr tI .nil), Qfz⟩])⟩
def Qpw (z : (Int × Unit)) (y20200 y50000 : List Int) : Option (Exit × VS) := br (cApp y20200 ([z.1]) 8) (some (.normal, QfN (y20200 ++ ([z.1])) y50000)) none
noncomputable def Qf5 (zs : List (Int × Unit)) (y20200 y50000 : List Int) : Option (Exit × VS) := QfC (QkJ Qb9 Qbf (.pr tI .nil) [7] Qdk Qdj) zs (QfN y20200 y50000)
noncomputable def Qhz (z : (Int × Unit)) (zs : List (Int × Unit)) (y20200 y50000 : List Int) : Option (Exit × VS) := br (cApp y20200 ([z.1]) 8) (Qf5 zs (y20200 ++ ([z.1])) y50000) none
def Qf8 (zs : List (Int × Unit)) (y20200 y50000 : List Int) : Option (Exit × VS) := some (.normal, Qc2 (y20200 ++ zs.map (fun z => z.1)) (y50000))
theorem QvR (z : (Int × Unit)) (y20200 y50000 : List Int) : QkJ Qb9 Qbf (.pr tI .nil) [7] Qdk Qdj z (QfN y20200 y50000) = Qpw z y20200 y50000 := by kernel_rfl
theorem Qvj (z : (Int × Unit)) (zs : List (Int × Unit)) (y20200 y50000 : List Int) : Qf5 (z :: zs) y20200 y50000 = Qhz z zs y20200 y50000 := (QxS _ _ _ _).trans (by
 rw [QvR]
 simp only [Qpw, Qhz, QaB, nxt_n, nxt_r, nxt_e, nxt_0]
 rfl)
def Qoz (d0 : List Int) : Option (V × List VO) := br (QfE d0) (br (decide ((valI d0).length + ([] : List Int).length ≤ 100000)) (some (.ms 50001, [.box (.t (.sl tI) (d0)), .arr 3 tI (([] : List Int) ++ (valI d0).map (fun z => z.1))])) none) none
theorem QJg (d0 : List Int) : runF Qb9 Qj2 QpY true [.c (.slice none 0 0), .fn 73 [(.ptr 50000 0)]] [.box (.t (.sl tI) d0)] = Qoz d0 := by kernel_rfl
theorem QCd : Qai Tryz.prog 102 := .inr ⟨by decide, _, Tryz.func102, by kernel_rfl, by kernel_rfl⟩
theorem QB9 : GOk Tryz.prog Qb9 := Qal _ (fun p hp => by cases hp) [(1000073, Qm2)] (by
 intro p hp
 simp only [List.mem_cons, List.not_mem_nil, or_false] at hp
 rcases hp with rfl
 ·exact QIe)
theorem Qyr (zs : List (Int × Unit)) (y20200 y50000 : List Int) (h : (decide (zs.length + y20200.length ≤ 100000)) = true) : Qf5 zs y20200 y50000 = Qf8 zs y20200 y50000 := by
 induction zs generalizing y20200 with
 | nil =>
  simp only [Qf8, List.map_nil, List.append_nil]
  rfl
 | cons z zs ih =>
  rw [Qvj]
  have h := of_decide_eq_true h
  rw [List.length_cons] at h
  have c1 : cApp y20200 [z.1] 8 = true := cAppN (by omega) (by simp only [List.length_singleton]; omega)
  simp only [Qhz, c1, Qac]
  rw [ih (y20200 ++ [z.1]) (decide_eq_true (by simp only [List.length_append, List.length_singleton]; omega))]
  simp only [Qf8, List.map_cons, List.append_assoc, List.singleton_append]
theorem QuY : ∀ S (rows : List (Ty.T (.pr tI .nil))) l p, Qb9.R 0 (fgt Qbf S) (.pr tI .nil) rows = some (true, l) → pickA l = some p → QfC (QkJ Qb9 Qbf (.pr tI .nil) [7] Qdk Qdj) rows (fgt Qbf S) = some p := by
 intro S rows l p hR hp
 rw [show Qb9.R 0 (fgt Qbf S) (.pr tI .nil) rows = Qfz (fgt Qbf S) rows from RL_at (l := [⟨(.pr tI .nil), Qfz⟩]) (j := 0) (F := Qfz) rfl _ _] at hR
 refine QST (s := QfS) ⟨by decide, by decide⟩ (by kernel_rfl) (fun zs x y hok p hp => ?_) S rows l p hR hp
 simp only [Qar, Qao] at hp
 exact (Qyr zs y.2.2.1 y.2.2.2.1 (by first | rfl | simpa using hok)).trans hp
theorem QB3 : Qj2.lok Qb9 := by
 repeat (first | exact trivial | exact QuY | refine ⟨?_, ?_⟩)
theorem QKL (l : List Int) : (valI l).map (fun z => z.1) = l := by
 unfold valI
 rw [List.map_map]
 exact List.map_id _
theorem QE2 (l : List Int) (h : QfE l = true) : Qoz l = some (.ms 50001, [.box (.t (.sl tI) l), .arr 3 tI (idL l)]) := by
 have hl : l.length ≤ 100000 := of_decide_eq_true h
 have c1 : decide ((valI l).length + ([] : List Int).length ≤ 100000) = true := decide_eq_true (by simp only [valI, List.length_map, List.length_nil]; omega)
 simp only [Qoz, h, Qac]
 refine Eq.trans (congrArg (fun b => br b _ _) c1) ?_
 rw [Qac, List.nil_append, QKL]
 rfl
def QpX : Ent := specB [.nl, .fn 73 [(50000, 0)]] [.box (.sl tI)] (fun x y => (QfE y.1)) (fun x y => (.ms 50001)) (fun x y => [.box (.t (.sl tI) y.1), .arr 3 tI (idL y.1)])
theorem QB0 : Meets Tryz.prog 102 (strip QpX) := Qcn (QaK (R := runF Qb9 Qj2 QpY true) (mG Tryz.func102 (by kernel_rfl) Tryz.ntmps102 (by kernel_rfl) QB9 QB3) fun x y hok => (QJg y.1).trans (QE2 y.1 hok))
noncomputable def Qnn : TC := (.sq (.reg (rT Tryz.f71 0)) (.sq (.reg (rT Tryz.f71 1)) .rt))
def Qup : List (RV × Option Ty) := [((.t 2), none)]
def Qm8 : G := ⟨TYs, [], 5, EL [(102, QpX)], keeps, (fun _ _ => none), IL [], RL []⟩
def QrL (d0 : List Int) : Option (V × List VO) := br (QfE d0) (some (.ms 50001, [.box (.t (.sl tI) d0), .arr 3 tI (idL d0)])) none
theorem QM4 (d0 : List Int) : runF Qm8 Qnn Qup true [.fn 73 [(.ptr 50000 0)]] [.box (.t (.sl tI) d0)] = QrL d0 := by kernel_rfl
theorem QIP : Qai Tryz.prog 71 := .inr ⟨by decide, _, Tryz.func71, by kernel_rfl, by kernel_rfl⟩
theorem QIv : GOk Tryz.prog Qm8 := Qal _ (gA (gC QCd QB0 gN))
theorem QH2 : Qnn.lok Qm8 := by repeat (first | exact trivial | refine ⟨?_, ?_⟩)
theorem QK8 (l : List Int) (h : QfE l = true) : QrL l = some (.ms 50001, [.box (.t (.sl tI) l), .arr 3 tI (idL l)]) := by
 simp only [QrL, h, Qac]
def Qtk : Ent := specB [.fn 73 [(50000, 0)]] [.box (.sl tI)] (fun x y => (QfE y.1)) (fun x y => (.ms 50001)) (fun x y => [.box (.t (.sl tI) y.1), .arr 3 tI (idL y.1)])
theorem QG8 : Meets Tryz.prog 71 (strip Qtk) := Qcn (QaK (R := runF Qm8 Qnn Qup true) (mG Tryz.func71 (by kernel_rfl) Tryz.ntmps71 (by kernel_rfl) QIv QH2) fun x y hok => (QM4 y.1).trans (QK8 y.1 hok))
noncomputable def Qnr : TC := (.sq (.reg (rT Tryz.f46 0)) (.sq (.reg (rT Tryz.f46 1)) (.sq (.reg (rT Tryz.f46 2)) (.sq (.reg (rT Tryz.f46 3)) .rt))))
def Qut : List (RV × Option Ty) := [((.t 2), none)]
def Qnb : G := ⟨TYs, [], 9, EL [(71, Qtk), (72, QO7)], keeps, (fun _ _ => none), IL [], RL []⟩
def QrQ (d0 : List Int) : Option (V × List VO) := br (QfE d0) (br (lenOk (idL d0)) (some (.ms 50001, [.box (.t (.sl tI) d0), .arr 3 tI (sortI (idL d0))])) none) none
theorem QM8 (d0 : List Int) : runF Qnb Qnr Qut true [.fn 73 [(.ptr 50000 0)]] [.box (.t (.sl tI) d0)] = QrQ d0 := by kernel_rfl
theorem QIU : Qai Tryz.prog 46 := .inr ⟨by decide, _, Tryz.func46, by kernel_rfl, by kernel_rfl⟩
theorem QIz : GOk Tryz.prog Qnb := Qal _ (gA (gC QIP QG8 (gC en_f72 ms_f72 gN)))
theorem QH6 : Qnr.lok Qnb := by repeat (first | exact trivial | refine ⟨?_, ?_⟩)
theorem QLc (l : List Int) (h : QfE l = true) : QrQ l = some (.ms 50001, [.box (.t (.sl tI) l), .arr 3 tI (sortL l)]) := by
 have hl : l.length ≤ 100000 := of_decide_eq_true h
 have c1 : lenOk (idL l) = true := decide_eq_true (by show l.length < _; omega)
 simp only [QrQ, h, c1, Qac]
 rfl
def Qtp : Ent := specB [.fn 73 [(50000, 0)]] [.box (.sl tI)] (fun x y => (QfE y.1)) (fun x y => (.ms 50001)) (fun x y => [.box (.t (.sl tI) y.1), .arr 3 tI (sortL y.1)])
theorem QHd : Meets Tryz.prog 46 (strip Qtp) := Qcn (QaK (R := runF Qnb Qnr Qut true) (mG Tryz.func46 (by kernel_rfl) Tryz.ntmps46 (by kernel_rfl) QIz QH6) fun x y hok => (QM8 y.1).trans (QLc y.1 hok))
end
end Go.Proofs.YtkngeegkjhipeaaGreat.K
