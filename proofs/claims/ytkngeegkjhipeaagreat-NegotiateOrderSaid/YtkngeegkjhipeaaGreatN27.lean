import Derived.Test.YtkngeegkjhipeaaGreatN26
set_option linter.unusedSimpArgs false
set_option linter.unusedVariables false
namespace Go.Proofs.YtkngeegkjhipeaaGreat.K
open Go.RowKit
noncomputable section
def idL (l : List Int) : List Int := l
def sortL (l : List Int) : List Int := sortI l
def Qa9 : Fg := ⟨[(2, none)], [(60000, none), (11, none), (20200, none), (50000, some (.sl tI))]⟩
noncomputable def Qc4 : TC := (.reg (rT Tryz.f102 2))
noncomputable def Qc3 : TC := (.bk 1 (.reg (rT Tryz.f102 3)))
noncomputable def Qi7 : TC := (.sq (.reg (rT Tryz.f102 0)) (.sq (.sq (.reg (rT Tryz.f102 1)) (.bk 0 (.nf 2 0 3 20200 (.rf 0 Qa9 (.t 6) (.pr tI .nil) [7] [2] Qc4 Qc3)))) (.sq (.reg (rT Tryz.f102 4)) .rt)))
def Qos : List (RV × Option Ty) := [((.t 4), none)]
abbrev Qfi : Sh := ⟨[(2, .ptr 60000 0)], [(60000, .bag [.ms 20200]), (11, .no), (20200, .arr 3 tI), (50000, .box (.sl tI))]⟩
def Qfd (y20200 y50000 : List Int) : VS := Qfi.st ((), ()) (((), ()), (), y20200, y50000, ())
abbrev QgN : Sh := ⟨[(2, .ptr 60000 0)], [(60000, .bag [.ms 20200]), (11, .no), (20200, .arr 3 tI), (50000, .box (.sl tI))]⟩
def QcP (y20200 y50000 : List Int) : VS := QgN.st ((), ()) (((), ()), (), y20200, y50000, ())
def QeY : VS → List (Ty.T (.pr tI .nil)) → Option (Bool × List (Bool × Exit × VS)) := mkR Qfi (fun zs x y => (decide (zs.length + y.2.2.1.length ≤ 100000))) (fun zs x y => [(true, .normal, QcP (y.2.2.1 ++ zs.map (fun z => z.1)) (y.2.2.2.1))])
def QbY : G := ⟨TYs, [], 13, EL [], keeps, (Ls [fun _ => none]), IL [(1000073, Qlr)], (RL [⟨(.pr tI .nil), QeY⟩])⟩
def Qn2 (z : (Int × Unit)) (y20200 y50000 : List Int) : Option (Exit × VS) := br (cApp y20200 ([z.1]) 8) (some (.normal, Qfd (y20200 ++ ([z.1])) y50000)) none
noncomputable def Qft (zs : List (Int × Unit)) (y20200 y50000 : List Int) : Option (Exit × VS) := Qe1 (QjJ QbY Qa9 (.pr tI .nil) [7] Qc4 Qc3) zs (Qfd y20200 y50000)
noncomputable def QgX (z : (Int × Unit)) (zs : List (Int × Unit)) (y20200 y50000 : List Int) : Option (Exit × VS) := br (cApp y20200 ([z.1]) 8) (Qft zs (y20200 ++ ([z.1])) y50000) none
def Qfw (zs : List (Int × Unit)) (y20200 y50000 : List Int) : Option (Exit × VS) := some (.normal, QcP (y20200 ++ zs.map (fun z => z.1)) (y50000))
theorem QtF (z : (Int × Unit)) (y20200 y50000 : List Int) : QjJ QbY Qa9 (.pr tI .nil) [7] Qc4 Qc3 z (Qfd y20200 y50000) = Qn2 z y20200 y50000 := by kernel_rfl
theorem Qs5 (z : (Int × Unit)) (zs : List (Int × Unit)) (y20200 y50000 : List Int) : Qft (z :: zs) y20200 y50000 = QgX z zs y20200 y50000 := (Qvs _ _ _ _).trans (by
 rw [QtF]
 simp only [Qn2, QgX, QaE, nxt_n, nxt_r, nxt_e, nxt_0]
 rfl)
def Qm2 (d0 : List Int) : Option (V × List VO) := br (Qe3 d0) (br (decide ((valI d0).length + ([] : List Int).length ≤ 100000)) (some (.ms 50001, [.box (.t (.sl tI) (d0)), .arr 3 tI (([] : List Int) ++ (valI d0).map (fun z => z.1))])) none) none
theorem QGj (d0 : List Int) : runF QbY Qi7 Qos true [.c (.slice none 0 0), .fn 73 [(.ptr 50000 0)]] [.box (.t (.sl tI) d0)] = Qm2 d0 := by kernel_rfl
theorem Qzw : Qag Tryz.prog 102 := .inr ⟨by decide, _, Tryz.func102, by kernel_rfl, by kernel_rfl⟩
theorem Qzr : GOk Tryz.prog QbY := Qao _ (fun p hp => by cases hp) [(1000073, Qlr)] (by
 intro p hp
 simp only [List.mem_cons, List.not_mem_nil, or_false] at hp
 rcases hp with rfl
 ·exact QFg)
theorem QvZ (zs : List (Int × Unit)) (y20200 y50000 : List Int) (h : (decide (zs.length + y20200.length ≤ 100000)) = true) : Qft zs y20200 y50000 = Qfw zs y20200 y50000 := by
 induction zs generalizing y20200 with
 | nil =>
  simp only [Qfw, List.map_nil, List.append_nil]
  rfl
 | cons z zs ih =>
  rw [Qs5]
  have h := of_decide_eq_true h
  rw [List.length_cons] at h
  have c1 : cApp y20200 [z.1] 8 = true := cAppN (by omega) (by simp only [List.length_singleton]; omega)
  simp only [QgX, c1, Qac]
  rw [ih (y20200 ++ [z.1]) (decide_eq_true (by simp only [List.length_append, List.length_singleton]; omega))]
  simp only [Qfw, List.map_cons, List.append_assoc, List.singleton_append]
theorem QsK : ∀ S (rows : List (Ty.T (.pr tI .nil))) l p, QbY.R 0 (fgt Qa9 S) (.pr tI .nil) rows = some (true, l) → pickA l = some p → Qe1 (QjJ QbY Qa9 (.pr tI .nil) [7] Qc4 Qc3) rows (fgt Qa9 S) = some p := by
 intro S rows l p hR hp
 rw [show QbY.R 0 (fgt Qa9 S) (.pr tI .nil) rows = QeY (fgt Qa9 S) rows from RL_at (l := [⟨(.pr tI .nil), QeY⟩]) (j := 0) (F := QeY) rfl _ _] at hR
 refine QO6 (s := Qfi) ⟨by decide, by decide⟩ (by kernel_rfl) (fun zs x y hok p hp => ?_) S rows l p hR hp
 simp only [Qar, Qap] at hp
 exact (QvZ zs y.2.2.1 y.2.2.2.1 (by first | rfl | simpa using hok)).trans hp
theorem Qzl : Qi7.lok QbY := by
 repeat (first | exact trivial | exact QsK | refine ⟨?_, ?_⟩)
theorem QHE (l : List Int) : (valI l).map (fun z => z.1) = l := by
 unfold valI
 rw [List.map_map]
 exact List.map_id _
theorem QB7 (l : List Int) (h : Qe3 l = true) : Qm2 l = some (.ms 50001, [.box (.t (.sl tI) l), .arr 3 tI (idL l)]) := by
 have hl : l.length ≤ 100000 := of_decide_eq_true h
 have c1 : decide ((valI l).length + ([] : List Int).length ≤ 100000) = true := decide_eq_true (by simp only [valI, List.length_map, List.length_nil]; omega)
 simp only [Qm2, h, Qac]
 refine Eq.trans (congrArg (fun b => br b _ _) c1) ?_
 rw [Qac, List.nil_append, QHE]
 rfl
def Qor : Ent := specB [.nl, .fn 73 [(50000, 0)]] [.box (.sl tI)] (fun x y => (Qe3 y.1)) (fun x y => (.ms 50001)) (fun x y => [.box (.t (.sl tI) y.1), .arr 3 tI (idL y.1)])
theorem Qzi : Meets Tryz.prog 102 (strip Qor) := Qca (QaI (R := runF QbY Qi7 Qos true) (mG Tryz.func102 (by kernel_rfl) Tryz.ntmps102 (by kernel_rfl) Qzr Qzl) fun x y hok => (QGj y.1).trans (QB7 y.1 hok))
noncomputable def QlP : TC := (.sq (.reg (rT Tryz.f71 0)) (.sq (.reg (rT Tryz.f71 1)) .rt))
def Qr9 : List (RV × Option Ty) := [((.t 2), none)]
def Qly : G := ⟨TYs, [], 5, EL [(102, Qor)], keeps, (fun _ _ => none), IL [], RL []⟩
def QpU (d0 : List Int) : Option (V × List VO) := br (Qe3 d0) (some (.ms 50001, [.box (.t (.sl tI) d0), .arr 3 tI (idL d0)])) none
theorem QJS (d0 : List Int) : runF Qly QlP Qr9 true [.fn 73 [(.ptr 50000 0)]] [.box (.t (.sl tI) d0)] = QpU d0 := by kernel_rfl
theorem QFV : Qag Tryz.prog 71 := .inr ⟨by decide, _, Tryz.func71, by kernel_rfl, by kernel_rfl⟩
theorem QFA : GOk Tryz.prog Qly := Qao _ (gA (gC Qzw Qzi gN))
theorem QE4 : QlP.lok Qly := by repeat (first | exact trivial | refine ⟨?_, ?_⟩)
theorem QH4 (l : List Int) (h : Qe3 l = true) : QpU l = some (.ms 50001, [.box (.t (.sl tI) l), .arr 3 tI (idL l)]) := by
 simp only [QpU, h, Qac]
def Qrj : Ent := specB [.fn 73 [(50000, 0)]] [.box (.sl tI)] (fun x y => (Qe3 y.1)) (fun x y => (.ms 50001)) (fun x y => [.box (.t (.sl tI) y.1), .arr 3 tI (idL y.1)])
theorem QEc : Meets Tryz.prog 71 (strip Qrj) := Qca (QaI (R := runF Qly QlP Qr9 true) (mG Tryz.func71 (by kernel_rfl) Tryz.ntmps71 (by kernel_rfl) QFA QE4) fun x y hok => (QJS y.1).trans (QH4 y.1 hok))
noncomputable def QlT : TC := (.sq (.reg (rT Tryz.f46 0)) (.sq (.reg (rT Tryz.f46 1)) (.sq (.reg (rT Tryz.f46 2)) (.sq (.reg (rT Tryz.f46 3)) .rt))))
def Qsd : List (RV × Option Ty) := [((.t 2), none)]
def QlB : G := ⟨TYs, [], 9, EL [(71, Qrj), (72, QLx)], keeps, (fun _ _ => none), IL [], RL []⟩
def Qp0 (d0 : List Int) : Option (V × List VO) := br (Qe3 d0) (br (lenOk (idL d0)) (some (.ms 50001, [.box (.t (.sl tI) d0), .arr 3 tI (sortI (idL d0))])) none) none
theorem QJW (d0 : List Int) : runF QlB QlT Qsd true [.fn 73 [(.ptr 50000 0)]] [.box (.t (.sl tI) d0)] = Qp0 d0 := by kernel_rfl
theorem QFZ : Qag Tryz.prog 46 := .inr ⟨by decide, _, Tryz.func46, by kernel_rfl, by kernel_rfl⟩
theorem QFE : GOk Tryz.prog QlB := Qao _ (gA (gC QFV QEc (gC en_f72 ms_f72 gN)))
theorem QE8 : QlT.lok QlB := by repeat (first | exact trivial | refine ⟨?_, ?_⟩)
theorem QH8 (l : List Int) (h : Qe3 l = true) : Qp0 l = some (.ms 50001, [.box (.t (.sl tI) l), .arr 3 tI (sortL l)]) := by
 have hl : l.length ≤ 100000 := of_decide_eq_true h
 have c1 : lenOk (idL l) = true := decide_eq_true (by show l.length < _; omega)
 simp only [Qp0, h, c1, Qac]
 rfl
def Qro : Ent := specB [.fn 73 [(50000, 0)]] [.box (.sl tI)] (fun x y => (Qe3 y.1)) (fun x y => (.ms 50001)) (fun x y => [.box (.t (.sl tI) y.1), .arr 3 tI (sortL y.1)])
theorem QEg : Meets Tryz.prog 46 (strip Qro) := Qca (QaI (R := runF QlB QlT Qsd true) (mG Tryz.func46 (by kernel_rfl) Tryz.ntmps46 (by kernel_rfl) QFE QE8) fun x y hok => (QJW y.1).trans (QH8 y.1 hok))
end
end Go.Proofs.YtkngeegkjhipeaaGreat.K
