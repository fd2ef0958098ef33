import Derived.Test.YtkngeegkjhipeaaGreatN26
set_option linter.unusedSimpArgs false
set_option linter.unusedVariables false
namespace Go.Proofs.YtkngeegkjhipeaaGreat.K
open Go.RowKit
noncomputable section
def idL (l : List Int) : List Int := l
def sortL (l : List Int) : List Int := sortI l
def Qa9 : Fg := ⟨[(2, none)], [(60000, none), (11, none), (20200, none), (50000, some (.sl tI))]⟩
noncomputable def Qc5 : TC := (.reg (rT Tryz.f102 2))
noncomputable def Qc4 : TC := (.bk 1 (.reg (rT Tryz.f102 3)))
noncomputable def Qi1 : TC := (.sq (.reg (rT Tryz.f102 0)) (.sq (.sq (.reg (rT Tryz.f102 1)) (.bk 0 (.nf 2 0 3 20200 (.rf 0 Qa9 (.t 6) (.pr tI .nil) [7] [2] Qc5 Qc4)))) (.sq (.reg (rT Tryz.f102 4)) .rt)))
def Qod : List (RV × Option Ty) := [((.t 4), none)]
abbrev Qfi : Sh := ⟨[(2, .ptr 60000 0)], [(60000, .bag [.ms 20200]), (11, .no), (20200, .arr 3 tI), (50000, .box (.sl tI))]⟩
def Qfd (y20200 y50000 : List Int) : VS := Qfi.st ((), ()) (((), ()), (), y20200, y50000, ())
abbrev QgM : Sh := ⟨[(2, .ptr 60000 0)], [(60000, .bag [.ms 20200]), (11, .no), (20200, .arr 3 tI), (50000, .box (.sl tI))]⟩
def QcR (y20200 y50000 : List Int) : VS := QgM.st ((), ()) (((), ()), (), y20200, y50000, ())
def QeY : VS → List (Ty.T (.pr tI .nil)) → Option (Bool × List (Bool × Exit × VS)) := mkR Qfi (fun zs x y => (decide (zs.length + y.2.2.1.length ≤ 100000))) (fun zs x y => [(true, .normal, QcR (y.2.2.1 ++ zs.map (fun z => z.1)) (y.2.2.2.1))])
def QbW : G := ⟨TYs, [], 13, EL [], keeps, (Ls [fun _ => none]), IL [(1000073, Qlj)], (RL [⟨(.pr tI .nil), QeY⟩])⟩
def QnM (z : (Int × Unit)) (y20200 y50000 : List Int) : Option (Exit × VS) := br (cApp y20200 ([z.1]) 8) (some (.normal, Qfd (y20200 ++ ([z.1])) y50000)) none
noncomputable def Qft (zs : List (Int × Unit)) (y20200 y50000 : List Int) : Option (Exit × VS) := Qe1 (QjD QbW Qa9 (.pr tI .nil) [7] Qc5 Qc4) zs (Qfd y20200 y50000)
noncomputable def QgW (z : (Int × Unit)) (zs : List (Int × Unit)) (y20200 y50000 : List Int) : Option (Exit × VS) := br (cApp y20200 ([z.1]) 8) (Qft zs (y20200 ++ ([z.1])) y50000) none
def Qfw (zs : List (Int × Unit)) (y20200 y50000 : List Int) : Option (Exit × VS) := some (.normal, QcR (y20200 ++ zs.map (fun z => z.1)) (y50000))
theorem Qte (z : (Int × Unit)) (y20200 y50000 : List Int) : QjD QbW Qa9 (.pr tI .nil) [7] Qc5 Qc4 z (Qfd y20200 y50000) = QnM z y20200 y50000 := by kernel_rfl
theorem QsF (z : (Int × Unit)) (zs : List (Int × Unit)) (y20200 y50000 : List Int) : Qft (z :: zs) y20200 y50000 = QgW z zs y20200 y50000 := (QuY _ _ _ _).trans (by
 rw [Qte]
 simp only [QnM, QgW, QaE, nxt_n, nxt_r, nxt_e, nxt_0]
 rfl)
def QmS (d0 : List Int) : Option (V × List VO) := br (Qe3 d0) (br (decide ((valI d0).length + ([] : List Int).length ≤ 100000)) (some (.ms 50001, [.box (.t (.sl tI) (d0)), .arr 3 tI (([] : List Int) ++ (valI d0).map (fun z => z.1))])) none) none
theorem QFB (d0 : List Int) : runF QbW Qi1 Qod true [.c (.slice none 0 0), .fn 73 [(.ptr 50000 0)]] [.box (.t (.sl tI) d0)] = QmS d0 := by kernel_rfl
theorem QyS : Qag Tryz.prog 102 := .inr ⟨by decide, _, Tryz.func102, by kernel_rfl, by kernel_rfl⟩
theorem QyN : GOk Tryz.prog QbW := Qan _ (fun p hp => by cases hp) [(1000073, Qlj)] (by
 intro p hp
 simp only [List.mem_cons, List.not_mem_nil, or_false] at hp
 rcases hp with rfl
 ·exact QEz)
theorem Qvv (zs : List (Int × Unit)) (y20200 y50000 : List Int) (h : (decide (zs.length + y20200.length ≤ 100000)) = true) : Qft zs y20200 y50000 = Qfw zs y20200 y50000 := by
 induction zs generalizing y20200 with
 | nil =>
  simp only [Qfw, List.map_nil, List.append_nil]
  rfl
 | cons z zs ih =>
  rw [QsF]
  have h := of_decide_eq_true h
  rw [List.length_cons] at h
  have c1 : cApp y20200 [z.1] 8 = true := cAppN (by omega) (by simp only [List.length_singleton]; omega)
  simp only [QgW, c1, Qac]
  rw [ih (y20200 ++ [z.1]) (decide_eq_true (by simp only [List.length_append, List.length_singleton]; omega))]
  simp only [Qfw, List.map_cons, List.append_assoc, List.singleton_append]
theorem Qsk : ∀ S (rows : List (Ty.T (.pr tI .nil))) l p, QbW.R 0 (fgt Qa9 S) (.pr tI .nil) rows = some (true, l) → pickA l = some p → Qe1 (QjD QbW Qa9 (.pr tI .nil) [7] Qc5 Qc4) rows (fgt Qa9 S) = some p := by
 intro S rows l p hR hp
 rw [show QbW.R 0 (fgt Qa9 S) (.pr tI .nil) rows = QeY (fgt Qa9 S) rows from RL_at (l := [⟨(.pr tI .nil), QeY⟩]) (j := 0) (F := QeY) rfl _ _] at hR
 refine QOj (s := Qfi) ⟨by decide, by decide⟩ (by kernel_rfl) (fun zs x y hok p hp => ?_) S rows l p hR hp
 simp only [Qas, Qap] at hp
 exact (Qvv zs y.2.2.1 y.2.2.2.1 (by first | rfl | simpa using hok)).trans hp
theorem QyH : Qi1.lok QbW := by
 repeat (first | exact trivial | exact Qsk | refine ⟨?_, ?_⟩)
theorem QGX (l : List Int) : (valI l).map (fun z => z.1) = l := by
 unfold valI
 rw [List.map_map]
 exact List.map_id _
theorem QBq (l : List Int) (h : Qe3 l = true) : QmS l = some (.ms 50001, [.box (.t (.sl tI) l), .arr 3 tI (idL l)]) := by
 have hl : l.length ≤ 100000 := of_decide_eq_true h
 have c1 : decide ((valI l).length + ([] : List Int).length ≤ 100000) = true := decide_eq_true (by simp only [valI, List.length_map, List.length_nil]; omega)
 simp only [QmS, h, Qac]
 refine Eq.trans (congrArg (fun b => br b _ _) c1) ?_
 rw [Qac, List.nil_append, QGX]
 rfl
def Qoc : Ent := specB [.nl, .fn 73 [(50000, 0)]] [.box (.sl tI)] (fun x y => (Qe3 y.1)) (fun x y => (.ms 50001)) (fun x y => [.box (.t (.sl tI) y.1), .arr 3 tI (idL y.1)])
theorem QyE : Meets Tryz.prog 102 (strip Qoc) := Qb8 (QaI (R := runF QbW Qi1 Qod true) (mG Tryz.func102 (by kernel_rfl) Tryz.ntmps102 (by kernel_rfl) QyN QyH) fun x y hok => (QFB y.1).trans (QBq y.1 hok))
noncomputable def QlF : TC := (.sq (.reg (rT Tryz.f71 0)) (.sq (.reg (rT Tryz.f71 1)) .rt))
def QrR : List (RV × Option Ty) := [((.t 2), none)]
def Qlp : G := ⟨TYs, [], 5, EL [(102, Qoc)], keeps, (fun _ _ => none), IL [], RL []⟩
def QpB (d0 : List Int) : Option (V × List VO) := br (Qe3 d0) (some (.ms 50001, [.box (.t (.sl tI) d0), .arr 3 tI (idL d0)])) none
theorem QJd (d0 : List Int) : runF Qlp QlF QrR true [.fn 73 [(.ptr 50000 0)]] [.box (.t (.sl tI) d0)] = QpB d0 := by kernel_rfl
theorem QFe : Qag Tryz.prog 71 := .inr ⟨by decide, _, Tryz.func71, by kernel_rfl, by kernel_rfl⟩
theorem QET : GOk Tryz.prog Qlp := Qan _ (gA (gC QyS QyE gN))
theorem QEn : QlF.lok Qlp := by repeat (first | exact trivial | refine ⟨?_, ?_⟩)
theorem QHo (l : List Int) (h : Qe3 l = true) : QpB l = some (.ms 50001, [.box (.t (.sl tI) l), .arr 3 tI (idL l)]) := by
 simp only [QpB, h, Qac]
def Qq1 : Ent := specB [.fn 73 [(50000, 0)]] [.box (.sl tI)] (fun x y => (Qe3 y.1)) (fun x y => (.ms 50001)) (fun x y => [.box (.t (.sl tI) y.1), .arr 3 tI (idL y.1)])
theorem QDx : Meets Tryz.prog 71 (strip Qq1) := Qb8 (QaI (R := runF Qlp QlF QrR true) (mG Tryz.func71 (by kernel_rfl) Tryz.ntmps71 (by kernel_rfl) QET QEn) fun x y hok => (QJd y.1).trans (QHo y.1 hok))
noncomputable def QlJ : TC := (.sq (.reg (rT Tryz.f46 0)) (.sq (.reg (rT Tryz.f46 1)) (.sq (.reg (rT Tryz.f46 2)) (.sq (.reg (rT Tryz.f46 3)) .rt))))
def QrV : List (RV × Option Ty) := [((.t 2), none)]
def Qls : G := ⟨TYs, [], 9, EL [(71, Qq1), (72, QKR)], keeps, (fun _ _ => none), IL [], RL []⟩
def QpG (d0 : List Int) : Option (V × List VO) := br (Qe3 d0) (br (lenOk (idL d0)) (some (.ms 50001, [.box (.t (.sl tI) d0), .arr 3 tI (sortI (idL d0))])) none) none
theorem QJh (d0 : List Int) : runF Qls QlJ QrV true [.fn 73 [(.ptr 50000 0)]] [.box (.t (.sl tI) d0)] = QpG d0 := by kernel_rfl
theorem QFi : Qag Tryz.prog 46 := .inr ⟨by decide, _, Tryz.func46, by kernel_rfl, by kernel_rfl⟩
theorem QEX : GOk Tryz.prog Qls := Qan _ (gA (gC QFe QDx (gC en_f72 ms_f72 gN)))
theorem QEr : QlJ.lok Qls := by repeat (first | exact trivial | refine ⟨?_, ?_⟩)
theorem QHs (l : List Int) (h : Qe3 l = true) : QpG l = some (.ms 50001, [.box (.t (.sl tI) l), .arr 3 tI (sortL l)]) := by
 have hl : l.length ≤ 100000 := of_decide_eq_true h
 have c1 : lenOk (idL l) = true := decide_eq_true (by show l.length < _; omega)
 simp only [QpG, h, c1, Qac]
 rfl
def Qq6 : Ent := specB [.fn 73 [(50000, 0)]] [.box (.sl tI)] (fun x y => (Qe3 y.1)) (fun x y => (.ms 50001)) (fun x y => [.box (.t (.sl tI) y.1), .arr 3 tI (sortL y.1)])
theorem QDB : Meets Tryz.prog 46 (strip Qq6) := Qb8 (QaI (R := runF Qls QlJ QrV true) (mG Tryz.func46 (by kernel_rfl) Tryz.ntmps46 (by kernel_rfl) QEX QEr) fun x y hok => (QJh y.1).trans (QHs y.1 hok))
end
end Go.Proofs.YtkngeegkjhipeaaGreat.K
