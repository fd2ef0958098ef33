import Derived.Test.YtkngeegkjhipeaaGreatN22
set_option linter.unusedSimpArgs false
set_option linter.unusedVariables false
namespace Go.Proofs.YtkngeegkjhipeaaGreat.K
open Go.RowKit
noncomputable section
def copyE (e : Qad) : Qad := e
theorem iEta (x : Qal) : ((x.1.1, (x.1.2.1, ())), (x.2.1, (Qs9 x.2.2.1, ()))) = x := rfl
def QiE : Fg := ⟨[(1, none), (2, none), (3, none), (4, some tI)], [(1, none), (2, some Qai), (3, none), (6, none), (9, none), (11, none), (14, none), (16, none), (19, none), (40, none)]⟩
noncomputable def Qkm : TC := (.sq (.sq (.reg (rT Tryz.f29 6)) (.cd (.t 25) .sk (.fg ⟨[(1, none), (2, none), (3, none)], [(1, some Qai), (2, some Qai), (3, none), (6, none), (9, none), (11, none), (14, none), (16, none), (19, none), (40, none)]⟩ (.ex 0)))) (.sq (.bk 1 (.sq (.reg (rT Tryz.f29 7)) (.sq (.reg (rT Tryz.f29 8)) (.reg (rT Tryz.f29 9))))) (.reg (rT Tryz.f29 10))))
noncomputable def QAb : TC := (.sq (.reg (rT Tryz.f29 0)) (.sq (.reg (rT Tryz.f29 1)) (.sq (.reg (rT Tryz.f29 2)) (.sq (.reg (rT Tryz.f29 3)) (.sq (.reg (rT Tryz.f29 4)) (.sq (.sq (.reg (rT Tryz.f29 5)) (.bk 0 (.nw 3 60 (.lp 0 QiE Qkm)))) (.sq (.reg (rT Tryz.f29 11)) (.sq (.reg (rT Tryz.f29 12)) .rt))))))))
def QMa : List (RV × Option Ty) := [((.c 2 true 9), none)]
abbrev Qpf : Sh := ⟨[(1, .ptr 1 0), (2, .ptr 2 0), (3, .ms 3), (4, .ty tI)], [(1, .bag [.ty .str, .ty tI, .ty tI, .ms 6, .ty .bool, .ty (.sl Qak), .ms 11, .ms 16, .ty .bool]), (2, .box Qai), (3, .arr 60 Qak), (6, .arr 3 tI), (9, .no), (11, .arr 3 tI), (14, .no), (16, .arr 3 tI), (19, .no), (40, .no)]⟩
def QoQ (x4 : Int) (y1_0 : ByteArray) (y1_1 y1_2 : Int) (y1_4 : Bool) (y1_5 : List Qal) (y1_8 : Bool) (y2 : Qad) (y3 : List Qal) (y6 y11 y16 : List Int) : VS := Qpf.st ((), (), (), x4, ()) ((y1_0, y1_1, y1_2, (), y1_4, y1_5, (), (), y1_8, ()), y2, y3, y6, (), y11, (), y16, (), (), ())
abbrev QuI : Sh := ⟨[(1, .ptr 1 0), (2, .ptr 2 0), (3, .ms 3)], [(1, .bag [.ty .str, .ty tI, .ty tI, .ms 6, .ty .bool, .ty (.sl Qak), .ms 11, .ms 16, .ty .bool]), (2, .box Qai), (3, .arr 60 Qak), (6, .arr 3 tI), (9, .no), (11, .arr 3 tI), (14, .no), (16, .arr 3 tI), (19, .no), (40, .no)]⟩
def Qes (y1_0 : ByteArray) (y1_1 y1_2 : Int) (y1_4 : Bool) (y1_5 : List Qal) (y1_8 : Bool) (y2 : Qad) (y3 : List Qal) (y6 y11 y16 : List Int) : VS := QuI.st ((), (), (), ()) ((y1_0, y1_1, y1_2, (), y1_4, y1_5, (), (), y1_8, ()), y2, y3, y6, (), y11, (), y16, (), (), ())
def QRu : VS → Option (Bool × List (Bool × Exit × VS)) := mkL Qpf (fun x y => (decide (0 ≤ x.2.2.2.1 ∧ x.2.2.2.1 ≤ y.1.2.2.2.2.2.1.length ∧ y.1.2.2.2.2.2.1.length ≤ 100000 ∧ y.2.2.1.length ≤ x.2.2.2.1.toNat) && y.1.2.2.2.2.2.1.all idLen)) (fun x y => [(true, .exit 0, Qes (y.1.1) (y.1.2.1) (y.1.2.2.1) (y.1.2.2.2.2.1) (y.1.2.2.2.2.2.1) (y.1.2.2.2.2.2.2.2.2.1) (y.2.1) (y.2.2.1 ++ y.1.2.2.2.2.2.1.drop x.2.2.2.1.toNat) (y.2.2.2.1) (y.2.2.2.2.2.1) (y.2.2.2.2.2.2.2.1))])
def g_f29 : G := ⟨TYs, [6, 11, 16], 44, EL [(53, QK1)], keeps, (Ls [QRu]), IL [], RL []⟩
def QGH (x4 : Int) (y1_0 : ByteArray) (y1_1 y1_2 : Int) (y1_4 : Bool) (y1_5 : List Qal) (y1_8 : Bool) (y2 : Qad) (y3 : List Qal) (y6 y11 y16 : List Int) : Option (Exit × VS) :=
 let a1 := lgt Qak y1_5 (Int.toNat x4)
 let a2 := (((a1.1).1, (((a1.1).2).1, ())), ((a1.2).1, ((Qs9 (((a1.2).2).1)), ())))
 br (ilt x4 (llen y1_5)) (br (cIx y1_5 x4) (br (QaJ (((a1.2).2).1)) (br (cApp y3 ([a2]) 48) (some (.normal, QoQ (iadd .i64 x4 1) y1_0 y1_1 y1_2 y1_4 y1_5 y1_8 y2 (y3 ++ ([a2])) y6 y11 y16)) none) none) none) (some (.exit 0, Qes y1_0 y1_1 y1_2 y1_4 y1_5 y1_8 y2 y3 y6 y11 y16))
noncomputable def QhH (x4 : Int) (y1_0 : ByteArray) (y1_1 y1_2 : Int) (y1_4 : Bool) (y1_5 : List Qal) (y1_8 : Bool) (y2 : Qad) (y3 : List Qal) (y6 y11 y16 : List Int) : Option (Exit × VS) := loopF (Qaj g_f29 QiE Qkm) (QoQ x4 y1_0 y1_1 y1_2 y1_4 y1_5 y1_8 y2 y3 y6 y11 y16)
noncomputable def Qp6 (x4 : Int) (y1_0 : ByteArray) (y1_1 y1_2 : Int) (y1_4 : Bool) (y1_5 : List Qal) (y1_8 : Bool) (y2 : Qad) (y3 : List Qal) (y6 y11 y16 : List Int) : Option (Exit × VS) :=
 let a1 := lgt Qak y1_5 (Int.toNat x4)
 let a2 := (((a1.1).1, (((a1.1).2).1, ())), ((a1.2).1, ((Qs9 (((a1.2).2).1)), ())))
 br (ilt x4 (llen y1_5)) (br (cIx y1_5 x4) (br (QaJ (((a1.2).2).1)) (br (cApp y3 ([a2]) 48) (QhH (iadd .i64 x4 1) y1_0 y1_1 y1_2 y1_4 y1_5 y1_8 y2 (y3 ++ ([a2])) y6 y11 y16) none) none) none) (some (.exit 0, Qes y1_0 y1_1 y1_2 y1_4 y1_5 y1_8 y2 y3 y6 y11 y16))
def Qh1 (x4 : Int) (y1_0 : ByteArray) (y1_1 y1_2 : Int) (y1_4 : Bool) (y1_5 : List Qal) (y1_8 : Bool) (y2 : Qad) (y3 : List Qal) (y6 y11 y16 : List Int) : Option (Exit × VS) := some (.exit 0, Qes (y1_0) (y1_1) (y1_2) (y1_4) (y1_5) (y1_8) (y2) (y3 ++ y1_5.drop x4.toNat) (y6) (y11) (y16))
theorem QJ3 (x4 : Int) (y1_0 : ByteArray) (y1_1 y1_2 : Int) (y1_4 : Bool) (y1_5 : List Qal) (y1_8 : Bool) (y2 : Qad) (y3 : List Qal) (y6 y11 y16 : List Int) : Qaj g_f29 QiE Qkm (QoQ x4 y1_0 y1_1 y1_2 y1_4 y1_5 y1_8 y2 y3 y6 y11 y16) = QGH x4 y1_0 y1_1 y1_2 y1_4 y1_5 y1_8 y2 y3 y6 y11 y16 := by kernel_rfl
theorem QwO (x4 : Int) (y1_0 : ByteArray) (y1_1 y1_2 : Int) (y1_4 : Bool) (y1_5 : List Qal) (y1_8 : Bool) (y2 : Qad) (y3 : List Qal) (y6 y11 y16 : List Int) : QhH x4 y1_0 y1_1 y1_2 y1_4 y1_5 y1_8 y2 y3 y6 y11 y16 = Qp6 x4 y1_0 y1_1 y1_2 y1_4 y1_5 y1_8 y2 y3 y6 y11 y16 := (Qaq _ _).trans (by
 rw [QJ3]
 simp only [QGH, Qp6, QaE, nxt_n, nxt_r, nxt_e, nxt_0]
 rfl)
def r_f29 (p0 : Qad) : Option (V × List VO) := br (cApp ([] : List Int) p0.2.2.2.1 8) (br (cApp ([] : List Int) p0.2.2.2.2.2.2.1 8) (br (cApp ([] : List Int) p0.2.2.2.2.2.2.2.1 8) (br (decide (0 ≤ (0 : Int) ∧ (0 : Int) ≤ p0.2.2.2.2.2.1.length ∧ p0.2.2.2.2.2.1.length ≤ 100000 ∧ ([] : List Qal).length ≤ (0 : Int).toNat) && p0.2.2.2.2.2.1.all idLen) (some (.ag [(.t .str (p0.1)), (.t tI (p0.2.1)), (.t tI (p0.2.2.1)), (.ms 50000), (.t .bool (p0.2.2.2.2.1)), (.ms 50001), (.ms 50002), (.ms 50003), (.t .bool (p0.2.2.2.2.2.2.2.2.1))], [.arr 3 tI (([] : List Int) ++ p0.2.2.2.1), .arr 60 Qak (([] : List Qal) ++ p0.2.2.2.2.2.1.drop (0 : Int).toNat), .arr 3 tI (([] : List Int) ++ p0.2.2.2.2.2.2.1), .arr 3 tI (([] : List Int) ++ p0.2.2.2.2.2.2.2.1)])) none) none) none) none
theorem e_f29 (p0 : Qad) : runF g_f29 QAb QMa true [.t Qai p0] [] = r_f29 p0 := by kernel_rfl
theorem en_f29 : Qag Tryz.prog 29 := .inr ⟨by decide, _, Tryz.func29, by kernel_rfl, by kernel_rfl⟩
theorem gk_f29 : GOk Tryz.prog g_f29 := Qan _ (gA (gC en_f53 ms_f53 gN))
theorem QPp (x4 : Int) (y1_0 : ByteArray) (y1_1 y1_2 : Int) (y1_4 : Bool) (y1_5 : List Qal) (y1_8 : Bool) (y2 : Qad) (y3 : List Qal) (y6 y11 y16 : List Int) (h : (decide (0 ≤ x4 ∧ x4 ≤ y1_5.length ∧ y1_5.length ≤ 100000 ∧ y3.length ≤ x4.toNat) && y1_5.all idLen) = true) : QhH x4 y1_0 y1_1 y1_2 y1_4 y1_5 y1_8 y2 y3 y6 y11 y16 = Qh1 x4 y1_0 y1_1 y1_2 y1_4 y1_5 y1_8 y2 y3 y6 y11 y16 := by
 obtain ⟨h, hc⟩ := Bool.and_eq_true_iff.1 h
 obtain ⟨h0, h1, h2, h3⟩ := of_decide_eq_true h
 clear h
 obtain ⟨k, rfl⟩ := Int.eq_ofNat_of_zero_le h0
 rw [Int.toNat_natCast] at h3
 have hc := List.all_eq_true.1 hc
 have key : ∀ k, k ≤ y1_5.length → ∀ y3 : List Qal, y3.length ≤ k → QhH (k : Int) y1_0 y1_1 y1_2 y1_4 y1_5 y1_8 y2 y3 y6 y11 y16 = Qh1 (k : Int) y1_0 y1_1 y1_2 y1_4 y1_5 y1_8 y2 y3 y6 y11 y16 := by
  refine Qav y1_5 (fun k => ∀ y3 : List Qal, y3.length ≤ k → QhH (k : Int) y1_0 y1_1 y1_2 y1_4 y1_5 y1_8 y2 y3 y6 y11 y16 = Qh1 (k : Int) y1_0 y1_1 y1_2 y1_4 y1_5 y1_8 y2 y3 y6 y11 y16) ?_ ?_
  ·intro y3 _
   rw [QwO]
   simp only [Qp6, Qh1, show ilt (y1_5.length : Int) (llen y1_5) = false from decide_eq_false (by simp only [llen]; omega), Qae, Int.toNat_natCast, List.drop_length, List.append_nil]
  ·intro k hk ih y3 hy
   rw [QwO]
   have c1 : QaJ y1_5[k].2.2.1 = true := hc _ (List.getElem_mem hk)
   have c2 : ∀ v : Qal, cApp y3 [v] 48 = true := fun v => cAppN (by omega) (by simp only [List.length_singleton]; omega)
   simp only [Qp6, show ilt (k : Int) (llen y1_5) = true from decide_eq_true (by simp only [llen]; omega), Qay, hk, decide_true, Qac, Int.toNat_natCast, add1 (show k < 4611686018427387904 by omega), QaG (y := Qak) hk, c1, iEta, c2]
   rw [ih (y3 ++ [y1_5[k]]) (by simp only [List.length_append, List.length_singleton]; omega)]
   simp only [Qh1, Int.toNat_natCast, List.drop_eq_getElem_cons hk, List.append_assoc, List.singleton_append]
 exact key k (by omega) y3 h3
theorem QH8 : ∀ S l p, g_f29.L 0 (fgt QiE S) = some (true, l) → pickA l = some p → loopF (Qaj g_f29 QiE Qkm) S = some p :=
 QaF (s := Qpf) ⟨by decide, by decide⟩ (by kernel_rfl) fun x y hok p hp => by
 simp only [Qas, Qap] at hp
 exact (QPp x.2.2.2.1 y.1.1 y.1.2.1 y.1.2.2.1 y.1.2.2.2.2.1 y.1.2.2.2.2.2.1 y.1.2.2.2.2.2.2.2.2.1 y.2.1 y.2.2.1 y.2.2.2.1 y.2.2.2.2.2.1 y.2.2.2.2.2.2.2.1 (by simpa using hok)).trans hp
theorem lk_f29 : QAb.lok g_f29 := by
 repeat (first | exact trivial | exact QH8 | refine ⟨?_, ?_⟩)
theorem s_f29 (e : Qad) (h : Qbw e = true) : r_f29 e = some (.ag [.t .str e.1, .t tI e.2.1, .t tI e.2.2.1, .ms 50000, .t .bool e.2.2.2.2.1, .ms 50001, .ms 50002, .ms 50003, .t .bool e.2.2.2.2.2.2.2.2.1], [.arr 3 tI (Qao e), .arr 60 Qak (eIds e), .arr 3 tI (eAnch e), .arr 3 tI (eHash e)]) := by
 obtain ⟨_, h2, h3, h4, h5, h6⟩ := Qbk h
 have a : ∀ l : List Int, l.length ≤ 100000 → cApp ([] : List Int) l 8 = true := fun l hl => cAppN (by omega) (by simp only [List.length_nil]; omega)
 have c7 : (decide ((0 : Int) ≤ 0 ∧ (0 : Int) ≤ (eIds e).length ∧ (eIds e).length ≤ 100000 ∧ ([] : List Qal).length ≤ Int.toNat 0) && (eIds e).all idLen) = true := Bool.and_eq_true_iff.2 ⟨decide_eq_true ⟨Int.le_refl _, by omega, h3, by simp⟩, h6⟩
 simp only [r_f29, a _ h2, a _ h4, a _ h5, Qac, List.nil_append]
 refine Eq.trans (congrArg (fun b => br b _ _) c7) ?_
 rfl
def QLc : Ent := specO (.pr Qai .nil) (fun x => (Qbw x.1)) (fun x => (.ag [(.t .str ((copyE x.1).1)), (.t tI (((copyE x.1).2).1)), (.t tI ((((copyE x.1).2).2).1)), (.ms 50000), (.t .bool ((((((copyE x.1).2).2).2).2).1)), (.ms 50001), (.ms 50002), (.ms 50003), (.t .bool ((((((((((copyE x.1).2).2).2).2).2).2).2).2).1))])) (fun x => [.arr 3 tI (((((copyE x.1).2).2).2).1), .arr 60 Qak (((((((copyE x.1).2).2).2).2).2).1), .arr 3 tI ((((((((copyE x.1).2).2).2).2).2).2).1), .arr 3 tI (((((((((copyE x.1).2).2).2).2).2).2).2).1)])
theorem ms_f29 : Meets Tryz.prog 29 (strip QLc) := QgX (R := runF g_f29 QAb QMa true) (mG Tryz.func29 (by kernel_rfl) Tryz.ntmps29 (by kernel_rfl) gk_f29 lk_f29) fun x hok => (e_f29 x.1).trans (s_f29 x.1 hok)
end
end Go.Proofs.YtkngeegkjhipeaaGreat.K
