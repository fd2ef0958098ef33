/-
 Settings that can be printed; lists that are the same.
-/
import Derived.Test.YtkkoedniahnneaaDoorA15
set_option linter.unusedSimpArgs false
set_option linter.unusedVariables false
namespace Go.Proofs.YtkkoedniahnneaaDoor.K
open Go.RowKit
noncomputable section
theorem sne_s (a : ByteArray) : sne a a = false := by simp [sne]
theorem seq_s (a : ByteArray) : seq a a = true := by simp [seq]
theorem sne_seq (a b : ByteArray) : sne a b = !seq a b := rfl
theorem ine_s (a : Int) : ine a a = false := by simp [ine]
-- loop 0: (x0 : (List Setting)) (x1 : (List Setting)) (x5 : Int); out: ('ret',) (x4 : Bool); ('exit', 0)
def isVI (c : Int) : Bool := !ilt c 32 && !igt c 126
def vlZ (s : ByteArray) : Bool := (bytesL s).all isVI
def valB (s : ByteArray) : Bool := vlZ s && (seq (tB s) s && !bsl s)
abbrev sh_f109_0 : Sh := ⟨[(0, .ty .str), (3, .ty tI)], []⟩
abbrev sh_f109_0_ret : Sh := ⟨[(2, .ty .bool)], []⟩
def st_f109_0_ret (x2 : Bool) : VS := sh_f109_0_ret.st (x2, ()) ()
abbrev sh_f109_0_e0 : Sh := ⟨[(0, .ty .str)], []⟩
def st_f109_0_e0 (x0 : ByteArray) : VS := sh_f109_0_e0.st (x0, ()) ()
-- loop 0: (x0 : ByteArray) (x3 : Int); out: ('ret',) (x2 : Bool); ('exit', 0) (x0 : ByteArray)
def L_f109_0 : VS → Option (Bool × List (Bool × Exit × VS)) := mkL sh_f109_0 (fun x y => (nameG x.1 && decide (0 ≤ x.2.1 ∧ x.2.1 ≤ x.1.size))) (fun x y => [((!(((bytesL x.1).drop x.2.1.toNat).all isVI)), .ret, st_f109_0_ret (false)), (true, .exit 0, st_f109_0_e0 (x.1))])
def g_f109 : G := ⟨TYs, [], 37, EL [(91, sp_f91)], keeps, (Ls [L_f109_0]), IL [], RL []⟩
theorem gk_f109 : GOk Tryd.prog g_f109 := gok_of _ (by
 intro p hp
 simp only [List.mem_cons, List.not_mem_nil, or_false] at hp
 rcases hp with rfl
 ·exact ⟨en_f91, ms_f91⟩)
def rgtB (x : Setting) : Bool := (seq x.1 (ByteArray.mk #[]) || wrdB x.1) && (wrdB x.2.1 && valB x.2.2.1)
def rgtOk (x : Setting) : Bool := nameG x.1 && (nameG x.2.1 && nameG x.2.2.1)
theorem sfx_bsl (s : ByteArray) : sfxF s (ByteArray.mk #[92]) = bsl s := by
 show [(92 : UInt8)].isSuffixOf (bl s) = bsl s
 unfold bsl
 rw [Bool.eq_iff_iff, List.isSuffixOf_iff_suffix, beq_iff_eq, List.getLast?_eq_some_iff]
 exact ⟨fun ⟨r, hr⟩ => ⟨r, hr.symm⟩, fun ⟨r, hr⟩ => ⟨r, hr.symm⟩⟩
theorem vl_ind : ∀ l : List UInt8, ((l.map fun b => (b.toNat : Int)).all isClI && !decide (0 ≤ Lib.indexByte l 9)) = (l.map fun b => (b.toNat : Int)).all isVI
 | [] => rfl
 | b :: l => by
  have ih := vl_ind l
  have hg := Lib.indexByte_ge l 9
  simp only [List.map_cons, List.all_cons]
  unfold Lib.indexByte
  cases hb : b == 9 with
  | true =>
   have : b = 9 := eq_of_beq hb
   subst this
   simp [isVI, ilt]
  | false =>
   have hne : ((b.toNat : Nat) : Int) ≠ 9 := fun e => by
    have : b = 9 := by rw [← UInt8.toNat_inj]; show b.toNat = 9; omega
    rw [this] at hb
    cases hb
   have e1 : isClI ((b.toNat : Nat) : Int) = isVI ((b.toNat : Nat) : Int) := by
    unfold isClI isVI
    rw [show ieq ((b.toNat : Nat) : Int) 9 = false from beq_eq_false_iff_ne.2 hne, Bool.false_or]
   have e2 : decide (0 ≤ (if Lib.indexByte l 9 == -1 then -1 else Lib.indexByte l 9 + 1)) = decide (0 ≤ Lib.indexByte l 9) := by
    rw [Bool.eq_iff_iff, decide_eq_true_eq, decide_eq_true_eq]
    cases hx : Lib.indexByte l 9 == -1 with
    | true => have := eq_of_beq hx; simp; omega
    | false => have := beq_eq_false_iff_ne.1 hx; simp; omega
   rw [e1, ← ih]
   simp only [Bool.false_eq_true, if_false]
   rw [e2]
   cases isVI ((b.toNat : Nat) : Int) <;> simp
theorem cl_vl (s : ByteArray) : (clB s && !ctnF s (ByteArray.mk #[9])) = vlZ s := by
 rw [← clZ_eq]
 exact vl_ind (bl s)
def dr_f59_0 : List DO := [(.mk (oP 23 (.fa 2 (.t 1))) []), (.mk (oL 24 23) [0]), (.mk (oC 25 105 [(.t 24)]) [1]), (.mk (oV 26 25) [2, 2]), (.mk (oQ 27 26 true (.fa 2 (.t 1))) [3]), (.mk (oG 28 26 true (.m (.ld false 1 (.t 27)))) [4, 3]), (.mk (oG 29 26 true (.call 106 [(.t 28), (.c (.v (.string (ByteArray.mk #[9]))))])) [5, 3, 3]), (.mk (oQ 30 26 true (.nt (.t 29))) [6, 3]), (.mk (oP 31 (.pick (.t 26) (.t 30) (cB false))) [3, 7]), (.mk (oV 32 31) [8, 6]), (.mk (oQ 33 32 true (.fa 2 (.t 1))) [9]), (.mk (oG 34 32 true (.m (.ld false 1 (.t 33)))) [10, 9]), (.mk (oG 35 32 true (.call 107 [(.t 34)])) [11, 9, 9]), (.mk (oQ 36 32 true (.fa 2 (.t 1))) [9]), (.mk (oG 37 32 true (.m (.ld false 1 (.t 36)))) [13, 9]), (.mk (oQ 38 32 true (.bin false .eql (.t 35) (.t 37))) [12, 14, 9]), (.mk (oP 39 (.pick (.t 32) (.t 38) (cB false))) [9, 15]), (.mk (oV 2 39) [16, 12, 0, 1, 2, 3, 4, 5, 6, 7, 8, 9, 10, 11, 12, 13, 14, 15, 16])]
def tc_f59 : TC := (.sq (.reg [(oM 1 (.box (.t 0))), (oP 2 (.mv (cB false)))]) (.sq (.sq (.reg [(oP 3 (.fa 0 (.t 1))), (oL 4 3), (oP 5 (.bin false .neq (.t 4) (.c (.v (.string (ByteArray.mk #[])))))), (oV 6 5), (oQ 7 6 true (.fa 0 (.t 1))), (oG 8 6 true (.m (.ld false 1 (.t 7)))), (oG 9 6 true (.call 103 [(.t 8)])), (oQ 10 6 true (.nt (.t 9))), (oP 11 (.pick (.t 6) (.t 10) (cB false))), (oV 12 11), (oQ 13 12 false (.fa 1 (.t 1))), (oG 14 12 false (.m (.ld false 1 (.t 13)))), (oG 15 12 false (.call 103 [(.t 14)])), (oQ 16 12 false (.nt (.t 15))), (oP 17 (.pick (.t 12) (cB true) (.t 16))), (oV 18 17), (oQ 19 18 false (.fa 2 (.t 1))), (oG 20 18 false (.m (.ld false 1 (.t 19)))), (oG 21 18 false (.call 104 [(.t 20), (.c (.v (.string (ByteArray.mk #[92]))))])), (oP 22 (.pick (.t 18) (cB true) (.t 21)))]) (.cd (.t 22) (.sq (.reg [(oP 2 (.mv (cB false)))]) .rt) .sk)) (.sq (.dr dr_f59_0 [(0, [1]), (1, [1]), (2, []), (3, []), (4, [1]), (5, [1]), (6, []), (7, []), (8, []), (9, []), (10, [1]), (11, [1]), (12, []), (13, [1]), (14, [1]), (15, []), (16, []), (17, [])] (.of [0, 1, 2, 3, 4, 5, 6, 7, 8, 9, 10, 11, 12, 13, 14, 15, 16, 17])) .rt)))
def rv_f59 : List (RV × Option Ty) := [((.t 2), some .bool)]
def g_f59 : G := ⟨TYs, [], 40, EL [(103, sp_f103), (104, sp_f104), (105, sp_f105), (106, sp_f106), (107, sp_f107)], keeps, (fun _ _ => none), IL [], RL []⟩
def r_f59_1 (p0 : Setting) : Option (V × List VO) :=
 br ((nameG p0.2.1))
  (br ((!(wrdB p0.2.1)))
   (some (.t .bool false, []))
   (br ((sfxOk p0.2.2.1 (ByteArray.mk #[92])))
    (br ((sfxF p0.2.2.1 (ByteArray.mk #[92])))
     (some (.t .bool false, []))
     (br ((nameG p0.2.2.1))
      (br ((clB p0.2.2.1))
       (br ((oneOk2 p0.2.2.1 (ByteArray.mk #[9])))
        (br ((!(ctnF p0.2.2.1 (ByteArray.mk #[9]))))
         (br ((nameG p0.2.2.1))
          (some (.t .bool (seq (tB p0.2.2.1) p0.2.2.1), []))
          (none))
         (some (.t .bool false, [])))
        (none))
       (some (.t .bool false, [])))
      (none)))
    (none)))
  (none)
def r_f59 (p0 : Setting) : Option (V × List VO) :=
 br ((sne p0.1 (ByteArray.mk #[])))
  (br ((nameG p0.1))
   (br ((!(wrdB p0.1)))
    (some (.t .bool false, []))
    (r_f59_1 p0))
   (none))
  (r_f59_1 p0)
theorem e_f59 (p0 : Setting) : runF g_f59 tc_f59 rv_f59 false [.t tySetting p0] [] = r_f59 p0 := by kernel_rfl
theorem ok_f59 : Option.map (trC Tryd.prog) Tryd.f59.body = some tc_f59.er := by kernel_rfl
theorem rok_f59 : trVs Tryd.prog Tryd.f59.results.toList = some (rv_f59.map Prod.fst) := by kernel_rfl
theorem gk_f59 : GOk Tryd.prog g_f59 := gok_of _ (by
 intro p hp
 simp only [List.mem_cons, List.not_mem_nil, or_false] at hp
 rcases hp with rfl | rfl | rfl | rfl | rfl
 ·exact ⟨en_f103, ms_f103⟩
 ·exact ⟨en_f104, ms_f104⟩
 ·exact ⟨en_f105, ms_f105⟩
 ·exact ⟨en_f106, ms_f106⟩
 ·exact ⟨en_f107, ms_f107⟩)
theorem lk_f59 : tc_f59.lok g_f59 := by repeat (first | exact trivial | refine ⟨?_, ?_⟩)
theorem s_f59 (x : Setting) (h : rgtOk x = true) : r_f59 x = some (.t .bool (rgtB x), []) := by
 obtain ⟨h1, h⟩ := Bool.and_eq_true_iff.1 h
 obtain ⟨h2, h3⟩ := Bool.and_eq_true_iff.1 h
 have h4 : sfxOk x.2.2.1 (ByteArray.mk #[92]) = true := h3
 have h5 : oneOk2 x.2.2.1 (ByteArray.mk #[9]) = true := rfl
 unfold r_f59 rgtB valB
 simp only [r_f59, r_f59_1, h1, h2, h3, h4, h5, sfx_bsl, br_true, ← cl_vl, sne_seq]
 cases seq x.1 (ByteArray.mk #[]) <;> cases wrdB x.1 <;> cases wrdB x.2.1 <;> cases bsl x.2.2.1 <;> cases clB x.2.2.1 <;> cases ctnF x.2.2.1 (ByteArray.mk #[9]) <;> cases seq (tB x.2.2.1) x.2.2.1 <;> rfl
def sp_f59 : Ent := spec (.pr tySetting .nil) (fun x => (rgtOk x.1)) (fun x => (.t .bool (rgtB x.1)))
theorem ms_f59 : Meets Tryd.prog 59 (strip sp_f59) := by
 obtain ⟨c, hc, hi⟩ := Option.map_eq_some_iff.1 ok_f59
 exact meets_spec (R := runF g_f59 tc_f59 rv_f59 false) (meets_of (by decide) Tryd.func59 hc hi Tryd.ntmps59 rok_f59 gk_f59 lk_f59 mixed) fun x hok => (e_f59 x.1).trans (s_f59 x.1 hok)
end
end Go.Proofs.YtkkoedniahnneaaDoor.K
