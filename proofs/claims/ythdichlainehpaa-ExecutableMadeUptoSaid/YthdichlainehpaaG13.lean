/-
  The law's own executables: mostly valid.
-/
import Derived.Test.YthdichlainehpaaG12
import Derived.Test.YthdichlainehpaaG7N
set_option linter.unusedSimpArgs false
set_option linter.unusedVariables false
namespace Go.Proofs.Ythdichlainehpaa.K.OX
open Go.RowKit Go.Shelf
noncomputable section
def addE (x4 : Int) : Section := ((scat (ByteArray.mk #[115]) (strOf ([(icv .u8 (iadd .i64 97 x4))]))), (([] : List Int), ()))
def addS (k : Nat) : List Section := (List.range' k (15 - k)).map fun j : Nat => addE (j : Int)
def addF (x5 : Int) : Symbol := ((scat (ByteArray.mk #[116]) (strOf ([(icv .u8 (iadd .i64 97 (irem x5 26))), (icv .u8 (iadd .i64 97 (iquo .i64 x5 26)))]))), ((0 : Int), ()))
def addT : Nat → Int → Dice → List Symbol × Dice
  | 0, _, d => ([], d)
  | n + 1, i, d => bif ilt i (iadd .i64 61 (dval d 6)) then (addF i :: (addT n (iadd .i64 i 1) (dnext d 6)).1, (addT n (iadd .i64 i 1) (dnext d 6)).2) else ([], dnext d 6)
def WA : List ByteArray := [(ByteArray.mk #[]), (ByteArray.mk #[97, 32, 98]), (ByteArray.mk #[46, 116, 101, 120, 116]), (ByteArray.mk #[113])]
def WB : List ByteArray := [(ByteArray.mk #[109, 97, 105, 110]), (ByteArray.mk #[]), (ByteArray.mk #[122])]
def VA : List Int := [0, 4000, 4096]
def VB : List Int := [4294967296, (-1), 4294967295]
def d1M (d : Dice) : Dice := dnext (imgN d) 12
def secM (d : Dice) : Section := ((dwdG (d1M d) WA), ((makeL (.int .u8) (dof (dwdGN (d1M d) WA) VA) (dof (dwdGN (d1M d) WA) VA)), ()))
def symM (d : Dice) : Symbol := ((dwdG (d1M d) WB), ((dof (dwdGN (d1M d) WB) VB), ()))
def madeV (d : Dice) : Image :=
  bif ieq (dval (imgN d) 12) 0 then ((imgV d).1 ++ [secM d], ((imgV d).2.1, ()))
  else bif ieq (dval (imgN d) 12) 1 then ((imgV d).1, ((imgV d).2.1 ++ [symM d], ()))
  else bif ieq (dval (imgN d) 12) 2 then ((imgV d).1 ++ addS 0, ((imgV d).2.1, ()))
  else bif ieq (dval (imgN d) 12) 3 then ((imgV d).1, ((imgV d).2.1 ++ (addT 67 0 (d1M d)).1, ()))
  else imgV d
def madeN (d : Dice) : Dice :=
  bif ieq (dval (imgN d) 12) 0 then dofN (dwdGN (d1M d) WA) VA
  else bif ieq (dval (imgN d) 12) 1 then dofN (dwdGN (d1M d) WB) VB
  else bif ieq (dval (imgN d) 12) 2 then d1M d
  else bif ieq (dval (imgN d) 12) 3 then (addT 67 0 (d1M d)).2
  else d1M d
theorem addT_ok : ∀ (n : Nat) (i : Int) {d : Dice}, dOk d = true → dOk (addT n i d).2 = true
  | 0, _, _, h => h
  | n + 1, i, d, h => by
    unfold addT
    cases ilt i (iadd .i64 61 (dval d 6)) with
    | true => exact addT_ok n _ (dok_next 6 h)
    | false => exact dok_next 6 h
theorem addT_len : ∀ (n : Nat) (i : Int) (d : Dice), (addT n i d).1.length ≤ n
  | 0, _, _ => Nat.le_refl _
  | n + 1, i, d => by
    unfold addT
    cases ilt i (iadd .i64 61 (dval d 6)) with
    | true => exact Nat.succ_le_succ (addT_len n _ _)
    | false => exact Nat.zero_le _
theorem addT_small : ∀ (n : Nat) (i : Int) (d : Dice), ∀ z ∈ (addT n i d).1, z.1.size ≤ 32
  | 0, _, _, z, h => by cases h
  | n + 1, i, d, z, h => by
    unfold addT at h
    cases hc : ilt i (iadd .i64 61 (dval d 6)) with
    | false => rw [hc] at h; cases h
    | true =>
      rw [hc] at h
      rcases List.mem_cons.1 h with rfl | h
      · show (ByteArray.mk #[116] ++ strOf _).size ≤ 32
        rw [ByteArray.size_append, strOf_size]
        show 1 + 2 ≤ 32
        omega
      · exact addT_small n _ _ z h
theorem img_okN {d : Dice} (h : dOk d = true) : dOk (imgN d) = true := syms_okG _ (secs_okG 4 0 h)
theorem made_ok {d : Dice} (h : dOk d = true) : dOk (madeN d) = true := by
  have h1 : dOk (d1M d) = true := dok_next 12 (img_okN h)
  unfold madeN
  cases ieq (dval (imgN d) 12) 0
  · cases ieq (dval (imgN d) 12) 1
    · cases ieq (dval (imgN d) 12) 2
      · cases ieq (dval (imgN d) 12) 3
        · exact h1
        · exact addT_ok 67 0 h1
      · exact h1
    · exact dok_next VB.length (dok_next WB.length h1)
  · exact dok_next VA.length (dok_next WA.length h1)
/-- so large may it be -/
def goodX (x : Image) : Bool := decide (x.1.length ≤ 100 ∧ x.2.1.length ≤ 100) && x.1.all (fun z => decide (z.1.size ≤ 4000000 ∧ z.2.1.length ≤ 4000000)) && x.2.1.all fun z => decide (z.1.size ≤ 4000000)
theorem good_parts {x : Image} : goodX x = true ↔ (x.1.length ≤ 100 ∧ x.2.1.length ≤ 100) ∧ (∀ z ∈ x.1, z.1.size ≤ 4000000 ∧ z.2.1.length ≤ 4000000) ∧ ∀ z ∈ x.2.1, z.1.size ≤ 4000000 := by
  simp only [goodX, Bool.and_eq_true, decide_eq_true_eq, List.all_eq_true, and_assoc]
theorem img_good (d : Dice) : ((imgV d).1.length ≤ 4 ∧ (imgV d).2.1.length ≤ 7) ∧ (∀ z ∈ (imgV d).1, z.1.size ≤ 4000000 ∧ z.2.1.length ≤ 4000000) ∧ ∀ z ∈ (imgV d).2.1, z.1.size ≤ 4000000 := by
  obtain ⟨h1, h2, h3, h4, h5⟩ := bad_facts (img_ok d)
  have t2 := syms_names namesG (secsG 4 0 d).2
  have a2 : (imgV d).2.1.length ≤ 7 := by
    have := t2.length_le
    rw [List.length_map] at this
    exact this
  exact ⟨⟨secs_lenG 4 0 d, a2⟩, fun z hz => by have := h3 z hz; omega, fun z hz => by have := (h4 z hz).1; omega⟩
theorem made_good (d : Dice) : goodX (madeV d) = true := by
  obtain ⟨⟨h1, h2⟩, h3, h4⟩ := img_good d
  rw [good_parts]
  unfold madeV
  have app : ∀ {α : Type} {P : α → Prop} {l r : List α}, (∀ z ∈ l, P z) → (∀ z ∈ r, P z) → ∀ z ∈ l ++ r, P z := fun hl hr z hz => (List.mem_append.1 hz).elim (hl z) (hr z)
  cases ieq (dval (imgN d) 12) 0
  · cases ieq (dval (imgN d) 12) 1
    · cases ieq (dval (imgN d) 12) 2
      · cases ieq (dval (imgN d) 12) 3
        · exact ⟨⟨by show (imgV d).1.length ≤ 100; omega, by show (imgV d).2.1.length ≤ 100; omega⟩, h3, h4⟩
        · have := addT_len 67 0 (d1M d)
          refine ⟨⟨by show (imgV d).1.length ≤ 100; omega, ?_⟩, h3, app h4 fun z hz => by have := addT_small 67 0 _ z hz; omega⟩
          show ((imgV d).2.1 ++ (addT 67 0 (d1M d)).1).length ≤ 100
          rw [List.length_append]
          omega
      · refine ⟨⟨?_, by show (imgV d).2.1.length ≤ 100; omega⟩, app h3 fun z hz => ?_, h4⟩
        · show ((imgV d).1 ++ addS 0).length ≤ 100
          rw [List.length_append, show (addS 0).length = 15 from rfl]
          omega
        · obtain ⟨j, _, rfl⟩ := List.mem_map.1 hz
          refine ⟨?_, by show (0 : Nat) ≤ 4000000; omega⟩
          show (ByteArray.mk #[115] ++ strOf _).size ≤ 4000000
          rw [ByteArray.size_append, strOf_size]
          show 1 + 1 ≤ 4000000
          omega
    · refine ⟨⟨by show (imgV d).1.length ≤ 100; omega, ?_⟩, h3, app h4 fun z hz => ?_⟩
      · show ((imgV d).2.1 ++ [symM d]).length ≤ 100
        rw [List.length_append, List.length_singleton]
        omega
      · rw [List.mem_singleton.1 hz]
        show (dwdG (d1M d) WB).size ≤ 4000000
        have hall : ∀ s ∈ WB, s.size ≤ 4000000 := by decide
        have hv := dval_lt (d := d1M d) (n := (WB.length : Int)) (by decide)
        have hl : (dval (d1M d) (WB.length : Int)).toNat < WB.length := by omega
        unfold dwdG
        rw [List.getD_eq_getElem?_getD, List.getElem?_eq_getElem hl]
        exact hall _ (List.getElem_mem hl)
  · refine ⟨⟨?_, by show (imgV d).2.1.length ≤ 100; omega⟩, app h3 fun z hz => ?_, h4⟩
    · show ((imgV d).1 ++ [secM d]).length ≤ 100
      rw [List.length_append, List.length_singleton]
      omega
    · rw [List.mem_singleton.1 hz]
      constructor
      · show (dwdG (d1M d) WA).size ≤ 4000000
        have hall : ∀ s ∈ WA, s.size ≤ 4000000 := by decide
        have hv := dval_lt (d := d1M d) (n := (WA.length : Int)) (by decide)
        have hl : (dval (d1M d) (WA.length : Int)).toNat < WA.length := by omega
        unfold dwdG
        rw [List.getD_eq_getElem?_getD, List.getElem?_eq_getElem hl]
        exact hall _ (List.getElem_mem hl)
      · show (List.replicate _ _).length ≤ 4000000
        rw [List.length_replicate]
        have hall : ∀ n ∈ VA, n.toNat ≤ 4000000 := by decide
        have hv := dval_lt (d := dwdGN (d1M d) WA) (n := (VA.length : Int)) (by decide)
        have hl : (dval (dwdGN (d1M d) WA) (VA.length : Int)).toNat < VA.length := by omega
        unfold dof
        rw [List.getD_eq_getElem?_getD, List.getElem?_eq_getElem hl]
        exact hall _ (List.getElem_mem hl)
def dr_f46_0 : List DO := [(.mk (oP 12 (.fa 0 (.t 3))) []), (.mk (oL 13 12) [0]), (.mk (oV 14 0) []), (.mk (oM 15 (.bs 9 1 4 [(.v (.string (ByteArray.mk #[]))), (.v (.string (ByteArray.mk #[]))), (.v (.string (ByteArray.mk #[]))), (.v (.string (ByteArray.mk #[])))] [(0, 1, (.c (.v (.string (ByteArray.mk #[]))))), (1, 1, (.c (.v (.string (ByteArray.mk #[97, 32, 98]))))), (2, 1, (.c (.v (.string (ByteArray.mk #[46, 116, 101, 120, 116]))))), (3, 1, (.c (.v (.string (ByteArray.mk #[113])))))])) []), (.mk (oC 16 44 [(.t 14), (.t 15)]) [2, 3]), (.mk (oV 17 0) []), (.mk (oM 18 (.bs 3 1 3 [(.v (.int .i64 0)), (.v (.int .i64 0)), (.v (.int .i64 0))] [(0, 1, (cI 0)), (1, 1, (cI 4000)), (2, 1, (cI 4096))])) []), (.mk (oC 19 37 [(.t 17), (.t 18)]) [5, 6, 4]), (.mk (oC 20 1000625 [(.t 19), (.t 19)]) [7, 7]), (.mk (oP 21 (.bd [(.v (.string (ByteArray.mk #[]))), (.v (.slice none 0 0))] [(0, 1, (.t 16)), (1, 1, (.t 20))])) [4, 8]), (.mk (oM 22 (.bs 91 2 1 [(.v (.string (ByteArray.mk #[]))), (.v (.slice none 0 0))] [(0, 2, (.t 21))])) [9]), (.mk (oM 23 (.app 91 2 40 (.t 13) (.t 22))) [1, 10, 7]), (.mk (oP 24 (.fa 0 (.t 3))) [0, 1, 2, 3, 4, 5, 6, 7, 8, 9, 10, 11]), (.mk (.mk none none (.m (.st 1 (.t 24) (.t 23)))) [12, 11, 11, 0, 1, 2, 3, 4, 5, 6, 7, 8, 9, 10, 11])]
def dr_f46_1 : List DO := [(.mk (oP 27 (.fa 1 (.t 3))) []), (.mk (oL 28 27) [0]), (.mk (oV 29 0) []), (.mk (oM 30 (.bs 9 1 3 [(.v (.string (ByteArray.mk #[]))), (.v (.string (ByteArray.mk #[]))), (.v (.string (ByteArray.mk #[])))] [(0, 1, (.c (.v (.string (ByteArray.mk #[109, 97, 105, 110]))))), (1, 1, (.c (.v (.string (ByteArray.mk #[]))))), (2, 1, (.c (.v (.string (ByteArray.mk #[122])))))])) []), (.mk (oC 31 44 [(.t 29), (.t 30)]) [2, 3]), (.mk (oV 32 0) []), (.mk (oM 33 (.bs 3 1 3 [(.v (.int .i64 0)), (.v (.int .i64 0)), (.v (.int .i64 0))] [(0, 1, (cI 4294967296)), (1, 1, (cI (-1))), (2, 1, (cI 4294967295))])) []), (.mk (oC 34 37 [(.t 32), (.t 33)]) [5, 6, 4]), (.mk (oP 35 (.bd [(.v (.string (ByteArray.mk #[]))), (.v (.int .i64 0))] [(0, 1, (.t 31)), (1, 1, (.t 34))])) [4, 7]), (.mk (oM 36 (.bs 69 2 1 [(.v (.string (ByteArray.mk #[]))), (.v (.int .i64 0))] [(0, 2, (.t 35))])) [8]), (.mk (oM 37 (.app 69 2 24 (.t 28) (.t 36))) [1, 9, 7]), (.mk (oP 38 (.fa 1 (.t 3))) [0, 1, 2, 3, 4, 5, 6, 7, 8, 9, 10]), (.mk (.mk none none (.m (.st 1 (.t 38) (.t 37)))) [11, 10, 10, 0, 1, 2, 3, 4, 5, 6, 7, 8, 9, 10])]
def fg_f46_0 : Fg := ⟨[(2, none), (3, none), (4, some tI)], [(2, some tyImage), (3, none), (7, none), (23, none), (37, none), (55, none), (81, none), (5007, none), (10007, none), (15007, none), (20300, none), (20301, none), (50000, some tyDice)]⟩
def tb_f46_0 : TC := (.sq (.sq (.reg [(oV 41 4), (oP 42 (.bin false .lss (.t 41) (cI 15)))]) (.cd (.t 42) .sk (.fg ⟨[(2, none), (3, none)], [(2, some tyImage), (3, some tyImage), (7, none), (23, none), (37, none), (55, none), (81, none), (5007, none), (10007, none), (15007, none), (20300, none), (20301, none), (50000, some tyDice)]⟩ (.ex 1)))) (.sq (.bk 2 (.reg [(oP 45 (.fa 0 (.t 3))), (oL 46 45), (oV 47 4), (oP 48 (.bin false .add (cI 97) (.t 47))), (oP 49 (.cv .u8 (.t 48))), (oM 50 (.bs 5 1 1 [(.v (.int .u8 0))] [(0, 1, (.t 49))])), (oC 51 2440624 [(.t 50)]), (oP 52 (.bin false .add (.c (.v (.string (ByteArray.mk #[115])))) (.t 51))), (oP 53 (.bd [(.v (.string (ByteArray.mk #[]))), (.v (.slice none 0 0))] [(0, 1, (.t 52))])), (oM 54 (.bs 91 2 1 [(.v (.string (ByteArray.mk #[]))), (.v (.slice none 0 0))] [(0, 2, (.t 53))])), (oM 55 (.app 91 2 40 (.t 46) (.t 54))), (oP 56 (.fa 0 (.t 3))), (.mk none none (.m (.st 1 (.t 56) (.t 55))))])) (.reg [(oV 43 4), (oP 44 (.bin false .add (.t 43) (cI 1))), (oV 4 44)])))
def fg_f46_1 : Fg := ⟨[(0, none), (2, none), (3, none), (5, some tI)], [(2, some tyImage), (3, none), (7, none), (23, none), (37, none), (55, none), (81, none), (5007, none), (10007, none), (15007, none), (20300, none), (20301, none), (50000, some tyDice)]⟩
def tb_f46_1 : TC := (.sq (.sq (.reg [(oV 59 5), (oV 60 0), (oC 61 36 [(.t 60), (cI 6)]), (oP 62 (.bin false .add (cI 61) (.t 61))), (oP 63 (.bin false .lss (.t 59) (.t 62)))]) (.cd (.t 63) .sk (.fg ⟨[(2, none), (3, none)], [(2, some tyImage), (3, some tyImage), (7, none), (23, none), (37, none), (55, none), (81, none), (5007, none), (10007, none), (15007, none), (20300, none), (20301, none), (50000, some tyDice)]⟩ (.ex 3)))) (.sq (.bk 4 (.reg [(oP 66 (.fa 1 (.t 3))), (oL 67 66), (oV 68 5), (oP 69 (.bin false .rem (.t 68) (cI 26))), (oP 70 (.bin false .add (cI 97) (.t 69))), (oP 71 (.cv .u8 (.t 70))), (oV 72 5), (oP 73 (.bin false .quo (.t 72) (cI 26))), (oP 74 (.bin false .add (cI 97) (.t 73))), (oP 75 (.cv .u8 (.t 74))), (oM 76 (.bs 5 1 2 [(.v (.int .u8 0)), (.v (.int .u8 0))] [(0, 1, (.t 71)), (1, 1, (.t 75))])), (oC 77 2440624 [(.t 76)]), (oP 78 (.bin false .add (.c (.v (.string (ByteArray.mk #[116])))) (.t 77))), (oP 79 (.bd [(.v (.string (ByteArray.mk #[]))), (.v (.int .i64 0))] [(0, 1, (.t 78))])), (oM 80 (.bs 69 2 1 [(.v (.string (ByteArray.mk #[]))), (.v (.int .i64 0))] [(0, 2, (.t 79))])), (oM 81 (.app 69 2 24 (.t 67) (.t 80))), (oP 82 (.fa 1 (.t 3))), (.mk none none (.m (.st 1 (.t 82) (.t 81))))])) (.reg [(oV 64 5), (oP 65 (.bin false .add (.t 64) (cI 1))), (oV 5 65)])))
/-- cipherplan/cipherplanlaw10.made -/
def tc_f46 : TC := (.sq (.reg [(oM 2 (.new [(.v (.slice none 0 0)), (.v (.slice none 0 0))]))]) (.sq (.reg [(oV 6 0), (oC 7 35 [(.t 6)]), (oM 3 (.new [(.v (.slice none 0 0)), (.v (.slice none 0 0))])), (.mk none none (.m (.st 2 (.t 3) (.t 7))))]) (.sq (.sq (.reg [(oV 8 0), (oC 9 36 [(.t 8), (cI 12)])]) (.bk 0 (.sq (.reg [(oP 11 (.bin false .eql (.t 9) (cI 0))), (oV 10 11)]) (.cd (.t 10) (.dr dr_f46_0 [(0, [3, 7, 23, 37, 55, 81, 5007, 10007, 15007, 20300, 20301]), (1, [3, 7, 23, 37, 55, 81, 5007, 10007, 15007, 20300, 20301]), (2, [50000]), (3, []), (4, [16, 5016, 10016, 15016, 50000]), (5, [50000]), (6, []), (7, [19, 5019, 10019, 15019, 50000]), (8, [20, 5020, 10020, 15020]), (9, [20, 5020, 10020, 15020]), (10, [20, 22, 5020, 5022, 10020, 10022, 15020, 15022]), (11, [2, 3, 7, 22, 23, 37, 55, 81, 5007, 5023, 10007, 10023, 15007, 15023, 20300, 20301]), (12, [3, 7, 23, 37, 55, 81, 5007, 10007, 15007, 20300, 20301]), (13, [2, 3, 7, 23, 37, 55, 81, 5007, 10007, 15007, 20300, 20301])] (.of [0, 1, 2, 3, 5, 6, 4, 7, 8, 9, 10, 11, 12, 13])) (.sq (.reg [(oP 26 (.bin false .eql (.t 9) (cI 1))), (oV 25 26)]) (.cd (.t 25) (.dr dr_f46_1 [(0, [3, 7, 23, 37, 55, 81, 5007, 10007, 15007, 20300, 20301]), (1, [3, 7, 23, 37, 55, 81, 5007, 10007, 15007, 20300, 20301]), (2, [50000]), (3, []), (4, [31, 5031, 10031, 15031, 50000]), (5, [50000]), (6, []), (7, [34, 5034, 10034, 15034, 50000]), (8, []), (9, []), (10, [2, 3, 7, 23, 37, 55, 81, 5007, 5037, 10007, 10037, 15007, 15037, 20300, 20301]), (11, [3, 7, 23, 37, 55, 81, 5007, 10007, 15007, 20300, 20301]), (12, [2, 3, 7, 23, 37, 55, 81, 5007, 10007, 15007, 20300, 20301])] (.of [0, 1, 2, 3, 5, 6, 4, 7, 8, 9, 10, 11, 12])) (.sq (.reg [(oP 40 (.bin false .eql (.t 9) (cI 2))), (oV 39 40)]) (.cd (.t 39) (.sq (.reg [(oP 4 (.mv (cI 0)))]) (.bk 1 (.nf 3 1 69 20301 (.nf 3 0 91 20300 (.lp 0 fg_f46_0 tb_f46_0))))) (.sq (.reg [(oP 58 (.bin false .eql (.t 9) (cI 3))), (oV 57 58)]) (.cd (.t 57) (.sq (.reg [(oP 5 (.mv (cI 0)))]) (.bk 3 (.nf 3 0 91 20300 (.nf 3 1 69 20301 (.lp 1 fg_f46_1 tb_f46_1))))) .sk)))))))))) (.sq (.reg [(oM 83 (.ld true 2 (.t 3))), (.mk none none (.m (.st 2 (.t 2) (.t 83))))]) .rt))))
def rv_f46 : List (RV × Option Ty) := [((.c 2 true 2), some tyImage)]
abbrev sh_f46_0 : Sh := ⟨[(2, .ptr 2 0), (3, .ptr 3 0), (4, .ty tI)], [(2, .box tyImage), (3, .bag [.ms 7, .ms 5007]), (7, .arr 91 tySection), (23, .no), (37, .no), (55, .no), (81, .no), (5007, .arr 69 tySymbol), (10007, .no), (15007, .no), (20300, .no), (20301, .no), (50000, .box tyDice)]⟩
def st_f46_0 (x4 : Int) (y2 : Image) (y7 : (List Section)) (y5007 : (List Symbol)) (y50000 : Dice) : VS := sh_f46_0.st ((), (), x4, ()) (y2, ((), (), ()), y7, (), (), (), (), y5007, (), (), (), (), y50000, ())
abbrev sh_f46_0_e1 : Sh := ⟨[(2, .ptr 2 0), (3, .ptr 3 0)], [(2, .box tyImage), (3, .bag [.ms 7, .ms 5007]), (7, .arr 91 tySection), (23, .no), (37, .no), (55, .no), (81, .no), (5007, .arr 69 tySymbol), (10007, .no), (15007, .no), (20300, .no), (20301, .no), (50000, .box tyDice)]⟩
def st_f46_0_e1 (y2 : Image) (y7 : (List Section)) (y5007 : (List Symbol)) (y50000 : Dice) : VS := sh_f46_0_e1.st ((), (), ()) (y2, ((), (), ()), y7, (), (), (), (), y5007, (), (), (), (), y50000, ())
-- loop 0: (x4 : Int) (y2 : Image) (y7 : (List Section)) (y5007 : (List Symbol)) (y50000 : Dice); out: ('exit', 1) (y2 : Image) (y7 : (List Section)) (y5007 : (List Symbol)) (y50000 : Dice)
abbrev sh_f46_1 : Sh := ⟨[(0, .ptr 50000 0), (2, .ptr 2 0), (3, .ptr 3 0), (5, .ty tI)], [(2, .box tyImage), (3, .bag [.ms 7, .ms 5007]), (7, .arr 91 tySection), (23, .no), (37, .no), (55, .no), (81, .no), (5007, .arr 69 tySymbol), (10007, .no), (15007, .no), (20300, .no), (20301, .no), (50000, .box tyDice)]⟩
def st_f46_1 (x5 : Int) (y2 : Image) (y7 : (List Section)) (y5007 : (List Symbol)) (y50000 : Dice) : VS := sh_f46_1.st ((), (), (), x5, ()) (y2, ((), (), ()), y7, (), (), (), (), y5007, (), (), (), (), y50000, ())
abbrev sh_f46_1_e3 : Sh := ⟨[(2, .ptr 2 0), (3, .ptr 3 0)], [(2, .box tyImage), (3, .bag [.ms 7, .ms 5007]), (7, .arr 91 tySection), (23, .no), (37, .no), (55, .no), (81, .no), (5007, .arr 69 tySymbol), (10007, .no), (15007, .no), (20300, .no), (20301, .no), (50000, .box tyDice)]⟩
def st_f46_1_e3 (y2 : Image) (y7 : (List Section)) (y5007 : (List Symbol)) (y50000 : Dice) : VS := sh_f46_1_e3.st ((), (), ()) (y2, ((), (), ()), y7, (), (), (), (), y5007, (), (), (), (), y50000, ())
-- loop 1: (x5 : Int) (y2 : Image) (y7 : (List Section)) (y5007 : (List Symbol)) (y50000 : Dice); out: ('exit', 3) (y2 : Image) (y7 : (List Section)) (y5007 : (List Symbol)) (y50000 : Dice)
def L_f46_0 : VS → Option (Bool × List (Bool × Exit × VS)) := mkL sh_f46_0 (fun x y => (decide (0 ≤ x.2.2.1 ∧ x.2.2.1 ≤ 15 ∧ y.2.2.1.length ≤ 100 + x.2.2.1.toNat))) (fun x y => [(true, .exit 1, st_f46_0_e1 (y.1) (y.2.2.1 ++ addS x.2.2.1.toNat) (y.2.2.2.2.2.2.2.1) (y.2.2.2.2.2.2.2.2.2.2.2.2.1))])
def L_f46_1 : VS → Option (Bool × List (Bool × Exit × VS)) := mkL sh_f46_1 (fun x y => (dOk y.2.2.2.2.2.2.2.2.2.2.2.2.1 && decide (0 ≤ x.2.2.2.1 ∧ x.2.2.2.1 ≤ 66 ∧ y.2.2.2.2.2.2.2.1.length ≤ 100 + x.2.2.2.1.toNat))) (fun x y => [(true, .exit 3, st_f46_1_e3 (y.1) (y.2.2.1) (y.2.2.2.2.2.2.2.1 ++ (addT (67 - x.2.2.2.1.toNat) x.2.2.2.1 y.2.2.2.2.2.2.2.2.2.2.2.2.1).1) ((addT (67 - x.2.2.2.1.toNat) x.2.2.2.1 y.2.2.2.2.2.2.2.2.2.2.2.2.1).2))])
def g_f46 : G := ⟨TYs, [22], 84, EL [(35, sp_f35), (36, sp_f36), (37, sp_f37), (44, sp_f44), (1000625, sp_op_make_39), (2440624, sp_op_convert_39_9)], keeps, (Ls [L_f46_0, L_f46_1]), IL [], RL []⟩
def b_f46_0 (x4 : Int) (y2 : Image) (y7 : (List Section)) (y5007 : (List Symbol)) (y50000 : Dice) : Option (Exit × VS) :=
  br ((ilt x4 15))
    (br (cCat (ByteArray.mk #[115]) (strOf ([(icv .u8 (iadd .i64 97 x4))])))
      (br (cApp y7 ([((scat (ByteArray.mk #[115]) (strOf ([(icv .u8 (iadd .i64 97 x4))]))), (([] : List Int), ()))]) 40)
        (some (.normal, st_f46_0 (iadd .i64 x4 1) y2 (y7 ++ ([((scat (ByteArray.mk #[115]) (strOf ([(icv .u8 (iadd .i64 97 x4))]))), (([] : List Int), ()))])) y5007 y50000))
        (none))
      (none))
    (some (.exit 1, st_f46_0_e1 y2 y7 y5007 y50000))
noncomputable def lp_f46_0 (x4 : Int) (y2 : Image) (y7 : (List Section)) (y5007 : (List Symbol)) (y50000 : Dice) : Option (Exit × VS) := loopF (roundF g_f46 fg_f46_0 tb_f46_0) (st_f46_0 x4 y2 y7 y5007 y50000)
noncomputable def n_f46_0 (x4 : Int) (y2 : Image) (y7 : (List Section)) (y5007 : (List Symbol)) (y50000 : Dice) : Option (Exit × VS) :=
  br ((ilt x4 15))
    (br (cCat (ByteArray.mk #[115]) (strOf ([(icv .u8 (iadd .i64 97 x4))])))
      (br (cApp y7 ([((scat (ByteArray.mk #[115]) (strOf ([(icv .u8 (iadd .i64 97 x4))]))), (([] : List Int), ()))]) 40)
        (lp_f46_0 (iadd .i64 x4 1) y2 (y7 ++ ([((scat (ByteArray.mk #[115]) (strOf ([(icv .u8 (iadd .i64 97 x4))]))), (([] : List Int), ()))])) y5007 y50000)
        (none))
      (none))
    (some (.exit 1, st_f46_0_e1 y2 y7 y5007 y50000))
def la_f46_0 (x4 : Int) (y2 : Image) (y7 : (List Section)) (y5007 : (List Symbol)) (y50000 : Dice) : Option (Exit × VS) := some (.exit 1, st_f46_0_e1 (y2) (y7 ++ addS x4.toNat) (y5007) (y50000))
theorem be_f46_0 (x4 : Int) (y2 : Image) (y7 : (List Section)) (y5007 : (List Symbol)) (y50000 : Dice) : roundF g_f46 fg_f46_0 tb_f46_0 (st_f46_0 x4 y2 y7 y5007 y50000) = b_f46_0 x4 y2 y7 y5007 y50000 := by kernel_rfl
theorem ln_f46_0 (x4 : Int) (y2 : Image) (y7 : (List Section)) (y5007 : (List Symbol)) (y50000 : Dice) : lp_f46_0 x4 y2 y7 y5007 y50000 = n_f46_0 x4 y2 y7 y5007 y50000 := (loopF_nxt _ _).trans (by
  rw [be_f46_0]
  simp only [b_f46_0, n_f46_0, nxt_br, nxt_n, nxt_r, nxt_e, nxt_0]
  rfl)
def b_f46_1 (x5 : Int) (y2 : Image) (y7 : (List Section)) (y5007 : (List Symbol)) (y50000 : Dice) : Option (Exit × VS) :=
  br ((nextOk y50000 6))
    (br ((ilt x5 (iadd .i64 61 (dval y50000 6))))
      (br (cNz 26)
        (br (cNz 26)
          (br (cCat (ByteArray.mk #[116]) (strOf ([(icv .u8 (iadd .i64 97 (irem x5 26))), (icv .u8 (iadd .i64 97 (iquo .i64 x5 26)))])))
            (br (cApp y5007 ([((scat (ByteArray.mk #[116]) (strOf ([(icv .u8 (iadd .i64 97 (irem x5 26))), (icv .u8 (iadd .i64 97 (iquo .i64 x5 26)))]))), (0, ()))]) 24)
              (some (.normal, st_f46_1 (iadd .i64 x5 1) y2 y7 (y5007 ++ ([((scat (ByteArray.mk #[116]) (strOf ([(icv .u8 (iadd .i64 97 (irem x5 26))), (icv .u8 (iadd .i64 97 (iquo .i64 x5 26)))]))), (0, ()))])) (dnext y50000 6)))
              (none))
            (none))
          (none))
        (none))
      (some (.exit 3, st_f46_1_e3 y2 y7 y5007 (dnext y50000 6))))
    (none)
noncomputable def lp_f46_1 (x5 : Int) (y2 : Image) (y7 : (List Section)) (y5007 : (List Symbol)) (y50000 : Dice) : Option (Exit × VS) := loopF (roundF g_f46 fg_f46_1 tb_f46_1) (st_f46_1 x5 y2 y7 y5007 y50000)
noncomputable def n_f46_1 (x5 : Int) (y2 : Image) (y7 : (List Section)) (y5007 : (List Symbol)) (y50000 : Dice) : Option (Exit × VS) :=
  br ((nextOk y50000 6))
    (br ((ilt x5 (iadd .i64 61 (dval y50000 6))))
      (br (cNz 26)
        (br (cNz 26)
          (br (cCat (ByteArray.mk #[116]) (strOf ([(icv .u8 (iadd .i64 97 (irem x5 26))), (icv .u8 (iadd .i64 97 (iquo .i64 x5 26)))])))
            (br (cApp y5007 ([((scat (ByteArray.mk #[116]) (strOf ([(icv .u8 (iadd .i64 97 (irem x5 26))), (icv .u8 (iadd .i64 97 (iquo .i64 x5 26)))]))), (0, ()))]) 24)
              (lp_f46_1 (iadd .i64 x5 1) y2 y7 (y5007 ++ ([((scat (ByteArray.mk #[116]) (strOf ([(icv .u8 (iadd .i64 97 (irem x5 26))), (icv .u8 (iadd .i64 97 (iquo .i64 x5 26)))]))), (0, ()))])) (dnext y50000 6))
              (none))
            (none))
          (none))
        (none))
      (some (.exit 3, st_f46_1_e3 y2 y7 y5007 (dnext y50000 6))))
    (none)
def la_f46_1 (x5 : Int) (y2 : Image) (y7 : (List Section)) (y5007 : (List Symbol)) (y50000 : Dice) : Option (Exit × VS) := some (.exit 3, st_f46_1_e3 (y2) (y7) (y5007 ++ (addT (67 - x5.toNat) x5 y50000).1) ((addT (67 - x5.toNat) x5 y50000).2))
theorem be_f46_1 (x5 : Int) (y2 : Image) (y7 : (List Section)) (y5007 : (List Symbol)) (y50000 : Dice) : roundF g_f46 fg_f46_1 tb_f46_1 (st_f46_1 x5 y2 y7 y5007 y50000) = b_f46_1 x5 y2 y7 y5007 y50000 := by kernel_rfl
theorem ln_f46_1 (x5 : Int) (y2 : Image) (y7 : (List Section)) (y5007 : (List Symbol)) (y50000 : Dice) : lp_f46_1 x5 y2 y7 y5007 y50000 = n_f46_1 x5 y2 y7 y5007 y50000 := (loopF_nxt _ _).trans (by
  rw [be_f46_1]
  simp only [b_f46_1, n_f46_1, nxt_br, nxt_n, nxt_r, nxt_e, nxt_0]
  rfl)
def r_f46 (d0 : Dice) : Option (V × List VO) :=
  br ((dOk d0))
    (br ((nextOk (imgN d0) 12))
      (br ((ieq (dval (imgN d0) 12) 0))
        (br ((wdGOk (dnext (imgN d0) 12) ([(ByteArray.mk #[]), (ByteArray.mk #[97, 32, 98]), (ByteArray.mk #[46, 116, 101, 120, 116]), (ByteArray.mk #[113])])))
          (br ((ofOk (dwdGN (dnext (imgN d0) 12) ([(ByteArray.mk #[]), (ByteArray.mk #[97, 32, 98]), (ByteArray.mk #[46, 116, 101, 120, 116]), (ByteArray.mk #[113])])) ([0, 4000, 4096])))
            (br ((makeOk (dof (dwdGN (dnext (imgN d0) 12) ([(ByteArray.mk #[]), (ByteArray.mk #[97, 32, 98]), (ByteArray.mk #[46, 116, 101, 120, 116]), (ByteArray.mk #[113])])) ([0, 4000, 4096])) (dof (dwdGN (dnext (imgN d0) 12) ([(ByteArray.mk #[]), (ByteArray.mk #[97, 32, 98]), (ByteArray.mk #[46, 116, 101, 120, 116]), (ByteArray.mk #[113])])) ([0, 4000, 4096]))))
              (br (cApp ((imgV d0).1) ([((dwdG (dnext (imgN d0) 12) ([(ByteArray.mk #[]), (ByteArray.mk #[97, 32, 98]), (ByteArray.mk #[46, 116, 101, 120, 116]), (ByteArray.mk #[113])])), ((makeL (.int .u8) (dof (dwdGN (dnext (imgN d0) 12) ([(ByteArray.mk #[]), (ByteArray.mk #[97, 32, 98]), (ByteArray.mk #[46, 116, 101, 120, 116]), (ByteArray.mk #[113])])) ([0, 4000, 4096])) (dof (dwdGN (dnext (imgN d0) 12) ([(ByteArray.mk #[]), (ByteArray.mk #[97, 32, 98]), (ByteArray.mk #[46, 116, 101, 120, 116]), (ByteArray.mk #[113])])) ([0, 4000, 4096]))), ()))]) 40)
                (some (.t tyImage ((((imgV d0).1) ++ ([((dwdG (dnext (imgN d0) 12) ([(ByteArray.mk #[]), (ByteArray.mk #[97, 32, 98]), (ByteArray.mk #[46, 116, 101, 120, 116]), (ByteArray.mk #[113])])), ((makeL (.int .u8) (dof (dwdGN (dnext (imgN d0) 12) ([(ByteArray.mk #[]), (ByteArray.mk #[97, 32, 98]), (ByteArray.mk #[46, 116, 101, 120, 116]), (ByteArray.mk #[113])])) ([0, 4000, 4096])) (dof (dwdGN (dnext (imgN d0) 12) ([(ByteArray.mk #[]), (ByteArray.mk #[97, 32, 98]), (ByteArray.mk #[46, 116, 101, 120, 116]), (ByteArray.mk #[113])])) ([0, 4000, 4096]))), ()))])), (((imgV d0).2).1, ())), [.box (.t tyDice (dofN (dwdGN (dnext (imgN d0) 12) ([(ByteArray.mk #[]), (ByteArray.mk #[97, 32, 98]), (ByteArray.mk #[46, 116, 101, 120, 116]), (ByteArray.mk #[113])])) ([0, 4000, 4096])))]))
                (none))
              (none))
            (none))
          (none))
        (br ((ieq (dval (imgN d0) 12) 1))
          (br ((wdGOk (dnext (imgN d0) 12) ([(ByteArray.mk #[109, 97, 105, 110]), (ByteArray.mk #[]), (ByteArray.mk #[122])])))
            (br ((ofOk (dwdGN (dnext (imgN d0) 12) ([(ByteArray.mk #[109, 97, 105, 110]), (ByteArray.mk #[]), (ByteArray.mk #[122])])) ([4294967296, (-1), 4294967295])))
              (br (cApp (((imgV d0).2).1) ([((dwdG (dnext (imgN d0) 12) ([(ByteArray.mk #[109, 97, 105, 110]), (ByteArray.mk #[]), (ByteArray.mk #[122])])), ((dof (dwdGN (dnext (imgN d0) 12) ([(ByteArray.mk #[109, 97, 105, 110]), (ByteArray.mk #[]), (ByteArray.mk #[122])])) ([4294967296, (-1), 4294967295])), ()))]) 24)
                (some (.t tyImage ((imgV d0).1, (((((imgV d0).2).1) ++ ([((dwdG (dnext (imgN d0) 12) ([(ByteArray.mk #[109, 97, 105, 110]), (ByteArray.mk #[]), (ByteArray.mk #[122])])), ((dof (dwdGN (dnext (imgN d0) 12) ([(ByteArray.mk #[109, 97, 105, 110]), (ByteArray.mk #[]), (ByteArray.mk #[122])])) ([4294967296, (-1), 4294967295])), ()))])), ())), [.box (.t tyDice (dofN (dwdGN (dnext (imgN d0) 12) ([(ByteArray.mk #[109, 97, 105, 110]), (ByteArray.mk #[]), (ByteArray.mk #[122])])) ([4294967296, (-1), 4294967295])))]))
                (none))
              (none))
            (none))
          (br ((ieq (dval (imgN d0) 12) 2))
            (br ((decide (0 ≤ (0 : Int) ∧ (0 : Int) ≤ 15 ∧ ((imgV d0).1).length ≤ 100 + (0 : Int).toNat)))
              (some (.t tyImage ((((imgV d0).1) ++ addS (0 : Int).toNat), (((((imgV d0).2).1)), ())), [.box (.t tyDice ((dnext (imgN d0) 12)))]))
              (none))
            (br ((ieq (dval (imgN d0) 12) 3))
              (br ((dOk (dnext (imgN d0) 12) && decide (0 ≤ (0 : Int) ∧ (0 : Int) ≤ 66 ∧ (((imgV d0).2).1).length ≤ 100 + (0 : Int).toNat)))
                (some (.t tyImage ((((imgV d0).1)), (((((imgV d0).2).1) ++ (addT (67 - (0 : Int).toNat) (0 : Int) (dnext (imgN d0) 12)).1), ())), [.box (.t tyDice ((addT (67 - (0 : Int).toNat) (0 : Int) (dnext (imgN d0) 12)).2))]))
                (none))
              (some (.t tyImage ((imgV d0).1, (((imgV d0).2).1, ())), [.box (.t tyDice (dnext (imgN d0) 12))]))))))
      (none))
    (none)
theorem e_f46 (d0 : Dice) : runF g_f46 tc_f46 rv_f46 false [.ptr 50000 0] [.box (.t tyDice d0)] = r_f46 d0 := by kernel_rfl
theorem ok_f46 : Option.map (trC Try.prog) Try.f46.body = some tc_f46.er := by kernel_rfl
theorem rok_f46 : trVs Try.prog Try.f46.results.toList = some (rv_f46.map Prod.fst) := by kernel_rfl
theorem en_f46 : Entered Try.prog 46 := .inr ⟨by decide, _, Try.func46, by kernel_rfl, by kernel_rfl⟩
theorem gk_f46 : GOk Try.prog g_f46 := gok_of _ (by
  intro p hp
  simp only [List.mem_cons, List.not_mem_nil, or_false] at hp
  rcases hp with rfl | rfl | rfl | rfl | rfl | rfl
  · exact ⟨en_f35, ms_f35⟩
  · exact ⟨en_f36, ms_f36⟩
  · exact ⟨en_f37, ms_f37⟩
  · exact ⟨en_f44, ms_f44⟩
  · exact ⟨en_op_make_39, ms_op_make_39⟩
  · exact ⟨en_op_convert_39_9, ms_op_convert_39_9⟩)
theorem l_f46_0 (x4 : Int) (y2 : Image) (y7 : (List Section)) (y5007 : (List Symbol)) (y50000 : Dice) (h : (decide (0 ≤ x4 ∧ x4 ≤ 15 ∧ y7.length ≤ 100 + x4.toNat)) = true) : lp_f46_0 x4 y2 y7 y5007 y50000 = la_f46_0 x4 y2 y7 y5007 y50000 := by
  simp only [decide_eq_true_eq] at h
  obtain ⟨h1, h2, h3⟩ := h
  obtain ⟨k, rfl⟩ := Int.eq_ofNat_of_zero_le h1
  rw [Int.toNat_natCast] at h3
  revert y7
  refine up_ind 15 (fun k => ∀ y7 : List Section, y7.length ≤ 100 + k → lp_f46_0 (k : Int) y2 y7 y5007 y50000 = la_f46_0 (k : Int) y2 y7 y5007 y50000) ?_ ?_ k (by omega)
  · intro y7 _
    rw [ln_f46_0]
    simp only [n_f46_0, show ilt ((15 : Nat) : Int) 15 = false from rfl, br_false, la_f46_0, Int.toNat_natCast, show addS 15 = [] from rfl, List.append_nil]
  · intro k hk ih y7 hy
    have e1 : ilt (k : Int) 15 = true := by simp only [ilt, decide_eq_true_eq]; omega
    have e2 : addS k = addE (k : Int) :: addS (k + 1) := by
      unfold addS
      rw [show 15 - k = (15 - (k + 1)) + 1 by omega, List.range'_succ, List.map_cons]
    have c1 : cCat (ByteArray.mk #[115]) (strOf ([(icv .u8 (iadd .i64 97 (k : Int)))])) = true := by
      simp only [cCat, strOf_size, List.length_singleton]
      decide
    rw [ln_f46_0]
    simp only [n_f46_0, e1, c1, br_true, add1 (show k < 4611686018427387904 by omega)]
    rw [cApp_ok (by simp only [List.length_singleton]; omega) (by omega), br_true, ih _ (by rw [List.length_append]; simp only [List.length_singleton]; omega)]
    simp only [la_f46_0, Int.toNat_natCast, e2, List.append_assoc, List.singleton_append]
    rfl
theorem l_f46_1 (x5 : Int) (y2 : Image) (y7 : (List Section)) (y5007 : (List Symbol)) (y50000 : Dice) (h : (dOk y50000 && decide (0 ≤ x5 ∧ x5 ≤ 66 ∧ y5007.length ≤ 100 + x5.toNat)) = true) : lp_f46_1 x5 y2 y7 y5007 y50000 = la_f46_1 x5 y2 y7 y5007 y50000 := by
  simp only [Bool.and_eq_true, decide_eq_true_eq] at h
  obtain ⟨h1, h2, h3, h4⟩ := h
  obtain ⟨k, rfl⟩ := Int.eq_ofNat_of_zero_le h2
  rw [Int.toNat_natCast] at h4
  obtain ⟨n, hn⟩ : ∃ n, n = 66 - k := ⟨_, rfl⟩
  induction n generalizing k y5007 y50000 with
  | zero =>
    have hk : k = 66 := by omega
    subst hk
    have e0 : nextOk y50000 6 = true := by simp only [nextOk, h1, Bool.true_and]; rfl
    have hb := dval_lt (d := y50000) (n := 6) (by omega)
    have e2 : iadd .i64 61 (dval y50000 6) = 61 + dval y50000 6 := by rw [iadd_in (by omega)]
    have e1 : ilt ((66 : Nat) : Int) (iadd .i64 61 (dval y50000 6)) = false := by
      rw [e2]
      simp only [ilt, decide_eq_false_iff_not]; omega
    rw [ln_f46_1]
    simp only [n_f46_1, e0, e1, br_true, br_false, la_f46_1, Int.toNat_natCast, addT, cond_false, List.append_nil]
  | succ n ih =>
    have e0 : nextOk y50000 6 = true := by simp only [nextOk, h1, Bool.true_and]; rfl
    rw [ln_f46_1]
    simp only [n_f46_1, e0, br_true, la_f46_1, Int.toNat_natCast]
    rw [show 67 - k = (67 - (k + 1)) + 1 by omega]
    unfold addT
    cases hc : ilt (k : Int) (iadd .i64 61 (dval y50000 6)) with
    | false => simp only [br_false, cond_false, List.append_nil]
    | true =>
      have c3 : cCat (ByteArray.mk #[116]) (strOf ([(icv .u8 (iadd .i64 97 (irem (k : Int) 26))), (icv .u8 (iadd .i64 97 (iquo .i64 (k : Int) 26)))])) = true := by
        simp only [cCat, strOf_size, List.length_cons, List.length_nil]
        decide
      rw [br_true, show cNz 26 = true from rfl, br_true, br_true, c3, br_true, cApp_ok (by simp only [List.length_singleton]; omega) (by omega), br_true, add1 (by omega)]
      refine (ih (y5007 := y5007 ++ [addF k]) (y50000 := dnext y50000 6) (dok_next _ h1) (k := k + 1) (by omega) (by omega) (by rw [List.length_append]; simp only [List.length_singleton]; omega) (by omega)).trans ?_
      simp only [la_f46_1, Int.toNat_natCast, cond_true, List.append_assoc, List.singleton_append]
theorem lo_f46_0 : ∀ S l p, g_f46.L 0 (fgt fg_f46_0 S) = some (true, l) → pickA l = some p → loopF (roundF g_f46 fg_f46_0 tb_f46_0) S = some p :=
  lok_of (s := sh_f46_0) ⟨by decide, by decide⟩ (by kernel_rfl) fun x y hok p hp => by
  simp only [pickA_br, pickA_one] at hp
  exact (l_f46_0 x.2.2.1 y.1 y.2.2.1 y.2.2.2.2.2.2.2.1 y.2.2.2.2.2.2.2.2.2.2.2.2.1 (by simpa using hok)).trans hp
theorem lo_f46_1 : ∀ S l p, g_f46.L 1 (fgt fg_f46_1 S) = some (true, l) → pickA l = some p → loopF (roundF g_f46 fg_f46_1 tb_f46_1) S = some p :=
  lok_of (s := sh_f46_1) ⟨by decide, by decide⟩ (by kernel_rfl) fun x y hok p hp => by
  simp only [pickA_br, pickA_one] at hp
  exact (l_f46_1 x.2.2.2.1 y.1 y.2.2.1 y.2.2.2.2.2.2.2.1 y.2.2.2.2.2.2.2.2.2.2.2.2.1 (by simpa using hok)).trans hp
theorem lk_f46 : tc_f46.lok g_f46 := by
  repeat (first | exact trivial | exact lo_f46_0 | exact lo_f46_1 | refine ⟨?_, ?_⟩)
theorem s_f46 (d : Dice) (h : dOk d = true) : r_f46 d = some (.t tyImage (madeV d), [.box (.t tyDice (madeN d))]) := by
  have h0 := img_okN h
  have h1 : dOk (d1M d) = true := dok_next 12 h0
  obtain ⟨⟨l1, l2⟩, _, _⟩ := img_good d
  have n1 : nextOk (imgN d) 12 = true := by simp only [nextOk, h0, Bool.true_and]; rfl
  simp only [r_f46]
  unfold madeV madeN
  rw [h, br_true, n1, br_true]
  cases ieq (dval (imgN d) 12) 0 with
  | true =>
    have a1 : wdGOk (d1M d) WA = true := by simp only [wdGOk, h1, Bool.true_and]; rfl
    have a2 : ofOk (dwdGN (d1M d) WA) VA = true := by
      have : dOk (dwdGN (d1M d) WA) = true := dok_next _ h1
      simp only [ofOk, this, Bool.true_and]
      rfl
    have a3 : makeOk (dof (dwdGN (d1M d) WA) VA) (dof (dwdGN (d1M d) WA) VA) = true := by
      have hall : ∀ n ∈ VA, 0 ≤ n ∧ n ≤ 1000000 := by decide
      have hv := dval_lt (d := dwdGN (d1M d) WA) (n := (VA.length : Int)) (by decide)
      have hl : (dval (dwdGN (d1M d) WA) (VA.length : Int)).toNat < VA.length := by omega
      have hm : 0 ≤ dof (dwdGN (d1M d) WA) VA ∧ dof (dwdGN (d1M d) WA) VA ≤ 1000000 := by
        unfold dof
        rw [List.getD_eq_getElem?_getD, List.getElem?_eq_getElem hl]
        exact hall _ (List.getElem_mem hl)
      exact decide_eq_true ⟨hm.1, rfl, hm.2⟩
    rw [br_true]
    refine (br_of a1).trans ((br_of a2).trans ((br_of a3).trans ((br_of (cApp_ok (by simp only [List.length_singleton]; omega) (by omega))).trans rfl)))
  | false =>
    rw [br_false]
    cases ieq (dval (imgN d) 12) 1 with
    | true =>
      have a1 : wdGOk (d1M d) WB = true := by simp only [wdGOk, h1, Bool.true_and]; rfl
      have a2 : ofOk (dwdGN (d1M d) WB) VB = true := by
        have : dOk (dwdGN (d1M d) WB) = true := dok_next _ h1
        simp only [ofOk, this, Bool.true_and]
        rfl
      rw [br_true]
      refine (br_of a1).trans ((br_of a2).trans ((br_of (cApp_ok (by simp only [List.length_singleton]; omega) (by omega))).trans rfl))
    | false =>
      rw [br_false]
      cases ieq (dval (imgN d) 12) 2 with
      | true =>
        rw [br_true]
        refine (br_of (decide_eq_true ?_)).trans rfl
        rw [show (0 : Int).toNat = 0 from rfl]
        omega
      | false =>
        rw [br_false]
        cases ieq (dval (imgN d) 12) 3 with
        | true =>
          rw [br_true]
          refine (br_of (and_dec h1 ?_)).trans rfl
          rw [show (0 : Int).toNat = 0 from rfl]
          omega
        | false => rfl
def sp_f46 : Ent := specP tyDice .nil (fun d x => (dOk d)) (fun d x => (.t tyImage (madeV d))) (fun d x => (madeN d))
theorem ms_f46 : Meets Try.prog 46 (strip sp_f46) := by
  obtain ⟨c, hc, hi⟩ := Option.map_eq_some_iff.1 ok_f46
  exact meets_specP (R := runF g_f46 tc_f46 rv_f46 false) (meets_of (by decide) Try.func46 hc hi Try.ntmps46 rok_f46 gk_f46 lk_f46 mixed) rfl fun d x hok => (e_f46 d).trans (s_f46 d hok)
end
end Go.Proofs.Ythdichlainehpaa.K.OX
