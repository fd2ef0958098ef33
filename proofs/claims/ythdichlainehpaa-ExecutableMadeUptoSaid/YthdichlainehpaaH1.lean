/-
  The law that the algorithms which symbols name do not depend on their order.
-/
import Derived.Test.YthdichlainehpaaH0
import Derived.Test.YthdichlainehpaaG6N
set_option linter.unusedSimpArgs false
set_option linter.unusedVariables false
namespace Go.Proofs.Ythdichlainehpaa.K
open Go.RowKit Go.Shelf
noncomputable section
def asc (l : List Int) : Prop := l.Pairwise (· < ·)
theorem asc_ext : ∀ {a b : List Int}, asc a → asc b → (∀ x, x ∈ a ↔ x ∈ b) → a = b
  | [], [], _, _, _ => rfl
  | [], y :: b, _, _, h => absurd ((h y).2 (by simp)) (by simp)
  | x :: a, [], _, _, h => absurd ((h x).1 (by simp)) (by simp)
  | x :: a, y :: b, ha, hb, h => by
    obtain ⟨ha1, ha2⟩ := List.pairwise_cons.1 ha
    obtain ⟨hb1, hb2⟩ := List.pairwise_cons.1 hb
    have e : x = y := by
      rcases List.mem_cons.1 ((h x).1 (by simp)) with e | e
      · exact e
      · rcases List.mem_cons.1 ((h y).2 (by simp)) with e' | e'
        · exact e'.symm
        · have := ha1 y e'
          have := hb1 x e
          omega
    subst e
    rw [asc_ext ha2 hb2 fun z => ?_]
    constructor
    · intro hz
      have := ha1 z hz
      rcases List.mem_cons.1 ((h z).1 (by simp [hz])) with e | e
      · omega
      · exact e
    · intro hz
      have := hb1 z hz
      rcases List.mem_cons.1 ((h z).2 (by simp [hz])) with e | e
      · omega
      · exact e
theorem compactUpTo_asc {d : Array Int} (hs : d.toList.Pairwise (· ≤ ·)) : ∀ m, m ≤ d.size → asc (Lib.compactUpTo d m) ∧ (∀ x, x ∈ Lib.compactUpTo d m ↔ x ∈ d.toList.take m) ∧ (0 < m → ∀ x, x ∈ Lib.compactUpTo d m → x ≤ d[m - 1]!)
  | 0, _ => ⟨List.Pairwise.nil, fun x => by simp [Lib.compactUpTo], fun h => absurd h (by omega)⟩
  | m + 1, hm => by
    obtain ⟨h1, h2, h3⟩ := compactUpTo_asc hs m (by omega)
    rw [Lib.compactUpTo_succ]
    have hsz : m < d.size := by omega
    have hle : m < d.toList.length := by simpa using hsz
    have et : d.toList.take (m + 1) = d.toList.take m ++ [d.toList[m]] := List.take_succ_eq_append_getElem hle
    have eg : d[m]! = d.toList[m] := by simp [hsz]
    have hle2 : ∀ x, x ∈ d.toList.take m → x ≤ d[m]! := by
      intro x hx
      rw [eg]
      obtain ⟨i, hi, rfl⟩ := List.getElem_of_mem hx
      have hi' : i < m := by rw [List.length_take] at hi; omega
      rw [List.getElem_take]
      exact (List.pairwise_iff_getElem.1 hs) i m (by omega) hle hi'
    by_cases hk : Lib.keeps d m = true
    · rw [if_pos hk]
      have hlt : ∀ x, x ∈ Lib.compactUpTo d m → x < d[m]! := by
        intro x hx
        have h4 : 0 < m := by
          rcases Nat.eq_zero_or_pos m with rfl | h
          · simp [Lib.compactUpTo] at hx
          · exact h
        have h5 := h3 h4 x hx
        simp only [Lib.keeps, decide_eq_true_eq] at hk
        have h6 : d[m - 1]! ≤ d[m]! := hle2 _ (by
          have e : d[m - 1]! = d.toList[m - 1] := by simp [show m - 1 < d.size by omega]
          rw [e, List.mem_take_iff_getElem]
          exact ⟨m - 1, by omega, rfl⟩)
        rcases hk with hk | hk
        · omega
        · omega
      refine ⟨?_, fun x => ?_, fun _ x hx => ?_⟩
      · refine List.pairwise_append.2 ⟨h1, List.pairwise_singleton _ _, fun a ha b hb => ?_⟩
        rw [List.mem_singleton.1 hb]
        exact hlt a ha
      · rw [et, List.mem_append, List.mem_append, h2 x, eg]
      · rw [Nat.add_sub_cancel]
        rcases List.mem_append.1 hx with hx | hx
        · exact Int.le_of_lt (hlt x hx)
        · rw [List.mem_singleton.1 hx]
          exact Int.le_refl _
    · have hk' : Lib.keeps d m = false := by simpa using hk
      rw [hk']
      simp only [Bool.false_eq_true, if_false, List.append_nil]
      simp only [Lib.keeps, decide_eq_false_iff_not, not_or, Decidable.not_not] at hk'
      have h4 : 0 < m := by omega
      have e : d[m - 1]! = d.toList[m - 1] := by simp [show m - 1 < d.size by omega]
      refine ⟨h1, fun x => ?_, fun _ x hx => ?_⟩
      · rw [et, List.mem_append, h2 x]
        constructor
        · exact .inl
        · rintro (h | h)
          · exact h
          · rw [List.mem_singleton.1 h, ← eg, hk'.2, e, List.mem_take_iff_getElem]
            exact ⟨m - 1, by omega, rfl⟩
      · rw [Nat.add_sub_cancel, hk'.2]
        exact h3 h4 x hx
theorem compact_asc {l : List Int} (hs : l.Pairwise (· ≤ ·)) : asc (Lib.compact l) ∧ ∀ x, x ∈ Lib.compact l ↔ x ∈ l := by
  have h := compactUpTo_asc (d := l.toArray) (by simpa using hs) l.length (by simp)
  refine ⟨h.1, fun x => ?_⟩
  have := h.2.1 x
  rw [show Lib.compact l = Lib.compactUpTo l.toArray l.length from rfl, this, List.take_of_length_le (by simp)]
theorem sortI_sorted (l : List Int) : (sortI l).Pairwise (· ≤ ·) := by
  have := List.pairwise_mergeSort (le := fun x y : Int => decide (x ≤ y)) (fun a b c h1 h2 => by simp only [decide_eq_true_eq] at *; omega) (fun a b => by simp only [Bool.or_eq_true, decide_eq_true_eq]; omega) l
  exact this.imp fun h => of_decide_eq_true h
theorem mem_sortI {l : List Int} {x : Int} : x ∈ sortI l ↔ x ∈ l := List.mem_mergeSort
theorem asc_le : ∀ {a b : List Int}, asc a → (∀ x ∈ a, x ∈ b) → a.length ≤ b.length
  | [], _, _, _ => Nat.zero_le _
  | x :: r, b, h, hs => by
    obtain ⟨h1, h2⟩ := List.pairwise_cons.1 h
    have hx := hs x (by simp)
    have := asc_le (b := b.erase x) h2 fun y hy => (List.mem_erase_of_ne (by have := h1 y hy; omega)).2 (hs y (by simp [hy]))
    rw [List.length_erase_of_mem hx] at this
    have := List.length_pos_of_mem hx
    rw [List.length_cons]
    omega
theorem algX_asc (x : Image) : asc (algX x) := (compact_asc (sortI_sorted _)).1
theorem mem_algX {x : Image} {n : Int} : n ∈ algX x ↔ ∃ z ∈ x.2.1, n ∈ algS z := by
  unfold algX
  rw [(compact_asc (sortI_sorted _)).2, mem_sortI, List.mem_flatMap]
theorem algX_len (x : Image) : (algX x).length ≤ 2 * x.2.1.length := by
  have h1 : (algX x).length ≤ (sortI (x.2.1.flatMap algS)).length := asc_le (algX_asc x) fun n hn => by
    rw [mem_sortI, List.mem_flatMap]
    exact mem_algX.1 hn
  have h2 : (sortI (x.2.1.flatMap algS)).length = (x.2.1.flatMap algS).length := List.length_mergeSort _
  have h3 := flat_bound algS 2 x.2.1 fun z _ => algS_len z
  omega
def ascZ (l : List Int) (k : Nat) : Bool := (List.range' k (l.length - k)).all fun j => decide (j = 0 ∨ l.getD (j - 1) 0 < l.getD j 0)
theorem ascZ_asc {l : List Int} (h : asc l) : ascZ l 0 = true := by
  refine List.all_eq_true.2 fun j hj => decide_eq_true ?_
  have hj : j < l.length := by simpa using hj
  rcases Nat.eq_zero_or_pos j with h0 | h0
  · exact .inl h0
  · refine .inr ?_
    rw [List.getD_eq_getElem?_getD, List.getD_eq_getElem?_getD, List.getElem?_eq_getElem hj, List.getElem?_eq_getElem (show j - 1 < l.length by omega)]
    exact List.pairwise_iff_getElem.1 h (j - 1) j (by omega) hj (by omega)
def rotE (l : List Symbol) (t : Int) (j : Nat) : Symbol := lgt tySymbol l ((j + t.toNat) % l.length)
def rotG (l : List Symbol) (t : Int) (k : Nat) : List Symbol := (List.range' k (l.length - k)).map (rotE l t)
theorem rotE_mem {l : List Symbol} {t : Int} {j : Nat} (h : 0 < l.length) : rotE l t j ∈ l := by
  have hm := Nat.mod_lt (j + t.toNat) h
  unfold rotE
  rw [lgt_get (y := tySymbol) hm]
  exact List.getElem_mem hm
theorem mem_rot {l : List Symbol} {t : Int} {z : Symbol} : z ∈ rotG l t 0 ↔ z ∈ l := by
  unfold rotG
  rw [List.mem_map]
  constructor
  · rintro ⟨j, hj, rfl⟩
    have hj : j < l.length := by simpa using hj
    exact rotE_mem (by omega)
  · intro hz
    obtain ⟨i, hi, rfl⟩ := List.getElem_of_mem hz
    have ht := Nat.mod_lt t.toNat (show 0 < l.length by omega)
    refine ⟨(i + (l.length - t.toNat % l.length)) % l.length, ?_, ?_⟩
    · have := Nat.mod_lt (i + (l.length - t.toNat % l.length)) (show 0 < l.length by omega)
      simpa using this
    · have e : ((i + (l.length - t.toNat % l.length)) % l.length + t.toNat) % l.length = i := by
        rw [Nat.mod_add_mod, ← Nat.add_mod_mod]
        rw [show i + (l.length - t.toNat % l.length) + t.toNat % l.length = i + l.length by omega, Nat.add_mod_right, Nat.mod_eq_of_lt hi]
      unfold rotE
      rw [e, lgt_get (y := tySymbol) hi]
theorem rot_len (l : List Symbol) (t : Int) : (rotG l t 0).length = l.length := by simp [rotG]
def wordsG : List ByteArray := [(ByteArray.mk #[100, 115, 97, 95, 118, 101, 114, 105, 102, 121]), (ByteArray.mk #[114, 99, 52]), (ByteArray.mk #[111, 116, 104, 101, 114]), (ByteArray.mk #[104, 109, 97, 99, 109, 100, 53, 95, 120])]
theorem words_one : ∀ s ∈ wordsG, s.size ≤ 10 ∧ ∃ v, ∀ n ∈ algS (s, ((0 : Int), ())), n = v := by
  have key : ∀ s : ByteArray, (findG s = 0 ∨ findG (befS s) = findG s) → ∃ v, ∀ n ∈ algS (s, ((0 : Int), ())), n = v := fun s hs => by
    have hN : ∀ (s : ByteArray) n, n ∈ algN s → n = findG s ∧ 0 < findG s := fun s n hn => by
      unfold algN posL at hn
      cases hc : igt (findG s) 0 with
      | false => rw [hc] at hn; cases hn
      | true =>
        rw [hc] at hn
        have := List.mem_singleton.1 hn
        simp only [igt, decide_eq_true_eq] at hc
        exact ⟨this, hc⟩
    refine ⟨findG (befS s), fun n hn => ?_⟩
    simp only [algS, List.flatMap_cons, List.flatMap_nil, List.append_nil, List.mem_append] at hn
    rcases hn with hn | hn
    · obtain ⟨h1, h2⟩ := hN _ _ hn
      rcases hs with hs | hs
      · omega
      · omega
    · exact (hN _ _ hn).1
  have all : ∀ s ∈ wordsG, findG s = 0 ∨ findG (befS s) = findG s := by
    intro s hs
    rw [findG_data, findG_data (befS s)]
    simp only [wordsG, List.mem_cons, List.not_mem_nil, or_false] at hs
    rcases hs with rfl | rfl | rfl | rfl
    · exact .inl (by kernel_rfl)
    · exact .inr (by kernel_rfl)
    · exact .inl (by kernel_rfl)
    · exact .inl (by kernel_rfl)
  intro s hs
  refine ⟨?_, key s (all s hs)⟩
  simp only [wordsG, List.mem_cons, List.not_mem_nil, or_false] at hs
  rcases hs with rfl | rfl | rfl | rfl <;> decide
def spl_f43 : Ent := lendEO sp_f43
theorem msl_f43 : Meets Try.prog 43 (strip spl_f43) := meets_lendO ON.ms_f43
def lawNamesG (_ : List Int) (_ : Int) : Bool := true
def lawNamesOk (_ : List Int) (t : Int) : Bool := decide (0 ≤ t ∧ t ≤ 255)
def dr_f6_0 : List DO := [(.mk (oP 28 (.fa 1 (.t 7))) []), (.mk (oL 29 28) [0]), (.mk (oP 30 (.fa 1 (.t 6))) []), (.mk (oL 31 30) [2]), (.mk (oV 32 8) []), (.mk (oV 33 1) []), (.mk (oP 34 (.cv .i64 (.t 33))) [5]), (.mk (oP 35 (.bin false .add (.t 32) (.t 34))) [4, 6]), (.mk (oP 36 (.fa 1 (.t 6))) []), (.mk (oL 37 36) [8]), (.mk (oP 38 (.len false (.t 37))) [9]), (.mk (oP 39 (.bin false .rem (.t 35) (.t 38))) [7, 10]), (.mk (oP 40 (.ix 2 (.t 31) (.t 39))) [3, 11]), (.mk (oM 41 (.ld true 2 (.t 40))) [12]), (.mk (oM 42 (.bs 69 2 1 [(.v (.string (ByteArray.mk #[]))), (.v (.int .i64 0))] [(0, 2, (.t 41))])) [13]), (.mk (oM 43 (.app 69 2 24 (.t 29) (.t 42))) [1, 14]), (.mk (oP 44 (.fa 1 (.t 7))) [0, 1, 2, 3, 4, 5, 6, 7, 8, 9, 10, 11, 12, 13, 14, 15]), (.mk (.mk none none (.m (.st 1 (.t 44) (.t 43)))) [16, 15, 15, 0, 1, 2, 3, 4, 5, 6, 7, 8, 9, 10, 11, 12, 13, 14, 15])]
def dr_f6_1 : List DO := [(.mk (oM 45 (.ld true 2 (.t 6))) []), (.mk (oC 46 43 [(.t 45)]) [0]), (.mk (oM 47 (.ld true 2 (.t 7))) []), (.mk (oC 48 43 [(.t 47)]) [2, 1]), (.mk (oV 9 46) [1, 3, 0, 1]), (.mk (oV 10 48) [3, 4, 0, 1, 2, 3, 4])]
def dr_f6_2 : List DO := [(.mk (oP 49 (.fa 1 (.t 7))) []), (.mk (oL 50 49) [0]), (.mk (oV 51 5) []), (.mk (oM 52 (.bs 9 1 4 [(.v (.string (ByteArray.mk #[]))), (.v (.string (ByteArray.mk #[]))), (.v (.string (ByteArray.mk #[]))), (.v (.string (ByteArray.mk #[])))] [(0, 1, (.c (.v (.string (ByteArray.mk #[100, 115, 97, 95, 118, 101, 114, 105, 102, 121]))))), (1, 1, (.c (.v (.string (ByteArray.mk #[114, 99, 52]))))), (2, 1, (.c (.v (.string (ByteArray.mk #[111, 116, 104, 101, 114]))))), (3, 1, (.c (.v (.string (ByteArray.mk #[104, 109, 97, 99, 109, 100, 53, 95, 120])))))])) []), (.mk (oC 53 44 [(.t 51), (.t 52)]) [2, 3]), (.mk (oP 54 (.bd [(.v (.string (ByteArray.mk #[]))), (.v (.int .i64 0))] [(0, 1, (.t 53))])) [4]), (.mk (oM 55 (.bs 69 2 1 [(.v (.string (ByteArray.mk #[]))), (.v (.int .i64 0))] [(0, 2, (.t 54))])) [5]), (.mk (oM 56 (.app 69 2 24 (.t 50) (.t 55))) [1, 6, 4]), (.mk (oP 57 (.fa 1 (.t 7))) [0, 1, 2, 3, 4, 5, 6, 7]), (.mk (.mk none none (.m (.st 1 (.t 57) (.t 56)))) [8, 7, 7, 0, 1, 2, 3, 4, 5, 6, 7])]
def dr_f6_3 : List DO := [(.mk (oV 66 12) []), (.mk (oP 67 (.bin false .gtr (.t 66) (cI 0))) [0]), (.mk (oV 68 67) [1]), (.mk (oQ 69 68 true (.mv (.t 11))) [2]), (.mk (oQ 70 68 true (.mv (.t 12))) [2]), (.mk (oQ 71 68 true (.bin false .sub (.t 70) (cI 1))) [4, 2]), (.mk (oQ 72 68 true (.ix 1 (.t 69) (.t 71))) [3, 5, 2]), (.mk (oG 73 68 true (.m (.ld false 1 (.t 72)))) [6, 2]), (.mk (oQ 74 68 true (.mv (.t 11))) [2]), (.mk (oQ 75 68 true (.mv (.t 12))) [2]), (.mk (oQ 76 68 true (.ix 1 (.t 74) (.t 75))) [8, 9, 2]), (.mk (oG 77 68 true (.m (.ld false 1 (.t 76)))) [10, 2]), (.mk (oQ 78 68 true (.bin false .geq (.t 73) (.t 77))) [7, 11, 2]), (.mk (oP 79 (.pick (.t 68) (.t 78) (cB false))) [2, 12])]
def fg_f6_0 : Fg := ⟨[(1, some (.int .u8)), (5, none), (6, none), (7, none), (8, some tI)], [(6, some tyImage), (7, none), (18, some tyDice), (43, none), (56, none), (5018, none), (10018, none), (15018, none), (20701, none)]⟩
def tb_f6_0 : TC := (.sq (.sq (.reg [(oV 21 8), (oP 22 (.fa 1 (.t 6))), (oL 23 22), (oP 24 (.len false (.t 23))), (oP 25 (.bin false .lss (.t 21) (.t 24)))]) (.cd (.t 25) .sk (.fg ⟨[(5, none), (6, none), (7, none)], [(6, some tyImage), (7, some tyImage), (18, some tyDice), (43, none), (56, none), (5018, none), (10018, none), (15018, none), (20701, none)]⟩ (.ex 0)))) (.sq (.bk 1 (.dr dr_f6_0 [(0, [7, 43, 56, 20701]), (1, [7, 43, 56, 20701]), (2, [6]), (3, [6]), (4, []), (5, []), (6, []), (7, []), (8, [6]), (9, [6]), (10, []), (11, []), (12, []), (13, []), (14, []), (15, [7, 43, 56, 5043, 10043, 15043, 20701]), (16, [7, 43, 56, 20701]), (17, [7, 43, 56, 20701])] (.of [0, 1, 2, 3, 4, 5, 6, 7, 8, 9, 10, 11, 12, 13, 14, 15, 16, 17]))) (.reg [(oV 26 8), (oP 27 (.bin false .add (.t 26) (cI 1))), (oV 8 27)])))
def fg_f6_1 : Fg := ⟨[(9, some (.sl tI)), (10, some (.sl tI)), (11, some (.sl tI)), (12, some tI)], []⟩
def tb_f6_1 : TC := (.sq (.sq (.reg [(oV 60 12), (oV 61 11), (oP 62 (.len false (.t 61))), (oP 63 (.bin false .lss (.t 60) (.t 62)))]) (.cd (.t 63) .sk (.fg ⟨[(9, some (.sl tI)), (10, some (.sl tI)), (11, some (.sl tI))], []⟩ (.ex 2)))) (.sq (.bk 3 (.sq (.dr dr_f6_3 [(0, []), (1, []), (2, []), (3, []), (4, []), (5, []), (6, []), (7, []), (8, []), (9, []), (10, []), (11, []), (12, []), (13, [])] (.of [0, 1, 2, 3, 4, 5, 6, 7, 8, 9, 10, 11, 12, 13])) (.cd (.t 79) (.sq (.reg [(oP 4 (.mv (cB false)))]) (.fg ⟨[(4, some .bool)], []⟩ .rt)) .sk))) (.reg [(oV 64 12), (oP 65 (.bin false .add (.t 64) (cI 1))), (oV 12 65)])))
/-- cipherplan/cipherplanlaw10.ExecutableNames -/
def tc_f6 : TC := (.sq (.reg [(oP 4 (.mv (cB false)))]) (.sq (.sq (.reg [(oV 13 0), (oC 14 8 [(.t 13)]), (oP 15 (.nt (.t 14)))]) (.cd (.t 15) (.sq (.reg [(oC 16 33 []), (oV 4 16)]) .rt) .sk)) (.sq (.reg [(oV 17 0), (oC 18 10 [(.t 17)]), (oV 5 18)]) (.sq (.reg [(oV 19 5), (oC 20 35 [(.t 19)]), (oM 6 (.new [(.v (.slice none 0 0)), (.v (.slice none 0 0))])), (.mk none none (.m (.st 2 (.t 6) (.t 20))))]) (.sq (.reg [(oM 7 (.new [(.v (.slice none 0 0)), (.v (.slice none 0 0))]))]) (.sq (.sq (.reg [(oP 8 (.mv (cI 0)))]) (.bk 0 (.nf 7 1 69 20701 (.lp 0 fg_f6_0 tb_f6_0)))) (.sq (.dr dr_f6_1 [(0, [6]), (1, []), (2, [7, 43, 56, 20701]), (3, [7, 43, 48, 56, 5048, 10048, 15048, 20701]), (4, []), (5, [])] (.of [0, 1, 2, 3, 4, 5])) (.sq (.dr dr_f6_2 [(0, [7, 43, 56, 20701]), (1, [7, 43, 56, 20701]), (2, [18, 5018, 10018, 15018]), (3, []), (4, [18, 53, 5018, 5053, 10018, 10053, 15018, 15053]), (5, []), (6, []), (7, [7, 43, 56, 5056, 10056, 15056, 20701]), (8, [7, 43, 56, 20701]), (9, [7, 43, 56, 20701])] (.of [0, 1, 2, 3, 4, 5, 6, 7, 8, 9])) (.sq (.reg [(oM 58 (.ld true 2 (.t 7))), (oC 59 43 [(.t 58)]), (oV 11 59)]) (.sq (.sq (.reg [(oP 12 (.mv (cI 0)))]) (.bk 2 (.lp 1 fg_f6_1 tb_f6_1))) (.sq (.reg [(oV 80 9), (oV 81 10), (oC 82 45 [(.t 80), (.t 81)]), (oV 83 82), (oQ 84 83 true (.mv (.t 11))), (oQ 85 83 true (.len false (.t 84))), (oQ 86 83 true (.mv (.t 9))), (oQ 87 83 true (.len false (.t 86))), (oQ 88 83 true (.bin false .geq (.t 85) (.t 87))), (oP 89 (.pick (.t 83) (.t 88) (cB false))), (oV 90 89), (oQ 91 90 true (.mv (.t 11))), (oQ 92 90 true (.len false (.t 91))), (oQ 93 90 true (.mv (.t 9))), (oQ 94 90 true (.len false (.t 93))), (oQ 95 90 true (.bin false .add (.t 94) (cI 1))), (oQ 96 90 true (.bin false .leq (.t 92) (.t 95))), (oP 97 (.pick (.t 90) (.t 96) (cB false))), (oV 98 97), (oG 99 98 true (.call 33 [])), (oP 100 (.pick (.t 98) (.t 99) (cB false))), (oV 4 100)]) .rt)))))))))))
def rv_f6 : List (RV × Option Ty) := [((.t 4), some .bool)]
abbrev sh_f6_0 : Sh := ⟨[(1, .ty (.int .u8)), (5, .ptr 18 0), (6, .ptr 6 0), (7, .ptr 7 0), (8, .ty tI)], [(6, .box tyImage), (7, .bag [.nl, .ms 20701]), (18, .box tyDice), (43, .no), (56, .no), (5018, .no), (10018, .no), (15018, .no), (20701, .arr 69 tySymbol)]⟩
def st_f6_0 (x1 : Int) (x8 : Int) (y6 : Image) (y18 : Dice) (y20701 : (List Symbol)) : VS := sh_f6_0.st (x1, (), (), (), x8, ()) (y6, ((), (), ()), y18, (), (), (), (), (), y20701, ())
abbrev sh_f6_0_e0 : Sh := ⟨[(5, .ptr 18 0), (6, .ptr 6 0), (7, .ptr 7 0)], [(6, .box tyImage), (7, .bag [.nl, .ms 20701]), (18, .box tyDice), (43, .no), (56, .no), (5018, .no), (10018, .no), (15018, .no), (20701, .arr 69 tySymbol)]⟩
def st_f6_0_e0 (y6 : Image) (y18 : Dice) (y20701 : (List Symbol)) : VS := sh_f6_0_e0.st ((), (), (), ()) (y6, ((), (), ()), y18, (), (), (), (), (), y20701, ())
-- loop 0: (x1 : Int) (x8 : Int) (y6 : Image) (y18 : Dice) (y20701 : (List Symbol)); out: ('exit', 0) (y6 : Image) (y18 : Dice) (y20701 : (List Symbol))
abbrev sh_f6_1 : Sh := ⟨[(9, .ty (.sl tI)), (10, .ty (.sl tI)), (11, .ty (.sl tI)), (12, .ty tI)], []⟩
def st_f6_1 (x9 : (List Int)) (x10 : (List Int)) (x11 : (List Int)) (x12 : Int) : VS := sh_f6_1.st (x9, x10, x11, x12, ()) ()
abbrev sh_f6_1_ret : Sh := ⟨[(4, .ty .bool)], []⟩
def st_f6_1_ret (x4 : Bool) : VS := sh_f6_1_ret.st (x4, ()) ()
abbrev sh_f6_1_e2 : Sh := ⟨[(9, .ty (.sl tI)), (10, .ty (.sl tI)), (11, .ty (.sl tI))], []⟩
def st_f6_1_e2 (x9 : (List Int)) (x10 : (List Int)) (x11 : (List Int)) : VS := sh_f6_1_e2.st (x9, x10, x11, ()) ()
-- loop 1: (x9 : (List Int)) (x10 : (List Int)) (x11 : (List Int)) (x12 : Int); out: ('ret',) (x4 : Bool); ('exit', 2) (x9 : (List Int)) (x10 : (List Int)) (x11 : (List Int))
def L_f6_0 : VS → Option (Bool × List (Bool × Exit × VS)) := mkL sh_f6_0 (fun x y => (decide (0 ≤ x.2.2.2.2.1 ∧ x.2.2.2.2.1 ≤ y.1.2.1.length ∧ y.1.2.1.length ≤ 100 ∧ 0 ≤ x.1 ∧ x.1 ≤ 255 ∧ y.2.2.2.2.2.2.2.2.1.length + y.1.2.1.length ≤ 100 + x.2.2.2.2.1.toNat))) (fun x y => [(true, .exit 0, st_f6_0_e0 (y.1) (y.2.2.1) (y.2.2.2.2.2.2.2.2.1 ++ rotG y.1.2.1 x.1 x.2.2.2.2.1.toNat))])
def L_f6_1 : VS → Option (Bool × List (Bool × Exit × VS)) := mkL sh_f6_1 (fun x y => (decide (0 ≤ x.2.2.2.1 ∧ x.2.2.2.1 ≤ x.2.2.1.length ∧ x.2.2.1.length ≤ 100000))) (fun x y => [((!ascZ x.2.2.1 x.2.2.2.1.toNat), .ret, st_f6_1_ret (false)), (true, .exit 2, st_f6_1_e2 (x.1) (x.2.1) (x.2.2.1))])
def g_f6 : G := ⟨TYs, [], 101, EL [(8, sp_f8), (10, sp_f10), (33, sp_f33), (35, sp_f35), (43, spl_f43), (44, sp_f44), (45, sp_f45)], (43 :: keeps), (Ls [L_f6_0, L_f6_1]), IL [], RL []⟩
def b_f6_0 (x1 : Int) (x8 : Int) (y6 : Image) (y18 : Dice) (y20701 : (List Symbol)) : Option (Exit × VS) :=
  br ((ilt x8 (llen y6.2.1)))
    (br (cNz (llen y6.2.1))
      (br (cIx y6.2.1 (irem (iadd .i64 x8 (icv .i64 x1)) (llen y6.2.1)))
        (br (cApp y20701 ([((lgt tySymbol y6.2.1 (Int.toNat (irem (iadd .i64 x8 (icv .i64 x1)) (llen y6.2.1)))).1, (((lgt tySymbol y6.2.1 (Int.toNat (irem (iadd .i64 x8 (icv .i64 x1)) (llen y6.2.1)))).2).1, ()))]) 24)
          (some (.normal, st_f6_0 x1 (iadd .i64 x8 1) y6 y18 (y20701 ++ ([((lgt tySymbol y6.2.1 (Int.toNat (irem (iadd .i64 x8 (icv .i64 x1)) (llen y6.2.1)))).1, (((lgt tySymbol y6.2.1 (Int.toNat (irem (iadd .i64 x8 (icv .i64 x1)) (llen y6.2.1)))).2).1, ()))]))))
          (none))
        (none))
      (none))
    (some (.exit 0, st_f6_0_e0 y6 y18 y20701))
noncomputable def lp_f6_0 (x1 : Int) (x8 : Int) (y6 : Image) (y18 : Dice) (y20701 : (List Symbol)) : Option (Exit × VS) := loopF (roundF g_f6 fg_f6_0 tb_f6_0) (st_f6_0 x1 x8 y6 y18 y20701)
noncomputable def n_f6_0 (x1 : Int) (x8 : Int) (y6 : Image) (y18 : Dice) (y20701 : (List Symbol)) : Option (Exit × VS) :=
  br ((ilt x8 (llen y6.2.1)))
    (br (cNz (llen y6.2.1))
      (br (cIx y6.2.1 (irem (iadd .i64 x8 (icv .i64 x1)) (llen y6.2.1)))
        (br (cApp y20701 ([((lgt tySymbol y6.2.1 (Int.toNat (irem (iadd .i64 x8 (icv .i64 x1)) (llen y6.2.1)))).1, (((lgt tySymbol y6.2.1 (Int.toNat (irem (iadd .i64 x8 (icv .i64 x1)) (llen y6.2.1)))).2).1, ()))]) 24)
          (lp_f6_0 x1 (iadd .i64 x8 1) y6 y18 (y20701 ++ ([((lgt tySymbol y6.2.1 (Int.toNat (irem (iadd .i64 x8 (icv .i64 x1)) (llen y6.2.1)))).1, (((lgt tySymbol y6.2.1 (Int.toNat (irem (iadd .i64 x8 (icv .i64 x1)) (llen y6.2.1)))).2).1, ()))])))
          (none))
        (none))
      (none))
    (some (.exit 0, st_f6_0_e0 y6 y18 y20701))
def la_f6_0 (x1 : Int) (x8 : Int) (y6 : Image) (y18 : Dice) (y20701 : (List Symbol)) : Option (Exit × VS) := some (.exit 0, st_f6_0_e0 (y6) (y18) (y20701 ++ rotG y6.2.1 x1 x8.toNat))
theorem be_f6_0 (x1 : Int) (x8 : Int) (y6 : Image) (y18 : Dice) (y20701 : (List Symbol)) : roundF g_f6 fg_f6_0 tb_f6_0 (st_f6_0 x1 x8 y6 y18 y20701) = b_f6_0 x1 x8 y6 y18 y20701 := by kernel_rfl
theorem ln_f6_0 (x1 : Int) (x8 : Int) (y6 : Image) (y18 : Dice) (y20701 : (List Symbol)) : lp_f6_0 x1 x8 y6 y18 y20701 = n_f6_0 x1 x8 y6 y18 y20701 := (loopF_nxt _ _).trans (by
  rw [be_f6_0]
  simp only [b_f6_0, n_f6_0, nxt_br, nxt_n, nxt_r, nxt_e, nxt_0]
  rfl)
def b_f6_1 (x9 : (List Int)) (x10 : (List Int)) (x11 : (List Int)) (x12 : Int) : Option (Exit × VS) :=
  br ((ilt x12 (llen x11)))
    (br ((igt x12 0))
      (br (cIx x11 (isub .i64 x12 1))
        (br (cIx x11 x12)
          (br ((ige (lgt tI x11 (Int.toNat (isub .i64 x12 1))) (lgt tI x11 (Int.toNat x12))))
            (some (.ret, st_f6_1_ret false))
            (some (.normal, st_f6_1 x9 x10 x11 (iadd .i64 x12 1))))
          (none))
        (none))
      (some (.normal, st_f6_1 x9 x10 x11 (iadd .i64 x12 1))))
    (some (.exit 2, st_f6_1_e2 x9 x10 x11))
noncomputable def lp_f6_1 (x9 : (List Int)) (x10 : (List Int)) (x11 : (List Int)) (x12 : Int) : Option (Exit × VS) := loopF (roundF g_f6 fg_f6_1 tb_f6_1) (st_f6_1 x9 x10 x11 x12)
noncomputable def n_f6_1 (x9 : (List Int)) (x10 : (List Int)) (x11 : (List Int)) (x12 : Int) : Option (Exit × VS) :=
  br ((ilt x12 (llen x11)))
    (br ((igt x12 0))
      (br (cIx x11 (isub .i64 x12 1))
        (br (cIx x11 x12)
          (br ((ige (lgt tI x11 (Int.toNat (isub .i64 x12 1))) (lgt tI x11 (Int.toNat x12))))
            (some (.ret, st_f6_1_ret false))
            (lp_f6_1 x9 x10 x11 (iadd .i64 x12 1)))
          (none))
        (none))
      (lp_f6_1 x9 x10 x11 (iadd .i64 x12 1)))
    (some (.exit 2, st_f6_1_e2 x9 x10 x11))
def la_f6_1 (x9 : (List Int)) (x10 : (List Int)) (x11 : (List Int)) (x12 : Int) : Option (Exit × VS) := br (!ascZ x11 x12.toNat) (some (.ret, st_f6_1_ret (false))) <| some (.exit 2, st_f6_1_e2 (x9) (x10) (x11))
theorem be_f6_1 (x9 : (List Int)) (x10 : (List Int)) (x11 : (List Int)) (x12 : Int) : roundF g_f6 fg_f6_1 tb_f6_1 (st_f6_1 x9 x10 x11 x12) = b_f6_1 x9 x10 x11 x12 := by kernel_rfl
theorem ln_f6_1 (x9 : (List Int)) (x10 : (List Int)) (x11 : (List Int)) (x12 : Int) : lp_f6_1 x9 x10 x11 x12 = n_f6_1 x9 x10 x11 x12 := (loopF_nxt _ _).trans (by
  rw [be_f6_1]
  simp only [b_f6_1, n_f6_1, nxt_br, nxt_n, nxt_r, nxt_e, nxt_0]
  rfl)
def r_f6 (p0 : (List Int)) (p1 : Int) : Option (V × List VO) :=
  br ((!(light p0)))
    (some (.t .bool awakeL, []))
    (br ((dOk (roll p0)))
      (br ((decide (0 ≤ (0 : Int) ∧ (0 : Int) ≤ (imgV (roll p0)).2.1.length ∧ (imgV (roll p0)).2.1.length ≤ 100 ∧ 0 ≤ p1 ∧ p1 ≤ 255 ∧ ([] : List Symbol).length + (imgV (roll p0)).2.1.length ≤ 100 + (0 : Int).toNat)))
        (br ((algOk ((imgV (roll p0)))))
          (br ((algOk (([] : List Section), ((([] : List Symbol) ++ rotG (imgV (roll p0)).2.1 p1 (0 : Int).toNat), ()))))
            (br ((wdGOk ((imgN (roll p0))) ([(ByteArray.mk #[100, 115, 97, 95, 118, 101, 114, 105, 102, 121]), (ByteArray.mk #[114, 99, 52]), (ByteArray.mk #[111, 116, 104, 101, 114]), (ByteArray.mk #[104, 109, 97, 99, 109, 100, 53, 95, 120])])))
              (br (cApp (([] : List Symbol) ++ rotG (imgV (roll p0)).2.1 p1 (0 : Int).toNat) ([((dwdG ((imgN (roll p0))) ([(ByteArray.mk #[100, 115, 97, 95, 118, 101, 114, 105, 102, 121]), (ByteArray.mk #[114, 99, 52]), (ByteArray.mk #[111, 116, 104, 101, 114]), (ByteArray.mk #[104, 109, 97, 99, 109, 100, 53, 95, 120])])), (0, ()))]) 24)
                (br ((algOk (([] : List Section), (((([] : List Symbol) ++ rotG (imgV (roll p0)).2.1 p1 (0 : Int).toNat) ++ ([((dwdG ((imgN (roll p0))) ([(ByteArray.mk #[100, 115, 97, 95, 118, 101, 114, 105, 102, 121]), (ByteArray.mk #[114, 99, 52]), (ByteArray.mk #[111, 116, 104, 101, 114]), (ByteArray.mk #[104, 109, 97, 99, 109, 100, 53, 95, 120])])), (0, ()))])), ()))))
                  (br ((decide (0 ≤ (0 : Int) ∧ (0 : Int) ≤ (algX (([] : List Section), (((([] : List Symbol) ++ rotG (imgV (roll p0)).2.1 p1 (0 : Int).toNat) ++ ([((dwdG ((imgN (roll p0))) ([(ByteArray.mk #[100, 115, 97, 95, 118, 101, 114, 105, 102, 121]), (ByteArray.mk #[114, 99, 52]), (ByteArray.mk #[111, 116, 104, 101, 114]), (ByteArray.mk #[104, 109, 97, 99, 109, 100, 53, 95, 120])])), (0, ()))])), ()))).length ∧ (algX (([] : List Section), (((([] : List Symbol) ++ rotG (imgV (roll p0)).2.1 p1 (0 : Int).toNat) ++ ([((dwdG ((imgN (roll p0))) ([(ByteArray.mk #[100, 115, 97, 95, 118, 101, 114, 105, 102, 121]), (ByteArray.mk #[114, 99, 52]), (ByteArray.mk #[111, 116, 104, 101, 114]), (ByteArray.mk #[104, 109, 97, 99, 109, 100, 53, 95, 120])])), (0, ()))])), ()))).length ≤ 100000)))
                    (br ((!ascZ (algX (([] : List Section), (((([] : List Symbol) ++ rotG (imgV (roll p0)).2.1 p1 (0 : Int).toNat) ++ ([((dwdG ((imgN (roll p0))) ([(ByteArray.mk #[100, 115, 97, 95, 118, 101, 114, 105, 102, 121]), (ByteArray.mk #[114, 99, 52]), (ByteArray.mk #[111, 116, 104, 101, 114]), (ByteArray.mk #[104, 109, 97, 99, 109, 100, 53, 95, 120])])), (0, ()))])), ()))) (0 : Int).toNat))
                      (some (.t .bool (false), []))
                      (br ((sameIOk ((algX ((imgV (roll p0))))) ((algX (([] : List Section), ((([] : List Symbol) ++ rotG (imgV (roll p0)).2.1 p1 (0 : Int).toNat), ()))))))
                        (br ((sameI ((algX ((imgV (roll p0))))) ((algX (([] : List Section), ((([] : List Symbol) ++ rotG (imgV (roll p0)).2.1 p1 (0 : Int).toNat), ()))))))
                          (br ((ige (llen ((algX (([] : List Section), (((([] : List Symbol) ++ rotG (imgV (roll p0)).2.1 p1 (0 : Int).toNat) ++ ([((dwdG ((imgN (roll p0))) ([(ByteArray.mk #[100, 115, 97, 95, 118, 101, 114, 105, 102, 121]), (ByteArray.mk #[114, 99, 52]), (ByteArray.mk #[111, 116, 104, 101, 114]), (ByteArray.mk #[104, 109, 97, 99, 109, 100, 53, 95, 120])])), (0, ()))])), ()))))) (llen ((algX ((imgV (roll p0))))))))
                            (br ((ile (llen ((algX (([] : List Section), (((([] : List Symbol) ++ rotG (imgV (roll p0)).2.1 p1 (0 : Int).toNat) ++ ([((dwdG ((imgN (roll p0))) ([(ByteArray.mk #[100, 115, 97, 95, 118, 101, 114, 105, 102, 121]), (ByteArray.mk #[114, 99, 52]), (ByteArray.mk #[111, 116, 104, 101, 114]), (ByteArray.mk #[104, 109, 97, 99, 109, 100, 53, 95, 120])])), (0, ()))])), ()))))) (iadd .i64 (llen ((algX ((imgV (roll p0)))))) 1)))
                              (some (.t .bool awakeL, []))
                              (some (.t .bool false, [])))
                            (some (.t .bool false, [])))
                          (some (.t .bool false, [])))
                        (none)))
                    (none))
                  (none))
                (none))
              (none))
            (none))
          (none))
        (none))
      (none))
theorem e_f6 (p0 : (List Int)) (p1 : Int) : runF g_f6 tc_f6 rv_f6 false [.t (.sl tI) p0, .t (.int .u8) p1] [] = r_f6 p0 p1 := by kernel_rfl
theorem ok_f6 : Option.map (trC Try.prog) Try.f6.body = some tc_f6.er := by kernel_rfl
theorem rok_f6 : trVs Try.prog Try.f6.results.toList = some (rv_f6.map Prod.fst) := by kernel_rfl
theorem en_f6 : Entered Try.prog 6 := .inr ⟨by decide, _, Try.func6, by kernel_rfl, by kernel_rfl⟩
theorem gk_f6 : GOk Try.prog g_f6 := gok_of _ (by
  intro p hp
  simp only [List.mem_cons, List.not_mem_nil, or_false] at hp
  rcases hp with rfl | rfl | rfl | rfl | rfl | rfl | rfl
  · exact ⟨en_f8, ms_f8⟩
  · exact ⟨en_f10, ms_f10⟩
  · exact ⟨en_f33, ms_f33⟩
  · exact ⟨en_f35, ms_f35⟩
  · exact ⟨en_f43, msl_f43⟩
  · exact ⟨en_f44, ms_f44⟩
  · exact ⟨en_f45, ms_f45⟩)
theorem l_f6_0 (x1 : Int) (x8 : Int) (y6 : Image) (y18 : Dice) (y20701 : (List Symbol)) (h : (decide (0 ≤ x8 ∧ x8 ≤ y6.2.1.length ∧ y6.2.1.length ≤ 100 ∧ 0 ≤ x1 ∧ x1 ≤ 255 ∧ y20701.length + y6.2.1.length ≤ 100 + x8.toNat)) = true) : lp_f6_0 x1 x8 y6 y18 y20701 = la_f6_0 x1 x8 y6 y18 y20701 := by
  simp only [decide_eq_true_eq] at h
  obtain ⟨h1, h2, h3, h4, h5, h6⟩ := h
  obtain ⟨k, rfl⟩ := Int.eq_ofNat_of_zero_le h1
  rw [Int.toNat_natCast] at h6
  revert y20701
  refine range_ind y6.2.1 (fun k => ∀ y20701 : List Symbol, y20701.length + y6.2.1.length ≤ 100 + k → lp_f6_0 x1 (k : Int) y6 y18 y20701 = la_f6_0 x1 (k : Int) y6 y18 y20701) ?_ ?_ k (by omega)
  · intro y20701 _
    rw [ln_f6_0]
    simp [n_f6_0, la_f6_0, ilt_llen, br_false, rotG]
  · intro k hk ih y20701 hy
    have e1 : icv .i64 x1 = x1 := Go.IntWalk.i64_in _ (by omega)
    have e2 : iadd .i64 (k : Int) x1 = ((k + x1.toNat : Nat) : Int) := by rw [iadd_in (by omega)]; omega
    have e3 : irem ((k + x1.toNat : Nat) : Int) (llen y6.2.1) = (((k + x1.toNat) % y6.2.1.length : Nat) : Int) := by
      show Int.tmod ((k + x1.toNat : Nat) : Int) ((y6.2.1.length : Nat) : Int) = _
      exact Int.ofNat_tmod _ _
    have e4 : cNz (llen y6.2.1) = true := decide_eq_true (by unfold llen; omega)
    have hm := Nat.mod_lt (k + x1.toNat) (show 0 < y6.2.1.length by omega)
    have e5 : rotG y6.2.1 x1 k = rotE y6.2.1 x1 k :: rotG y6.2.1 x1 (k + 1) := by
      unfold rotG
      rw [show y6.2.1.length - k = (y6.2.1.length - (k + 1)) + 1 by omega, List.range'_succ, List.map_cons]
    rw [ln_f6_0]
    simp only [n_f6_0, ilt_llen, cIx_nat, hk, decide_true, br_true, Int.toNat_natCast, add1 (show k < 4611686018427387904 by omega), e1, e2, e3, e4, hm, la_f6_0]
    rw [cApp_ok (by simp only [List.length_singleton]; omega) (by omega), br_true, ih _ (by rw [List.length_append]; simp only [List.length_singleton]; omega)]
    simp only [la_f6_0, Int.toNat_natCast, e5, List.append_assoc, List.singleton_append]
    rfl
theorem l_f6_1 (x9 : (List Int)) (x10 : (List Int)) (x11 : (List Int)) (x12 : Int) (h : (decide (0 ≤ x12 ∧ x12 ≤ x11.length ∧ x11.length ≤ 100000)) = true) : lp_f6_1 x9 x10 x11 x12 = la_f6_1 x9 x10 x11 x12 := by
  simp only [decide_eq_true_eq] at h
  obtain ⟨h1, h2, h3⟩ := h
  obtain ⟨k, rfl⟩ := Int.eq_ofNat_of_zero_le h1
  refine range_ind x11 (fun k => lp_f6_1 x9 x10 x11 (k : Int) = la_f6_1 x9 x10 x11 (k : Int)) ?_ ?_ k (by omega)
  · rw [ln_f6_1]
    simp [n_f6_1, la_f6_1, ilt_llen, br_false, ascZ]
  · intro k hk ih
    have e5 : ascZ x11 k = (decide (k = 0 ∨ x11.getD (k - 1) 0 < x11.getD k 0) && ascZ x11 (k + 1)) := by
      unfold ascZ
      rw [show x11.length - k = (x11.length - (k + 1)) + 1 by omega, List.range'_succ, List.all_cons]
    rw [ln_f6_1]
    simp only [n_f6_1, ilt_llen, cIx_nat, hk, decide_true, br_true, Int.toNat_natCast, add1 (show k < 4611686018427387904 by omega), ih, la_f6_1, e5]
    rcases Nat.eq_zero_or_pos k with h0 | h0
    · subst h0
      rw [show igt ((0 : Nat) : Int) 0 = false from rfl, br_false]
      simp only [true_or, decide_true, Bool.true_and]
    · have e6 : isub .i64 (k : Int) 1 = ((k - 1 : Nat) : Int) := by rw [isub_in (by omega)]; omega
      have hk1 : k - 1 < x11.length := by omega
      have e7 : igt (k : Int) 0 = true := by simp only [igt, decide_eq_true_eq]; omega
      simp only [e6, e7, br_true, cIx_nat, hk1, decide_true, Int.toNat_natCast, lgt_get (y := tI) hk, lgt_get (y := tI) hk1]
      rw [List.getD_eq_getElem?_getD, List.getD_eq_getElem?_getD, List.getElem?_eq_getElem hk, List.getElem?_eq_getElem hk1]
      simp only [Option.getD_some, ige]
      by_cases hq : x11[k - 1] < x11[k]
      · rw [decide_eq_false (show ¬ x11[k] ≤ x11[k - 1] by omega), br_false]
        simp only [hq, or_true, decide_true, Bool.true_and]
      · rw [decide_eq_true (show x11[k] ≤ x11[k - 1] by omega), br_true, decide_eq_false (show ¬ (k = 0 ∨ x11[k - 1] < x11[k]) by omega)]
        rfl
theorem lo_f6_0 : ∀ S l p, g_f6.L 0 (fgt fg_f6_0 S) = some (true, l) → pickA l = some p → loopF (roundF g_f6 fg_f6_0 tb_f6_0) S = some p :=
  lok_of (s := sh_f6_0) ⟨by decide, by decide⟩ (by kernel_rfl) fun x y hok p hp => by
  simp only [pickA_br, pickA_one] at hp
  exact (l_f6_0 x.1 x.2.2.2.2.1 y.1 y.2.2.1 y.2.2.2.2.2.2.2.2.1 (by simpa using hok)).trans hp
theorem lo_f6_1 : ∀ S l p, g_f6.L 1 (fgt fg_f6_1 S) = some (true, l) → pickA l = some p → loopF (roundF g_f6 fg_f6_1 tb_f6_1) S = some p :=
  lok_of (s := sh_f6_1) ⟨by decide, by decide⟩ (by kernel_rfl) fun x y hok p hp => by
  simp only [pickA_br, pickA_one] at hp
  exact (l_f6_1 x.1 x.2.1 x.2.2.1 x.2.2.2.1 (by simpa using hok)).trans hp
theorem lk_f6 : tc_f6.lok g_f6 := by
  repeat (first | exact trivial | exact lo_f6_0 | exact lo_f6_1 | refine ⟨?_, ?_⟩)
theorem s_f6 (p0 : List Int) (p1 : Int) (h : lawNamesOk p0 p1 = true) : r_f6 p0 p1 = some (.t .bool (lawNamesG p0 p1), []) := by
  simp only [lawNamesOk, decide_eq_true_eq] at h
  simp only [r_f6, Int.toNat_zero, List.nil_append]
  refine br_intro (fun _ => rfl) (fun k1 => ?_)
  have k1 : light p0 = true := by simpa using k1
  have hd := dOk_roll k1
  have t2 := syms_names namesG (secsG 4 0 (roll p0)).2
  have a2 : (imgV (roll p0)).2.1.length ≤ 7 := by
    have := t2.length_le
    rw [List.length_map] at this
    exact this
  have hsz : ∀ z ∈ (imgV (roll p0)).2.1, z.1.size ≤ 4611686018427387904 := fun z hz => by
    have := named_le (namesG_ok.1 z.1 (t2.subset (List.mem_map.2 ⟨z, hz, rfl⟩)))
    omega
  generalize imgV (roll p0) = x at a2 hsz ⊢
  have hdn : dOk (imgN (roll p0)) = true := syms_okG _ (secs_okG 4 0 hd)
  generalize imgN (roll p0) = d at hdn ⊢
  obtain ⟨w, hw, hwm⟩ : ∃ w, dwdG d wordsG = w ∧ w ∈ wordsG := ⟨_, rfl, by
    have hv := dval_lt (d := d) (n := (wordsG.length : Int)) (by decide)
    have hl : (dval d (wordsG.length : Int)).toNat < wordsG.length := by omega
    unfold dwdG
    rw [List.getD_eq_getElem?_getD, List.getElem?_eq_getElem hl]
    exact List.getElem_mem hl⟩
  obtain ⟨w1, v, w2⟩ := words_one w hwm
  have hw' : dwdG d [(ByteArray.mk #[100, 115, 97, 95, 118, 101, 114, 105, 102, 121]), (ByteArray.mk #[114, 99, 52]), (ByteArray.mk #[111, 116, 104, 101, 114]), (ByteArray.mk #[104, 109, 97, 99, 109, 100, 53, 95, 120])] = w := hw
  have hwo : wdGOk d [(ByteArray.mk #[100, 115, 97, 95, 118, 101, 114, 105, 102, 121]), (ByteArray.mk #[114, 99, 52]), (ByteArray.mk #[111, 116, 104, 101, 114]), (ByteArray.mk #[104, 109, 97, 99, 109, 100, 53, 95, 120])] = true := by simp only [wdGOk, hdn, Bool.true_and]; rfl
  simp only [hw', hwo]
  have rl := rot_len x.2.1 p1
  have o1 : algOk x = true := by
    simp only [algOk, Bool.and_eq_true, decide_eq_true_eq]
    exact ⟨by omega, List.all_eq_true.2 fun z hz => decide_eq_true (hsz z hz)⟩
  have o2 : algOk (([] : List Section), (rotG x.2.1 p1 0, ())) = true := by
    simp only [algOk, Bool.and_eq_true, decide_eq_true_eq]
    exact ⟨by omega, List.all_eq_true.2 fun z hz => decide_eq_true (hsz z (mem_rot.1 hz))⟩
  have o3 : algOk (([] : List Section), (rotG x.2.1 p1 0 ++ [(w, ((0 : Int), ()))], ())) = true := by
    simp only [algOk, Bool.and_eq_true, decide_eq_true_eq, List.all_append, List.length_append, List.length_singleton]
    exact ⟨by omega, List.all_eq_true.2 fun z hz => decide_eq_true (hsz z (mem_rot.1 hz)), by simp only [List.all_cons, List.all_nil, Bool.and_true, decide_eq_true_eq]; omega⟩
  have eqA : algX (([] : List Section), (rotG x.2.1 p1 0, ())) = algX x := asc_ext (algX_asc _) (algX_asc _) fun n => by
    rw [mem_algX, mem_algX]
    exact ⟨fun ⟨z, hz, hn⟩ => ⟨z, mem_rot.1 hz, hn⟩, fun ⟨z, hz, hn⟩ => ⟨z, mem_rot.2 hz, hn⟩⟩
  have lc := algX_len (([] : List Section), (rotG x.2.1 p1 0 ++ [(w, ((0 : Int), ()))], ()))
  simp only [List.length_append, List.length_singleton, rl] at lc
  have la := algX_len x
  have g1 : (algX x).length ≤ (algX (([] : List Section), (rotG x.2.1 p1 0 ++ [(w, ((0 : Int), ()))], ()))).length := asc_le (algX_asc _) fun n hn => by
    obtain ⟨z, hz, hn⟩ := mem_algX.1 hn
    exact mem_algX.2 ⟨z, List.mem_append.2 (.inl (mem_rot.2 hz)), hn⟩
  have g2 : (algX (([] : List Section), (rotG x.2.1 p1 0 ++ [(w, ((0 : Int), ()))], ()))).length ≤ (v :: algX x).length := asc_le (algX_asc _) fun n hn => by
    obtain ⟨z, hz, hn⟩ := mem_algX.1 hn
    rcases List.mem_append.1 hz with hz | hz
    · exact List.mem_cons_of_mem _ (mem_algX.2 ⟨z, mem_rot.1 hz, hn⟩)
    · rw [List.mem_singleton.1 hz] at hn
      rw [w2 n hn]
      exact List.mem_cons_self
  have hz := ascZ_asc (algX_asc (([] : List Section), (rotG x.2.1 p1 0 ++ [(w, ((0 : Int), ()))], ())))
  rw [List.length_cons] at g2
  rw [hd, br_true, decide_eq_true (by simp only [List.length_nil]; omega), br_true, o1, br_true, o2, br_true, br_true, cApp_ok (by rw [rl]; simp only [List.length_singleton]; omega) (by omega), br_true, o3, br_true]
  generalize algX (([] : List Section), (rotG x.2.1 p1 0 ++ [(w, ((0 : Int), ()))], ())) = c at lc g1 g2 hz ⊢
  rw [decide_eq_true (by omega), br_true, hz, Bool.not_true, br_false, eqA, show sameIOk (algX x) (algX x) = true from decide_eq_true (by omega), br_true]
  have f1 : sameI (algX x) (algX x) = true := by simp [sameI]
  have f2 : ige (llen c) (llen (algX x)) = true := by simp only [ige, llen, decide_eq_true_eq]; omega
  have f3 : iadd .i64 (llen (algX x)) 1 = llen (algX x) + 1 := by rw [iadd_in (by unfold llen; omega)]
  have f4 : ile (llen c) (llen (algX x) + 1) = true := by simp only [ile, llen, decide_eq_true_eq]; omega
  rw [f1, f2, f3, f4]
  rfl
def sp_f6 : Ent := spec (.pr (.sl tI) (.pr (.int .u8) .nil)) (fun x => (lawNamesOk x.1 x.2.1)) (fun x => (.t .bool (lawNamesG x.1 x.2.1)))
theorem ms_f6 : Meets Try.prog 6 (strip sp_f6) := by
  obtain ⟨c, hc, hi⟩ := Option.map_eq_some_iff.1 ok_f6
  exact meets_spec (R := runF g_f6 tc_f6 rv_f6 false) (meets_of (by decide) Try.func6 hc hi Try.ntmps6 rok_f6 gk_f6 lk_f6 mixed) fun x hok => (e_f6 x.1 x.2.1).trans (s_f6 x.1 x.2.1 hok)
theorem okw_ExecutableNames (z0 : List Int) (z1 : Int) (w0 : Ty.wf (.sl (.int .i64)) z0) (w1 : Ty.wf (.int .u8) z1) : lawNamesOk z0 z1 = true := decide_eq_true (by have := wf_u8 w1; omega)
end
theorem walkExecutableNames (z0 : (List Int)) (z1 : Int) (W : World) (v0 : Value) (v1 : Value) (c0 : C noX W (fun _ => .no) (V.t (.sl tI) z0).d v0) (c1 : C noX W (fun _ => .no) (V.t (.int .u8) z1).d v1) (w0 : Ty.wf (.sl tI) z0) (w1 : Ty.wf (.int .u8) z1) :
    Calls Try.prog 6 #[v0, v1] W fun r w' => r = .returned (.bool true) ∧ Below W.heap.size W w' :=
  calls_true (by decide) ms_f6 (args := [.t (.sl tI) z0, .t (.int .u8) z1]) (strip_spec (x := (z0, z1, ())) rfl (okw_ExecutableNames z0 z1 w0 w1)) (by simp only [V.ds, Cs]; exact ⟨_, _, rfl, c0, _, _, rfl, c1, rfl⟩)
end Go.Proofs.Ythdichlainehpaa.K
