/-
  executable: which algorithms symbols name, by the answer.
-/
import Derived.Test.YthdichlainehpaaG11
set_option linter.unusedSimpArgs false
set_option linter.unusedVariables false
namespace Go.Proofs.Ythdichlainehpaa.K
open Go.RowKit Go.Shelf
noncomputable section
/-! a text up to its first line below -/
def undX : List Int → Nat
  | [] => 0
  | a :: r => bif ine a 95 then undX r + 1 else 0
theorem undX_le : ∀ l : List Int, undX l ≤ l.length
  | [] => Nat.le_refl _
  | a :: r => by
    have := undX_le r
    unfold undX
    cases ine a 95 <;> simp only [cond_true, cond_false, List.length_cons] <;> omega
def preS (s : ByteArray) : ByteArray := ssl s 0 ((undX (bytesL s) : Nat) : Int)
theorem undX_idx : ∀ l : List UInt8, (Lib.indexByte l 95 = -1 ∧ undX (l.map fun b => (b.toNat : Int)) = l.length) ∨ Lib.indexByte l 95 = (undX (l.map fun b => (b.toNat : Int)) : Int)
  | [] => .inl ⟨rfl, rfl⟩
  | b :: l => by
    unfold Lib.indexByte
    rw [List.map_cons]
    unfold undX
    by_cases hb : b = 95
    · subst hb
      exact .inr rfl
    · have h1 : (b == 95) = false := beq_eq_false_iff_ne.2 hb
      have h2 : ine ((b.toNat : Nat) : Int) 95 = true := by
        rw [ine_dec, decide_eq_true_eq]
        intro h
        apply hb
        have : b.toNat = 95 := by omega
        exact UInt8.toNat_inj.1 this
      rw [h1, h2]
      simp only [Bool.false_eq_true, if_false, cond_true]
      rcases undX_idx l with ⟨q1, q2⟩ | q1
      · rw [q1]
        exact .inl ⟨rfl, by rw [q2]; rfl⟩
      · have hn : (Lib.indexByte l 95 == -1) = false := by rw [beq_eq_false_iff_ne, q1]; omega
        rw [hn]
        refine .inr ?_
        simp only [Bool.false_eq_true, if_false, q1]
        omega
theorem ssl_all (s : ByteArray) : ssl s 0 ((s.size : Nat) : Int) = s := by
  simp only [ssl, Int.toNat_natCast, Int.toNat_zero]
  exact ByteArray.extract_zero_size
theorem bef_pre (s : ByteArray) : befS s = preS s := by
  unfold befS preS cutO
  have e : idxO s (ByteArray.mk #[95]) = Lib.indexByte s.data.toList 95 := rfl
  have e2 : bytesL s = s.data.toList.map fun b => (b.toNat : Int) := rfl
  rw [e, e2]
  rcases undX_idx s.data.toList with ⟨q1, q2⟩ | q1
  · rw [q1, q2]
    show s = ssl s 0 ((s.data.toList.length : Nat) : Int)
    rw [show s.data.toList.length = s.size by simp]
    exact (ssl_all s).symm
  · rw [q1]
    rw [show ige ((undX (s.data.toList.map fun b => (b.toNat : Int)) : Nat) : Int) 0 = true from decide_eq_true (by omega)]
    rfl
def algR (l : List Symbol) (k : Nat) : List Int := (List.range' k (23 - k)).flatMap fun j : Nat => bif l.any (fun z => seq (preS z.1) (nm2G (j : Int))) then [(j : Int)] else []
theorem algR_len (l : List Symbol) (k : Nat) : (algR l k).length ≤ 23 - k := by
  have := flat_bound (fun j : Nat => bif l.any (fun z => seq (preS z.1) (nm2G (j : Int))) then [(j : Int)] else []) 1 (List.range' k (23 - k)) fun j _ => by
    cases l.any (fun z => seq (preS z.1) (nm2G (j : Int))) <;> simp
  rw [List.length_range'] at this
  unfold algR
  omega
theorem algR_succ (l : List Symbol) {k : Nat} (h : k < 23) : algR l k = (bif l.any (fun z => seq (preS z.1) (nm2G (k : Int))) then [(k : Int)] else []) ++ algR l (k + 1) := by
  unfold algR
  rw [show 23 - k = (23 - (k + 1)) + 1 by omega, List.range'_succ, List.flatMap_cons]
theorem algR_23 (l : List Symbol) : algR l 23 = [] := rfl
def algROk (x : Image) : Bool := decide (x.2.1.length ≤ 100000) && symsSm x.2.1
theorem symsSm_all {l : List Symbol} (h : symsSm l = true) {k : Nat} (hk : k < l.length) : l[k].1.size ≤ 4611686018427387904 := of_decide_eq_true (List.all_eq_true.1 h l[k] (List.getElem_mem hk))
def algRX (x : Image) : List Int := algR x.2.1 1
def dr_f51_0 : List DO := [(.mk (oV 38 5) []), (.mk (oV 39 38) [0]), (.mk (oQ 40 39 false (.mv (.t 7))) [1]), (.mk (oQ 41 39 false (.mv (.t 8))) [1]), (.mk (oQ 42 39 false (.sls (.t 40) none (some (.t 41)))) [2, 3, 1]), (.mk (oQ 43 39 false (.mv (.t 4))) [1]), (.mk (oG 44 39 false (.call 83 [(.t 43)])) [5, 1, 1]), (.mk (oQ 45 39 false (.bin false .eql (.t 42) (.t 44))) [4, 6, 1]), (.mk (oP 46 (.pick (.t 39) (cB true) (.t 45))) [1, 7]), (.mk (oV 5 46) [8, 6, 0, 1, 2, 3, 4, 5, 6, 7, 8])]
def fg_f51_0 : Fg := ⟨[(1, none), (3, none), (4, some tI), (5, some .bool), (6, some tI), (7, some .str), (8, some tI)], [(1, some tyImage), (3, none), (51, none)]⟩
def tb_f51_0 : TC := (.sq (.sq (.reg [(oV 26 8), (oV 27 7), (oP 28 (.len true (.t 27))), (oP 29 (.bin false .lss (.t 26) (.t 28))), (oV 30 29), (oQ 31 30 true (.mv (.t 7))), (oQ 32 30 true (.mv (.t 8))), (oQ 33 30 true (.sx (.t 31) (.t 32))), (oQ 34 30 true (.bin false .neq (.t 33) (.c (.v (.int .u8 95))))), (oP 35 (.pick (.t 30) (.t 34) (cB false)))]) (.cd (.t 35) .sk (.fg ⟨[(1, none), (3, none), (4, some tI), (5, some .bool), (6, some tI), (7, some .str), (8, some tI)], [(1, some tyImage), (3, none), (51, none)]⟩ (.ex 4)))) (.bk 5 (.reg [(oV 36 8), (oP 37 (.bin false .add (.t 36) (cI 1))), (oV 8 37)])))
def fg_f51_1 : Fg := ⟨[(1, none), (3, none), (4, some tI), (5, some .bool), (6, some tI)], [(1, some tyImage), (3, none), (51, none)]⟩
def tb_f51_1 : TC := (.sq (.sq (.reg [(oV 13 6), (oP 14 (.fa 1 (.t 1))), (oL 15 14), (oP 16 (.len false (.t 15))), (oP 17 (.bin false .lss (.t 13) (.t 16)))]) (.cd (.t 17) .sk (.fg ⟨[(1, none), (3, none), (4, some tI), (5, some .bool)], [(1, some tyImage), (3, none), (51, none)]⟩ (.ex 2)))) (.sq (.bk 3 (.sq (.reg [(oP 20 (.fa 1 (.t 1))), (oL 21 20), (oV 22 6), (oP 23 (.ix 2 (.t 21) (.t 22))), (oP 24 (.fa 0 (.t 23))), (oL 25 24), (oV 7 25)]) (.sq (.reg [(oP 8 (.mv (cI 0)))]) (.sq (.bk 4 (.lp 0 fg_f51_0 tb_f51_0)) (.dr dr_f51_0 [(0, []), (1, []), (2, []), (3, []), (4, []), (5, []), (6, []), (7, []), (8, []), (9, [])] (.of [0, 1, 2, 3, 4, 5, 6, 7, 8, 9])))))) (.reg [(oV 18 6), (oP 19 (.bin false .add (.t 18) (cI 1))), (oV 6 19)])))
def fg_f51_2 : Fg := ⟨[(1, none), (3, none), (4, some tI)], [(1, some tyImage), (3, none), (51, none)]⟩
def tb_f51_2 : TC := (.sq (.sq (.reg [(oV 9 4), (oP 10 (.bin false .leq (.t 9) (cI 22)))]) (.cd (.t 10) .sk (.fg ⟨[(3, none)], [(3, none), (51, none)]⟩ (.ex 0)))) (.sq (.bk 1 (.sq (.reg [(oP 5 (.mv (cB false)))]) (.sq (.sq (.reg [(oP 6 (.mv (cI 0)))]) (.bk 2 (.lp 1 fg_f51_1 tb_f51_1))) (.sq (.reg [(oV 47 5)]) (.cd (.t 47) (.reg [(oV 48 3), (oV 49 4), (oM 50 (.bs 3 1 1 [(.v (.int .i64 0))] [(0, 1, (.t 49))])), (oM 51 (.app 3 1 8 (.t 48) (.t 50))), (oV 3 51)]) .sk))))) (.reg [(oV 11 4), (oP 12 (.bin false .add (.t 11) (cI 1))), (oV 4 12)])))
/-- cipherplan/cipherplanref10.Algorithms -/
def tc_f51 : TC := (.sq (.reg [(oM 1 (.box (.t 0))), (oP 2 (.mv (.c (.v (.slice none 0 0)))))]) (.sq (.reg [(oP 3 (.mv (.c (.v (.slice none 0 0)))))]) (.sq (.sq (.reg [(oP 4 (.mv (cI 1)))]) (.bk 0 (.nw 3 3 (.lp 2 fg_f51_2 tb_f51_2)))) (.sq (.reg [(oV 52 3), (oV 2 52)]) .rt))))
def rv_f51 : List (RV × Option Ty) := [((.t 2), some (.sl tI))]
abbrev sh_f51_0 : Sh := ⟨[(1, .ptr 1 0), (3, .ms 3), (4, .ty tI), (5, .ty .bool), (6, .ty tI), (7, .ty .str), (8, .ty tI)], [(1, .box tyImage), (3, .arr 3 tI), (51, .no)]⟩
def st_f51_0 (x4 : Int) (x5 : Bool) (x6 : Int) (x7 : ByteArray) (x8 : Int) (y1 : Image) (y3 : (List Int)) : VS := sh_f51_0.st ((), (), x4, x5, x6, x7, x8, ()) (y1, y3, (), ())
abbrev sh_f51_0_e4 : Sh := ⟨[(1, .ptr 1 0), (3, .ms 3), (4, .ty tI), (5, .ty .bool), (6, .ty tI), (7, .ty .str), (8, .ty tI)], [(1, .box tyImage), (3, .arr 3 tI), (51, .no)]⟩
def st_f51_0_e4 (x4 : Int) (x5 : Bool) (x6 : Int) (x7 : ByteArray) (x8 : Int) (y1 : Image) (y3 : (List Int)) : VS := sh_f51_0_e4.st ((), (), x4, x5, x6, x7, x8, ()) (y1, y3, (), ())
-- loop 0: (x4 : Int) (x5 : Bool) (x6 : Int) (x7 : ByteArray) (x8 : Int) (y1 : Image) (y3 : (List Int)); out: ('exit', 4) (x4 : Int) (x5 : Bool) (x6 : Int) (x7 : ByteArray) (x8 : Int) (y1 : Image) (y3 : (List Int))
abbrev sh_f51_1 : Sh := ⟨[(1, .ptr 1 0), (3, .ms 3), (4, .ty tI), (5, .ty .bool), (6, .ty tI)], [(1, .box tyImage), (3, .arr 3 tI), (51, .no)]⟩
def st_f51_1 (x4 : Int) (x5 : Bool) (x6 : Int) (y1 : Image) (y3 : (List Int)) : VS := sh_f51_1.st ((), (), x4, x5, x6, ()) (y1, y3, (), ())
abbrev sh_f51_1_e2 : Sh := ⟨[(1, .ptr 1 0), (3, .ms 3), (4, .ty tI), (5, .ty .bool)], [(1, .box tyImage), (3, .arr 3 tI), (51, .no)]⟩
def st_f51_1_e2 (x4 : Int) (x5 : Bool) (y1 : Image) (y3 : (List Int)) : VS := sh_f51_1_e2.st ((), (), x4, x5, ()) (y1, y3, (), ())
-- loop 1: (x4 : Int) (x5 : Bool) (x6 : Int) (y1 : Image) (y3 : (List Int)); out: ('exit', 2) (x4 : Int) (x5 : Bool) (y1 : Image) (y3 : (List Int))
abbrev sh_f51_2 : Sh := ⟨[(1, .ptr 1 0), (3, .ms 3), (4, .ty tI)], [(1, .box tyImage), (3, .arr 3 tI), (51, .no)]⟩
def st_f51_2 (x4 : Int) (y1 : Image) (y3 : (List Int)) : VS := sh_f51_2.st ((), (), x4, ()) (y1, y3, (), ())
abbrev sh_f51_2_e0 : Sh := ⟨[(3, .ms 3)], [(3, .arr 3 tI), (51, .no)]⟩
def st_f51_2_e0 (y3 : (List Int)) : VS := sh_f51_2_e0.st ((), ()) (y3, (), ())
-- loop 2: (x4 : Int) (y1 : Image) (y3 : (List Int)); out: ('exit', 0) (y3 : (List Int))
def L_f51_0 : VS → Option (Bool × List (Bool × Exit × VS)) := mkL sh_f51_0 (fun x y => (decide (0 ≤ x.2.2.2.2.2.2.1 ∧ x.2.2.2.2.2.2.1 ≤ x.2.2.2.2.2.1.size ∧ x.2.2.2.2.2.1.size ≤ 4611686018427387904))) (fun x y => [(true, .exit 4, st_f51_0_e4 (x.2.2.1) (x.2.2.2.1) (x.2.2.2.2.1) (x.2.2.2.2.2.1) (((x.2.2.2.2.2.2.1.toNat + undX ((bytesL x.2.2.2.2.2.1).drop x.2.2.2.2.2.2.1.toNat) : Nat) : Int)) (y.1) (y.2.1))])
def L_f51_1 : VS → Option (Bool × List (Bool × Exit × VS)) := mkL sh_f51_1 (fun x y => (decide (0 ≤ x.2.2.2.2.1 ∧ x.2.2.2.2.1 ≤ y.1.2.1.length ∧ y.1.2.1.length ≤ 100000) && symsSm y.1.2.1)) (fun x y => [(true, .exit 2, st_f51_1_e2 (x.2.2.1) (x.2.2.2.1 || (y.1.2.1.drop x.2.2.2.2.1.toNat).any (fun z => seq (preS z.1) (nm2G x.2.2.1))) (y.1) (y.2.1))])
def L_f51_2 : VS → Option (Bool × List (Bool × Exit × VS)) := mkL sh_f51_2 (fun x y => (decide (1 ≤ x.2.2.1 ∧ x.2.2.1 ≤ 23 ∧ y.2.1.length ≤ 100 + x.2.2.1.toNat ∧ y.1.2.1.length ≤ 100000) && symsSm y.1.2.1)) (fun x y => [(true, .exit 0, st_f51_2_e0 (y.2.1 ++ algR y.1.2.1 x.2.2.1.toNat))])
def g_f51 : G := ⟨TYs, [], 53, EL [(83, sp_f83)], keeps, (Ls [L_f51_0, L_f51_1, L_f51_2]), IL [], RL []⟩
def b_f51_0 (x4 : Int) (x5 : Bool) (x6 : Int) (x7 : ByteArray) (x8 : Int) (y1 : Image) (y3 : (List Int)) : Option (Exit × VS) :=
  br ((ilt x8 (slen x7)))
    (br (cSx x7 x8)
      (br ((ine (sgt x7 x8) 95))
        (some (.normal, st_f51_0 x4 x5 x6 x7 (iadd .i64 x8 1) y1 y3))
        (some (.exit 4, st_f51_0_e4 x4 x5 x6 x7 x8 y1 y3)))
      (none))
    (some (.exit 4, st_f51_0_e4 x4 x5 x6 x7 x8 y1 y3))
noncomputable def lp_f51_0 (x4 : Int) (x5 : Bool) (x6 : Int) (x7 : ByteArray) (x8 : Int) (y1 : Image) (y3 : (List Int)) : Option (Exit × VS) := loopF (roundF g_f51 fg_f51_0 tb_f51_0) (st_f51_0 x4 x5 x6 x7 x8 y1 y3)
noncomputable def n_f51_0 (x4 : Int) (x5 : Bool) (x6 : Int) (x7 : ByteArray) (x8 : Int) (y1 : Image) (y3 : (List Int)) : Option (Exit × VS) :=
  br ((ilt x8 (slen x7)))
    (br (cSx x7 x8)
      (br ((ine (sgt x7 x8) 95))
        (lp_f51_0 x4 x5 x6 x7 (iadd .i64 x8 1) y1 y3)
        (some (.exit 4, st_f51_0_e4 x4 x5 x6 x7 x8 y1 y3)))
      (none))
    (some (.exit 4, st_f51_0_e4 x4 x5 x6 x7 x8 y1 y3))
def la_f51_0 (x4 : Int) (x5 : Bool) (x6 : Int) (x7 : ByteArray) (x8 : Int) (y1 : Image) (y3 : (List Int)) : Option (Exit × VS) := some (.exit 4, st_f51_0_e4 (x4) (x5) (x6) (x7) (((x8.toNat + undX ((bytesL x7).drop x8.toNat) : Nat) : Int)) (y1) (y3))
theorem be_f51_0 (x4 : Int) (x5 : Bool) (x6 : Int) (x7 : ByteArray) (x8 : Int) (y1 : Image) (y3 : (List Int)) : roundF g_f51 fg_f51_0 tb_f51_0 (st_f51_0 x4 x5 x6 x7 x8 y1 y3) = b_f51_0 x4 x5 x6 x7 x8 y1 y3 := by kernel_rfl
theorem ln_f51_0 (x4 : Int) (x5 : Bool) (x6 : Int) (x7 : ByteArray) (x8 : Int) (y1 : Image) (y3 : (List Int)) : lp_f51_0 x4 x5 x6 x7 x8 y1 y3 = n_f51_0 x4 x5 x6 x7 x8 y1 y3 := (loopF_nxt _ _).trans (by
  rw [be_f51_0]
  simp only [b_f51_0, n_f51_0, nxt_br, nxt_n, nxt_r, nxt_e, nxt_0]
  rfl)
def b_f51_1 (x4 : Int) (x5 : Bool) (x6 : Int) (y1 : Image) (y3 : (List Int)) : Option (Exit × VS) :=
  br ((ilt x6 (llen y1.2.1)))
    (br (cIx y1.2.1 x6)
      (br ((decide (0 ≤ (0 : Int) ∧ (0 : Int) ≤ ((lgt tySymbol y1.2.1 (Int.toNat x6)).1).size ∧ ((lgt tySymbol y1.2.1 (Int.toNat x6)).1).size ≤ 4611686018427387904)))
        (br ((x5))
          (some (.normal, st_f51_1 (x4) true (iadd .i64 (x6) 1) (y1) (y3)))
          (br (cSs (((lgt tySymbol y1.2.1 (Int.toNat x6)).1)) 0 ((((0 : Int).toNat + undX ((bytesL ((lgt tySymbol y1.2.1 (Int.toNat x6)).1)).drop (0 : Int).toNat) : Nat) : Int)))
            (some (.normal, st_f51_1 (x4) (seq (ssl (((lgt tySymbol y1.2.1 (Int.toNat x6)).1)) 0 ((((0 : Int).toNat + undX ((bytesL ((lgt tySymbol y1.2.1 (Int.toNat x6)).1)).drop (0 : Int).toNat) : Nat) : Int))) (nm2G (x4))) (iadd .i64 (x6) 1) (y1) (y3)))
            (none)))
        (none))
      (none))
    (some (.exit 2, st_f51_1_e2 x4 x5 y1 y3))
noncomputable def lp_f51_1 (x4 : Int) (x5 : Bool) (x6 : Int) (y1 : Image) (y3 : (List Int)) : Option (Exit × VS) := loopF (roundF g_f51 fg_f51_1 tb_f51_1) (st_f51_1 x4 x5 x6 y1 y3)
noncomputable def n_f51_1 (x4 : Int) (x5 : Bool) (x6 : Int) (y1 : Image) (y3 : (List Int)) : Option (Exit × VS) :=
  br ((ilt x6 (llen y1.2.1)))
    (br (cIx y1.2.1 x6)
      (br ((decide (0 ≤ (0 : Int) ∧ (0 : Int) ≤ ((lgt tySymbol y1.2.1 (Int.toNat x6)).1).size ∧ ((lgt tySymbol y1.2.1 (Int.toNat x6)).1).size ≤ 4611686018427387904)))
        (br ((x5))
          (lp_f51_1 (x4) true (iadd .i64 (x6) 1) (y1) (y3))
          (br (cSs (((lgt tySymbol y1.2.1 (Int.toNat x6)).1)) 0 ((((0 : Int).toNat + undX ((bytesL ((lgt tySymbol y1.2.1 (Int.toNat x6)).1)).drop (0 : Int).toNat) : Nat) : Int)))
            (lp_f51_1 (x4) (seq (ssl (((lgt tySymbol y1.2.1 (Int.toNat x6)).1)) 0 ((((0 : Int).toNat + undX ((bytesL ((lgt tySymbol y1.2.1 (Int.toNat x6)).1)).drop (0 : Int).toNat) : Nat) : Int))) (nm2G (x4))) (iadd .i64 (x6) 1) (y1) (y3))
            (none)))
        (none))
      (none))
    (some (.exit 2, st_f51_1_e2 x4 x5 y1 y3))
def la_f51_1 (x4 : Int) (x5 : Bool) (x6 : Int) (y1 : Image) (y3 : (List Int)) : Option (Exit × VS) := some (.exit 2, st_f51_1_e2 (x4) (x5 || (y1.2.1.drop x6.toNat).any (fun z => seq (preS z.1) (nm2G x4))) (y1) (y3))
theorem be_f51_1 (x4 : Int) (x5 : Bool) (x6 : Int) (y1 : Image) (y3 : (List Int)) : roundF g_f51 fg_f51_1 tb_f51_1 (st_f51_1 x4 x5 x6 y1 y3) = b_f51_1 x4 x5 x6 y1 y3 := by kernel_rfl
theorem ln_f51_1 (x4 : Int) (x5 : Bool) (x6 : Int) (y1 : Image) (y3 : (List Int)) : lp_f51_1 x4 x5 x6 y1 y3 = n_f51_1 x4 x5 x6 y1 y3 := (loopF_nxt _ _).trans (by
  rw [be_f51_1]
  simp only [b_f51_1, n_f51_1, nxt_br, nxt_n, nxt_r, nxt_e, nxt_0]
  rfl)
def b_f51_2 (x4 : Int) (y1 : Image) (y3 : (List Int)) : Option (Exit × VS) :=
  br ((ile x4 22))
    (br ((decide (0 ≤ (0 : Int) ∧ (0 : Int) ≤ y1.2.1.length ∧ y1.2.1.length ≤ 100000) && symsSm y1.2.1))
      (br ((false || (y1.2.1.drop (0 : Int).toNat).any (fun z => seq (preS z.1) (nm2G x4))))
        (br (cApp (y3) ([(x4)]) 8)
          (some (.normal, st_f51_2 (iadd .i64 (x4) 1) (y1) ((y3) ++ ([(x4)]))))
          (none))
        (some (.normal, st_f51_2 (iadd .i64 (x4) 1) (y1) (y3))))
      (none))
    (some (.exit 0, st_f51_2_e0 y3))
noncomputable def lp_f51_2 (x4 : Int) (y1 : Image) (y3 : (List Int)) : Option (Exit × VS) := loopF (roundF g_f51 fg_f51_2 tb_f51_2) (st_f51_2 x4 y1 y3)
noncomputable def n_f51_2 (x4 : Int) (y1 : Image) (y3 : (List Int)) : Option (Exit × VS) :=
  br ((ile x4 22))
    (br ((decide (0 ≤ (0 : Int) ∧ (0 : Int) ≤ y1.2.1.length ∧ y1.2.1.length ≤ 100000) && symsSm y1.2.1))
      (br ((false || (y1.2.1.drop (0 : Int).toNat).any (fun z => seq (preS z.1) (nm2G x4))))
        (br (cApp (y3) ([(x4)]) 8)
          (lp_f51_2 (iadd .i64 (x4) 1) (y1) ((y3) ++ ([(x4)])))
          (none))
        (lp_f51_2 (iadd .i64 (x4) 1) (y1) (y3)))
      (none))
    (some (.exit 0, st_f51_2_e0 y3))
def la_f51_2 (x4 : Int) (y1 : Image) (y3 : (List Int)) : Option (Exit × VS) := some (.exit 0, st_f51_2_e0 (y3 ++ algR y1.2.1 x4.toNat))
theorem be_f51_2 (x4 : Int) (y1 : Image) (y3 : (List Int)) : roundF g_f51 fg_f51_2 tb_f51_2 (st_f51_2 x4 y1 y3) = b_f51_2 x4 y1 y3 := by kernel_rfl
theorem ln_f51_2 (x4 : Int) (y1 : Image) (y3 : (List Int)) : lp_f51_2 x4 y1 y3 = n_f51_2 x4 y1 y3 := (loopF_nxt _ _).trans (by
  rw [be_f51_2]
  simp only [b_f51_2, n_f51_2, nxt_br, nxt_n, nxt_r, nxt_e, nxt_0]
  rfl)
def r_f51 (p0 : Image) : Option (V × List VO) :=
  br ((decide (1 ≤ (1 : Int) ∧ (1 : Int) ≤ 23 ∧ ([] : List Int).length ≤ 100 + (1 : Int).toNat ∧ p0.2.1.length ≤ 100000) && symsSm p0.2.1))
    (some (.t (.sl tI) (([] : List Int) ++ algR p0.2.1 (1 : Int).toNat), []))
    (none)
theorem e_f51 (p0 : Image) : runF g_f51 tc_f51 rv_f51 false [.t tyImage p0] [] = r_f51 p0 := by kernel_rfl
theorem ok_f51 : Option.map (trC Try.prog) Try.f51.body = some tc_f51.er := by kernel_rfl
theorem rok_f51 : trVs Try.prog Try.f51.results.toList = some (rv_f51.map Prod.fst) := by kernel_rfl
theorem en_f51 : Entered Try.prog 51 := .inr ⟨by decide, _, Try.func51, by kernel_rfl, by kernel_rfl⟩
theorem gk_f51 : GOk Try.prog g_f51 := gok_of _ (by
  intro p hp
  simp only [List.mem_cons, List.not_mem_nil, or_false] at hp
  rcases hp with rfl
  · exact ⟨en_f83, ms_f83⟩)
theorem l_f51_0 (x4 : Int) (x5 : Bool) (x6 : Int) (x7 : ByteArray) (x8 : Int) (y1 : Image) (y3 : (List Int)) (h : (decide (0 ≤ x8 ∧ x8 ≤ x7.size ∧ x7.size ≤ 4611686018427387904)) = true) : lp_f51_0 x4 x5 x6 x7 x8 y1 y3 = la_f51_0 x4 x5 x6 x7 x8 y1 y3 := by
  simp only [decide_eq_true_eq] at h
  obtain ⟨h1, h2, h3⟩ := h
  obtain ⟨k, rfl⟩ := Int.eq_ofNat_of_zero_le h1
  have hl := bytesG_len x7
  refine range_ind (bytesL x7) (fun k => lp_f51_0 x4 x5 x6 x7 (k : Int) y1 y3 = la_f51_0 x4 x5 x6 x7 (k : Int) y1 y3) ?_ ?_ k (by omega)
  · rw [ln_f51_0, hl]
    have e1 : ilt ((x7.size : Nat) : Int) (slen x7) = false := by simp [ilt, slen]
    have e2 : (bytesL x7).drop x7.size = [] := List.drop_eq_nil_of_le (by omega)
    simp only [n_f51_0, la_f51_0, e1, br_false, Int.toNat_natCast, e2, undX, Nat.add_zero]
  · intro k hk ih
    have hk2 : k < x7.size := by omega
    have e1 : ilt (k : Int) (slen x7) = true := by simp only [ilt, slen, decide_eq_true_eq]; omega
    have e2 : cSx x7 (k : Int) = true := by simp only [cSx, decide_eq_true_eq]; omega
    rw [ln_f51_0]
    simp only [n_f51_0, e1, e2, br_true, sgt_get hk2, add1 (show k < 4611686018427387904 by omega), ih, la_f51_0, Int.toNat_natCast, List.drop_eq_getElem_cons hk, undX]
    cases ine (bytesL x7)[k] 95 with
    | true =>
      simp only [br_true, cond_true]
      rw [show k + 1 + undX ((bytesL x7).drop (k + 1)) = k + (undX ((bytesL x7).drop (k + 1)) + 1) by omega]
    | false => simp only [br_false, cond_false, Nat.add_zero]
theorem l_f51_1 (x4 : Int) (x5 : Bool) (x6 : Int) (y1 : Image) (y3 : (List Int)) (h : (decide (0 ≤ x6 ∧ x6 ≤ y1.2.1.length ∧ y1.2.1.length ≤ 100000) && symsSm y1.2.1) = true) : lp_f51_1 x4 x5 x6 y1 y3 = la_f51_1 x4 x5 x6 y1 y3 := by
  simp only [Bool.and_eq_true, decide_eq_true_eq] at h
  obtain ⟨⟨h1, h2, h3⟩, h4⟩ := h
  obtain ⟨k, rfl⟩ := Int.eq_ofNat_of_zero_le h1
  revert x5
  refine range_ind y1.2.1 (fun k => ∀ x5 : Bool, lp_f51_1 x4 x5 (k : Int) y1 y3 = la_f51_1 x4 x5 (k : Int) y1 y3) ?_ ?_ k (by omega)
  · intro x5
    rw [ln_f51_1]
    simp [n_f51_1, la_f51_1, ilt_llen, br_false]
  · intro k hk ih x5
    have hz := symsSm_all h4 hk
    have hl := bytesG_len y1.2.1[k].1
    have hu := undX_le (bytesL y1.2.1[k].1)
    have c1 : cSs y1.2.1[k].1 0 ((undX (bytesL y1.2.1[k].1) : Nat) : Int) = true := decide_eq_true (by omega)
    rw [ln_f51_1]
    simp only [n_f51_1, ilt_llen, cIx_nat, hk, decide_true, br_true, Int.toNat_natCast, lgt_get (y := tySymbol) hk, add1 (show k < 4611686018427387904 by omega), ih, Int.toNat_zero, List.drop_zero, Nat.zero_add, c1]
    rw [decide_eq_true (show (0 : Int) ≤ 0 ∧ (0 : Int) ≤ y1.2.1[k].1.size ∧ y1.2.1[k].1.size ≤ 4611686018427387904 by omega), br_true]
    simp only [la_f51_1, Int.toNat_natCast, List.drop_eq_getElem_cons hk, List.any_cons]
    cases x5 with
    | true => simp only [br_true, Bool.true_or]
    | false =>
      simp only [br_false, Bool.false_or]
      rfl
theorem l_f51_2 (x4 : Int) (y1 : Image) (y3 : (List Int)) (h : (decide (1 ≤ x4 ∧ x4 ≤ 23 ∧ y3.length ≤ 100 + x4.toNat ∧ y1.2.1.length ≤ 100000) && symsSm y1.2.1) = true) : lp_f51_2 x4 y1 y3 = la_f51_2 x4 y1 y3 := by
  simp only [Bool.and_eq_true, decide_eq_true_eq] at h
  obtain ⟨⟨h1, h2, h3, h4⟩, h5⟩ := h
  obtain ⟨k, rfl⟩ : ∃ k : Nat, x4 = k := ⟨x4.toNat, by omega⟩
  rw [Int.toNat_natCast] at h3
  revert y3
  refine up_ind 23 (fun k => ∀ y3 : List Int, y3.length ≤ 100 + k → lp_f51_2 (k : Int) y1 y3 = la_f51_2 (k : Int) y1 y3) ?_ ?_ k (by omega)
  · intro y3 _
    rw [ln_f51_2]
    simp only [n_f51_2, show ile ((23 : Nat) : Int) 22 = false from rfl, br_false, la_f51_2, Int.toNat_natCast, algR_23, List.append_nil]
  · intro k hk ih y3 hy
    rw [ln_f51_2]
    simp only [n_f51_2, show ile (k : Int) 22 = true from decide_eq_true (by omega), br_true, Int.toNat_zero, List.drop_zero, Bool.false_or, h5, Bool.and_true, add1 (show k < 4611686018427387904 by omega)]
    rw [decide_eq_true (show (0 : Int) ≤ 0 ∧ (0 : Int) ≤ y1.2.1.length ∧ y1.2.1.length ≤ 100000 by omega), br_true]
    simp only [la_f51_2, Int.toNat_natCast, algR_succ y1.2.1 hk]
    cases y1.2.1.any (fun z => seq (preS z.1) (nm2G (k : Int))) with
    | false =>
      rw [br_false, ih _ (by omega)]
      simp only [la_f51_2, Int.toNat_natCast, cond_false, List.nil_append]
    | true =>
      rw [br_true, cApp_ok (by simp only [List.length_singleton]; omega) (by omega), br_true, ih _ (by rw [List.length_append]; simp only [List.length_singleton]; omega)]
      simp only [la_f51_2, Int.toNat_natCast, cond_true, List.append_assoc]
theorem lo_f51_0 : ∀ S l p, g_f51.L 0 (fgt fg_f51_0 S) = some (true, l) → pickA l = some p → loopF (roundF g_f51 fg_f51_0 tb_f51_0) S = some p :=
  lok_of (s := sh_f51_0) ⟨by decide, by decide⟩ (by kernel_rfl) fun x y hok p hp => by
  simp only [pickA_br, pickA_one] at hp
  exact (l_f51_0 x.2.2.1 x.2.2.2.1 x.2.2.2.2.1 x.2.2.2.2.2.1 x.2.2.2.2.2.2.1 y.1 y.2.1 (by simpa using hok)).trans hp
theorem lo_f51_1 : ∀ S l p, g_f51.L 1 (fgt fg_f51_1 S) = some (true, l) → pickA l = some p → loopF (roundF g_f51 fg_f51_1 tb_f51_1) S = some p :=
  lok_of (s := sh_f51_1) ⟨by decide, by decide⟩ (by kernel_rfl) fun x y hok p hp => by
  simp only [pickA_br, pickA_one] at hp
  exact (l_f51_1 x.2.2.1 x.2.2.2.1 x.2.2.2.2.1 y.1 y.2.1 (by simpa using hok)).trans hp
theorem lo_f51_2 : ∀ S l p, g_f51.L 2 (fgt fg_f51_2 S) = some (true, l) → pickA l = some p → loopF (roundF g_f51 fg_f51_2 tb_f51_2) S = some p :=
  lok_of (s := sh_f51_2) ⟨by decide, by decide⟩ (by kernel_rfl) fun x y hok p hp => by
  simp only [pickA_br, pickA_one] at hp
  exact (l_f51_2 x.2.2.1 y.1 y.2.1 (by simpa using hok)).trans hp
theorem lk_f51 : tc_f51.lok g_f51 := by
  repeat (first | exact trivial | exact lo_f51_0 | exact lo_f51_1 | exact lo_f51_2 | refine ⟨?_, ?_⟩)
theorem s_f51 (x : Image) (h : algROk x = true) : r_f51 x = some (.t (.sl tI) (algRX x), []) := by
  simp only [algROk, Bool.and_eq_true, decide_eq_true_eq] at h
  simp only [r_f51, h.2, Bool.and_true, List.nil_append]
  rw [decide_eq_true (by simp only [List.length_nil]; omega), br_true]
  rfl
def sp_f51 : Ent := spec (.pr tyImage .nil) (fun x => (algROk x.1)) (fun x => (.t (.sl tI) (algRX x.1)))
theorem ms_f51 : Meets Try.prog 51 (strip sp_f51) := by
  obtain ⟨c, hc, hi⟩ := Option.map_eq_some_iff.1 ok_f51
  exact meets_spec (R := runF g_f51 tc_f51 rv_f51 false) (meets_of (by decide) Try.func51 hc hi Try.ntmps51 rok_f51 gk_f51 lk_f51 mixed) fun x hok => (e_f51 x.1).trans (s_f51 x.1 hok)
/-! both name the same algorithms -/
theorem names_all : ((List.range' 1 22).all fun k => ((nmT rowsG (k : Int)).data.toList == (nm2G (k : Int)).data.toList) && (((((List.range' 0 23).find? fun i : Nat => decide (0 < i) && ((nmT rowsG (i : Int)).data.toList == (nm2G (k : Int)).data.toList)).getD 0) == k) && ((befS (nm2G (k : Int))).data.toList == (nm2G (k : Int)).data.toList))) = true := by kernel_rfl
theorem data_inj {a b : ByteArray} (h : a.data.toList = b.data.toList) : a = b := by
  have : seq a b = true := by rw [seq_data, h]; simp
  exact seq_iff.1 this
theorem names_at {k : Nat} (h1 : 1 ≤ k) (h2 : k ≤ 22) : nmT rowsG (k : Int) = nm2G (k : Int) ∧ findG (nm2G (k : Int)) = k ∧ befS (nm2G (k : Int)) = nm2G (k : Int) := by
  have := List.all_eq_true.1 names_all k (by simp; omega)
  simp only [Bool.and_eq_true, beq_iff_eq] at this
  refine ⟨data_inj this.1, ?_, data_inj this.2.2⟩
  rw [findG_data, this.2.1]
theorem find_pos {s : ByteArray} (h : 0 < findG s) : ∃ k : Nat, findG s = (k : Int) ∧ 1 ≤ k ∧ k ≤ 22 ∧ s = nm2G (k : Int) := by
  unfold findG at h ⊢
  cases hq : findZ rowsG s 0 with
  | none => rw [hq] at h; simp at h
  | some k =>
    have h1 := List.find?_some hq
    have h2 := List.mem_of_find?_eq_some hq
    simp only [Bool.and_eq_true, decide_eq_true_eq] at h1
    have h2 : k < 23 := by simpa using h2
    exact ⟨k, rfl, by omega, by omega, by rw [← (names_at (k := k) (by omega) (by omega)).1]; exact (seq_iff.1 h1.2).symm⟩
theorem mem_algN {s : ByteArray} {n : Int} : n ∈ algN s ↔ n = findG s ∧ 0 < findG s := by
  unfold algN posL
  cases hc : igt (findG s) 0 with
  | false =>
    simp only [igt, decide_eq_false_iff_not] at hc
    simp only [cond_false, List.not_mem_nil, false_iff, not_and]
    exact fun _ => hc
  | true =>
    simp only [igt, decide_eq_true_eq] at hc
    simp only [cond_true, List.mem_singleton]
    exact ⟨fun h => ⟨h, hc⟩, fun h => h.1⟩
theorem mem_algS {z : Symbol} {n : Int} : n ∈ algS z ↔ ∃ k : Nat, n = (k : Int) ∧ 1 ≤ k ∧ k ≤ 22 ∧ befS z.1 = nm2G (k : Int) := by
  simp only [algS, List.flatMap_cons, List.flatMap_nil, List.append_nil, List.mem_append, mem_algN]
  constructor
  · rintro (⟨h1, h2⟩ | ⟨h1, h2⟩)
    · obtain ⟨k, q1, q2, q3, q4⟩ := find_pos h2
      exact ⟨k, h1.trans q1, q2, q3, by rw [q4]; exact (names_at q2 q3).2.2⟩
    · obtain ⟨k, q1, q2, q3, q4⟩ := find_pos h2
      exact ⟨k, h1.trans q1, q2, q3, q4⟩
  · rintro ⟨k, rfl, h2, h3, h4⟩
    have := (names_at h2 h3).2.1
    refine .inr ?_
    rw [h4, this]
    omega
theorem algR_asc (l : List Symbol) : ∀ (m k : Nat), 23 - k = m → asc (algR l k) ∧ ∀ n ∈ algR l k, (k : Int) ≤ n
  | 0, k, h => by
    have : algR l k = [] := by unfold algR; rw [h]; rfl
    rw [this]
    exact ⟨List.Pairwise.nil, fun n hn => by cases hn⟩
  | m + 1, k, h => by
    obtain ⟨h1, h2⟩ := algR_asc l m (k + 1) (by omega)
    rw [algR_succ l (by omega)]
    cases l.any (fun z => seq (preS z.1) (nm2G (k : Int))) with
    | false => exact ⟨h1, fun n hn => by have := h2 n hn; omega⟩
    | true =>
      refine ⟨List.pairwise_cons.2 ⟨fun n hn => by have := h2 n hn; omega, h1⟩, fun n hn => ?_⟩
      rcases List.mem_cons.1 hn with rfl | hn
      · exact Int.le_refl _
      · have := h2 n hn; omega
theorem alg_same (x : Image) : algRX x = algX x := asc_ext (algR_asc _ 22 1 rfl).1 (algX_asc _) fun n => by
  rw [mem_algX, algRX, algR, List.mem_flatMap]
  constructor
  · rintro ⟨j, hj, hn⟩
    have hj : 1 ≤ j ∧ j < 23 := by simpa using hj
    cases hc : x.2.1.any (fun z => seq (preS z.1) (nm2G (j : Int))) with
    | false => rw [hc] at hn; cases hn
    | true =>
      rw [hc] at hn
      obtain ⟨z, hz, hs⟩ := List.any_eq_true.1 hc
      exact ⟨z, hz, mem_algS.2 ⟨j, List.mem_singleton.1 hn, hj.1, by omega, by rw [bef_pre]; exact seq_iff.1 hs⟩⟩
  · rintro ⟨z, hz, hn⟩
    obtain ⟨k, rfl, h2, h3, h4⟩ := mem_algS.1 hn
    refine ⟨k, by simp; omega, ?_⟩
    rw [show x.2.1.any (fun z => seq (preS z.1) (nm2G (k : Int))) = true from List.any_eq_true.2 ⟨z, hz, seq_iff.2 (by rw [← bef_pre]; exact h4)⟩]
    exact List.mem_singleton.2 rfl
end
end Go.Proofs.Ythdichlainehpaa.K
