/-
 The answer's journal: reading, opening, replaying.
-/
import Derived.Test.YtnimpcffagidoaaJ4
import Derived.KernelRfl
set_option linter.unusedSimpArgs false
set_option linter.unusedVariables false
namespace Go.Proofs.Ytnimpcffagidoaa.K
open Go.RowKit
noncomputable section
theorem brY {β : Type} {c : Bool} {a b r : Option β} (h : c = true) (k : a = r) : br c a b = r := by
 subst h
 exact k
theorem cAppN {α : Type} {l l2 : List α} {c : Nat} (hc : c ≤ 1000) (h : l.length + l2.length ≤ 100000000000) : cApp l l2 c = true := by
 simp only [cApp, decide_eq_true_eq]
 have : (l.length + l2.length) * (c + 1) ≤ 100000000000 * 1001 := Nat.mul_le_mul h (by omega)
 omega
theorem ssl_list (z : ByteArray) (a h : Int) : (ssl z a h).data.toList = (z.data.toList.drop a.toNat).take (h.toNat - a.toNat) := by
 simp [ssl, ByteArray.data_extract, List.extract]
theorem shlJ (x b : Nat) (hb : b < 256) (hx : x < 1099511627776) : ibor .i64 (ishl .i64 (x : Int) 8) (icv .i64 (b : Int)) = ((x * 256 + b : Nat) : Int) := by
 have e1 : icv .i64 (b : Int) = (b : Int) := Go.IntWalk.i64_in _ (by omega)
 have e2 : ishl .i64 (x : Int) 8 = ((x * 256 : Nat) : Int) := by
  show IntKind.i64.wrap ((x : Int) * 2 ^ (min (8 : Int).toNat 64)) = _
  have : ((x : Int) * 2 ^ (min (8 : Int).toNat 64)) = ((x * 256 : Nat) : Int) := by
   show (x : Int) * 256 = _
   omega
  rw [this]
  exact Go.IntWalk.i64_in _ (by omega)
 rw [e1, e2]
 show IntKind.i64.wrap ((((BitVec.ofInt 64 ((x * 256 : Nat) : Int)) ||| (BitVec.ofInt 64 (b : Int))).toNat : Nat) : Int) = _
 have e3 : ((BitVec.ofInt 64 ((x * 256 : Nat) : Int)) ||| (BitVec.ofInt 64 (b : Int))).toNat = x * 256 + b := by
  rw [BitVec.ofInt_natCast, BitVec.ofInt_natCast, BitVec.toNat_or, BitVec.toNat_ofNat, BitVec.toNat_ofNat, Nat.mod_eq_of_lt (by omega), Nat.mod_eq_of_lt (by omega)]
  have := Nat.shiftLeft_add_eq_or_of_lt (b := b) (i := 8) (by omega) x
  rw [Nat.shiftLeft_eq] at this
  exact this.symm
 rw [e3]
 exact Go.IntWalk.i64_in _ (by omega)
def valZ (n : Int) (l : List UInt8) : Int := ((l.foldl (fun n c => n * 256 + c.toNat) n.toNat : Nat) : Int)
def valV (s : ByteArray) : Int := ((vl s.data.toList : Nat) : Int)
def valOk (s : ByteArray) : Bool := decide (s.size ≤ 4)
def valLn (s : ByteArray) (n i : Int) : Bool := decide (0 ≤ i ∧ i ≤ s.size ∧ s.size ≤ 4 ∧ 0 ≤ n ∧ (i = 0 → n = 0) ∧ (i ≤ 1 → n < 256) ∧ (i ≤ 2 → n < 65536) ∧ (i ≤ 3 → n < 16777216))
def fg_f68_0 : Fg := ⟨[(0, some .str), (3, some tI), (4, some tI)], []⟩
def tb_f68_0 : TC := (.sq (.sq (.reg [(oV 5 4), (oV 6 0), (oP 7 (.len true (.t 6))), (oP 8 (.bin false .lss (.t 5) (.t 7)))]) (.cd (.t 8) .sk (.fg ⟨[(3, some tI)], []⟩ (.ex 0)))) (.sq (.bk 1 (.reg [(oV 11 3), (oP 12 (.bin false .shl (.t 11) (.c (.v (.int .u64 8))))), (oV 13 0), (oV 14 4), (oP 15 (.sx (.t 13) (.t 14))), (oP 16 (.cv .i64 (.t 15))), (oP 17 (.bin false .or (.t 12) (.t 16))), (oV 3 17)])) (.reg [(oV 9 4), (oP 10 (.bin false .add (.t 9) (cI 1))), (oV 4 10)])))
def tc_f68 : TC := (.sq (.reg [(oP 2 (.mv (cI 0)))]) (.sq (.reg [(oP 3 (.mv (cI 0)))]) (.sq (.sq (.reg [(oP 4 (.mv (cI 0)))]) (.bk 0 (.lp 0 fg_f68_0 tb_f68_0))) (.sq (.reg [(oV 18 3), (oV 2 18)]) .rt))))
def rv_f68 : List (RV × Option Ty) := [((.t 2), some tI)]
abbrev sh_f68_0 : Sh := ⟨[(0, .ty .str), (3, .ty tI), (4, .ty tI)], []⟩
def st_f68_0 (x0 : ByteArray) (x3 : Int) (x4 : Int) : VS := sh_f68_0.st (x0, x3, x4, ()) ()
abbrev sh_f68_0_e0 : Sh := ⟨[(3, .ty tI)], []⟩
def st_f68_0_e0 (x3 : Int) : VS := sh_f68_0_e0.st (x3, ()) ()
-- loop 0: (x0 : ByteArray) (x3 : Int) (x4 : Int); out: ('exit', 0) (x3 : Int)
def L_f68_0 : VS → Option (Bool × List (Bool × Exit × VS)) := mkL sh_f68_0 (fun x y => (valLn x.1 x.2.1 x.2.2.1)) (fun x y => [(true, .exit 0, st_f68_0_e0 (valZ x.2.1 (x.1.data.toList.drop x.2.2.1.toNat)))])
def g_f68 : G := ⟨TYs, [], 19, EL [], keeps, (Ls [L_f68_0]), IL [], RL []⟩
def b_f68_0 (x0 : ByteArray) (x3 : Int) (x4 : Int) : Option (Exit × VS) :=
 br ((ilt x4 (slen x0)))
  (br ((decide ((0 : Int) ≤ 8)))
   (br (cSx x0 x4)
    (some (.normal, st_f68_0 x0 (ibor .i64 (ishl .i64 x3 8) (icv .i64 (sgt x0 x4))) (iadd .i64 x4 1)))
    (none))
   (none))
  (some (.exit 0, st_f68_0_e0 x3))
noncomputable def lp_f68_0 (x0 : ByteArray) (x3 : Int) (x4 : Int) : Option (Exit × VS) := loopF (roundF g_f68 fg_f68_0 tb_f68_0) (st_f68_0 x0 x3 x4)
noncomputable def n_f68_0 (x0 : ByteArray) (x3 : Int) (x4 : Int) : Option (Exit × VS) :=
 br ((ilt x4 (slen x0)))
  (br ((decide ((0 : Int) ≤ 8)))
   (br (cSx x0 x4)
    (lp_f68_0 x0 (ibor .i64 (ishl .i64 x3 8) (icv .i64 (sgt x0 x4))) (iadd .i64 x4 1))
    (none))
   (none))
  (some (.exit 0, st_f68_0_e0 x3))
def la_f68_0 (x0 : ByteArray) (x3 : Int) (x4 : Int) : Option (Exit × VS) := some (.exit 0, st_f68_0_e0 (valZ x3 (x0.data.toList.drop x4.toNat)))
theorem be_f68_0 (x0 : ByteArray) (x3 : Int) (x4 : Int) : roundF g_f68 fg_f68_0 tb_f68_0 (st_f68_0 x0 x3 x4) = b_f68_0 x0 x3 x4 := by kernel_rfl
theorem ln_f68_0 (x0 : ByteArray) (x3 : Int) (x4 : Int) : lp_f68_0 x0 x3 x4 = n_f68_0 x0 x3 x4 := (loopF_nxt _ _).trans (by
 rw [be_f68_0]
 simp only [b_f68_0, n_f68_0, nxt_br, nxt_n, nxt_r, nxt_e, nxt_0]
 rfl)
def r_f68 (p0 : ByteArray) : Option (V × List VO) :=
 br ((valLn p0 (0 : Int) (0 : Int)))
  (some (.t tI (valZ (0 : Int) (p0.data.toList.drop (0 : Int).toNat)), []))
  (none)
theorem e_f68 (p0 : ByteArray) : runF g_f68 tc_f68 rv_f68 false [.t .str p0] [] = r_f68 p0 := by kernel_rfl
theorem ok_f68 : Option.map (trC Try.prog) Try.f68.body = some tc_f68.er := by kernel_rfl
theorem rok_f68 : trVs Try.prog Try.f68.results.toList = some (rv_f68.map Prod.fst) := by kernel_rfl
theorem en_f68 : Entered Try.prog 68 := .inr ⟨by decide, _, Try.func68, by kernel_rfl, by kernel_rfl⟩
theorem gk_f68 : GOk Try.prog g_f68 := gok_of _ (fun p hp => by cases hp)
theorem l_f68_0 (x0 : ByteArray) (x3 : Int) (x4 : Int) (h : (valLn x0 x3 x4) = true) : lp_f68_0 x0 x3 x4 = la_f68_0 x0 x3 x4 := by
 simp only [valLn, decide_eq_true_eq] at h
 obtain ⟨h0, h1, h2, h3, h4⟩ := h
 have hl : x0.data.toList.length = x0.size := by simp
 obtain ⟨k, rfl⟩ := Int.eq_ofNat_of_zero_le h0
 obtain ⟨m, hm⟩ : ∃ m : Nat, x0.size - k = m := ⟨_, rfl⟩
 induction m generalizing x3 k with
 | zero =>
  rw [ln_f68_0]
  have e0 : ilt (k : Int) (slen x0) = false := decide_eq_false (by simp only [slen]; omega)
  simp only [n_f68_0, la_f68_0, e0, br_false, Int.toNat_natCast]
  rw [List.drop_of_length_le (by omega)]
  simp only [valZ, List.foldl_nil, Int.toNat_of_nonneg h3]
 | succ m ih =>
  have hk : k < x0.size := by omega
  have hk2 : k < x0.data.toList.length := by omega
  rw [ln_f68_0]
  have e0 : ilt (k : Int) (slen x0) = true := decide_eq_true (by simp only [slen]; omega)
  have e1 : cSx x0 (k : Int) = true := decide_eq_true (by omega)
  have e2 : sgt x0 (k : Int) = ((x0.data.toList[k].toNat : Nat) : Int) := by
   simp only [sgt, Int.toNat_natCast, List.getD_eq_getElem?_getD, List.getElem?_eq_getElem hk2, Option.getD_some]
  have hb : x0.data.toList[k].toNat < 256 := byte_lt _
  obtain ⟨n, rfl⟩ := Int.eq_ofNat_of_zero_le h3
  have e3 := shlJ n x0.data.toList[k].toNat hb (by omega)
  have e4 : iadd .i64 (k : Int) 1 = ((k + 1 : Nat) : Int) := by rw [iadd_in (by omega)]; omega
  simp only [n_f68_0, e0, e1, e2, e3, e4, br_true, show decide ((0 : Int) ≤ 8) = true from rfl]
  rw [ih ((n * 256 + x0.data.toList[k].toNat : Nat) : Int) (by omega) (k + 1) (by omega) (by omega) (by omega) (by omega)]
  simp only [la_f68_0, Int.toNat_natCast, List.drop_eq_getElem_cons hk2, valZ, List.foldl_cons]
theorem lo_f68_0 : ∀ S l p, g_f68.L 0 (fgt fg_f68_0 S) = some (true, l) → pickA l = some p → loopF (roundF g_f68 fg_f68_0 tb_f68_0) S = some p :=
 lok_of (s := sh_f68_0) ⟨by decide, by decide⟩ (by kernel_rfl) fun x y hok p hp => by
 simp only [pickA_br, pickA_one] at hp
 exact (l_f68_0 x.1 x.2.1 x.2.2.1 (by simpa using hok)).trans hp
theorem lk_f68 : tc_f68.lok g_f68 := by
 repeat (first | exact trivial | exact lo_f68_0 | refine ⟨?_, ?_⟩)
theorem s_f68 (s : ByteArray) (h : valOk s = true) : r_f68 s = some (.t tI (valV s), []) := by
 have h : s.size ≤ 4 := of_decide_eq_true h
 exact brY (decide_eq_true ⟨by omega, by omega, h, by omega, fun _ => rfl, by omega, by omega, by omega⟩) rfl
def sp_f68 : Ent := spec (.pr .str .nil) (fun x => (valOk x.1)) (fun x => (.t tI (valV x.1)))
theorem ms_f68 : Meets Try.prog 68 (strip sp_f68) := by
 obtain ⟨c, hc, hi⟩ := Option.map_eq_some_iff.1 ok_f68
 exact meets_spec (R := runF g_f68 tc_f68 rv_f68 false) (meets_of (by decide) Try.func68 hc hi Try.ntmps68 rok_f68 gk_f68 lk_f68 mixed) fun x hok => (e_f68 x.1).trans (s_f68 x.1 hok)
def dr_f55_0 : List DO := [(.mk (oV 29 7) []), (.mk (oC 30 56 [(.t 29)]) [0]), (.mk (oV 31 0) []), (.mk (oV 32 1) []), (.mk (oP 33 (.bin false .add (.t 32) (cI 8))) [3]), (.mk (oV 34 1) []), (.mk (oP 35 (.bin false .add (.t 34) (cI 12))) [5]), (.mk (oP 36 (.sls (.t 31) (some (.t 33)) (some (.t 35)))) [2, 4, 6]), (.mk (oC 37 68 [(.t 36)]) [7, 1]), (.mk (oP 38 (.bin false .neq (.t 30) (.t 37))) [1, 8])]
def dr_f55_1 : List DO := [(.mk (oV 40 7) []), (.mk (oP 41 (.sls (.t 40) none (some (cI 3)))) [0]), (.mk (oC 42 68 [(.t 41)]) [1]), (.mk (oV 43 7) []), (.mk (oP 44 (.sls (.t 43) (some (cI 3)) (some (cI 5)))) [3]), (.mk (oC 45 68 [(.t 44)]) [4, 2]), (.mk (oV 46 7) []), (.mk (oP 47 (.sls (.t 46) (some (cI 5)) (some (cI 6)))) [6]), (.mk (oC 48 68 [(.t 47)]) [7, 5]), (.mk (oV 49 7) []), (.mk (oP 50 (.sls (.t 49) (some (cI 6)) (some (cI 7)))) [9]), (.mk (oC 51 68 [(.t 50)]) [10, 8]), (.mk (oV 52 7) []), (.mk (oP 53 (.sls (.t 52) (some (cI 7)) (some (cI 8)))) [12]), (.mk (oC 54 68 [(.t 53)]) [13, 11]), (.mk (oP 55 (.bd [(.v (.int .i64 0)), (.v (.int .i64 0)), (.v (.int .i64 0)), (.v (.int .i64 0)), (.v (.int .i64 0))] [(0, 1, (.t 42)), (1, 1, (.t 45)), (2, 1, (.t 48)), (3, 1, (.t 51)), (4, 1, (.t 54))])) [2, 5, 8, 11, 14]), (.mk (oM 8 (.new [(.v (.int .i64 0)), (.v (.int .i64 0)), (.v (.int .i64 0)), (.v (.int .i64 0)), (.v (.int .i64 0))])) []), (.mk (.mk none none (.m (.st 5 (.t 8) (.t 55)))) [16, 15, 14, 0, 1, 2, 3, 4, 5, 6, 7, 8, 9, 10, 11, 12, 13, 14, 15, 16])]
def tc_f55 : TC := (.sq (.reg [(oM 4 (.new [(.v (.int .i64 0)), (.v (.int .i64 0)), (.v (.int .i64 0)), (.v (.int .i64 0)), (.v (.int .i64 0))])), (oP 5 (.mv (cI 0))), (oP 6 (.mv (cI 0)))]) (.sq (.sq (.reg [(oV 9 1), (oP 10 (.bin false .lss (.t 9) (cI 0))), (oV 11 10), (oQ 12 11 false (.mv (.t 1))), (oQ 13 11 false (.mv (.t 0))), (oQ 14 11 false (.len true (.t 13))), (oQ 15 11 false (.bin false .gtr (.t 12) (.t 14))), (oP 16 (.pick (.t 11) (cB true) (.t 15)))]) (.cd (.t 16) (.sq (.reg [(oP 17 (.bd [(.v (.int .i64 0)), (.v (.int .i64 0)), (.v (.int .i64 0)), (.v (.int .i64 0)), (.v (.int .i64 0))] [])), (.mk none none (.m (.st 5 (.t 4) (.t 17)))), (oP 5 (.mv (cI 0))), (oP 6 (.mv (cI 2)))]) .rt) .sk)) (.sq (.sq (.reg [(oV 18 0), (oP 19 (.len true (.t 18))), (oV 20 1), (oP 21 (.bin false .sub (.t 19) (.t 20))), (oP 22 (.bin false .lss (.t 21) (cI 12)))]) (.cd (.t 22) (.sq (.reg [(oP 23 (.bd [(.v (.int .i64 0)), (.v (.int .i64 0)), (.v (.int .i64 0)), (.v (.int .i64 0)), (.v (.int .i64 0))] [])), (.mk none none (.m (.st 5 (.t 4) (.t 23)))), (oP 5 (.mv (cI 0))), (oP 6 (.mv (cI 1)))]) .rt) .sk)) (.sq (.reg [(oV 24 0), (oV 25 1), (oV 26 1), (oP 27 (.bin false .add (.t 26) (cI 8))), (oP 28 (.sls (.t 24) (some (.t 25)) (some (.t 27)))), (oV 7 28)]) (.sq (.sq (.dr dr_f55_0 [(0, []), (1, []), (2, []), (3, []), (4, []), (5, []), (6, []), (7, []), (8, []), (9, [])] (.of [0, 1, 2, 3, 4, 5, 6, 7, 8, 9])) (.cd (.t 38) (.sq (.reg [(oP 39 (.bd [(.v (.int .i64 0)), (.v (.int .i64 0)), (.v (.int .i64 0)), (.v (.int .i64 0)), (.v (.int .i64 0))] [])), (.mk none none (.m (.st 5 (.t 4) (.t 39)))), (oP 5 (.mv (cI 0))), (oP 6 (.mv (cI 58)))]) .rt) .sk)) (.sq (.dr dr_f55_1 [(0, []), (1, []), (2, []), (3, []), (4, []), (5, []), (6, []), (7, []), (8, []), (9, []), (10, []), (11, []), (12, []), (13, []), (14, []), (15, []), (16, [8, 5008, 10008, 15008]), (17, [8])] (.of [0, 1, 2, 3, 4, 5, 6, 7, 8, 9, 10, 11, 12, 13, 14, 15, 16, 17])) (.sq (.sq (.reg [(oM 56 (.ld true 5 (.t 8))), (oC 57 65 [(.t 56)]), (oP 58 (.nt (.t 57)))]) (.cd (.t 58) (.sq (.reg [(oP 59 (.bd [(.v (.int .i64 0)), (.v (.int .i64 0)), (.v (.int .i64 0)), (.v (.int .i64 0)), (.v (.int .i64 0))] [])), (.mk none none (.m (.st 5 (.t 4) (.t 59)))), (oP 5 (.mv (cI 0))), (oP 6 (.mv (cI 57)))]) .rt) .sk)) (.sq (.reg [(oM 60 (.ld true 5 (.t 8))), (oV 61 1), (oP 62 (.bin false .add (.t 61) (cI 12))), (.mk none none (.m (.st 5 (.t 4) (.t 60)))), (oV 5 62), (oP 6 (.mv (cI 0)))]) .rt))))))))
def rv_f55 : List (RV × Option Ty) := [((.c 4 true 5), some tyDecision), ((.t 5), some tI), ((.t 6), some tI)]
def g_f55 : G := ⟨TYs, [], 63, EL [(56, sp_f56), (65, sp_f65), (68, sp_f68)], keeps, (fun _ _ => none), IL [], RL []⟩
def r_f55 (p0 : ByteArray) (p1 : Int) : Option (V × List VO) :=
 br ((ilt p1 0))
  (some (.tu [(.t tyDecision (0, (0, (0, (0, (0, ())))))), (.t tI 0), (.t tI 2)], []))
  (br ((igt p1 (slen p0)))
   (some (.tu [(.t tyDecision (0, (0, (0, (0, (0, ())))))), (.t tI 0), (.t tI 2)], []))
   (br ((ilt (isub .i64 (slen p0) p1) 12))
    (some (.tu [(.t tyDecision (0, (0, (0, (0, (0, ())))))), (.t tI 0), (.t tI 1)], []))
    (br (cSs p0 p1 (iadd .i64 p1 8))
     (br ((sz6 (ssl p0 p1 (iadd .i64 p1 8))))
      (br (cSs p0 (iadd .i64 p1 8) (iadd .i64 p1 12))
       (br ((valOk (ssl p0 (iadd .i64 p1 8) (iadd .i64 p1 12))))
        (br ((ine (sumV (ssl p0 p1 (iadd .i64 p1 8))) (valV (ssl p0 (iadd .i64 p1 8) (iadd .i64 p1 12)))))
         (some (.tu [(.t tyDecision (0, (0, (0, (0, (0, ())))))), (.t tI 0), (.t tI 58)], []))
         (br (cSs (ssl p0 p1 (iadd .i64 p1 8)) 0 3)
          (br ((valOk (ssl (ssl p0 p1 (iadd .i64 p1 8)) 0 3)))
           (br (cSs (ssl p0 p1 (iadd .i64 p1 8)) 3 5)
            (br ((valOk (ssl (ssl p0 p1 (iadd .i64 p1 8)) 3 5)))
             (br (cSs (ssl p0 p1 (iadd .i64 p1 8)) 5 6)
              (br ((valOk (ssl (ssl p0 p1 (iadd .i64 p1 8)) 5 6)))
               (br (cSs (ssl p0 p1 (iadd .i64 p1 8)) 6 7)
                (br ((valOk (ssl (ssl p0 p1 (iadd .i64 p1 8)) 6 7)))
                 (br (cSs (ssl p0 p1 (iadd .i64 p1 8)) 7 8)
                  (br ((valOk (ssl (ssl p0 p1 (iadd .i64 p1 8)) 7 8)))
                   (br ((!(validV ((valV (ssl (ssl p0 p1 (iadd .i64 p1 8)) 0 3)), ((valV (ssl (ssl p0 p1 (iadd .i64 p1 8)) 3 5)), ((valV (ssl (ssl p0 p1 (iadd .i64 p1 8)) 5 6)), ((valV (ssl (ssl p0 p1 (iadd .i64 p1 8)) 6 7)), ((valV (ssl (ssl p0 p1 (iadd .i64 p1 8)) 7 8)), ()))))))))
                    (some (.tu [(.t tyDecision (0, (0, (0, (0, (0, ())))))), (.t tI 0), (.t tI 57)], []))
                    (some (.tu [(.t tyDecision ((valV (ssl (ssl p0 p1 (iadd .i64 p1 8)) 0 3)), ((valV (ssl (ssl p0 p1 (iadd .i64 p1 8)) 3 5)), ((valV (ssl (ssl p0 p1 (iadd .i64 p1 8)) 5 6)), ((valV (ssl (ssl p0 p1 (iadd .i64 p1 8)) 6 7)), ((valV (ssl (ssl p0 p1 (iadd .i64 p1 8)) 7 8)), ())))))), (.t tI (iadd .i64 p1 12)), (.t tI 0)], [])))
                   (none))
                  (none))
                 (none))
                (none))
               (none))
              (none))
             (none))
            (none))
           (none))
          (none)))
        (none))
       (none))
      (none))
     (none))))
theorem e_f55 (p0 : ByteArray) (p1 : Int) : runF g_f55 tc_f55 rv_f55 false [.t .str p0, .t tI p1] [] = r_f55 p0 p1 := by kernel_rfl
theorem ok_f55 : Option.map (trC Try.prog) Try.f55.body = some tc_f55.er := by kernel_rfl
theorem rok_f55 : trVs Try.prog Try.f55.results.toList = some (rv_f55.map Prod.fst) := by kernel_rfl
theorem en_f55 : Entered Try.prog 55 := .inr ⟨by decide, _, Try.func55, by kernel_rfl, by kernel_rfl⟩
theorem gk_f55 : GOk Try.prog g_f55 := gok_of _ (by
 intro p hp
 simp only [List.mem_cons, List.not_mem_nil, or_false] at hp
 rcases hp with rfl | rfl | rfl
 ·exact ⟨en_f56, ms_f56⟩
 ·exact ⟨en_f65, ms_f65⟩
 ·exact ⟨en_f68, ms_f68⟩)
theorem lk_f55 : tc_f55.lok g_f55 := by repeat (first | exact trivial | refine ⟨?_, ?_⟩)
theorem s_f55 (s : ByteArray) (n : Int) (h : dcdOk s n = true) : r_f55 s n = some (.tu [.t tyDecision (dcdV s n).1, .t tI (dcdV s n).2.1, .t tI (dcdV s n).2.2], []) := by
 have hs : s.size ≤ 1000000 := of_decide_eq_true h
 unfold r_f55
 by_cases h0 : n < 0
 ·have e : dcdV s n = (und zeroDec, 0, 2) := by unfold dcdV; rw [if_pos (.inl h0)]
  rw [e, show ilt n 0 = true from decide_eq_true h0, br_true]
  rfl
 ·rw [show ilt n 0 = false from decide_eq_false h0, br_false]
  obtain ⟨k, rfl⟩ := Int.eq_ofNat_of_zero_le (Int.not_lt.1 h0)
  by_cases h1 : s.size < k
  ·have e : dcdV s (k : Int) = (und zeroDec, 0, 2) := by unfold dcdV; rw [if_pos (.inr (by omega))]
   rw [e, show igt (k : Int) (slen s) = true from decide_eq_true (by simp only [slen]; omega), br_true]
   rfl
  ·rw [show igt (k : Int) (slen s) = false from decide_eq_false (by simp only [slen]; omega), br_false]
   have e1 : isub .i64 (slen s) (k : Int) = ((s.size - k : Nat) : Int) := by rw [isub_in (by simp only [slen]; omega)]; simp only [slen]; omega
   rw [e1]
   by_cases h2 : s.size - k < 12
   ·have e : dcdV s (k : Int) = (und zeroDec, 0, 1) := by unfold dcdV; rw [if_neg (by omega), Int.toNat_natCast, if_pos h2]
    rw [e, show ilt ((s.size - k : Nat) : Int) 12 = true from decide_eq_true (by omega), br_true]
    rfl
   ·have e : dcdV s (k : Int) = recV (rec12 s k) k := by unfold dcdV; rw [if_neg (by omega), Int.toNat_natCast, if_neg h2]
    rw [show ilt ((s.size - k : Nat) : Int) 12 = false from decide_eq_false (by omega), br_false]
    have e8 : iadd .i64 (k : Int) 8 = ((k + 8 : Nat) : Int) := by rw [iadd_in (by omega)]; omega
    have e12 : iadd .i64 (k : Int) 12 = ((k + 12 : Nat) : Int) := by rw [iadd_in (by omega)]; omega
    have hsl : s.data.toList.length = s.size := by simp
    have hm : (rec12 s k).length = 12 := by unfold rec12; rw [List.length_take, List.length_drop]; omega
    have lb : (ssl s (k : Int) ((k + 8 : Nat) : Int)).data.toList = (rec12 s k).take 8 := by
     rw [ssl_list, Int.toNat_natCast, Int.toNat_natCast, show k + 8 - k = 8 from by omega]
     unfold rec12
     rw [List.take_take]
     rfl
    have lt : (ssl s ((k + 8 : Nat) : Int) ((k + 12 : Nat) : Int)).data.toList = (rec12 s k).drop 8 := by
     rw [ssl_list, Int.toNat_natCast, Int.toNat_natCast, show k + 12 - (k + 8) = 4 from by omega]
     unfold rec12
     rw [List.drop_take, List.drop_drop]
    rw [e8, e12, e]
    generalize rec12 s k = m at *
    have sz : ∀ (z : ByteArray) (l : List UInt8), z.data.toList = l → z.size = l.length := fun z l hz => by rw [← hz]; simp
    have zb := sz _ _ lb
    have zt := sz _ _ lt
    rw [List.length_take, hm] at zb
    rw [List.length_drop, hm] at zt
    have sb : sumV (ssl s (k : Int) ((k + 8 : Nat) : Int)) = ((Go.Proofs.Ytnimpcffagidoaa.fnv (m.take 8) : Nat) : Int) := by unfold sumV; rw [lb]
    have vt : valV (ssl s ((k + 8 : Nat) : Int) ((k + 12 : Nat) : Int)) = ((vl (m.drop 8) : Nat) : Int) := by unfold valV; rw [lt]
    have c1 : cSs s (k : Int) ((k + 8 : Nat) : Int) = true := decide_eq_true (by omega)
    have c2 : cSs s ((k + 8 : Nat) : Int) ((k + 12 : Nat) : Int) = true := decide_eq_true (by omega)
    generalize ssl s (k : Int) ((k + 8 : Nat) : Int) = b at *
    generalize ssl s ((k + 8 : Nat) : Int) ((k + 12 : Nat) : Int) = t at *
    refine brY c1 (brY (decide_eq_true (by omega)) (brY c2 (brY (decide_eq_true (by omega)) ?_)))
    rw [sb, vt]
    unfold recV
    by_cases q1 : vl (m.drop 8) ≠ Go.Proofs.Ytnimpcffagidoaa.fnv (m.take 8)
    ·rw [if_pos q1, show ine ((Go.Proofs.Ytnimpcffagidoaa.fnv (m.take 8) : Nat) : Int) ((vl (m.drop 8) : Nat) : Int) = true from by simp only [ine, bne_iff_ne, ne_eq]; omega, br_true]
     rfl
    ·rw [if_neg q1, show ine ((Go.Proofs.Ytnimpcffagidoaa.fnv (m.take 8) : Nat) : Int) ((vl (m.drop 8) : Nat) : Int) = false from by simp only [ine, bne_eq_false_iff_eq]; omega, br_false]
     have pv : ∀ (a h : Nat), a ≤ h → h ≤ 8 → (ssl b (a : Int) (h : Int)).data.toList = (m.drop a).take (h - a) := fun a h h1 h2 => by
      rw [ssl_list, lb, Int.toNat_natCast, Int.toNat_natCast, List.drop_take, List.take_take, Nat.min_eq_left (by omega)]
     have ps : ∀ (a h : Nat), a ≤ h → h ≤ 8 → (ssl b (a : Int) (h : Int)).size = h - a := fun a h h1 h2 => by
      rw [sz _ _ (pv a h h1 h2), List.length_take, List.length_drop, hm]
      omega
     have pc : ∀ (a h : Nat), a ≤ h → h ≤ 8 → cSs b (a : Int) (h : Int) = true := fun a h h1 h2 => decide_eq_true (by omega)
     have po : ∀ (a h : Nat), a ≤ h → h ≤ 8 → h - a ≤ 4 → valOk (ssl b (a : Int) (h : Int)) = true := fun a h h1 h2 h3 => decide_eq_true (by rw [ps a h h1 h2]; exact h3)
     have p0 : valV (ssl b 0 3) = ((vl (m.take 3) : Nat) : Int) := by unfold valV; rw [show (ssl b 0 3).data.toList = _ from pv 0 3 (by omega) (by omega)]; rfl
     have p1 : valV (ssl b 3 5) = ((vl ((m.drop 3).take 2) : Nat) : Int) := by unfold valV; rw [show (ssl b 3 5).data.toList = _ from pv 3 5 (by omega) (by omega)]
     have p2 : valV (ssl b 5 6) = ((vl ((m.drop 5).take 1) : Nat) : Int) := by unfold valV; rw [show (ssl b 5 6).data.toList = _ from pv 5 6 (by omega) (by omega)]
     have p3 : valV (ssl b 6 7) = ((vl ((m.drop 6).take 1) : Nat) : Int) := by unfold valV; rw [show (ssl b 6 7).data.toList = _ from pv 6 7 (by omega) (by omega)]
     have p4 : valV (ssl b 7 8) = ((vl ((m.drop 7).take 1) : Nat) : Int) := by unfold valV; rw [show (ssl b 7 8).data.toList = _ from pv 7 8 (by omega) (by omega)]
     refine brY (pc 0 3 (by omega) (by omega)) (brY (po 0 3 (by omega) (by omega) (by omega)) (brY (pc 3 5 (by omega) (by omega)) (brY (po 3 5 (by omega) (by omega) (by omega)) (brY (pc 5 6 (by omega) (by omega)) (brY (po 5 6 (by omega) (by omega) (by omega)) (brY (pc 6 7 (by omega) (by omega)) (brY (po 6 7 (by omega) (by omega) (by omega)) (brY (pc 7 8 (by omega) (by omega)) (brY (po 7 8 (by omega) (by omega) (by omega)) ?_)))))))))
     rw [p0, p1, p2, p3, p4]
     show br (!(validB (decOf m))) _ _ = _
     by_cases q2 : validB (decOf m) = false
     ·rw [if_pos q2, q2, Bool.not_false, br_true]
      rfl
     ·rw [if_neg q2, show validB (decOf m) = true from by simpa using q2, Bool.not_true, br_false]
      rw [show ((k + 12 : Nat) : Int) = (k : Int) + 12 from by omega]
      rfl
def sp_f55 : Ent := spec (.pr .str (.pr tI .nil)) (fun x => (dcdOk x.1 x.2.1)) (fun x => (.tu [(.t tyDecision ((dcdV x.1 x.2.1).1)), (.t tI (((dcdV x.1 x.2.1).2).1)), (.t tI (((dcdV x.1 x.2.1).2).2))]))
theorem ms_f55 : Meets Try.prog 55 (strip sp_f55) := by
 obtain ⟨c, hc, hi⟩ := Option.map_eq_some_iff.1 ok_f55
 exact meets_spec (R := runF g_f55 tc_f55 rv_f55 false) (meets_of (by decide) Try.func55 hc hi Try.ntmps55 rok_f55 gk_f55 lk_f55 mixed) fun x hok => (e_f55 x.1 x.2.1).trans (s_f55 x.1 x.2.1 hok)
theorem openL_fuel : ∀ (F G : Nat) (l : List UInt8), l.length < F → l.length < G → openL F l = openL G l
 | 0, _, _, h, _ => absurd h (Nat.not_lt_zero _)
 | _, 0, _, _, h => absurd h (Nat.not_lt_zero _)
 | F + 1, G + 1, l, h1, h2 => by
  unfold openL
  by_cases h : l.length < 12
  ·rw [if_pos h, if_pos h]
  ·rw [if_neg h, if_neg h, openL_fuel F G (l.drop 12) (by rw [List.length_drop]; omega) (by rw [List.length_drop]; omega)]
theorem openL_le : ∀ (F : Nat) (l : List UInt8), 12 * (openL F l).length ≤ l.length
 | 0, _ => Nat.zero_le _
 | F + 1, l => by
  unfold openL
  have := openL_le F (l.drop 12)
  rw [List.length_drop] at this
  split
  ·exact Nat.zero_le _
  ·split
   ·exact Nat.zero_le _
   ·split
    ·exact Nat.zero_le _
    ·rw [List.length_cons]
     omega
def opL (s : ByteArray) (n : Int) : List Dec := openL (s.size + 1) (s.data.toList.drop n.toNat)
def opR (s : ByteArray) (n : Int) : List Decision := (opL s n).map und
def opE (s : ByteArray) (n : Int) : Int := n + ((12 * (opL s n).length : Nat) : Int)
theorem op_cases (s : ByteArray) (k : Nat) (hk : k ≤ s.size) : (dcdV s (k : Int)).2.2 ≠ 0 ∧ opL s (k : Int) = [] ∨ (dcdV s (k : Int)).2.2 = 0 ∧ (dcdV s (k : Int)).2.1 = (k : Int) + 12 ∧ k + 12 ≤ s.size ∧ opL s (k : Int) = dec (dcdV s (k : Int)).1 :: opL s ((k : Int) + 12) := by
 have hsl : s.data.toList.length = s.size := by simp
 have hd : (s.data.toList.drop k).length = s.size - k := by rw [List.length_drop, hsl]
 by_cases h2 : s.size - k < 12
 ·left
  have e : dcdV s (k : Int) = (und zeroDec, 0, 1) := by unfold dcdV; rw [if_neg (by omega), Int.toNat_natCast, if_pos h2]
  rw [e]
  refine ⟨by decide, ?_⟩
  unfold opL openL
  rw [Int.toNat_natCast, if_pos (by omega)]
 ·have e : dcdV s (k : Int) = recV (rec12 s k) k := by unfold dcdV; rw [if_neg (by omega), Int.toNat_natCast, if_neg h2]
  rw [e]
  have eo : opL s (k : Int) = if vl ((rec12 s k).drop 8) ≠ Go.Proofs.Ytnimpcffagidoaa.fnv ((rec12 s k).take 8) then [] else if validB (decOf (rec12 s k)) = false then [] else decOf (rec12 s k) :: openL s.size ((s.data.toList.drop k).drop 12) := by
   unfold opL
   rw [Int.toNat_natCast]
   show openL (s.size + 1) _ = _
   rw [openL, if_neg (by omega)]
   rfl
  rw [eo]
  unfold recV
  by_cases q1 : vl ((rec12 s k).drop 8) ≠ Go.Proofs.Ytnimpcffagidoaa.fnv ((rec12 s k).take 8)
  ·left
   rw [if_pos q1, if_pos q1]
   exact ⟨by decide, rfl⟩
  ·rw [if_neg q1, if_neg q1]
   by_cases q2 : validB (decOf (rec12 s k)) = false
   ·left
    rw [if_pos q2, if_pos q2]
    exact ⟨by decide, rfl⟩
   ·right
    rw [if_neg q2, if_neg q2]
    refine ⟨rfl, rfl, by omega, ?_⟩
    show _ :: _ = _ :: _
    rw [List.drop_drop]
    unfold opL
    rw [show ((k : Int) + 12).toNat = k + 12 from by omega, openL_fuel s.size (s.size + 1) _ (by rw [List.length_drop]; omega) (by rw [List.length_drop]; omega)]
    rfl
def opLn (s : ByteArray) (n : Int) (l : List Decision) : Bool := decide (s.size ≤ 1000000 ∧ 0 ≤ n ∧ n ≤ s.size ∧ (l.length : Int) ≤ n)
def fg_f51_0 : Fg := ⟨[(0, some .str), (4, none), (5, some tI)], [(4, none), (23, none)]⟩
def tb_f51_0 : TC := (.bk 1 (.sq (.reg [(oV 10 0), (oV 11 5), (oC 12 55 [(.t 10), (.t 11)]), (oV 9 12), (oP 13 (.ext 0 (.t 9))), (oP 14 (.ext 1 (.t 9))), (oP 15 (.ext 2 (.t 9))), (oM 6 (.new [(.v (.int .i64 0)), (.v (.int .i64 0)), (.v (.int .i64 0)), (.v (.int .i64 0)), (.v (.int .i64 0))])), (.mk none none (.m (.st 5 (.t 6) (.t 13)))), (oV 7 14), (oV 8 15)]) (.sq (.sq (.reg [(oV 16 8), (oP 17 (.bin false .neq (.t 16) (cI 0)))]) (.cd (.t 17) (.sq (.reg [(oV 18 4), (oV 19 5), (oV 2 18), (oV 3 19)]) (.fg ⟨[(2, none), (3, some tI)], [(4, none), (23, none)]⟩ .rt)) .sk)) (.reg [(oV 20 4), (oM 21 (.ld true 5 (.t 6))), (oM 22 (.bs 40 5 1 [(.v (.int .i64 0)), (.v (.int .i64 0)), (.v (.int .i64 0)), (.v (.int .i64 0)), (.v (.int .i64 0))] [(0, 5, (.t 21))])), (oM 23 (.app 40 5 40 (.t 20) (.t 22))), (oV 24 7), (oV 4 23), (oV 5 24)]))))
def tc_f51 : TC := (.sq (.reg [(oP 2 (.mv (.c (.v (.slice none 0 0))))), (oP 3 (.mv (cI 0)))]) (.sq (.reg [(oP 4 (.mv (.c (.v (.slice none 0 0)))))]) (.sq (.reg [(oP 5 (.mv (cI 0)))]) (.bk 0 (.nw 4 40 (.lp 0 fg_f51_0 tb_f51_0))))))
def rv_f51 : List (RV × Option Ty) := [((.t 2), some (.sl tyDecision)), ((.t 3), some tI)]
abbrev sh_f51_0 : Sh := ⟨[(0, .ty .str), (4, .ms 4), (5, .ty tI)], [(4, .arr 40 tyDecision), (23, .no)]⟩
def st_f51_0 (x0 : ByteArray) (x5 : Int) (y4 : (List Decision)) : VS := sh_f51_0.st (x0, (), x5, ()) (y4, (), ())
abbrev sh_f51_0_ret : Sh := ⟨[(2, .ms 4), (3, .ty tI)], [(4, .arr 40 tyDecision), (23, .no)]⟩
def st_f51_0_ret (x3 : Int) (y4 : (List Decision)) : VS := sh_f51_0_ret.st ((), x3, ()) (y4, (), ())
-- loop 0: (x0 : ByteArray) (x5 : Int) (y4 : (List Decision)); out: ('ret',) (x3 : Int) (y4 : (List Decision))
def L_f51_0 : VS → Option (Bool × List (Bool × Exit × VS)) := mkL sh_f51_0 (fun x y => (opLn x.1 x.2.2.1 y.1)) (fun x y => [(true, .ret, st_f51_0_ret (opE x.1 x.2.2.1) (y.1 ++ opR x.1 x.2.2.1))])
def g_f51 : G := ⟨TYs, [], 25, EL [(55, sp_f55)], keeps, (Ls [L_f51_0]), IL [], RL []⟩
def b_f51_0 (x0 : ByteArray) (x5 : Int) (y4 : (List Decision)) : Option (Exit × VS) :=
 br ((dcdOk x0 x5))
  (br ((ine (((dcdV x0 x5).2).2) 0))
   (some (.ret, st_f51_0_ret x5 y4))
   (br (cApp y4 ([(((dcdV x0 x5).1).1, ((((dcdV x0 x5).1).2).1, (((((dcdV x0 x5).1).2).2).1, ((((((dcdV x0 x5).1).2).2).2).1, (((((((dcdV x0 x5).1).2).2).2).2).1, ())))))]) 40)
    (some (.normal, st_f51_0 x0 (((dcdV x0 x5).2).1) (y4 ++ ([(((dcdV x0 x5).1).1, ((((dcdV x0 x5).1).2).1, (((((dcdV x0 x5).1).2).2).1, ((((((dcdV x0 x5).1).2).2).2).1, (((((((dcdV x0 x5).1).2).2).2).2).1, ())))))]))))
    (none)))
  (none)
noncomputable def lp_f51_0 (x0 : ByteArray) (x5 : Int) (y4 : (List Decision)) : Option (Exit × VS) := loopF (roundF g_f51 fg_f51_0 tb_f51_0) (st_f51_0 x0 x5 y4)
noncomputable def n_f51_0 (x0 : ByteArray) (x5 : Int) (y4 : (List Decision)) : Option (Exit × VS) :=
 br ((dcdOk x0 x5))
  (br ((ine (((dcdV x0 x5).2).2) 0))
   (some (.ret, st_f51_0_ret x5 y4))
   (br (cApp y4 ([(((dcdV x0 x5).1).1, ((((dcdV x0 x5).1).2).1, (((((dcdV x0 x5).1).2).2).1, ((((((dcdV x0 x5).1).2).2).2).1, (((((((dcdV x0 x5).1).2).2).2).2).1, ())))))]) 40)
    (lp_f51_0 x0 (((dcdV x0 x5).2).1) (y4 ++ ([(((dcdV x0 x5).1).1, ((((dcdV x0 x5).1).2).1, (((((dcdV x0 x5).1).2).2).1, ((((((dcdV x0 x5).1).2).2).2).1, (((((((dcdV x0 x5).1).2).2).2).2).1, ())))))])))
    (none)))
  (none)
def la_f51_0 (x0 : ByteArray) (x5 : Int) (y4 : (List Decision)) : Option (Exit × VS) := some (.ret, st_f51_0_ret (opE x0 x5) (y4 ++ opR x0 x5))
theorem be_f51_0 (x0 : ByteArray) (x5 : Int) (y4 : (List Decision)) : roundF g_f51 fg_f51_0 tb_f51_0 (st_f51_0 x0 x5 y4) = b_f51_0 x0 x5 y4 := by kernel_rfl
theorem ln_f51_0 (x0 : ByteArray) (x5 : Int) (y4 : (List Decision)) : lp_f51_0 x0 x5 y4 = n_f51_0 x0 x5 y4 := (loopF_nxt _ _).trans (by
 rw [be_f51_0]
 simp only [b_f51_0, n_f51_0, nxt_br, nxt_n, nxt_r, nxt_e, nxt_0]
 rfl)
def r_f51 (p0 : ByteArray) : Option (V × List VO) :=
 br ((opLn p0 (0 : Int) ([] : List Decision)))
  (some (.tu [(.t (.sl tyDecision) (([] : List Decision) ++ opR p0 (0 : Int))), (.t tI (opE p0 (0 : Int)))], []))
  (none)
theorem e_f51 (p0 : ByteArray) : runF g_f51 tc_f51 rv_f51 false [.t .str p0] [] = r_f51 p0 := by kernel_rfl
theorem ok_f51 : Option.map (trC Try.prog) Try.f51.body = some tc_f51.er := by kernel_rfl
theorem rok_f51 : trVs Try.prog Try.f51.results.toList = some (rv_f51.map Prod.fst) := by kernel_rfl
theorem en_f51 : Entered Try.prog 51 := .inr ⟨by decide, _, Try.func51, by kernel_rfl, by kernel_rfl⟩
theorem gk_f51 : GOk Try.prog g_f51 := gok_of _ (by
 intro p hp
 simp only [List.mem_cons, List.not_mem_nil, or_false] at hp
 rcases hp with rfl
 ·exact ⟨en_f55, ms_f55⟩)
theorem l_f51_0 (x0 : ByteArray) (x5 : Int) (y4 : (List Decision)) (h : (opLn x0 x5 y4) = true) : lp_f51_0 x0 x5 y4 = la_f51_0 x0 x5 y4 := by
 simp only [opLn, decide_eq_true_eq] at h
 obtain ⟨h0, h1, h2, h3⟩ := h
 obtain ⟨k, rfl⟩ := Int.eq_ofNat_of_zero_le h1
 obtain ⟨m, hm⟩ : ∃ m : Nat, x0.size - k = m := ⟨_, rfl⟩
 induction m using Nat.strongRecOn generalizing k y4 with
 | ind m ih =>
  have e1 : dcdOk x0 (k : Int) = true := decide_eq_true h0
  rw [ln_f51_0]
  simp only [n_f51_0, e1, br_true]
  rcases op_cases x0 k (by omega) with ⟨g1, g2⟩ | ⟨g1, g2, g3, g4⟩
  ·rw [show ine (dcdV x0 (k : Int)).2.2 0 = true from by simpa [ine] using g1, br_true]
   simp only [la_f51_0, opR, opE, g2, List.map_nil, List.append_nil, List.length_nil, Nat.mul_zero, Int.natCast_zero, Int.add_zero]
  ·rw [show ine (dcdV x0 (k : Int)).2.2 0 = false from by simpa [ine] using g1, br_false]
   have e2 : ∀ v : Decision, cApp y4 [v] 40 = true := fun v => cAppN (by decide) (by simp only [List.length_singleton]; omega)
   refine brY (e2 _) ?_
   rw [g2]
   refine (show _ = lp_f51_0 x0 ((k + 12 : Nat) : Int) (y4 ++ [(dcdV x0 (k : Int)).1]) from rfl).trans ?_
   rw [ih (x0.size - (k + 12)) (by omega) (y4 ++ [(dcdV x0 (k : Int)).1]) (k + 12) (by omega) (by omega) (by simp only [List.length_append, List.length_singleton]; omega) rfl]
   have e3 : ((k + 12 : Nat) : Int) = (k : Int) + 12 := by omega
   have e4 : opR x0 (k : Int) = (dcdV x0 (k : Int)).1 :: opR x0 ((k : Int) + 12) := by unfold opR; rw [g4]; rfl
   have e5 : opE x0 ((k + 12 : Nat) : Int) = opE x0 (k : Int) := by unfold opE; rw [g4, e3, List.length_cons]; omega
   rw [e3] at e5 ⊢
   simp only [la_f51_0, e5, e4, List.append_assoc, List.singleton_append]
theorem lo_f51_0 : ∀ S l p, g_f51.L 0 (fgt fg_f51_0 S) = some (true, l) → pickA l = some p → loopF (roundF g_f51 fg_f51_0 tb_f51_0) S = some p :=
 lok_of (s := sh_f51_0) ⟨by decide, by decide⟩ (by kernel_rfl) fun x y hok p hp => by
 simp only [pickA_br, pickA_one] at hp
 exact (l_f51_0 x.1 x.2.2.1 y.1 (by simpa using hok)).trans hp
theorem lk_f51 : tc_f51.lok g_f51 := by
 repeat (first | exact trivial | exact lo_f51_0 | refine ⟨?_, ?_⟩)
theorem s_f51 (s : ByteArray) (h : sz6 s = true) : r_f51 s = some (.tu [.t (.sl tyDecision) (openV s).1, .t tI (openV s).2], []) := by
 have h : s.size ≤ 1000000 := of_decide_eq_true h
 refine brY (decide_eq_true ⟨h, by omega, by omega, by simp⟩) ?_
 have e1 : opE s 0 = (openV s).2 := by
  unfold opE openV
  rw [Int.zero_add]
  rfl
 rw [e1, List.nil_append]
 rfl
def sp_f51 : Ent := spec (.pr .str .nil) (fun x => (sz6 x.1)) (fun x => (.tu [(.t (.sl tyDecision) ((openV x.1).1)), (.t tI ((openV x.1).2))]))
theorem ms_f51 : Meets Try.prog 51 (strip sp_f51) := by
 obtain ⟨c, hc, hi⟩ := Option.map_eq_some_iff.1 ok_f51
 exact meets_spec (R := runF g_f51 tc_f51 rv_f51 false) (meets_of (by decide) Try.func51 hc hi Try.ntmps51 rok_f51 gk_f51 lk_f51 mixed) fun x hok => (e_f51 x.1).trans (s_f51 x.1 hok)
def tc_f54 : TC := (.sq (.reg [(oP 2 (.mv (.c (.v (.string (ByteArray.mk #[]))))))]) (.sq (.reg [(oV 6 0), (oC 7 51 [(.t 6)]), (oV 5 7), (oP 8 (.ext 0 (.t 5))), (oP 9 (.ext 1 (.t 5))), (oV 3 8), (oV 4 9)]) (.sq (.reg [(oV 10 0), (oV 11 4), (oP 12 (.sls (.t 10) none (some (.t 11)))), (oV 2 12)]) .rt)))
def rv_f54 : List (RV × Option Ty) := [((.t 2), some .str)]
def g_f54 : G := ⟨TYs, [], 13, EL [(51, sp_f51)], keeps, (fun _ _ => none), IL [], RL []⟩
def r_f54 (p0 : ByteArray) : Option (V × List VO) :=
 br ((sz6 p0))
  (br (cSs p0 0 ((openV p0).2))
   (some (.t .str (ssl p0 0 ((openV p0).2)), []))
   (none))
  (none)
theorem e_f54 (p0 : ByteArray) : runF g_f54 tc_f54 rv_f54 false [.t .str p0] [] = r_f54 p0 := by kernel_rfl
theorem ok_f54 : Option.map (trC Try.prog) Try.f54.body = some tc_f54.er := by kernel_rfl
theorem rok_f54 : trVs Try.prog Try.f54.results.toList = some (rv_f54.map Prod.fst) := by kernel_rfl
theorem en_f54 : Entered Try.prog 54 := .inr ⟨by decide, _, Try.func54, by kernel_rfl, by kernel_rfl⟩
theorem gk_f54 : GOk Try.prog g_f54 := gok_of _ (by
 intro p hp
 simp only [List.mem_cons, List.not_mem_nil, or_false] at hp
 rcases hp with rfl
 ·exact ⟨en_f51, ms_f51⟩)
theorem lk_f54 : tc_f54.lok g_f54 := by repeat (first | exact trivial | refine ⟨?_, ?_⟩)
theorem s_f54 (s : ByteArray) (h : sz6 s = true) : r_f54 s = some (.t .str (wholeV s), []) := by
 have hl := openL_le (s.size + 1) s.data.toList
 have hsl : s.data.toList.length = s.size := by simp
 rw [hsl] at hl
 refine brY h (brY (decide_eq_true ⟨Int.le_refl 0, ?_, ?_⟩) ?_)
 ·show (0 : Int) ≤ ((12 * (opens s).length : Nat) : Int)
  omega
 ·show ((12 * (opens s).length : Nat) : Int) ≤ _
  unfold opens
  omega
 ·unfold wholeV openV
  rfl
def sp_f54 : Ent := spec (.pr .str .nil) (fun x => (sz6 x.1)) (fun x => (.t .str (wholeV x.1)))
theorem ms_f54 : Meets Try.prog 54 (strip sp_f54) := by
 obtain ⟨c, hc, hi⟩ := Option.map_eq_some_iff.1 ok_f54
 exact meets_spec (R := runF g_f54 tc_f54 rv_f54 false) (meets_of (by decide) Try.func54 hc hi Try.ntmps54 rok_f54 gk_f54 lk_f54 mixed) fun x hok => (e_f54 x.1).trans (s_f54 x.1 hok)
def fg_f53_0 : Fg := ⟨[(2, none), (4, some (.sl tyDecision)), (6, none), (14, some (.sl tyDecision)), (15, some tI), (16, some tI)], [(2, some tyLedger), (6, some tyLedger)]⟩
def tb_f53_0 : TC := (.sq (.reg [(oP 17 (.bin false .lss (.t 16) (.t 15)))]) (.sq (.cd (.t 17) .sk (.fg ⟨[(2, none), (4, some (.sl tyDecision)), (6, none)], [(2, some tyLedger), (6, some tyLedger)]⟩ (.ex 0))) (.sq (.bk 1 (.sq (.reg [(oP 18 (.ix 5 (.t 14) (.t 16))), (oM 19 (.ld true 5 (.t 18))), (oM 8 (.new [(.v (.int .i64 0)), (.v (.int .i64 0)), (.v (.int .i64 0)), (.v (.int .i64 0)), (.v (.int .i64 0))])), (.mk none none (.m (.st 5 (.t 8) (.t 19))))]) (.reg [(oM 21 (.ld true 1 (.t 6))), (oM 22 (.ld true 5 (.t 8))), (oC 23 37 [(.t 21), (.t 22)]), (oV 20 23), (oP 24 (.ext 0 (.t 20))), (oP 25 (.ext 1 (.t 20))), (.mk none none (.m (.st 1 (.t 6) (.t 24))))]))) (.reg [(oP 26 (.bin false .add (.t 16) (cI 1))), (oV 16 26)]))))
def tc_f53 : TC := (.sq (.reg [(oM 2 (.new [(.v (.slice none 0 0))])), (oP 3 (.mv (cI 0)))]) (.sq (.reg [(oV 10 0), (oC 11 51 [(.t 10)]), (oV 9 11), (oP 12 (.ext 0 (.t 9))), (oP 13 (.ext 1 (.t 9))), (oV 4 12), (oV 5 13)]) (.sq (.reg [(oM 6 (.new [(.v (.slice none 0 0))]))]) (.sq (.sq (.reg [(oV 14 4), (oP 15 (.len false (.t 14))), (oP 16 (.mv (cI 0)))]) (.bk 0 (.lp 0 fg_f53_0 tb_f53_0))) (.sq (.reg [(oM 27 (.ld true 1 (.t 6))), (oV 28 4), (oP 29 (.len false (.t 28))), (.mk none none (.m (.st 1 (.t 2) (.t 27)))), (oV 3 29)]) .rt)))))
def rv_f53 : List (RV × Option Ty) := [((.c 2 true 1), some tyLedger), ((.t 3), some tI)]
abbrev sh_f53_0 : Sh := ⟨[(2, .ptr 2 0), (4, .ty (.sl tyDecision)), (6, .ptr 6 0), (14, .ty (.sl tyDecision)), (15, .ty tI), (16, .ty tI)], [(2, .box tyLedger), (6, .box tyLedger)]⟩
def st_f53_0 (x4 : (List Decision)) (x14 : (List Decision)) (x15 : Int) (x16 : Int) (y2 : Ledger) (y6 : Ledger) : VS := sh_f53_0.st ((), x4, (), x14, x15, x16, ()) (y2, y6, ())
abbrev sh_f53_0_e0 : Sh := ⟨[(2, .ptr 2 0), (4, .ty (.sl tyDecision)), (6, .ptr 6 0)], [(2, .box tyLedger), (6, .box tyLedger)]⟩
def st_f53_0_e0 (x4 : (List Decision)) (y2 : Ledger) (y6 : Ledger) : VS := sh_f53_0_e0.st ((), x4, (), ()) (y2, y6, ())
-- loop 0: (x4 : (List Decision)) (x14 : (List Decision)) (x15 : Int) (x16 : Int) (y2 : Ledger) (y6 : Ledger); out: ('exit', 0) (x4 : (List Decision)) (y2 : Ledger) (y6 : Ledger)
def L_f53_0 : VS → Option (Bool × List (Bool × Exit × VS)) := mkL sh_f53_0 (fun x y => (rngOk x.2.2.2.1 x.2.2.2.2.1 x.2.2.2.2.2.1 && decide (y.2.1.1.length ≤ x.2.2.2.2.2.1))) (fun x y => [(true, .exit 0, st_f53_0_e0 (x.2.1) (y.1) ((x.2.2.2.1.drop x.2.2.2.2.2.1.toNat).foldl repF y.2.1))])
def g_f53 : G := ⟨TYs, [], 30, EL [(37, sp_f37), (51, sp_f51)], keeps, (Ls [L_f53_0]), IL [], RL []⟩
def b_f53_0 (x4 : (List Decision)) (x14 : (List Decision)) (x15 : Int) (x16 : Int) (y2 : Ledger) (y6 : Ledger) : Option (Exit × VS) :=
 br ((ilt x16 x15))
  (br (cIx x14 x16)
   (br ((addOk y6 (lgt tyDecision x14 (Int.toNat x16))))
    (some (.normal, st_f53_0 x4 x14 x15 (iadd .i64 x16 1) y2 ((addV y6 (lgt tyDecision x14 (Int.toNat x16))).1)))
    (none))
   (none))
  (some (.exit 0, st_f53_0_e0 x4 y2 y6))
noncomputable def lp_f53_0 (x4 : (List Decision)) (x14 : (List Decision)) (x15 : Int) (x16 : Int) (y2 : Ledger) (y6 : Ledger) : Option (Exit × VS) := loopF (roundF g_f53 fg_f53_0 tb_f53_0) (st_f53_0 x4 x14 x15 x16 y2 y6)
noncomputable def n_f53_0 (x4 : (List Decision)) (x14 : (List Decision)) (x15 : Int) (x16 : Int) (y2 : Ledger) (y6 : Ledger) : Option (Exit × VS) :=
 br ((ilt x16 x15))
  (br (cIx x14 x16)
   (br ((addOk y6 (lgt tyDecision x14 (Int.toNat x16))))
    (lp_f53_0 x4 x14 x15 (iadd .i64 x16 1) y2 ((addV y6 (lgt tyDecision x14 (Int.toNat x16))).1))
    (none))
   (none))
  (some (.exit 0, st_f53_0_e0 x4 y2 y6))
def la_f53_0 (x4 : (List Decision)) (x14 : (List Decision)) (x15 : Int) (x16 : Int) (y2 : Ledger) (y6 : Ledger) : Option (Exit × VS) := some (.exit 0, st_f53_0_e0 (x4) (y2) ((x14.drop x16.toNat).foldl repF y6))
theorem be_f53_0 (x4 : (List Decision)) (x14 : (List Decision)) (x15 : Int) (x16 : Int) (y2 : Ledger) (y6 : Ledger) : roundF g_f53 fg_f53_0 tb_f53_0 (st_f53_0 x4 x14 x15 x16 y2 y6) = b_f53_0 x4 x14 x15 x16 y2 y6 := by kernel_rfl
theorem ln_f53_0 (x4 : (List Decision)) (x14 : (List Decision)) (x15 : Int) (x16 : Int) (y2 : Ledger) (y6 : Ledger) : lp_f53_0 x4 x14 x15 x16 y2 y6 = n_f53_0 x4 x14 x15 x16 y2 y6 := (loopF_nxt _ _).trans (by
 rw [be_f53_0]
 simp only [b_f53_0, n_f53_0, nxt_br, nxt_n, nxt_r, nxt_e, nxt_0]
 rfl)
def r_f53 (p0 : ByteArray) : Option (V × List VO) :=
 br ((sz6 p0))
  (br ((rngOk ((openV p0).1) (llen ((openV p0).1)) (0 : Int) && decide ((([] : List Decision), ()).1.length ≤ (0 : Int))))
   (some (.tu [(.t tyLedger ((((openV p0).1).drop (0 : Int).toNat).foldl repF (([] : List Decision), ()))), (.t tI (llen (((openV p0).1))))], []))
   (none))
  (none)
theorem e_f53 (p0 : ByteArray) : runF g_f53 tc_f53 rv_f53 false [.t .str p0] [] = r_f53 p0 := by kernel_rfl
theorem ok_f53 : Option.map (trC Try.prog) Try.f53.body = some tc_f53.er := by kernel_rfl
theorem rok_f53 : trVs Try.prog Try.f53.results.toList = some (rv_f53.map Prod.fst) := by kernel_rfl
theorem en_f53 : Entered Try.prog 53 := .inr ⟨by decide, _, Try.func53, by kernel_rfl, by kernel_rfl⟩
theorem gk_f53 : GOk Try.prog g_f53 := gok_of _ (by
 intro p hp
 simp only [List.mem_cons, List.not_mem_nil, or_false] at hp
 rcases hp with rfl | rfl
 ·exact ⟨en_f37, ms_f37⟩
 ·exact ⟨en_f51, ms_f51⟩)
theorem l_f53_0 (x4 : (List Decision)) (x14 : (List Decision)) (x15 : Int) (x16 : Int) (y2 : Ledger) (y6 : Ledger) (h : (rngOk x14 x15 x16 && decide (y6.1.length ≤ x16)) = true) : lp_f53_0 x4 x14 x15 x16 y2 y6 = la_f53_0 x4 x14 x15 x16 y2 y6 := by
 simp only [Bool.and_eq_true, decide_eq_true_eq] at h
 obtain ⟨h0, h4⟩ := h
 obtain ⟨rfl, h3, k, rfl, hk⟩ := rng_k h0
 clear h0
 revert y6
 refine range_ind x14 (fun k => ∀ y6 : Ledger, (y6.1.length : Int) ≤ (k : Int) → lp_f53_0 x4 x14 (x14.length : Int) (k : Int) y2 y6 = la_f53_0 x4 x14 (x14.length : Int) (k : Int) y2 y6) ?_ ?_ k hk
 ·intro y6 _
  rw [ln_f53_0]
  simp [n_f53_0, la_f53_0, ilt_nat, br_false]
 ·intro k hk ih y6 hy
  rw [ln_f53_0]
  have hr := rep_len y6 x14[k]
  have i1 := ih (repF y6 x14[k]) (by omega)
  have e1 : addOk y6 x14[k] = true := by simp only [addOk, ledLn, decide_eq_true_eq]; omega
  simp only [n_f53_0, ilt_nat, cIx_nat, hk, decide_true, br_true, Int.toNat_natCast, lgt_get (y := tyDecision) hk, add1 (show k < 4611686018427387904 by omega), e1]
  refine (show _ = lp_f53_0 x4 x14 (x14.length : Int) ((k + 1 : Nat) : Int) y2 (repF y6 x14[k]) from rfl).trans ?_
  rw [i1]
  simp only [la_f53_0, Int.toNat_natCast, List.drop_eq_getElem_cons hk, List.foldl_cons]
theorem lo_f53_0 : ∀ S l p, g_f53.L 0 (fgt fg_f53_0 S) = some (true, l) → pickA l = some p → loopF (roundF g_f53 fg_f53_0 tb_f53_0) S = some p :=
 lok_of (s := sh_f53_0) ⟨by decide, by decide⟩ (by kernel_rfl) fun x y hok p hp => by
 simp only [pickA_br, pickA_one] at hp
 exact (l_f53_0 x.2.1 x.2.2.2.1 x.2.2.2.2.1 x.2.2.2.2.2.1 y.1 y.2.1 (by simpa using hok)).trans hp
theorem lk_f53 : tc_f53.lok g_f53 := by
 repeat (first | exact trivial | exact lo_f53_0 | refine ⟨?_, ?_⟩)
theorem s_f53 (s : ByteArray) (h : replayOk s = true) : r_f53 s = some (.tu [.t tyLedger (replayV s).1, .t tI (replayV s).2], []) := by
 simp only [replayOk, Bool.and_eq_true, decide_eq_true_eq] at h
 have e1 : (rngOk (openV s).1 (llen (openV s).1) 0 && decide (((([] : List Decision), ()).1.length : Int) ≤ 0)) = true := by simp only [rng_0 h.2, Bool.true_and]; rfl
 unfold r_f53
 rw [h.1, br_true]
 first | (rw [e1, br_true]; rfl) | (simp only [e1, br_true]; rfl)
def sp_f53 : Ent := spec (.pr .str .nil) (fun x => (replayOk x.1)) (fun x => (.tu [(.t tyLedger ((replayV x.1).1)), (.t tI ((replayV x.1).2))]))
theorem ms_f53 : Meets Try.prog 53 (strip sp_f53) := by
 obtain ⟨c, hc, hi⟩ := Option.map_eq_some_iff.1 ok_f53
 exact meets_spec (R := runF g_f53 tc_f53 rv_f53 false) (meets_of (by decide) Try.func53 hc hi Try.ntmps53 rok_f53 gk_f53 lk_f53 mixed) fun x hok => (e_f53 x.1).trans (s_f53 x.1 hok)
def wrtF (s : ByteArray) (d : Decision) : ByteArray := (appV s d).1
def wrtV (l : Ledger) : ByteArray := l.1.foldl wrtF (ByteArray.mk #[])
def wrtOk (l : Ledger) : Bool := decide (l.1.length ≤ 100)
theorem app_size (s : ByteArray) (d : Decision) : (appV s d).1.size ≤ s.size + 12 := by
 have := enc_size d
 unfold appV
 split
 ·show s.size ≤ _
  omega
 ·split
  ·show s.size ≤ _
   omega
  ·show (s ++ (encV d).1).size ≤ _
   rw [ByteArray.size_append]
   omega
theorem wrt_size : ∀ (l : List Decision) (s : ByteArray), (l.foldl wrtF s).size ≤ s.size + 12 * l.length
 | [], _ => Nat.le_refl _
 | d :: l, s => by
  have h1 := app_size s d
  have h2 := wrt_size l (wrtF s d)
  rw [List.foldl_cons, List.length_cons]
  unfold wrtF at h2 ⊢
  omega
def fg_f18_0 : Fg := ⟨[(3, some .str), (7, some (.sl tyDecision)), (8, some tI), (9, some tI)], []⟩
def tb_f18_0 : TC := (.sq (.reg [(oP 10 (.bin false .lss (.t 9) (.t 8)))]) (.sq (.cd (.t 10) .sk (.fg ⟨[(3, some .str)], []⟩ (.ex 0))) (.sq (.bk 1 (.sq (.reg [(oP 11 (.ix 5 (.t 7) (.t 9))), (oM 12 (.ld true 5 (.t 11))), (oM 5 (.new [(.v (.int .i64 0)), (.v (.int .i64 0)), (.v (.int .i64 0)), (.v (.int .i64 0)), (.v (.int .i64 0))])), (.mk none none (.m (.st 5 (.t 5) (.t 12))))]) (.reg [(oV 14 3), (oM 15 (.ld true 5 (.t 5))), (oC 16 48 [(.t 14), (.t 15)]), (oV 13 16), (oP 17 (.ext 0 (.t 13))), (oP 18 (.ext 1 (.t 13))), (oV 3 17)]))) (.reg [(oP 19 (.bin false .add (.t 9) (cI 1))), (oV 9 19)]))))
def tc_f18 : TC := (.sq (.reg [(oM 1 (.box (.t 0))), (oP 2 (.mv (.c (.v (.string (ByteArray.mk #[]))))))]) (.sq (.reg [(oP 3 (.mv (.c (.v (.string (ByteArray.mk #[]))))))]) (.sq (.sq (.reg [(oP 6 (.fa 0 (.t 1))), (oL 7 6), (oP 8 (.len false (.t 7))), (oP 9 (.mv (cI 0)))]) (.bk 0 (.lp 0 fg_f18_0 tb_f18_0))) (.sq (.reg [(oV 20 3), (oV 2 20)]) .rt))))
def rv_f18 : List (RV × Option Ty) := [((.t 2), some .str)]
abbrev sh_f18_0 : Sh := ⟨[(3, .ty .str), (7, .ty (.sl tyDecision)), (8, .ty tI), (9, .ty tI)], []⟩
def st_f18_0 (x3 : ByteArray) (x7 : (List Decision)) (x8 : Int) (x9 : Int) : VS := sh_f18_0.st (x3, x7, x8, x9, ()) ()
abbrev sh_f18_0_e0 : Sh := ⟨[(3, .ty .str)], []⟩
def st_f18_0_e0 (x3 : ByteArray) : VS := sh_f18_0_e0.st (x3, ()) ()
-- loop 0: (x3 : ByteArray) (x7 : (List Decision)) (x8 : Int) (x9 : Int); out: ('exit', 0) (x3 : ByteArray)
def L_f18_0 : VS → Option (Bool × List (Bool × Exit × VS)) := mkL sh_f18_0 (fun x y => (rngOk x.2.1 x.2.2.1 x.2.2.2.1 && decide (x.1.size ≤ 12 * x.2.2.2.1 ∧ x.2.1.length ≤ 100))) (fun x y => [(true, .exit 0, st_f18_0_e0 ((x.2.1.drop x.2.2.2.1.toNat).foldl wrtF x.1))])
def g_f18 : G := ⟨TYs, [], 21, EL [(48, sp_f48)], keeps, (Ls [L_f18_0]), IL [], RL []⟩
def b_f18_0 (x3 : ByteArray) (x7 : (List Decision)) (x8 : Int) (x9 : Int) : Option (Exit × VS) :=
 br ((ilt x9 x8))
  (br (cIx x7 x9)
   (br ((appOk x3 (lgt tyDecision x7 (Int.toNat x9))))
    (some (.normal, st_f18_0 ((appV x3 (lgt tyDecision x7 (Int.toNat x9))).1) x7 x8 (iadd .i64 x9 1)))
    (none))
   (none))
  (some (.exit 0, st_f18_0_e0 x3))
noncomputable def lp_f18_0 (x3 : ByteArray) (x7 : (List Decision)) (x8 : Int) (x9 : Int) : Option (Exit × VS) := loopF (roundF g_f18 fg_f18_0 tb_f18_0) (st_f18_0 x3 x7 x8 x9)
noncomputable def n_f18_0 (x3 : ByteArray) (x7 : (List Decision)) (x8 : Int) (x9 : Int) : Option (Exit × VS) :=
 br ((ilt x9 x8))
  (br (cIx x7 x9)
   (br ((appOk x3 (lgt tyDecision x7 (Int.toNat x9))))
    (lp_f18_0 ((appV x3 (lgt tyDecision x7 (Int.toNat x9))).1) x7 x8 (iadd .i64 x9 1))
    (none))
   (none))
  (some (.exit 0, st_f18_0_e0 x3))
def la_f18_0 (x3 : ByteArray) (x7 : (List Decision)) (x8 : Int) (x9 : Int) : Option (Exit × VS) := some (.exit 0, st_f18_0_e0 ((x7.drop x9.toNat).foldl wrtF x3))
theorem be_f18_0 (x3 : ByteArray) (x7 : (List Decision)) (x8 : Int) (x9 : Int) : roundF g_f18 fg_f18_0 tb_f18_0 (st_f18_0 x3 x7 x8 x9) = b_f18_0 x3 x7 x8 x9 := by kernel_rfl
theorem ln_f18_0 (x3 : ByteArray) (x7 : (List Decision)) (x8 : Int) (x9 : Int) : lp_f18_0 x3 x7 x8 x9 = n_f18_0 x3 x7 x8 x9 := (loopF_nxt _ _).trans (by
 rw [be_f18_0]
 simp only [b_f18_0, n_f18_0, nxt_br, nxt_n, nxt_r, nxt_e, nxt_0]
 rfl)
def r_f18 (p0 : Ledger) : Option (V × List VO) :=
 br ((rngOk p0.1 (llen p0.1) (0 : Int) && decide ((ByteArray.mk #[]).size ≤ 12 * (0 : Int) ∧ p0.1.length ≤ 100)))
  (some (.t .str ((p0.1.drop (0 : Int).toNat).foldl wrtF (ByteArray.mk #[])), []))
  (none)
theorem e_f18 (p0 : Ledger) : runF g_f18 tc_f18 rv_f18 false [.t tyLedger p0] [] = r_f18 p0 := by kernel_rfl
theorem ok_f18 : Option.map (trC Try.prog) Try.f18.body = some tc_f18.er := by kernel_rfl
theorem rok_f18 : trVs Try.prog Try.f18.results.toList = some (rv_f18.map Prod.fst) := by kernel_rfl
theorem en_f18 : Entered Try.prog 18 := .inr ⟨by decide, _, Try.func18, by kernel_rfl, by kernel_rfl⟩
theorem gk_f18 : GOk Try.prog g_f18 := gok_of _ (by
 intro p hp
 simp only [List.mem_cons, List.not_mem_nil, or_false] at hp
 rcases hp with rfl
 ·exact ⟨en_f48, ms_f48⟩)
theorem l_f18_0 (x3 : ByteArray) (x7 : (List Decision)) (x8 : Int) (x9 : Int) (h : (rngOk x7 x8 x9 && decide (x3.size ≤ 12 * x9 ∧ x7.length ≤ 100)) = true) : lp_f18_0 x3 x7 x8 x9 = la_f18_0 x3 x7 x8 x9 := by
 simp only [Bool.and_eq_true, decide_eq_true_eq] at h
 obtain ⟨h0, h4, h6⟩ := h
 obtain ⟨rfl, h3, k, rfl, hk⟩ := rng_k h0
 clear h0
 revert x3
 refine range_ind x7 (fun k => ∀ x3 : ByteArray, (x3.size : Int) ≤ 12 * (k : Int) → lp_f18_0 x3 x7 (x7.length : Int) (k : Int) = la_f18_0 x3 x7 (x7.length : Int) (k : Int)) ?_ ?_ k hk
 ·intro x3 _
  rw [ln_f18_0]
  simp [n_f18_0, la_f18_0, ilt_nat, br_false]
 ·intro k hk ih x3 hx
  rw [ln_f18_0]
  have hs := app_size x3 x7[k]
  have e1 : appOk x3 x7[k] = true := by simp only [appOk, sz6, decide_eq_true_eq]; omega
  have i1 := ih (appV x3 x7[k]).1 (by omega)
  simp only [n_f18_0, ilt_nat, cIx_nat, hk, decide_true, br_true, Int.toNat_natCast, lgt_get (y := tyDecision) hk, add1 (show k < 4611686018427387904 by omega), e1, i1]
  simp only [la_f18_0, Int.toNat_natCast, List.drop_eq_getElem_cons hk, List.foldl_cons]
  rfl
theorem lo_f18_0 : ∀ S l p, g_f18.L 0 (fgt fg_f18_0 S) = some (true, l) → pickA l = some p → loopF (roundF g_f18 fg_f18_0 tb_f18_0) S = some p :=
 lok_of (s := sh_f18_0) ⟨by decide, by decide⟩ (by kernel_rfl) fun x y hok p hp => by
 simp only [pickA_br, pickA_one] at hp
 exact (l_f18_0 x.1 x.2.1 x.2.2.1 x.2.2.2.1 (by simpa using hok)).trans hp
theorem lk_f18 : tc_f18.lok g_f18 := by
 repeat (first | exact trivial | exact lo_f18_0 | refine ⟨?_, ?_⟩)
theorem s_f18 (l : Ledger) (h : wrtOk l = true) : r_f18 l = some (.t .str (wrtV l), []) := by
 have h : l.1.length ≤ 100 := of_decide_eq_true h
 refine brY ?_ rfl
 rw [rng_0 (by omega), Bool.true_and]
 exact decide_eq_true ⟨by decide, h⟩
def sp_f18 : Ent := spec (.pr tyLedger .nil) (fun x => (wrtOk x.1)) (fun x => (.t .str (wrtV x.1)))
theorem ms_f18 : Meets Try.prog 18 (strip sp_f18) := by
 obtain ⟨c, hc, hi⟩ := Option.map_eq_some_iff.1 ok_f18
 exact meets_spec (R := runF g_f18 tc_f18 rv_f18 false) (meets_of (by decide) Try.func18 hc hi Try.ntmps18 rok_f18 gk_f18 lk_f18 mixed) fun x hok => (e_f18 x.1).trans (s_f18 x.1 hok)
end
end Go.Proofs.Ytnimpcffagidoaa.K
