/-
  executable: which algorithms the symbols name.
-/
import Derived.Test.YtdbaaejiolibfaaG5
set_option linter.unusedSimpArgs false
set_option linter.unusedVariables false
namespace Go.Proofs.Ytdbaaejiolibfaa.K
open Go.RowKit Go.Shelf
noncomputable section
theorem indexB_lt : ∀ (l : List UInt8) (c : UInt8), Lib.indexByte l c < (l.length : Int) ∨ Lib.indexByte l c = -1
  | [], _ => .inr rfl
  | b :: l, c => by
    unfold Lib.indexByte
    split
    · exact .inl (by simp only [List.length_cons]; omega)
    · split
      · exact .inr rfl
      · rename_i h
        have := indexB_lt l c
        rcases this with h1 | h1
        · exact .inl (by simp only [List.length_cons]; omega)
        · exact absurd (by rw [h1]; rfl) h
def cutO (s p : ByteArray) : ByteArray × (ByteArray × Bool) := bif ige (idxO s p) 0 then (ssl s 0 (idxO s p), (ssl s (iadd .i64 (idxO s p) (slen p)) ((ByteArray.size s : Nat) : Int), true)) else (s, (ByteArray.mk #[], false))
def cutOOk (s p : ByteArray) : Bool := decide (p.size = 1 ∧ s.size ≤ 4611686018427387904)
def dr_f43_0 : List DO := [(.mk (oV 13 0) []), (.mk (oV 14 7) []), (.mk (oP 15 (.sls (.t 13) none (some (.t 14)))) [0, 1]), (.mk (oV 16 0) []), (.mk (oV 17 7) []), (.mk (oV 18 1) []), (.mk (oP 19 (.len true (.t 18))) [5]), (.mk (oP 20 (.bin false .add (.t 17) (.t 19))) [4, 6]), (.mk (oP 21 (.sls (.t 16) (some (.t 20)) none)) [3, 7]), (.mk (oV 4 15) [2, 0, 1, 2]), (.mk (oV 5 21) [8, 9, 0, 1, 2, 3, 4, 5, 6, 7, 8, 9]), (.mk (oP 6 (.mv (cB true))) [10, 0, 1, 2, 3, 4, 5, 6, 7, 8, 9, 10])]
/-- internal/stringslite.Cut -/
def tc_f43 : TC := (.sq (.reg [(oP 4 (.mv (.c (.v (.string (ByteArray.mk #[])))))), (oP 5 (.mv (.c (.v (.string (ByteArray.mk #[])))))), (oP 6 (.mv (cB false)))]) (.sq (.sq (.reg [(oV 8 0), (oV 9 1), (oC 10 49 [(.t 8), (.t 9)]), (oV 7 10)]) (.sq (.reg [(oV 11 7), (oP 12 (.bin false .geq (.t 11) (cI 0)))]) (.cd (.t 12) (.sq (.dr dr_f43_0 [(0, []), (1, []), (2, []), (3, []), (4, []), (5, []), (6, []), (7, []), (8, []), (9, []), (10, []), (11, [])] (.of [0, 1, 2, 3, 4, 5, 6, 7, 8, 9, 10, 11])) .rt) .sk))) (.sq (.reg [(oV 22 0), (oV 4 22), (oP 5 (.mv (.c (.v (.string (ByteArray.mk #[])))))), (oP 6 (.mv (cB false)))]) .rt)))
def rv_f43 : List (RV × Option Ty) := [((.t 4), some .str), ((.t 5), some .str), ((.t 6), some .bool)]
def g_f43 : G := ⟨TYs, [], 23, EL [(49, sp_f49)], keeps, (fun _ _ => none), IL [], RL []⟩
def r_f43 (p0 : ByteArray) (p1 : ByteArray) : Option (V × List VO) :=
  br ((idxOOk p0 p1))
    (br ((ige (idxO p0 p1) 0))
      (br (cSs p0 0 (idxO p0 p1))
        (br (cSs p0 (iadd .i64 (idxO p0 p1) (slen p1)) ((ByteArray.size p0 : Nat) : Int))
          (some (.tu [(.t .str (ssl p0 0 (idxO p0 p1))), (.t .str (ssl p0 (iadd .i64 (idxO p0 p1) (slen p1)) ((ByteArray.size p0 : Nat) : Int))), (.t .bool true)], []))
          (none))
        (none))
      (some (.tu [(.t .str p0), (.t .str (ByteArray.mk #[])), (.t .bool false)], [])))
    (none)
theorem e_f43 (p0 : ByteArray) (p1 : ByteArray) : runF g_f43 tc_f43 rv_f43 false [.t .str p0, .t .str p1] [] = r_f43 p0 p1 := by kernel_rfl
theorem ok_f43 : Option.map (trC Try.prog) Try.f43.body = some tc_f43.er := by kernel_rfl
theorem rok_f43 : trVs Try.prog Try.f43.results.toList = some (rv_f43.map Prod.fst) := by kernel_rfl
theorem en_f43 : Entered Try.prog 43 := .inr ⟨by decide, _, Try.func43, by kernel_rfl, by kernel_rfl⟩
theorem gk_f43 : GOk Try.prog g_f43 := gok_of _ (by
  intro p hp
  simp only [List.mem_cons, List.not_mem_nil, or_false] at hp
  rcases hp with rfl
  · exact ⟨en_f49, ms_f49⟩)
theorem lk_f43 : tc_f43.lok g_f43 := by repeat (first | exact trivial | refine ⟨?_, ?_⟩)
theorem s_f43 (s p : ByteArray) (h : cutOOk s p = true) : r_f43 s p = some (.tu [.t .str (cutO s p).1, .t .str (cutO s p).2.1, .t .bool (cutO s p).2.2], []) := by
  simp only [cutOOk, decide_eq_true_eq] at h
  simp only [r_f43, idxOOk, h.1, decide_true, br_true, cutO]
  cases hg : ige (idxO s p) 0 with
  | false => rfl
  | true =>
    have h0 : 0 ≤ idxO s p := by simpa [ige] using hg
    have h1 : idxO s p < s.size := by
      rcases indexB_lt s.data.toList (p.data.toList.headD 0) with h1 | h1
      · exact h1
      · rw [show idxO s p = -1 from h1] at h0; omega
    have e1 : iadd .i64 (idxO s p) (slen p) = idxO s p + 1 := by
      rw [show slen p = 1 from by simp [slen, h.1], iadd_in (by omega)]
    have c1 : cSs s 0 (idxO s p) = true := decide_eq_true (by omega)
    have c2 : cSs s (iadd .i64 (idxO s p) (slen p)) ((ByteArray.size s : Nat) : Int) = true := decide_eq_true (by rw [e1]; omega)
    rw [br_true, c1, c2, br_true, br_true]
    rfl
def sp_f43 : Ent := spec (.pr .str (.pr .str .nil)) (fun x => (cutOOk x.1 x.2.1)) (fun x => (.tu [(.t .str ((cutO x.1 x.2.1).1)), (.t .str (((cutO x.1 x.2.1).2).1)), (.t .bool (((cutO x.1 x.2.1).2).2))]))
theorem ms_f43 : Meets Try.prog 43 (strip sp_f43) := by
  obtain ⟨c, hc, hi⟩ := Option.map_eq_some_iff.1 ok_f43
  exact meets_spec (R := runF g_f43 tc_f43 rv_f43 false) (meets_of (by decide) Try.func43 hc hi Try.ntmps43 rok_f43 gk_f43 lk_f43 mixed) fun x hok => (e_f43 x.1 x.2.1).trans (s_f43 x.1 x.2.1 hok)
/-- strings.Cut -/
def tc_f34 : TC := (.sq (.reg [(oP 4 (.mv (.c (.v (.string (ByteArray.mk #[])))))), (oP 5 (.mv (.c (.v (.string (ByteArray.mk #[])))))), (oP 6 (.mv (cB false)))]) (.sq (.reg [(oV 7 0), (oV 8 1), (oC 9 43 [(.t 7), (.t 8)]), (oP 10 (.ext 0 (.t 9))), (oP 11 (.ext 1 (.t 9))), (oP 12 (.ext 2 (.t 9))), (oV 4 10), (oV 5 11), (oV 6 12)]) .rt))
def rv_f34 : List (RV × Option Ty) := [((.t 4), some .str), ((.t 5), some .str), ((.t 6), some .bool)]
def g_f34 : G := ⟨TYs, [], 13, EL [(43, sp_f43)], keeps, (fun _ _ => none), IL [], RL []⟩
def r_f34 (p0 : ByteArray) (p1 : ByteArray) : Option (V × List VO) :=
  br ((cutOOk p0 p1))
    (some (.tu [(.t .str ((cutO p0 p1).1)), (.t .str (((cutO p0 p1).2).1)), (.t .bool (((cutO p0 p1).2).2))], []))
    (none)
theorem e_f34 (p0 : ByteArray) (p1 : ByteArray) : runF g_f34 tc_f34 rv_f34 false [.t .str p0, .t .str p1] [] = r_f34 p0 p1 := by kernel_rfl
theorem ok_f34 : Option.map (trC Try.prog) Try.f34.body = some tc_f34.er := by kernel_rfl
theorem rok_f34 : trVs Try.prog Try.f34.results.toList = some (rv_f34.map Prod.fst) := by kernel_rfl
theorem en_f34 : Entered Try.prog 34 := .inr ⟨by decide, _, Try.func34, by kernel_rfl, by kernel_rfl⟩
theorem gk_f34 : GOk Try.prog g_f34 := gok_of _ (by
  intro p hp
  simp only [List.mem_cons, List.not_mem_nil, or_false] at hp
  rcases hp with rfl
  · exact ⟨en_f43, ms_f43⟩)
theorem lk_f34 : tc_f34.lok g_f34 := by repeat (first | exact trivial | refine ⟨?_, ?_⟩)
theorem s_f34 (s p : ByteArray) (h : cutOOk s p = true) : r_f34 s p = some (.tu [.t .str (cutO s p).1, .t .str (cutO s p).2.1, .t .bool (cutO s p).2.2], []) := by
  simp only [r_f34, h, br_true]
def sp_f34 : Ent := spec (.pr .str (.pr .str .nil)) (fun x => (cutOOk x.1 x.2.1)) (fun x => (.tu [(.t .str ((cutO x.1 x.2.1).1)), (.t .str (((cutO x.1 x.2.1).2).1)), (.t .bool (((cutO x.1 x.2.1).2).2))]))
theorem ms_f34 : Meets Try.prog 34 (strip sp_f34) := by
  obtain ⟨c, hc, hi⟩ := Option.map_eq_some_iff.1 ok_f34
  exact meets_spec (R := runF g_f34 tc_f34 rv_f34 false) (meets_of (by decide) Try.func34 hc hi Try.ntmps34 rok_f34 gk_f34 lk_f34 mixed) fun x hok => (e_f34 x.1 x.2.1).trans (s_f34 x.1 x.2.1 hok)
def posL (a : Int) : List Int := bif igt a 0 then [a] else []
def algN (s : ByteArray) : List Int := posL (findG s)
def befS (s : ByteArray) : ByteArray := (cutO s (ByteArray.mk #[95])).1
def algS (z : Symbol) : List Int := [z.1, befS z.1].flatMap algN
theorem algN_len (s : ByteArray) : (algN s).length ≤ 1 := by unfold algN posL; cases igt (findG s) 0 <;> simp
theorem algS_len (z : Symbol) : (algS z).length ≤ 2 := by
  have h1 := algN_len z.1
  have h2 := algN_len (befS z.1)
  simp only [algS, List.flatMap_cons, List.flatMap_nil, List.length_append, List.length_nil]
  omega
def algX (x : Image) : List Int := Lib.compact (sortI (x.2.1.flatMap algS))
def algOk (x : Image) : Bool := decide (x.2.1.length ≤ 100000) && x.2.1.all fun z => decide (z.1.size ≤ 4611686018427387904)
def fg_f18_0 : Fg := ⟨[(3, none), (13, some (.sl tySymbol)), (14, some tI), (15, some tI), (29, some (.sl .str)), (30, some tI), (31, some tI)], [(3, none), (42, none)]⟩
def tb_f18_0 : TC := (.sq (.reg [(oP 32 (.bin false .lss (.t 31) (.t 30)))]) (.sq (.cd (.t 32) .sk (.fg ⟨[(3, none), (13, some (.sl tySymbol)), (14, some tI), (15, some tI)], [(3, none), (42, none)]⟩ (.ex 2))) (.sq (.bk 3 (.sq (.reg [(oP 33 (.ix 1 (.t 29) (.t 31))), (oL 34 33), (oV 10 34)]) (.sq (.reg [(oV 35 10), (oC 36 35 [(.t 35)]), (oV 11 36)]) (.sq (.reg [(oV 37 11), (oP 38 (.bin false .gtr (.t 37) (cI 0)))]) (.cd (.t 38) (.reg [(oV 39 3), (oV 40 11), (oM 41 (.bs 3 1 1 [(.v (.int .i64 0))] [(0, 1, (.t 40))])), (oM 42 (.app 3 1 8 (.t 39) (.t 41))), (oV 3 42)]) .sk))))) (.reg [(oP 43 (.bin false .add (.t 31) (cI 1))), (oV 31 43)]))))
def fg_f18_1 : Fg := ⟨[(3, none), (13, some (.sl tySymbol)), (14, some tI), (15, some tI)], [(3, none), (42, none)]⟩
def tb_f18_1 : TC := (.sq (.reg [(oP 16 (.bin false .lss (.t 15) (.t 14)))]) (.sq (.cd (.t 16) .sk (.fg ⟨[(3, none)], [(3, none), (42, none)]⟩ (.ex 0))) (.sq (.bk 1 (.sq (.reg [(oP 17 (.ix 2 (.t 13) (.t 15))), (oM 18 (.ld true 2 (.t 17))), (oM 5 (.new [(.v (.string (ByteArray.mk #[]))), (.v (.int .i64 0))])), (.mk none none (.m (.st 2 (.t 5) (.t 18))))]) (.sq (.reg [(oP 20 (.fa 0 (.t 5))), (oL 21 20), (oC 22 34 [(.t 21), (.c (.v (.string (ByteArray.mk #[95]))))]), (oV 19 22), (oP 23 (.ext 0 (.t 19))), (oP 24 (.ext 1 (.t 19))), (oP 25 (.ext 2 (.t 19))), (oV 6 23), (oV 7 24), (oV 8 25)]) (.sq (.reg [(oP 26 (.fa 0 (.t 5))), (oL 27 26), (oV 28 6), (oM 29 (.bs 9 1 2 [(.v (.string (ByteArray.mk #[]))), (.v (.string (ByteArray.mk #[])))] [(0, 1, (.t 27)), (1, 1, (.t 28))])), (oP 30 (.len false (.t 29))), (oP 31 (.mv (cI 0)))]) (.bk 2 (.nw 3 3 (.lp 0 fg_f18_0 tb_f18_0))))))) (.reg [(oP 44 (.bin false .add (.t 15) (cI 1))), (oV 15 44)]))))
/-- cipherplan/executable.Algorithms -/
def tc_f18 : TC := (.sq (.reg [(oM 1 (.box (.t 0))), (oP 2 (.mv (.c (.v (.slice none 0 0)))))]) (.sq (.reg [(oP 3 (.mv (.c (.v (.slice none 0 0)))))]) (.sq (.sq (.reg [(oP 12 (.fa 1 (.t 1))), (oL 13 12), (oP 14 (.len false (.t 13))), (oP 15 (.mv (cI 0)))]) (.bk 0 (.nw 3 3 (.lp 1 fg_f18_1 tb_f18_1)))) (.sq (.reg [(oV 45 3), (oC 46 36 [(.t 45)])]) (.sq (.reg [(oV 47 3), (oC 48 37 [(.t 47)]), (oV 2 48)]) .rt)))))
def rv_f18 : List (RV × Option Ty) := [((.t 2), some (.sl tI))]
abbrev sh_f18_0 : Sh := ⟨[(3, .ms 3), (13, .ty (.sl tySymbol)), (14, .ty tI), (15, .ty tI), (29, .ty (.sl .str)), (30, .ty tI), (31, .ty tI)], [(3, .arr 3 tI), (42, .no)]⟩
def st_f18_0 (x13 : (List Symbol)) (x14 : Int) (x15 : Int) (x29 : (List ByteArray)) (x30 : Int) (x31 : Int) (y3 : (List Int)) : VS := sh_f18_0.st ((), x13, x14, x15, x29, x30, x31, ()) (y3, (), ())
abbrev sh_f18_0_e2 : Sh := ⟨[(3, .ms 3), (13, .ty (.sl tySymbol)), (14, .ty tI), (15, .ty tI)], [(3, .arr 3 tI), (42, .no)]⟩
def st_f18_0_e2 (x13 : (List Symbol)) (x14 : Int) (x15 : Int) (y3 : (List Int)) : VS := sh_f18_0_e2.st ((), x13, x14, x15, ()) (y3, (), ())
-- loop 0: (x13 : (List Symbol)) (x14 : Int) (x15 : Int) (x29 : (List ByteArray)) (x30 : Int) (x31 : Int) (y3 : (List Int)); out: ('exit', 2) (x13 : (List Symbol)) (x14 : Int) (x15 : Int) (y3 : (List Int))
abbrev sh_f18_1 : Sh := ⟨[(3, .ms 3), (13, .ty (.sl tySymbol)), (14, .ty tI), (15, .ty tI)], [(3, .arr 3 tI), (42, .no)]⟩
def st_f18_1 (x13 : (List Symbol)) (x14 : Int) (x15 : Int) (y3 : (List Int)) : VS := sh_f18_1.st ((), x13, x14, x15, ()) (y3, (), ())
abbrev sh_f18_1_e0 : Sh := ⟨[(3, .ms 3)], [(3, .arr 3 tI), (42, .no)]⟩
def st_f18_1_e0 (y3 : (List Int)) : VS := sh_f18_1_e0.st ((), ()) (y3, (), ())
-- loop 1: (x13 : (List Symbol)) (x14 : Int) (x15 : Int) (y3 : (List Int)); out: ('exit', 0) (y3 : (List Int))
def L_f18_0 : VS → Option (Bool × List (Bool × Exit × VS)) := mkL sh_f18_0 (fun x y => (rngOk x.2.2.2.2.1 x.2.2.2.2.2.1 x.2.2.2.2.2.2.1 && decide (y.1.length + x.2.2.2.2.1.length ≤ 400000 + x.2.2.2.2.2.2.1.toNat))) (fun x y => [(true, .exit 2, st_f18_0_e2 (x.2.1) (x.2.2.1) (x.2.2.2.1) (y.1 ++ (x.2.2.2.2.1.drop x.2.2.2.2.2.2.1.toNat).flatMap algN))])
def L_f18_1 : VS → Option (Bool × List (Bool × Exit × VS)) := mkL sh_f18_1 (fun x y => (rngOk x.2.1 x.2.2.1 x.2.2.2.1 && decide (y.1.length + 2 * x.2.1.length ≤ 300000 + 2 * x.2.2.2.1.toNat) && x.2.1.all fun z => decide (z.1.size ≤ 4611686018427387904))) (fun x y => [(true, .exit 0, st_f18_1_e0 (y.1 ++ (x.2.1.drop x.2.2.2.1.toNat).flatMap algS))])
def g_f18 : G := ⟨TYs, [], 49, EL [(34, sp_f34), (35, sp_f35), (36, sp_f36), (37, sp_f37)], keeps, (Ls [L_f18_0, L_f18_1]), IL [], RL []⟩
def b_f18_0 (x13 : (List Symbol)) (x14 : Int) (x15 : Int) (x29 : (List ByteArray)) (x30 : Int) (x31 : Int) (y3 : (List Int)) : Option (Exit × VS) :=
  br ((ilt x31 x30))
    (br (cIx x29 x31)
      (br ((igt (findG (lgt .str x29 (Int.toNat x31))) 0))
        (br (cApp y3 ([(findG (lgt .str x29 (Int.toNat x31)))]) 8)
          (some (.normal, st_f18_0 x13 x14 x15 x29 x30 (iadd .i64 x31 1) (y3 ++ ([(findG (lgt .str x29 (Int.toNat x31)))]))))
          (none))
        (some (.normal, st_f18_0 x13 x14 x15 x29 x30 (iadd .i64 x31 1) y3)))
      (none))
    (some (.exit 2, st_f18_0_e2 x13 x14 x15 y3))
noncomputable def lp_f18_0 (x13 : (List Symbol)) (x14 : Int) (x15 : Int) (x29 : (List ByteArray)) (x30 : Int) (x31 : Int) (y3 : (List Int)) : Option (Exit × VS) := loopF (roundF g_f18 fg_f18_0 tb_f18_0) (st_f18_0 x13 x14 x15 x29 x30 x31 y3)
noncomputable def n_f18_0 (x13 : (List Symbol)) (x14 : Int) (x15 : Int) (x29 : (List ByteArray)) (x30 : Int) (x31 : Int) (y3 : (List Int)) : Option (Exit × VS) :=
  br ((ilt x31 x30))
    (br (cIx x29 x31)
      (br ((igt (findG (lgt .str x29 (Int.toNat x31))) 0))
        (br (cApp y3 ([(findG (lgt .str x29 (Int.toNat x31)))]) 8)
          (lp_f18_0 x13 x14 x15 x29 x30 (iadd .i64 x31 1) (y3 ++ ([(findG (lgt .str x29 (Int.toNat x31)))])))
          (none))
        (lp_f18_0 x13 x14 x15 x29 x30 (iadd .i64 x31 1) y3))
      (none))
    (some (.exit 2, st_f18_0_e2 x13 x14 x15 y3))
def la_f18_0 (x13 : (List Symbol)) (x14 : Int) (x15 : Int) (x29 : (List ByteArray)) (x30 : Int) (x31 : Int) (y3 : (List Int)) : Option (Exit × VS) := some (.exit 2, st_f18_0_e2 (x13) (x14) (x15) (y3 ++ (x29.drop x31.toNat).flatMap algN))
theorem be_f18_0 (x13 : (List Symbol)) (x14 : Int) (x15 : Int) (x29 : (List ByteArray)) (x30 : Int) (x31 : Int) (y3 : (List Int)) : roundF g_f18 fg_f18_0 tb_f18_0 (st_f18_0 x13 x14 x15 x29 x30 x31 y3) = b_f18_0 x13 x14 x15 x29 x30 x31 y3 := by kernel_rfl
theorem ln_f18_0 (x13 : (List Symbol)) (x14 : Int) (x15 : Int) (x29 : (List ByteArray)) (x30 : Int) (x31 : Int) (y3 : (List Int)) : lp_f18_0 x13 x14 x15 x29 x30 x31 y3 = n_f18_0 x13 x14 x15 x29 x30 x31 y3 := (loopF_nxt _ _).trans (by
  rw [be_f18_0]
  simp only [b_f18_0, n_f18_0, nxt_br, nxt_n, nxt_r, nxt_e, nxt_0]
  rfl)
def b_f18_1 (x13 : (List Symbol)) (x14 : Int) (x15 : Int) (y3 : (List Int)) : Option (Exit × VS) :=
  br ((ilt x15 x14))
    (br (cIx x13 x15)
      (br ((cutOOk ((lgt tySymbol x13 (Int.toNat x15)).1) (ByteArray.mk #[95])))
        (br ((rngOk ([(lgt tySymbol x13 (Int.toNat x15)).1, (cutO ((lgt tySymbol x13 (Int.toNat x15)).1) (ByteArray.mk #[95])).1]) (llen ([(lgt tySymbol x13 (Int.toNat x15)).1, (cutO ((lgt tySymbol x13 (Int.toNat x15)).1) (ByteArray.mk #[95])).1])) (0 : Int) && decide (y3.length + ([(lgt tySymbol x13 (Int.toNat x15)).1, (cutO ((lgt tySymbol x13 (Int.toNat x15)).1) (ByteArray.mk #[95])).1]).length ≤ 400000 + (0 : Int).toNat)))
          (some (.normal, st_f18_1 (x13) (x14) (iadd .i64 (x15) 1) (y3 ++ (([(lgt tySymbol x13 (Int.toNat x15)).1, (cutO ((lgt tySymbol x13 (Int.toNat x15)).1) (ByteArray.mk #[95])).1]).drop (0 : Int).toNat).flatMap algN)))
          (none))
        (none))
      (none))
    (some (.exit 0, st_f18_1_e0 y3))
noncomputable def lp_f18_1 (x13 : (List Symbol)) (x14 : Int) (x15 : Int) (y3 : (List Int)) : Option (Exit × VS) := loopF (roundF g_f18 fg_f18_1 tb_f18_1) (st_f18_1 x13 x14 x15 y3)
noncomputable def n_f18_1 (x13 : (List Symbol)) (x14 : Int) (x15 : Int) (y3 : (List Int)) : Option (Exit × VS) :=
  br ((ilt x15 x14))
    (br (cIx x13 x15)
      (br ((cutOOk ((lgt tySymbol x13 (Int.toNat x15)).1) (ByteArray.mk #[95])))
        (br ((rngOk ([(lgt tySymbol x13 (Int.toNat x15)).1, (cutO ((lgt tySymbol x13 (Int.toNat x15)).1) (ByteArray.mk #[95])).1]) (llen ([(lgt tySymbol x13 (Int.toNat x15)).1, (cutO ((lgt tySymbol x13 (Int.toNat x15)).1) (ByteArray.mk #[95])).1])) (0 : Int) && decide (y3.length + ([(lgt tySymbol x13 (Int.toNat x15)).1, (cutO ((lgt tySymbol x13 (Int.toNat x15)).1) (ByteArray.mk #[95])).1]).length ≤ 400000 + (0 : Int).toNat)))
          (lp_f18_1 (x13) (x14) (iadd .i64 (x15) 1) (y3 ++ (([(lgt tySymbol x13 (Int.toNat x15)).1, (cutO ((lgt tySymbol x13 (Int.toNat x15)).1) (ByteArray.mk #[95])).1]).drop (0 : Int).toNat).flatMap algN))
          (none))
        (none))
      (none))
    (some (.exit 0, st_f18_1_e0 y3))
def la_f18_1 (x13 : (List Symbol)) (x14 : Int) (x15 : Int) (y3 : (List Int)) : Option (Exit × VS) := some (.exit 0, st_f18_1_e0 (y3 ++ (x13.drop x15.toNat).flatMap algS))
theorem be_f18_1 (x13 : (List Symbol)) (x14 : Int) (x15 : Int) (y3 : (List Int)) : roundF g_f18 fg_f18_1 tb_f18_1 (st_f18_1 x13 x14 x15 y3) = b_f18_1 x13 x14 x15 y3 := by kernel_rfl
theorem ln_f18_1 (x13 : (List Symbol)) (x14 : Int) (x15 : Int) (y3 : (List Int)) : lp_f18_1 x13 x14 x15 y3 = n_f18_1 x13 x14 x15 y3 := (loopF_nxt _ _).trans (by
  rw [be_f18_1]
  simp only [b_f18_1, n_f18_1, nxt_br, nxt_n, nxt_r, nxt_e, nxt_0]
  rfl)
def r_f18 (p0 : Image) : Option (V × List VO) :=
  br ((rngOk p0.2.1 (llen p0.2.1) (0 : Int) && decide (([] : List Int).length + 2 * p0.2.1.length ≤ 300000 + 2 * (0 : Int).toNat) && p0.2.1.all fun z => decide (z.1.size ≤ 4611686018427387904)))
    (br ((lenOk (([] : List Int) ++ (p0.2.1.drop (0 : Int).toNat).flatMap algS)))
      (br ((lenOk (sortI (([] : List Int) ++ (p0.2.1.drop (0 : Int).toNat).flatMap algS))))
        (some (.t (.sl tI) (Lib.compact (sortI (([] : List Int) ++ (p0.2.1.drop (0 : Int).toNat).flatMap algS))), []))
        (none))
      (none))
    (none)
theorem e_f18 (p0 : Image) : runF g_f18 tc_f18 rv_f18 false [.t tyImage p0] [] = r_f18 p0 := by kernel_rfl
theorem ok_f18 : Option.map (trC Try.prog) Try.f18.body = some tc_f18.er := by kernel_rfl
theorem rok_f18 : trVs Try.prog Try.f18.results.toList = some (rv_f18.map Prod.fst) := by kernel_rfl
theorem en_f18 : Entered Try.prog 18 := .inr ⟨by decide, _, Try.func18, by kernel_rfl, by kernel_rfl⟩
theorem gk_f18 : GOk Try.prog g_f18 := gok_of _ (by
  intro p hp
  simp only [List.mem_cons, List.not_mem_nil, or_false] at hp
  rcases hp with rfl | rfl | rfl | rfl
  · exact ⟨en_f34, ms_f34⟩
  · exact ⟨en_f35, ms_f35⟩
  · exact ⟨en_f36, ms_f36⟩
  · exact ⟨en_f37, ms_f37⟩)
theorem l_f18_0 (x13 : (List Symbol)) (x14 : Int) (x15 : Int) (x29 : (List ByteArray)) (x30 : Int) (x31 : Int) (y3 : (List Int)) (h : (rngOk x29 x30 x31 && decide (y3.length + x29.length ≤ 400000 + x31.toNat)) = true) : lp_f18_0 x13 x14 x15 x29 x30 x31 y3 = la_f18_0 x13 x14 x15 x29 x30 x31 y3 := by
  simp only [Bool.and_eq_true, decide_eq_true_eq] at h
  obtain ⟨h, hl⟩ := h
  obtain ⟨rfl, h3, k, rfl, hk⟩ := rng_k h
  clear h
  rw [Int.toNat_natCast] at hl
  revert y3
  refine range_ind x29 (fun k => ∀ y3 : List Int, y3.length + x29.length ≤ 400000 + k → lp_f18_0 x13 x14 x15 x29 (x29.length : Int) (k : Int) y3 = la_f18_0 x13 x14 x15 x29 (x29.length : Int) (k : Int) y3) ?_ ?_ k hk
  · intro y3 _
    rw [ln_f18_0]
    simp [n_f18_0, la_f18_0, ilt_nat, br_false]
  · intro k hk ih y3 hy
    rw [ln_f18_0]
    simp only [n_f18_0, ilt_nat, cIx_nat, hk, decide_true, br_true, Int.toNat_natCast, add1 (show k < 4611686018427387904 by omega), lgt_get (y := .str) hk, la_f18_0, List.drop_eq_getElem_cons hk, List.flatMap_cons]
    rw [show algN x29[k] = posL (findG x29[k]) from rfl, posL]
    cases igt (findG x29[k]) 0 with
    | false =>
      rw [br_false, ih _ (by omega)]
      simp only [la_f18_0, Int.toNat_natCast, cond_false, List.nil_append]
    | true =>
      rw [br_true, cApp_ok (by simp only [List.length_singleton]; omega) (by omega), br_true, ih _ (by rw [List.length_append]; simp only [List.length_singleton]; omega)]
      simp only [la_f18_0, Int.toNat_natCast, cond_true, List.append_assoc]
theorem l_f18_1 (x13 : (List Symbol)) (x14 : Int) (x15 : Int) (y3 : (List Int)) (h : (rngOk x13 x14 x15 && decide (y3.length + 2 * x13.length ≤ 300000 + 2 * x15.toNat) && x13.all fun z => decide (z.1.size ≤ 4611686018427387904)) = true) : lp_f18_1 x13 x14 x15 y3 = la_f18_1 x13 x14 x15 y3 := by
  simp only [Bool.and_eq_true, decide_eq_true_eq] at h
  obtain ⟨⟨h, hl⟩, hs⟩ := h
  obtain ⟨rfl, h3, k, rfl, hk⟩ := rng_k h
  clear h
  rw [Int.toNat_natCast] at hl
  revert y3
  refine range_ind x13 (fun k => ∀ y3 : List Int, y3.length + 2 * x13.length ≤ 300000 + 2 * k → lp_f18_1 x13 (x13.length : Int) (k : Int) y3 = la_f18_1 x13 (x13.length : Int) (k : Int) y3) ?_ ?_ k hk
  · intro y3 _
    rw [ln_f18_1]
    simp [n_f18_1, la_f18_1, ilt_nat, br_false]
  · intro k hk ih y3 hy
    have hz := of_decide_eq_true (List.all_eq_true.1 hs x13[k] (List.getElem_mem hk))
    have hc : cutOOk x13[k].1 (ByteArray.mk #[95]) = true := decide_eq_true ⟨rfl, hz⟩
    have ha := algS_len x13[k]
    rw [ln_f18_1]
    simp only [n_f18_1, ilt_nat, cIx_nat, hk, decide_true, br_true, Int.toNat_natCast, add1 (show k < 4611686018427387904 by omega), lgt_get (y := tySymbol) hk, hc]
    refine (br_of (and_dec (rng_0 (by simp)) (by simp only [List.length_cons, List.length_nil]; rw [show (0 : Int).toNat = 0 from rfl]; omega))).trans ?_
    refine (ih (y3 ++ algS x13[k]) (by rw [List.length_append]; omega)).trans ?_
    simp only [la_f18_1, Int.toNat_natCast, List.drop_eq_getElem_cons hk, List.flatMap_cons, List.append_assoc]
theorem lo_f18_0 : ∀ S l p, g_f18.L 0 (fgt fg_f18_0 S) = some (true, l) → pickA l = some p → loopF (roundF g_f18 fg_f18_0 tb_f18_0) S = some p :=
  lok_of (s := sh_f18_0) ⟨by decide, by decide⟩ (by kernel_rfl) fun x y hok p hp => by
  simp only [pickA_br, pickA_one] at hp
  exact (l_f18_0 x.2.1 x.2.2.1 x.2.2.2.1 x.2.2.2.2.1 x.2.2.2.2.2.1 x.2.2.2.2.2.2.1 y.1 (by simpa using hok)).trans hp
theorem lo_f18_1 : ∀ S l p, g_f18.L 1 (fgt fg_f18_1 S) = some (true, l) → pickA l = some p → loopF (roundF g_f18 fg_f18_1 tb_f18_1) S = some p :=
  lok_of (s := sh_f18_1) ⟨by decide, by decide⟩ (by kernel_rfl) fun x y hok p hp => by
  simp only [pickA_br, pickA_one] at hp
  exact (l_f18_1 x.2.1 x.2.2.1 x.2.2.2.1 y.1 (by simpa using hok)).trans hp
theorem lk_f18 : tc_f18.lok g_f18 := by
  repeat (first | exact trivial | exact lo_f18_0 | exact lo_f18_1 | refine ⟨?_, ?_⟩)
theorem s_f18 (x : Image) (h : algOk x = true) : r_f18 x = some (.t (.sl tI) (algX x), []) := by
  simp only [algOk, Bool.and_eq_true, decide_eq_true_eq] at h
  have hl := flat_bound algS 2 x.2.1 fun z _ => algS_len z
  have hm : (sortI (x.2.1.flatMap algS)).length = (x.2.1.flatMap algS).length := List.length_mergeSort _
  simp only [r_f18, rng_0 h.1, h.2, Bool.true_and, Bool.and_true, Int.toNat_zero, List.drop_zero, List.nil_append]
  rw [decide_eq_true (by simp only [List.length_nil]; omega), br_true, show lenOk (x.2.1.flatMap algS) = true from decide_eq_true (by omega), br_true, show lenOk (sortI (x.2.1.flatMap algS)) = true from decide_eq_true (by omega), br_true]
  rfl
def sp_f18 : Ent := spec (.pr tyImage .nil) (fun x => (algOk x.1)) (fun x => (.t (.sl tI) (algX x.1)))
theorem ms_f18 : Meets Try.prog 18 (strip sp_f18) := by
  obtain ⟨c, hc, hi⟩ := Option.map_eq_some_iff.1 ok_f18
  exact meets_spec (R := runF g_f18 tc_f18 rv_f18 false) (meets_of (by decide) Try.func18 hc hi Try.ntmps18 rok_f18 gk_f18 lk_f18 mixed) fun x hok => (e_f18 x.1).trans (s_f18 x.1 hok)
end
end Go.Proofs.Ytdbaaejiolibfaa.K
