/-
  executable: sections by name; the answer's sections, sameness and algorithms.
-/
import Derived.Test.YthdichlainehpaaH1
set_option linter.unusedSimpArgs false
set_option linter.unusedVariables false
namespace Go.Proofs.Ythdichlainehpaa.K
open Go.RowKit Go.Shelf
noncomputable section
def isSec (z : Section) (s : ByteArray) : Bool := seq z.1 s
def fstS (s : ByteArray) (l : List Section) : Option Nat := fstG (fun z => seq z.1 s) l
def secsSm (l : List Section) : Bool := l.all fun z => decide (z.2.1.length ≤ 4000000)
def symsSm (l : List Symbol) : Bool := l.all fun z => decide (z.1.size ≤ 4611686018427387904)
def secIx (l : List Section) (s : ByteArray) : Int := match fstS s l with | some k => (k : Int) | none => -1
def secIxOk (l : List Section) (_ : ByteArray) : Bool := decide (l.length ≤ 100000)
/-- cipherplan/executable.Section-1 -/
def tc_f79 : TC := (.sq (.reg [(oM 2 (.box (.t 0))), (oP 3 (.mv (cB false)))]) (.sq (.reg [(oP 4 (.fa 0 (.t 2))), (oL 5 4), (oL 6 1), (oP 7 (.bin false .eql (.t 5) (.t 6))), (oV 3 7)]) .rt))
def rv_f79 : List (RV × Option Ty) := [((.t 3), some .bool)]
def g_f79 : G := ⟨TYs, [], 8, EL [], keeps, (fun _ _ => none), IL [], RL []⟩
def r_f79 (p0 : Section) (d0 : ByteArray) : Option (V × List VO) :=
  some (.t .bool (seq p0.1 d0), [.box (.t .str d0)])
theorem e_f79 (p0 : Section) (d0 : ByteArray) : runF g_f79 tc_f79 rv_f79 false [.t tySection p0, .ptr 50000 0] [.box (.t .str d0)] = r_f79 p0 d0 := by kernel_rfl
theorem ok_f79 : Option.map (trC Try.prog) Try.f79.body = some tc_f79.er := by kernel_rfl
theorem rok_f79 : trVs Try.prog Try.f79.results.toList = some (rv_f79.map Prod.fst) := by kernel_rfl
theorem en_f79 : Entered Try.prog 79 := .inr ⟨by decide, _, Try.func79, by kernel_rfl, by kernel_rfl⟩
theorem gk_f79 : GOk Try.prog g_f79 := gok_of _ (fun p hp => by cases hp)
theorem lk_f79 : tc_f79.lok g_f79 := by repeat (first | exact trivial | refine ⟨?_, ?_⟩)
theorem s_f79 (z : Section) (s : ByteArray) : r_f79 z s = some (.t .bool (isSec z s), [.box (.t .str s)]) := rfl
def sp_f79 : Ent := specH [.ty tySection, .ptr 50000 0] [.str] (fun x d => true) (fun x d => (.t .bool (isSec x.1 d.1)))
theorem ms_f79 : Meets Try.prog 79 (strip sp_f79) := by
  obtain ⟨c, hc, hi⟩ := Option.map_eq_some_iff.1 ok_f79
  exact meets_specH (R := runF g_f79 tc_f79 rv_f79 false) (meets_of (by decide) Try.func79 hc hi Try.ntmps79 rok_f79 gk_f79 lk_f79 mixed) fun x d _ => (e_f79 x.1 d.1).trans (s_f79 x.1 d.1)
def fg_f78c79_0 : Fg := ⟨[(0, some (.sl tySection)), (1, none), (7, some tI), (8, some tI)], [(50000, some .str)]⟩
def tb_f78c79_0 : TC := (.sq (.reg [(oP 9 (.bin false .lss (.t 8) (.t 7)))]) (.sq (.cd (.t 9) .sk (.fg ⟨[], [(50000, some .str)]⟩ (.ex 0))) (.sq (.bk 1 (.sq (.reg [(oV 10 8), (oV 5 10)]) (.sq (.reg [(oV 11 1), (oV 12 0), (oV 13 5), (oP 14 (.ix 2 (.t 12) (.t 13))), (oM 15 (.ld true 2 (.t 14))), (oK 16 (.cv (.t 11) [(.t 15)]))]) (.cd (.t 16) (.sq (.reg [(oV 17 5), (oV 4 17)]) (.fg ⟨[(4, some tI)], [(50000, some .str)]⟩ .rt)) .sk)))) (.reg [(oP 18 (.bin false .add (.t 8) (cI 1))), (oV 8 18)]))))
/-- slices.IndexFunc[[]cipherplan/api.Section,cipherplan/api.Section] -/
def tc_f78c79 : TC := (.sq (.reg [(oP 4 (.mv (cI 0)))]) (.sq (.sq (.reg [(oV 6 0), (oP 7 (.len false (.t 6))), (oP 8 (.mv (cI 0)))]) (.bk 0 (.lp 0 fg_f78c79_0 tb_f78c79_0))) (.sq (.reg [(oP 4 (.mv (cI (-1))))]) .rt)))
def rv_f78c79 : List (RV × Option Ty) := [((.t 4), some tI)]
abbrev sh_f78c79_0 : Sh := ⟨[(0, .ty (.sl tySection)), (1, .fn 79 [(50000, 0)]), (7, .ty tI), (8, .ty tI)], [(50000, .box .str)]⟩
def st_f78c79_0 (x0 : (List Section)) (x7 : Int) (x8 : Int) (y50000 : ByteArray) : VS := sh_f78c79_0.st (x0, (), x7, x8, ()) (y50000, ())
abbrev sh_f78c79_0_ret : Sh := ⟨[(4, .ty tI)], [(50000, .box .str)]⟩
def st_f78c79_0_ret (x4 : Int) (y50000 : ByteArray) : VS := sh_f78c79_0_ret.st (x4, ()) (y50000, ())
abbrev sh_f78c79_0_e0 : Sh := ⟨[], [(50000, .box .str)]⟩
def st_f78c79_0_e0 (y50000 : ByteArray) : VS := sh_f78c79_0_e0.st () (y50000, ())
-- loop 0: (x0 : (List Section)) (x7 : Int) (x8 : Int) (y50000 : ByteArray); out: ('ret',) (x4 : Int) (y50000 : ByteArray); ('exit', 0) (y50000 : ByteArray)
def L_f78c79_0 : VS → Option (Bool × List (Bool × Exit × VS)) := mkL sh_f78c79_0 (fun x y => (rngOk x.1 x.2.2.1 x.2.2.2.1)) (fun x y => [(((fstS y.1 (x.1.drop x.2.2.2.1.toNat)).isSome), .ret, st_f78c79_0_ret (x.2.2.2.1 + ((fstS y.1 (x.1.drop x.2.2.2.1.toNat)).getD 0 : Nat)) (y.1)), (true, .exit 0, st_f78c79_0_e0 (y.1))])
def g_f78c79 : G := ⟨TYs, [], 19, EL [(79, sp_f79)], keeps, (Ls [L_f78c79_0]), IL [], RL []⟩
def b_f78c79_0 (x0 : (List Section)) (x7 : Int) (x8 : Int) (y50000 : ByteArray) : Option (Exit × VS) :=
  br ((ilt x8 x7))
    (br (cIx x0 x8)
      (br ((isSec (lgt tySection x0 (Int.toNat x8)) y50000))
        (some (.ret, st_f78c79_0_ret x8 y50000))
        (some (.normal, st_f78c79_0 x0 x7 (iadd .i64 x8 1) y50000)))
      (none))
    (some (.exit 0, st_f78c79_0_e0 y50000))
noncomputable def lp_f78c79_0 (x0 : (List Section)) (x7 : Int) (x8 : Int) (y50000 : ByteArray) : Option (Exit × VS) := loopF (roundF g_f78c79 fg_f78c79_0 tb_f78c79_0) (st_f78c79_0 x0 x7 x8 y50000)
noncomputable def n_f78c79_0 (x0 : (List Section)) (x7 : Int) (x8 : Int) (y50000 : ByteArray) : Option (Exit × VS) :=
  br ((ilt x8 x7))
    (br (cIx x0 x8)
      (br ((isSec (lgt tySection x0 (Int.toNat x8)) y50000))
        (some (.ret, st_f78c79_0_ret x8 y50000))
        (lp_f78c79_0 x0 x7 (iadd .i64 x8 1) y50000))
      (none))
    (some (.exit 0, st_f78c79_0_e0 y50000))
def la_f78c79_0 (x0 : (List Section)) (x7 : Int) (x8 : Int) (y50000 : ByteArray) : Option (Exit × VS) := br ((fstS y50000 (x0.drop x8.toNat)).isSome) (some (.ret, st_f78c79_0_ret (x8 + ((fstS y50000 (x0.drop x8.toNat)).getD 0 : Nat)) (y50000))) <| some (.exit 0, st_f78c79_0_e0 (y50000))
theorem be_f78c79_0 (x0 : (List Section)) (x7 : Int) (x8 : Int) (y50000 : ByteArray) : roundF g_f78c79 fg_f78c79_0 tb_f78c79_0 (st_f78c79_0 x0 x7 x8 y50000) = b_f78c79_0 x0 x7 x8 y50000 := by kernel_rfl
theorem ln_f78c79_0 (x0 : (List Section)) (x7 : Int) (x8 : Int) (y50000 : ByteArray) : lp_f78c79_0 x0 x7 x8 y50000 = n_f78c79_0 x0 x7 x8 y50000 := (loopF_nxt _ _).trans (by
  rw [be_f78c79_0]
  simp only [b_f78c79_0, n_f78c79_0, nxt_br, nxt_n, nxt_r, nxt_e, nxt_0]
  rfl)
def r_f78c79 (p0 : (List Section)) (d0 : ByteArray) : Option (V × List VO) :=
  br ((rngOk p0 (llen p0) (0 : Int)))
    (br (((fstS d0 (p0.drop (0 : Int).toNat)).isSome))
      (some (.t tI ((0 : Int) + ((fstS d0 (p0.drop (0 : Int).toNat)).getD 0 : Nat)), [.box (.t .str (d0))]))
      (some (.t tI (-1), [.box (.t .str (d0))])))
    (none)
theorem e_f78c79 (p0 : (List Section)) (d0 : ByteArray) : runF g_f78c79 tc_f78c79 rv_f78c79 false [.t (.sl tySection) p0, .fn 79 [(.ptr 50000 0)]] [.box (.t .str d0)] = r_f78c79 p0 d0 := by kernel_rfl
theorem ok_f78c79 : Option.map (trC Try.prog) Try.f78.body = some tc_f78c79.er := by kernel_rfl
theorem rok_f78c79 : trVs Try.prog Try.f78.results.toList = some (rv_f78c79.map Prod.fst) := by kernel_rfl
theorem en_f78c79 : Entered Try.prog 78 := .inr ⟨by decide, _, Try.func78, by kernel_rfl, by kernel_rfl⟩
theorem gk_f78c79 : GOk Try.prog g_f78c79 := gok_of _ (by
  intro p hp
  simp only [List.mem_cons, List.not_mem_nil, or_false] at hp
  rcases hp with rfl
  · exact ⟨en_f79, ms_f79⟩)
theorem l_f78c79_0 (x0 : (List Section)) (x7 : Int) (x8 : Int) (y50000 : ByteArray) (h : (rngOk x0 x7 x8) = true) : lp_f78c79_0 x0 x7 x8 y50000 = la_f78c79_0 x0 x7 x8 y50000 := by
  obtain ⟨rfl, h3, k, rfl, hk⟩ := rng_k h
  clear h
  refine range_ind x0 (fun k => lp_f78c79_0 x0 (x0.length : Int) (k : Int) y50000 = la_f78c79_0 x0 (x0.length : Int) (k : Int) y50000) ?_ ?_ k hk
  · rw [ln_f78c79_0]
    simp [n_f78c79_0, la_f78c79_0, ilt_nat, br_false, fstS, fstG]
  · intro k hk ih
    rw [ln_f78c79_0]
    simp only [n_f78c79_0, ilt_nat, cIx_nat, hk, decide_true, br_true, Int.toNat_natCast, add1 (show k < 4611686018427387904 by omega), ih, lgt_get (y := tySection) hk]
    simp only [la_f78c79_0, Int.toNat_natCast, List.drop_eq_getElem_cons hk, fstS, fstG, isSec]
    cases h : seq x0[k].1 y50000 with
    | true => simp [br_true]
    | false =>
      simp only [br_false, Bool.false_eq_true, if_false]
      cases hq : fstG (fun z : Section => seq z.1 y50000) (x0.drop (k + 1)) with
      | none => rfl
      | some j =>
        simp only [Option.map_some, Option.isSome_some, Option.getD_some, br_true]
        congr 3
        omega
theorem lo_f78c79_0 : ∀ S l p, g_f78c79.L 0 (fgt fg_f78c79_0 S) = some (true, l) → pickA l = some p → loopF (roundF g_f78c79 fg_f78c79_0 tb_f78c79_0) S = some p :=
  lok_of (s := sh_f78c79_0) ⟨by decide, by decide⟩ (by kernel_rfl) fun x y hok p hp => by
  simp only [pickA_br, pickA_one] at hp
  exact (l_f78c79_0 x.1 x.2.2.1 x.2.2.2.1 y.1 (by simpa using hok)).trans hp
theorem lk_f78c79 : tc_f78c79.lok g_f78c79 := by
  repeat (first | exact trivial | exact lo_f78c79_0 | refine ⟨?_, ?_⟩)
theorem s_f78c79 (l : List Section) (s : ByteArray) (h : secIxOk l s = true) : r_f78c79 l s = some (.t tI (secIx l s), [.box (.t .str s)]) := by
  simp only [secIxOk, decide_eq_true_eq] at h
  simp only [r_f78c79, rng_0 h, br_true, Int.toNat_zero, List.drop_zero, secIx]
  cases fstS s l <;> simp [br_true, br_false]
def sp_f78c79 : Ent := specH [.ty (.sl tySection), .fn 79 [(50000, 0)]] [.str] (fun x d => (secIxOk x.1 d.1)) (fun x d => (.t tI (secIx x.1 d.1)))
theorem ms_f78c79 : Meets Try.prog 78 (strip sp_f78c79) := by
  obtain ⟨c, hc, hi⟩ := Option.map_eq_some_iff.1 ok_f78c79
  exact meets_specH (R := runF g_f78c79 tc_f78c79 rv_f78c79 false) (meets_of (by decide) Try.func78 hc hi Try.ntmps78 rok_f78c79 gk_f78c79 lk_f78c79 mixed) fun x d hok => (e_f78c79 x.1 d.1).trans (s_f78c79 x.1 d.1 hok)
def secFnd (x : Image) (s : ByteArray) : List Int × Bool := match fstS s x.1 with | some k => ((x.1.getD k noSec).2.1, true) | none => ([], false)
def secFOk (x : Image) (_ : ByteArray) : Bool := decide (x.1.length ≤ 100000) && secsSm x.1
theorem fstS_some {s : ByteArray} {l : List Section} {k : Nat} (h : fstS s l = some k) : k < l.length := (fstG_some h).1
theorem secsSm_all {l : List Section} (h : secsSm l = true) {k : Nat} (hk : k < l.length) : l[k].2.1.length ≤ 4000000 := of_decide_eq_true (List.all_eq_true.1 h l[k] (List.getElem_mem hk))
/-- cipherplan/executable.Section -/
def tc_f47 : TC := (.sq (.reg [(oM 2 (.box (.t 0))), (oM 3 (.box (.t 1))), (oP 4 (.mv (.c (.v (.slice none 0 0))))), (oP 5 (.mv (cB false)))]) (.sq (.reg [(oP 7 (.fa 0 (.t 2))), (oL 8 7), (oK 9 (.mf 79 [(.t 3)])), (oC 10 78 [(.t 8), (.t 9)]), (oV 6 10)]) (.sq (.sq (.reg [(oV 11 6), (oP 12 (.bin false .lss (.t 11) (cI 0)))]) (.cd (.t 12) (.sq (.reg [(oP 4 (.mv (.c (.v (.slice none 0 0))))), (oP 5 (.mv (cB false)))]) .rt) .sk)) (.sq (.reg [(oP 13 (.fa 0 (.t 2))), (oL 14 13), (oV 15 6), (oP 16 (.ix 2 (.t 14) (.t 15))), (oP 17 (.fa 1 (.t 16))), (oL 18 17), (oC 19 66 [(.t 18)]), (oV 4 19), (oP 5 (.mv (cB true)))]) .rt))))
def rv_f47 : List (RV × Option Ty) := [((.t 4), some (.sl (.int .u8))), ((.t 5), some .bool)]
def g_f47 : G := ⟨TYs, [], 20, EL [(66, sp_f66), (78, sp_f78c79)], keeps, (fun _ _ => none), IL [], RL []⟩
def r_f47 (p0 : Image) (p1 : ByteArray) : Option (V × List VO) :=
  br ((secIxOk p0.1 p1))
    (br ((ilt (secIx p0.1 p1) 0))
      (some (.tu [(.t (.sl (.int .u8)) ([] : List Int)), (.t .bool false)], []))
      (br (cIx p0.1 (secIx p0.1 p1))
        (br ((clonOk (((lgt tySection p0.1 (Int.toNat (secIx p0.1 p1))).2).1)))
          (some (.tu [(.t (.sl (.int .u8)) (clonB (((lgt tySection p0.1 (Int.toNat (secIx p0.1 p1))).2).1))), (.t .bool true)], []))
          (none))
        (none)))
    (none)
theorem e_f47 (p0 : Image) (p1 : ByteArray) : runF g_f47 tc_f47 rv_f47 false [.t tyImage p0, .t .str p1] [] = r_f47 p0 p1 := by kernel_rfl
theorem ok_f47 : Option.map (trC Try.prog) Try.f47.body = some tc_f47.er := by kernel_rfl
theorem rok_f47 : trVs Try.prog Try.f47.results.toList = some (rv_f47.map Prod.fst) := by kernel_rfl
theorem en_f47 : Entered Try.prog 47 := .inr ⟨by decide, _, Try.func47, by kernel_rfl, by kernel_rfl⟩
theorem gk_f47 : GOk Try.prog g_f47 := gok_of _ (by
  intro p hp
  simp only [List.mem_cons, List.not_mem_nil, or_false] at hp
  rcases hp with rfl | rfl
  · exact ⟨en_f66, ms_f66⟩
  · exact ⟨en_f78c79, ms_f78c79⟩)
theorem lk_f47 : tc_f47.lok g_f47 := by repeat (first | exact trivial | refine ⟨?_, ?_⟩)
theorem s_f47 (x : Image) (s : ByteArray) (h : secFOk x s = true) : r_f47 x s = some (.tu [.t (.sl (.int .u8)) (secFnd x s).1, .t .bool (secFnd x s).2], []) := by
  simp only [secFOk, Bool.and_eq_true, decide_eq_true_eq] at h
  simp only [r_f47, show secIxOk x.1 s = true from decide_eq_true h.1, br_true, secIx, secFnd]
  cases hq : fstS s x.1 with
  | none => rfl
  | some k =>
    have hk := fstS_some hq
    have hb := secsSm_all h.2 hk
    simp only [show ilt (k : Int) 0 = false from decide_eq_false (by omega), br_false, cIx_nat, hk, decide_true, br_true, Int.toNat_natCast, lgt_get (y := tySection) hk, show clonOk x.1[k].2.1 = true from decide_eq_true hb]
    rw [List.getD_eq_getElem?_getD, List.getElem?_eq_getElem hk]
    rfl
def sp_f47 : Ent := spec (.pr tyImage (.pr .str .nil)) (fun x => (secFOk x.1 x.2.1)) (fun x => (.tu [(.t (.sl (.int .u8)) ((secFnd x.1 x.2.1).1)), (.t .bool ((secFnd x.1 x.2.1).2))]))
theorem ms_f47 : Meets Try.prog 47 (strip sp_f47) := by
  obtain ⟨c, hc, hi⟩ := Option.map_eq_some_iff.1 ok_f47
  exact meets_spec (R := runF g_f47 tc_f47 rv_f47 false) (meets_of (by decide) Try.func47 hc hi Try.ntmps47 rok_f47 gk_f47 lk_f47 mixed) fun x hok => (e_f47 x.1 x.2.1).trans (s_f47 x.1 x.2.1 hok)
def fg_f48_0 : Fg := ⟨[(1, some .str), (2, none), (6, some tI)], [(2, some tyImage)]⟩
def tb_f48_0 : TC := (.sq (.sq (.reg [(oV 7 6), (oP 8 (.fa 0 (.t 2))), (oL 9 8), (oP 10 (.len false (.t 9))), (oP 11 (.bin false .lss (.t 7) (.t 10)))]) (.cd (.t 11) .sk (.fg ⟨[], []⟩ (.ex 0)))) (.sq (.bk 1 (.sq (.reg [(oP 14 (.fa 0 (.t 2))), (oL 15 14), (oV 16 6), (oP 17 (.ix 2 (.t 15) (.t 16))), (oP 18 (.fa 0 (.t 17))), (oL 19 18), (oV 20 1), (oP 21 (.bin false .eql (.t 19) (.t 20)))]) (.cd (.t 21) (.sq (.reg [(oM 22 (.bs 5 1 0 [] [])), (oP 23 (.fa 0 (.t 2))), (oL 24 23), (oV 25 6), (oP 26 (.ix 2 (.t 24) (.t 25))), (oP 27 (.fa 1 (.t 26))), (oL 28 27), (oM 29 (.app 5 1 1 (.t 22) (.t 28))), (oV 4 29), (oP 5 (.mv (cB true)))]) (.fg ⟨[(4, none), (5, some .bool)], [(22, none), (29, none)]⟩ .rt)) .sk))) (.reg [(oV 12 6), (oP 13 (.bin false .add (.t 12) (cI 1))), (oV 6 13)])))
/-- cipherplan/cipherplanref10.Section -/
def tc_f48 : TC := (.sq (.reg [(oM 2 (.box (.t 0))), (oP 4 (.mv (.c (.v (.slice none 0 0))))), (oP 5 (.mv (cB false)))]) (.sq (.sq (.reg [(oP 6 (.mv (cI 0)))]) (.bk 0 (.lp 0 fg_f48_0 tb_f48_0))) (.sq (.reg [(oP 4 (.mv (.c (.v (.slice none 0 0))))), (oP 5 (.mv (cB false)))]) .rt)))
def rv_f48 : List (RV × Option Ty) := [((.t 4), some (.sl (.int .u8))), ((.t 5), some .bool)]
abbrev sh_f48_0 : Sh := ⟨[(1, .ty .str), (2, .ptr 2 0), (6, .ty tI)], [(2, .box tyImage)]⟩
def st_f48_0 (x1 : ByteArray) (x6 : Int) (y2 : Image) : VS := sh_f48_0.st (x1, (), x6, ()) (y2, ())
abbrev sh_f48_0_ret : Sh := ⟨[(4, .ms 22), (5, .ty .bool)], [(22, .arr 5 (.int .u8)), (29, .no)]⟩
def st_f48_0_ret (x5 : Bool) (y22 : (List Int)) : VS := sh_f48_0_ret.st ((), x5, ()) (y22, (), ())
abbrev sh_f48_0_e0 : Sh := ⟨[], []⟩
def st_f48_0_e0  : VS := sh_f48_0_e0.st () ()
-- loop 0: (x1 : ByteArray) (x6 : Int) (y2 : Image); out: ('ret',) (x5 : Bool) (y22 : (List Int)); ('exit', 0) 
def L_f48_0 : VS → Option (Bool × List (Bool × Exit × VS)) := mkL sh_f48_0 (fun x y => (decide (0 ≤ x.2.2.1 ∧ x.2.2.1 ≤ y.1.1.length ∧ y.1.1.length ≤ 100000) && secsSm y.1.1)) (fun x y => [(((fstS x.1 (y.1.1.drop x.2.2.1.toNat)).isSome), .ret, st_f48_0_ret (true) ((y.1.1.getD (x.2.2.1.toNat + (fstS x.1 (y.1.1.drop x.2.2.1.toNat)).getD 0) noSec).2.1)), (true, .exit 0, st_f48_0_e0)])
def g_f48 : G := ⟨TYs, [22], 30, EL [], keeps, (Ls [L_f48_0]), IL [], RL []⟩
def b_f48_0 (x1 : ByteArray) (x6 : Int) (y2 : Image) : Option (Exit × VS) :=
  br ((ilt x6 (llen y2.1)))
    (br (cIx y2.1 x6)
      (br ((seq ((lgt tySection y2.1 (Int.toNat x6)).1) x1))
        (br (cIx y2.1 x6)
          (br (cApp ([] : List Int) (((lgt tySection y2.1 (Int.toNat x6)).2).1) 1)
            (some (.ret, st_f48_0_ret true (([] : List Int) ++ (((lgt tySection y2.1 (Int.toNat x6)).2).1))))
            (none))
          (none))
        (some (.normal, st_f48_0 x1 (iadd .i64 x6 1) y2)))
      (none))
    (some (.exit 0, st_f48_0_e0))
noncomputable def lp_f48_0 (x1 : ByteArray) (x6 : Int) (y2 : Image) : Option (Exit × VS) := loopF (roundF g_f48 fg_f48_0 tb_f48_0) (st_f48_0 x1 x6 y2)
noncomputable def n_f48_0 (x1 : ByteArray) (x6 : Int) (y2 : Image) : Option (Exit × VS) :=
  br ((ilt x6 (llen y2.1)))
    (br (cIx y2.1 x6)
      (br ((seq ((lgt tySection y2.1 (Int.toNat x6)).1) x1))
        (br (cIx y2.1 x6)
          (br (cApp ([] : List Int) (((lgt tySection y2.1 (Int.toNat x6)).2).1) 1)
            (some (.ret, st_f48_0_ret true (([] : List Int) ++ (((lgt tySection y2.1 (Int.toNat x6)).2).1))))
            (none))
          (none))
        (lp_f48_0 x1 (iadd .i64 x6 1) y2))
      (none))
    (some (.exit 0, st_f48_0_e0))
def la_f48_0 (x1 : ByteArray) (x6 : Int) (y2 : Image) : Option (Exit × VS) := br ((fstS x1 (y2.1.drop x6.toNat)).isSome) (some (.ret, st_f48_0_ret (true) ((y2.1.getD (x6.toNat + (fstS x1 (y2.1.drop x6.toNat)).getD 0) noSec).2.1))) <| some (.exit 0, st_f48_0_e0)
theorem be_f48_0 (x1 : ByteArray) (x6 : Int) (y2 : Image) : roundF g_f48 fg_f48_0 tb_f48_0 (st_f48_0 x1 x6 y2) = b_f48_0 x1 x6 y2 := by kernel_rfl
theorem ln_f48_0 (x1 : ByteArray) (x6 : Int) (y2 : Image) : lp_f48_0 x1 x6 y2 = n_f48_0 x1 x6 y2 := (loopF_nxt _ _).trans (by
  rw [be_f48_0]
  simp only [b_f48_0, n_f48_0, nxt_br, nxt_n, nxt_r, nxt_e, nxt_0]
  rfl)
def r_f48 (p0 : Image) (p1 : ByteArray) : Option (V × List VO) :=
  br ((decide (0 ≤ (0 : Int) ∧ (0 : Int) ≤ p0.1.length ∧ p0.1.length ≤ 100000) && secsSm p0.1))
    (br (((fstS p1 (p0.1.drop (0 : Int).toNat)).isSome))
      (some (.tu [(.t (.sl (.int .u8)) ((p0.1.getD ((0 : Int).toNat + (fstS p1 (p0.1.drop (0 : Int).toNat)).getD 0) noSec).2.1)), (.t .bool (true))], []))
      (some (.tu [(.t (.sl (.int .u8)) ([] : List Int)), (.t .bool false)], [])))
    (none)
theorem e_f48 (p0 : Image) (p1 : ByteArray) : runF g_f48 tc_f48 rv_f48 false [.t tyImage p0, .t .str p1] [] = r_f48 p0 p1 := by kernel_rfl
theorem ok_f48 : Option.map (trC Try.prog) Try.f48.body = some tc_f48.er := by kernel_rfl
theorem rok_f48 : trVs Try.prog Try.f48.results.toList = some (rv_f48.map Prod.fst) := by kernel_rfl
theorem en_f48 : Entered Try.prog 48 := .inr ⟨by decide, _, Try.func48, by kernel_rfl, by kernel_rfl⟩
theorem gk_f48 : GOk Try.prog g_f48 := gok_of _ (fun p hp => by cases hp)
theorem l_f48_0 (x1 : ByteArray) (x6 : Int) (y2 : Image) (h : (decide (0 ≤ x6 ∧ x6 ≤ y2.1.length ∧ y2.1.length ≤ 100000) && secsSm y2.1) = true) : lp_f48_0 x1 x6 y2 = la_f48_0 x1 x6 y2 := by
  simp only [Bool.and_eq_true, decide_eq_true_eq] at h
  obtain ⟨⟨h1, h2, h3⟩, h4⟩ := h
  obtain ⟨k, rfl⟩ := Int.eq_ofNat_of_zero_le h1
  refine range_ind y2.1 (fun k => lp_f48_0 x1 (k : Int) y2 = la_f48_0 x1 (k : Int) y2) ?_ ?_ k (by omega)
  · rw [ln_f48_0]
    simp [n_f48_0, la_f48_0, ilt_llen, br_false, fstS, fstG]
  · intro k hk ih
    have hb := secsSm_all h4 hk
    rw [ln_f48_0]
    simp only [n_f48_0, ilt_llen, cIx_nat, hk, decide_true, br_true, Int.toNat_natCast, add1 (show k < 4611686018427387904 by omega), ih, lgt_get (y := tySection) hk]
    rw [cAppG (by simp only [List.length_nil]; omega), br_true, List.nil_append]
    simp only [la_f48_0, Int.toNat_natCast, List.drop_eq_getElem_cons hk, fstS, fstG]
    cases h : seq y2.1[k].1 x1 with
    | true =>
      simp only [br_true, if_true, Option.isSome_some, Option.getD_some, Nat.add_zero]
      rw [List.getD_eq_getElem?_getD, List.getElem?_eq_getElem hk]
      rfl
    | false =>
      simp only [br_false, Bool.false_eq_true, if_false]
      cases hq : fstG (fun z : Section => seq z.1 x1) (y2.1.drop (k + 1)) with
      | none => rfl
      | some j =>
        simp only [Option.map_some, Option.isSome_some, Option.getD_some, br_true]
        rw [show k + 1 + j = k + (j + 1) by omega]
theorem lo_f48_0 : ∀ S l p, g_f48.L 0 (fgt fg_f48_0 S) = some (true, l) → pickA l = some p → loopF (roundF g_f48 fg_f48_0 tb_f48_0) S = some p :=
  lok_of (s := sh_f48_0) ⟨by decide, by decide⟩ (by kernel_rfl) fun x y hok p hp => by
  simp only [pickA_br, pickA_one] at hp
  exact (l_f48_0 x.1 x.2.2.1 y.1 (by simpa using hok)).trans hp
theorem lk_f48 : tc_f48.lok g_f48 := by
  repeat (first | exact trivial | exact lo_f48_0 | refine ⟨?_, ?_⟩)
theorem s_f48 (x : Image) (s : ByteArray) (h : secFOk x s = true) : r_f48 x s = some (.tu [.t (.sl (.int .u8)) (secFnd x s).1, .t .bool (secFnd x s).2], []) := by
  simp only [secFOk, Bool.and_eq_true, decide_eq_true_eq] at h
  simp only [r_f48, h.2, Bool.and_true, Int.toNat_zero, List.drop_zero, Nat.zero_add, secFnd]
  rw [decide_eq_true (by omega), br_true]
  cases fstS s x.1 <;> rfl
def sp_f48 : Ent := spec (.pr tyImage (.pr .str .nil)) (fun x => (secFOk x.1 x.2.1)) (fun x => (.tu [(.t (.sl (.int .u8)) ((secFnd x.1 x.2.1).1)), (.t .bool ((secFnd x.1 x.2.1).2))]))
theorem ms_f48 : Meets Try.prog 48 (strip sp_f48) := by
  obtain ⟨c, hc, hi⟩ := Option.map_eq_some_iff.1 ok_f48
  exact meets_spec (R := runF g_f48 tc_f48 rv_f48 false) (meets_of (by decide) Try.func48 hc hi Try.ntmps48 rok_f48 gk_f48 lk_f48 mixed) fun x hok => (e_f48 x.1 x.2.1).trans (s_f48 x.1 x.2.1 hok)
def dr_f40_0 : List DO := [(.mk (oP 30 (.fa 0 (.t 2))) []), (.mk (oL 31 30) [0]), (.mk (oV 32 5) []), (.mk (oP 33 (.ix 2 (.t 31) (.t 32))) [1, 2]), (.mk (oP 34 (.fa 0 (.t 33))) [3]), (.mk (oL 35 34) [4]), (.mk (oP 36 (.fa 0 (.t 3))) []), (.mk (oL 37 36) [6]), (.mk (oV 38 5) []), (.mk (oP 39 (.ix 2 (.t 37) (.t 38))) [7, 8]), (.mk (oP 40 (.fa 0 (.t 39))) [9]), (.mk (oL 41 40) [10]), (.mk (oP 42 (.bin false .neq (.t 35) (.t 41))) [5, 11]), (.mk (oV 43 42) [12]), (.mk (oQ 44 43 false (.fa 0 (.t 2))) [13]), (.mk (oG 45 43 false (.m (.ld false 1 (.t 44)))) [14, 13]), (.mk (oQ 46 43 false (.mv (.t 5))) [13]), (.mk (oQ 47 43 false (.ix 2 (.t 45) (.t 46))) [15, 16, 13]), (.mk (oQ 48 43 false (.fa 1 (.t 47))) [17, 13]), (.mk (oG 49 43 false (.m (.ld false 1 (.t 48)))) [18, 13]), (.mk (oG 50 43 false (.call 2440624 [(.t 49)])) [19, 13]), (.mk (oQ 51 43 false (.fa 0 (.t 3))) [13]), (.mk (oG 52 43 false (.m (.ld false 1 (.t 51)))) [21, 13]), (.mk (oQ 53 43 false (.mv (.t 5))) [13]), (.mk (oQ 54 43 false (.ix 2 (.t 52) (.t 53))) [22, 23, 13]), (.mk (oQ 55 43 false (.fa 1 (.t 54))) [24, 13]), (.mk (oG 56 43 false (.m (.ld false 1 (.t 55)))) [25, 13]), (.mk (oG 57 43 false (.call 2440624 [(.t 56)])) [26, 13]), (.mk (oQ 58 43 false (.bin false .neq (.t 50) (.t 57))) [20, 27, 13]), (.mk (oP 59 (.pick (.t 43) (cB true) (.t 58))) [13, 28])]
def dr_f40_1 : List DO := [(.mk (oP 67 (.fa 1 (.t 2))) []), (.mk (oL 68 67) [0]), (.mk (oV 69 6) []), (.mk (oP 70 (.ix 2 (.t 68) (.t 69))) [1, 2]), (.mk (oM 71 (.ld true 2 (.t 70))) [3]), (.mk (oP 72 (.fa 1 (.t 3))) []), (.mk (oL 73 72) [5]), (.mk (oV 74 6) []), (.mk (oP 75 (.ix 2 (.t 73) (.t 74))) [6, 7]), (.mk (oM 76 (.ld true 2 (.t 75))) [8]), (.mk (oP 77 (.eqs true [2, 0] (.t 71) (.t 76))) [4, 9])]
def fg_f40_0 : Fg := ⟨[(2, none), (3, none), (5, some tI)], [(2, some tyImage), (3, some tyImage)]⟩
def tb_f40_0 : TC := (.sq (.sq (.reg [(oV 23 5), (oP 24 (.fa 0 (.t 2))), (oL 25 24), (oP 26 (.len false (.t 25))), (oP 27 (.bin false .lss (.t 23) (.t 26)))]) (.cd (.t 27) .sk (.fg ⟨[(2, none), (3, none)], [(2, some tyImage), (3, some tyImage)]⟩ (.ex 0)))) (.sq (.bk 1 (.sq (.dr dr_f40_0 [(0, [2]), (1, [2]), (2, []), (3, []), (4, []), (5, []), (6, [3]), (7, [3]), (8, []), (9, []), (10, []), (11, []), (12, []), (13, []), (14, [2]), (15, [2]), (16, []), (17, []), (18, []), (19, []), (20, []), (21, [3]), (22, [3]), (23, []), (24, []), (25, []), (26, []), (27, []), (28, []), (29, [])] (.of [0, 1, 2, 3, 4, 5, 6, 7, 8, 9, 10, 11, 12, 13, 14, 15, 16, 17, 18, 19, 20, 21, 22, 23, 24, 25, 26, 27, 28, 29])) (.cd (.t 59) (.sq (.reg [(oP 4 (.mv (cB false)))]) (.fg ⟨[(4, some .bool)], []⟩ .rt)) .sk))) (.reg [(oV 28 5), (oP 29 (.bin false .add (.t 28) (cI 1))), (oV 5 29)])))
def fg_f40_1 : Fg := ⟨[(2, none), (3, none), (6, some tI)], [(2, some tyImage), (3, some tyImage)]⟩
def tb_f40_1 : TC := (.sq (.sq (.reg [(oV 60 6), (oP 61 (.fa 1 (.t 2))), (oL 62 61), (oP 63 (.len false (.t 62))), (oP 64 (.bin false .lss (.t 60) (.t 63)))]) (.cd (.t 64) .sk (.fg ⟨[], []⟩ (.ex 2)))) (.sq (.bk 3 (.sq (.dr dr_f40_1 [(0, [2]), (1, [2]), (2, []), (3, []), (4, []), (5, [3]), (6, [3]), (7, []), (8, []), (9, []), (10, [])] (.of [0, 1, 2, 3, 4, 5, 6, 7, 8, 9, 10])) (.cd (.t 77) (.sq (.reg [(oP 4 (.mv (cB false)))]) (.fg ⟨[(4, some .bool)], []⟩ .rt)) .sk))) (.reg [(oV 65 6), (oP 66 (.bin false .add (.t 65) (cI 1))), (oV 6 66)])))
/-- cipherplan/cipherplanref10.Same -/
def tc_f40 : TC := (.sq (.reg [(oM 2 (.box (.t 0))), (oM 3 (.box (.t 1))), (oP 4 (.mv (cB false)))]) (.sq (.sq (.reg [(oP 7 (.fa 0 (.t 2))), (oL 8 7), (oP 9 (.len false (.t 8))), (oP 10 (.fa 0 (.t 3))), (oL 11 10), (oP 12 (.len false (.t 11))), (oP 13 (.bin false .neq (.t 9) (.t 12))), (oV 14 13), (oQ 15 14 false (.fa 1 (.t 2))), (oG 16 14 false (.m (.ld false 1 (.t 15)))), (oQ 17 14 false (.len false (.t 16))), (oQ 18 14 false (.fa 1 (.t 3))), (oG 19 14 false (.m (.ld false 1 (.t 18)))), (oQ 20 14 false (.len false (.t 19))), (oQ 21 14 false (.bin false .neq (.t 17) (.t 20))), (oP 22 (.pick (.t 14) (cB true) (.t 21)))]) (.cd (.t 22) (.sq (.reg [(oP 4 (.mv (cB false)))]) .rt) .sk)) (.sq (.sq (.reg [(oP 5 (.mv (cI 0)))]) (.bk 0 (.lp 0 fg_f40_0 tb_f40_0))) (.sq (.sq (.reg [(oP 6 (.mv (cI 0)))]) (.bk 2 (.lp 1 fg_f40_1 tb_f40_1))) (.sq (.reg [(oP 4 (.mv (cB true)))]) .rt)))))
def rv_f40 : List (RV × Option Ty) := [((.t 4), some .bool)]
abbrev sh_f40_0 : Sh := ⟨[(2, .ptr 2 0), (3, .ptr 3 0), (5, .ty tI)], [(2, .box tyImage), (3, .box tyImage)]⟩
def st_f40_0 (x5 : Int) (y2 : Image) (y3 : Image) : VS := sh_f40_0.st ((), (), x5, ()) (y2, y3, ())
abbrev sh_f40_0_ret : Sh := ⟨[(4, .ty .bool)], []⟩
def st_f40_0_ret (x4 : Bool) : VS := sh_f40_0_ret.st (x4, ()) ()
abbrev sh_f40_0_e0 : Sh := ⟨[(2, .ptr 2 0), (3, .ptr 3 0)], [(2, .box tyImage), (3, .box tyImage)]⟩
def st_f40_0_e0 (y2 : Image) (y3 : Image) : VS := sh_f40_0_e0.st ((), (), ()) (y2, y3, ())
-- loop 0: (x5 : Int) (y2 : Image) (y3 : Image); out: ('ret',) (x4 : Bool); ('exit', 0) (y2 : Image) (y3 : Image)
abbrev sh_f40_1 : Sh := ⟨[(2, .ptr 2 0), (3, .ptr 3 0), (6, .ty tI)], [(2, .box tyImage), (3, .box tyImage)]⟩
def st_f40_1 (x6 : Int) (y2 : Image) (y3 : Image) : VS := sh_f40_1.st ((), (), x6, ()) (y2, y3, ())
abbrev sh_f40_1_ret : Sh := ⟨[(4, .ty .bool)], []⟩
def st_f40_1_ret (x4 : Bool) : VS := sh_f40_1_ret.st (x4, ()) ()
abbrev sh_f40_1_e2 : Sh := ⟨[], []⟩
def st_f40_1_e2  : VS := sh_f40_1_e2.st () ()
-- loop 1: (x6 : Int) (y2 : Image) (y3 : Image); out: ('ret',) (x4 : Bool); ('exit', 2) 
def L_f40_0 : VS → Option (Bool × List (Bool × Exit × VS)) := mkL sh_f40_0 (fun x y => (decide (0 ≤ x.2.2.1 ∧ x.2.2.1 ≤ y.1.1.length ∧ y.1.1.length = y.2.1.1.length ∧ y.1.1.length ≤ 100000))) (fun x y => [((!zipA eqSec (y.1.1.drop x.2.2.1.toNat) (y.2.1.1.drop x.2.2.1.toNat)), .ret, st_f40_0_ret (false)), (true, .exit 0, st_f40_0_e0 (y.1) (y.2.1))])
def L_f40_1 : VS → Option (Bool × List (Bool × Exit × VS)) := mkL sh_f40_1 (fun x y => (decide (0 ≤ x.2.2.1 ∧ x.2.2.1 ≤ y.1.2.1.length ∧ y.1.2.1.length = y.2.1.2.1.length ∧ y.1.2.1.length ≤ 100000))) (fun x y => [((!zipA eqSym (y.1.2.1.drop x.2.2.1.toNat) (y.2.1.2.1.drop x.2.2.1.toNat)), .ret, st_f40_1_ret (false)), (true, .exit 2, st_f40_1_e2)])
def g_f40 : G := ⟨TYs, [], 78, EL [(2440624, sp_op_convert_39_9)], keeps, (Ls [L_f40_0, L_f40_1]), IL [], RL []⟩
def b_f40_0 (x5 : Int) (y2 : Image) (y3 : Image) : Option (Exit × VS) :=
  br ((ilt x5 (llen y2.1)))
    (br (cIx y2.1 x5)
      (br (cIx y3.1 x5)
        (br ((sne ((lgt tySection y2.1 (Int.toNat x5)).1) ((lgt tySection y3.1 (Int.toNat x5)).1)))
          (some (.ret, st_f40_0_ret false))
          (br (cIx y2.1 x5)
            (br (cIx y3.1 x5)
              (br ((sne (strOf (((lgt tySection y2.1 (Int.toNat x5)).2).1)) (strOf (((lgt tySection y3.1 (Int.toNat x5)).2).1))))
                (some (.ret, st_f40_0_ret false))
                (some (.normal, st_f40_0 (iadd .i64 x5 1) y2 y3)))
              (none))
            (none)))
        (none))
      (none))
    (some (.exit 0, st_f40_0_e0 y2 y3))
noncomputable def lp_f40_0 (x5 : Int) (y2 : Image) (y3 : Image) : Option (Exit × VS) := loopF (roundF g_f40 fg_f40_0 tb_f40_0) (st_f40_0 x5 y2 y3)
noncomputable def n_f40_0 (x5 : Int) (y2 : Image) (y3 : Image) : Option (Exit × VS) :=
  br ((ilt x5 (llen y2.1)))
    (br (cIx y2.1 x5)
      (br (cIx y3.1 x5)
        (br ((sne ((lgt tySection y2.1 (Int.toNat x5)).1) ((lgt tySection y3.1 (Int.toNat x5)).1)))
          (some (.ret, st_f40_0_ret false))
          (br (cIx y2.1 x5)
            (br (cIx y3.1 x5)
              (br ((sne (strOf (((lgt tySection y2.1 (Int.toNat x5)).2).1)) (strOf (((lgt tySection y3.1 (Int.toNat x5)).2).1))))
                (some (.ret, st_f40_0_ret false))
                (lp_f40_0 (iadd .i64 x5 1) y2 y3))
              (none))
            (none)))
        (none))
      (none))
    (some (.exit 0, st_f40_0_e0 y2 y3))
def la_f40_0 (x5 : Int) (y2 : Image) (y3 : Image) : Option (Exit × VS) := br (!zipA eqSec (y2.1.drop x5.toNat) (y3.1.drop x5.toNat)) (some (.ret, st_f40_0_ret (false))) <| some (.exit 0, st_f40_0_e0 (y2) (y3))
theorem be_f40_0 (x5 : Int) (y2 : Image) (y3 : Image) : roundF g_f40 fg_f40_0 tb_f40_0 (st_f40_0 x5 y2 y3) = b_f40_0 x5 y2 y3 := by kernel_rfl
theorem ln_f40_0 (x5 : Int) (y2 : Image) (y3 : Image) : lp_f40_0 x5 y2 y3 = n_f40_0 x5 y2 y3 := (loopF_nxt _ _).trans (by
  rw [be_f40_0]
  simp only [b_f40_0, n_f40_0, nxt_br, nxt_n, nxt_r, nxt_e, nxt_0]
  rfl)
def b_f40_1 (x6 : Int) (y2 : Image) (y3 : Image) : Option (Exit × VS) :=
  br ((ilt x6 (llen y2.2.1)))
    (br (cIx y2.2.1 x6)
      (br (cIx y3.2.1 x6)
        (br ((!(and (seq ((lgt tySymbol y2.2.1 (Int.toNat x6)).1) ((lgt tySymbol y3.2.1 (Int.toNat x6)).1)) (and (ieq (((lgt tySymbol y2.2.1 (Int.toNat x6)).2).1) (((lgt tySymbol y3.2.1 (Int.toNat x6)).2).1)) true))))
          (some (.ret, st_f40_1_ret false))
          (some (.normal, st_f40_1 (iadd .i64 x6 1) y2 y3)))
        (none))
      (none))
    (some (.exit 2, st_f40_1_e2))
noncomputable def lp_f40_1 (x6 : Int) (y2 : Image) (y3 : Image) : Option (Exit × VS) := loopF (roundF g_f40 fg_f40_1 tb_f40_1) (st_f40_1 x6 y2 y3)
noncomputable def n_f40_1 (x6 : Int) (y2 : Image) (y3 : Image) : Option (Exit × VS) :=
  br ((ilt x6 (llen y2.2.1)))
    (br (cIx y2.2.1 x6)
      (br (cIx y3.2.1 x6)
        (br ((!(and (seq ((lgt tySymbol y2.2.1 (Int.toNat x6)).1) ((lgt tySymbol y3.2.1 (Int.toNat x6)).1)) (and (ieq (((lgt tySymbol y2.2.1 (Int.toNat x6)).2).1) (((lgt tySymbol y3.2.1 (Int.toNat x6)).2).1)) true))))
          (some (.ret, st_f40_1_ret false))
          (lp_f40_1 (iadd .i64 x6 1) y2 y3))
        (none))
      (none))
    (some (.exit 2, st_f40_1_e2))
def la_f40_1 (x6 : Int) (y2 : Image) (y3 : Image) : Option (Exit × VS) := br (!zipA eqSym (y2.2.1.drop x6.toNat) (y3.2.1.drop x6.toNat)) (some (.ret, st_f40_1_ret (false))) <| some (.exit 2, st_f40_1_e2)
theorem be_f40_1 (x6 : Int) (y2 : Image) (y3 : Image) : roundF g_f40 fg_f40_1 tb_f40_1 (st_f40_1 x6 y2 y3) = b_f40_1 x6 y2 y3 := by kernel_rfl
theorem ln_f40_1 (x6 : Int) (y2 : Image) (y3 : Image) : lp_f40_1 x6 y2 y3 = n_f40_1 x6 y2 y3 := (loopF_nxt _ _).trans (by
  rw [be_f40_1]
  simp only [b_f40_1, n_f40_1, nxt_br, nxt_n, nxt_r, nxt_e, nxt_0]
  rfl)
def r_f40 (p0 : Image) (p1 : Image) : Option (V × List VO) :=
  br ((ine (llen p0.1) (llen p1.1)))
    (some (.t .bool false, []))
    (br ((ine (llen p0.2.1) (llen p1.2.1)))
      (some (.t .bool false, []))
      (br ((decide (0 ≤ (0 : Int) ∧ (0 : Int) ≤ p0.1.length ∧ p0.1.length = p1.1.length ∧ p0.1.length ≤ 100000)))
        (br ((!zipA eqSec (p0.1.drop (0 : Int).toNat) (p1.1.drop (0 : Int).toNat)))
          (some (.t .bool (false), []))
          (br ((decide (0 ≤ (0 : Int) ∧ (0 : Int) ≤ (p0).2.1.length ∧ (p0).2.1.length = (p1).2.1.length ∧ (p0).2.1.length ≤ 100000)))
            (br ((!zipA eqSym ((p0).2.1.drop (0 : Int).toNat) ((p1).2.1.drop (0 : Int).toNat)))
              (some (.t .bool (false), []))
              (some (.t .bool true, [])))
            (none)))
        (none)))
theorem e_f40 (p0 : Image) (p1 : Image) : runF g_f40 tc_f40 rv_f40 false [.t tyImage p0, .t tyImage p1] [] = r_f40 p0 p1 := by kernel_rfl
theorem ok_f40 : Option.map (trC Try.prog) Try.f40.body = some tc_f40.er := by kernel_rfl
theorem rok_f40 : trVs Try.prog Try.f40.results.toList = some (rv_f40.map Prod.fst) := by kernel_rfl
theorem en_f40 : Entered Try.prog 40 := .inr ⟨by decide, _, Try.func40, by kernel_rfl, by kernel_rfl⟩
theorem gk_f40 : GOk Try.prog g_f40 := gok_of _ (by
  intro p hp
  simp only [List.mem_cons, List.not_mem_nil, or_false] at hp
  rcases hp with rfl
  · exact ⟨en_op_convert_39_9, ms_op_convert_39_9⟩)
theorem l_f40_0 (x5 : Int) (y2 : Image) (y3 : Image) (h : (decide (0 ≤ x5 ∧ x5 ≤ y2.1.length ∧ y2.1.length = y3.1.length ∧ y2.1.length ≤ 100000)) = true) : lp_f40_0 x5 y2 y3 = la_f40_0 x5 y2 y3 := by
  simp only [decide_eq_true_eq] at h
  obtain ⟨h1, h2, h3, h4⟩ := h
  obtain ⟨k, rfl⟩ := Int.eq_ofNat_of_zero_le h1
  refine range_ind y2.1 (fun k => lp_f40_0 (k : Int) y2 y3 = la_f40_0 (k : Int) y2 y3) ?_ ?_ k (by omega)
  · rw [ln_f40_0]
    have e2 : y3.1.drop y2.1.length = [] := List.drop_eq_nil_of_le (by omega)
    simp [n_f40_0, la_f40_0, ilt_llen, br_false, e2, zipA]
  · intro k hk ih
    have hk1 : k < y3.1.length := by omega
    rw [ln_f40_0]
    simp only [n_f40_0, ilt_llen, cIx_nat, hk, hk1, decide_true, br_true, Int.toNat_natCast, lgt_get (y := tySection) hk, lgt_get (y := tySection) hk1, add1 (show k < 4611686018427387904 by omega), ih, la_f40_0, zipA_drop hk hk1]
    simp only [eqSec, eqB, sne_not]
    cases seq y2.1[k].1 y3.1[k].1 <;> cases seq (strOf y2.1[k].2.1) (strOf y3.1[k].2.1) <;> rfl
theorem l_f40_1 (x6 : Int) (y2 : Image) (y3 : Image) (h : (decide (0 ≤ x6 ∧ x6 ≤ y2.2.1.length ∧ y2.2.1.length = y3.2.1.length ∧ y2.2.1.length ≤ 100000)) = true) : lp_f40_1 x6 y2 y3 = la_f40_1 x6 y2 y3 := by
  simp only [decide_eq_true_eq] at h
  obtain ⟨h1, h2, h3, h4⟩ := h
  obtain ⟨k, rfl⟩ := Int.eq_ofNat_of_zero_le h1
  refine range_ind y2.2.1 (fun k => lp_f40_1 (k : Int) y2 y3 = la_f40_1 (k : Int) y2 y3) ?_ ?_ k (by omega)
  · rw [ln_f40_1]
    have e2 : y3.2.1.drop y2.2.1.length = [] := List.drop_eq_nil_of_le (by omega)
    simp [n_f40_1, la_f40_1, ilt_llen, br_false, e2, zipA]
  · intro k hk ih
    have hk1 : k < y3.2.1.length := by omega
    rw [ln_f40_1]
    simp only [n_f40_1, ilt_llen, cIx_nat, hk, hk1, decide_true, br_true, Int.toNat_natCast, lgt_get (y := tySymbol) hk, lgt_get (y := tySymbol) hk1, add1 (show k < 4611686018427387904 by omega), ih, la_f40_1, zipA_drop hk hk1]
    simp only [eqSym]
    cases seq y2.2.1[k].1 y3.2.1[k].1 <;> cases ieq y2.2.1[k].2.1 y3.2.1[k].2.1 <;> rfl
theorem lo_f40_0 : ∀ S l p, g_f40.L 0 (fgt fg_f40_0 S) = some (true, l) → pickA l = some p → loopF (roundF g_f40 fg_f40_0 tb_f40_0) S = some p :=
  lok_of (s := sh_f40_0) ⟨by decide, by decide⟩ (by kernel_rfl) fun x y hok p hp => by
  simp only [pickA_br, pickA_one] at hp
  exact (l_f40_0 x.2.2.1 y.1 y.2.1 (by simpa using hok)).trans hp
theorem lo_f40_1 : ∀ S l p, g_f40.L 1 (fgt fg_f40_1 S) = some (true, l) → pickA l = some p → loopF (roundF g_f40 fg_f40_1 tb_f40_1) S = some p :=
  lok_of (s := sh_f40_1) ⟨by decide, by decide⟩ (by kernel_rfl) fun x y hok p hp => by
  simp only [pickA_br, pickA_one] at hp
  exact (l_f40_1 x.2.2.1 y.1 y.2.1 (by simpa using hok)).trans hp
theorem lk_f40 : tc_f40.lok g_f40 := by
  repeat (first | exact trivial | exact lo_f40_0 | exact lo_f40_1 | refine ⟨?_, ?_⟩)
theorem s_f40 (a b : Image) (h : sameXOk a b = true) : r_f40 a b = some (.t .bool (sameX a b), []) := by
  have h : imgOk a = true := h
  simp only [imgOk, decide_eq_true_eq] at h
  simp only [r_f40, Int.toNat_zero, List.drop_zero, sameX, eqSecs, eqSyms, eqL]
  by_cases q : a.1.length = b.1.length
  · have e1 : ine (llen a.1) (llen b.1) = false := by simp [ine, llen, q]
    rw [e1, decide_eq_true q]
    by_cases p : a.2.1.length = b.2.1.length
    · have e2 : ine (llen a.2.1) (llen b.2.1) = false := by simp [ine, llen, p]
      rw [e2, decide_eq_true p, decide_eq_true (show (0 : Int) ≤ 0 ∧ (0 : Int) ≤ a.1.length ∧ a.1.length = b.1.length ∧ a.1.length ≤ 100000 by omega), decide_eq_true (show (0 : Int) ≤ 0 ∧ (0 : Int) ≤ a.2.1.length ∧ a.2.1.length = b.2.1.length ∧ a.2.1.length ≤ 100000 by omega)]
      cases zipA eqSec a.1 b.1 <;> cases zipA eqSym a.2.1 b.2.1 <;> rfl
    · have e2 : ine (llen a.2.1) (llen b.2.1) = true := by simp [ine, llen]; omega
      rw [e2, decide_eq_false p]
      cases zipA eqSec a.1 b.1 <;> rfl
  · have e1 : ine (llen a.1) (llen b.1) = true := by simp [ine, llen]; omega
    rw [e1, decide_eq_false q]
    rfl
def sp_f40 : Ent := spec (.pr tyImage (.pr tyImage .nil)) (fun x => (sameXOk x.1 x.2.1)) (fun x => (.t .bool (sameX x.1 x.2.1)))
theorem ms_f40 : Meets Try.prog 40 (strip sp_f40) := by
  obtain ⟨c, hc, hi⟩ := Option.map_eq_some_iff.1 ok_f40
  exact meets_spec (R := runF g_f40 tc_f40 rv_f40 false) (meets_of (by decide) Try.func40 hc hi Try.ntmps40 rok_f40 gk_f40 lk_f40 mixed) fun x hok => (e_f40 x.1 x.2.1).trans (s_f40 x.1 x.2.1 hok)
end
end Go.Proofs.Ythdichlainehpaa.K
