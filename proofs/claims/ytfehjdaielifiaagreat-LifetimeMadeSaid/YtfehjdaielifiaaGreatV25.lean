/-
  lifetime: Renew.
-/
import Derived.Test.YtfehjdaielifiaaGreatV21
import Derived.Test.YtfehjdaielifiaaGreatB5
set_option linter.unusedSimpArgs false
set_option linter.unusedVariables false
namespace Go.Proofs.YtfehjdaielifiaaGreat.K
open Go.RowKit
def noItem : Item := (ByteArray.mk #[], (0, (0, (([] : List Link), (0, ())))))
def renE (y : Policy) (i : Item) (u : Keep) (day : Int) : Int := if fineB y i = false then ofE y i else if validF u = false then 7 else if day ≤ lastDay i ∨ 40000 < day then 13 else if i.2.2.2.1.length = 8 then 3 else 0
def moreL (i : Item) (u : Keep) (day : Int) : Item := (i.1, (i.2.1, (i.2.2.1, (i.2.2.2.1 ++ [(u, (day, ()))], (i.2.2.2.2.1, ())))))
def RenewF (y : Policy) (i : Item) (u : Keep) (day : Int) : Item × Int := if renE y i u day = 0 then (moreL i u day, 0) else (noItem, renE y i u day)
def renLen (y : Policy) (i : Item) (_u : Keep) (_day : Int) : Bool := fineLen y i
def dr_f23A_0 : List DO := [(.mk (oP 51 (.fa 3 (.t 5))) []), (.mk (oL 52 51) [0]), (.mk (oC 53 53 [(.t 52)]) [1]), (.mk (oM 54 (.ld true 2 (.t 6))) []), (.mk (oV 55 3) []), (.mk (oP 56 (.bd [(.v (.int .i64 0)), (.v (.int .i64 0)), (.v (.int .i64 0))] [(0, 2, (.t 54)), (2, 1, (.t 55))])) [3, 4]), (.mk (oM 57 (.bs 62 3 1 [(.v (.int .i64 0)), (.v (.int .i64 0)), (.v (.int .i64 0))] [(0, 3, (.t 56))])) [5]), (.mk (oM 58 (.app 62 3 24 (.t 53) (.t 57))) [2, 6, 2]), (.mk (oP 59 (.fa 3 (.t 5))) [0, 1, 2, 3, 4, 5, 6, 7]), (.mk (.mk none none (.m (.st 1 (.t 59) (.t 58)))) [8, 7, 7, 0, 1, 2, 3, 4, 5, 6, 7])]
/-- cipherplan/lifetime.Renew -/
def tc_f23A : TC := (.sq (.reg [(oM 4 (.box (.t 0))), (oM 5 (.box (.t 1))), (oM 6 (.box (.t 2))), (oM 8 (.new [(.v (.string (ByteArray.mk #[]))), (.v (.int .i64 0)), (.v (.int .i64 0)), (.v (.slice none 0 0)), (.v (.int .i64 0))])), (oP 9 (.mv (cI 0)))]) (.sq (.reg [(oM 13 (.ld true 2 (.t 4))), (oM 14 (.ld true 5 (.t 5))), (oC 15 50 [(.t 13), (.t 14)]), (oV 12 15), (oP 16 (.ext 0 (.t 12))), (oP 17 (.ext 1 (.t 12))), (oV 10 16), (oV 11 17)]) (.sq (.bk 0 (.sq (.reg [(oV 19 11), (oP 20 (.bin false .neq (.t 19) (cI 0))), (oV 18 20)]) (.cd (.t 18) (.sq (.reg [(oP 21 (.bd [(.v (.string (ByteArray.mk #[]))), (.v (.int .i64 0)), (.v (.int .i64 0)), (.v (.slice none 0 0)), (.v (.int .i64 0))] [])), (oV 22 11), (.mk none none (.m (.st 5 (.t 8) (.t 21)))), (oV 9 22)]) .rt) (.sq (.reg [(oM 24 (.ld true 2 (.t 6))), (oC 25 52 [(.t 24)]), (oP 26 (.nt (.t 25))), (oV 23 26)]) (.cd (.t 23) (.sq (.reg [(oP 27 (.bd [(.v (.string (ByteArray.mk #[]))), (.v (.int .i64 0)), (.v (.int .i64 0)), (.v (.slice none 0 0)), (.v (.int .i64 0))] [])), (.mk none none (.m (.st 5 (.t 8) (.t 27)))), (oP 9 (.mv (cI 7)))]) .rt) (.sq (.reg [(oV 29 3), (oP 30 (.fa 3 (.t 5))), (oL 31 30), (oP 32 (.fa 3 (.t 5))), (oL 33 32), (oP 34 (.len false (.t 33))), (oP 35 (.bin false .sub (.t 34) (cI 1))), (oP 36 (.ix 3 (.t 31) (.t 35))), (oP 37 (.fa 2 (.t 36))), (oL 38 37), (oP 39 (.bin false .leq (.t 29) (.t 38))), (oV 40 39), (oQ 41 40 false (.mv (.t 3))), (oQ 42 40 false (.bin false .gtr (.t 41) (cI 40000))), (oP 43 (.pick (.t 40) (cB true) (.t 42))), (oV 28 43)]) (.cd (.t 28) (.sq (.reg [(oP 44 (.bd [(.v (.string (ByteArray.mk #[]))), (.v (.int .i64 0)), (.v (.int .i64 0)), (.v (.slice none 0 0)), (.v (.int .i64 0))] [])), (.mk none none (.m (.st 5 (.t 8) (.t 44)))), (oP 9 (.mv (cI 13)))]) .rt) (.sq (.reg [(oP 46 (.fa 3 (.t 5))), (oL 47 46), (oP 48 (.len false (.t 47))), (oP 49 (.bin false .eql (.t 48) (cI 8))), (oV 45 49)]) (.cd (.t 45) (.sq (.reg [(oP 50 (.bd [(.v (.string (ByteArray.mk #[]))), (.v (.int .i64 0)), (.v (.int .i64 0)), (.v (.slice none 0 0)), (.v (.int .i64 0))] [])), (.mk none none (.m (.st 5 (.t 8) (.t 50)))), (oP 9 (.mv (cI 3)))]) .rt) .sk))))))))) (.sq (.dr dr_f23A_0 [(0, [5, 53, 58, 5053, 10053, 15053]), (1, [5, 53, 58, 5053, 10053, 15053]), (2, [5, 8, 53, 58, 5053, 10053, 15053]), (3, [6]), (4, []), (5, []), (6, []), (7, [5, 8, 53, 58, 5053, 5058, 10053, 10058, 15053, 15058]), (8, [5, 53, 58, 5053, 10053, 15053]), (9, [5, 8, 53, 58, 5053, 10053, 15053])] (.of [0, 1, 3, 4, 5, 6, 2, 7, 8, 9])) (.sq (.reg [(oM 60 (.ld true 5 (.t 5))), (.mk none none (.m (.st 5 (.t 8) (.t 60)))), (oP 9 (.mv (cI 0)))]) .rt)))))
def rv_f23A : List (RV × Option Ty) := [((.c 8 true 5), some tyItem), ((.t 9), some tI)]
def g_f23A : G := ⟨TYs, [], 61, EL [(50, sp_f50A), (52, sp_f52), (53, sp_f53)], keeps, (fun _ _ => none), IL [], RL []⟩
def r_f23A (p0 : Policy) (p1 : Item) (p2 : Keep) (p3 : Int) : Option (V × List VO) :=
  br ((ofOkA p0 p1))
    (br ((ine ((ofA p0 p1).2) 0))
      (some (.tu [(.t tyItem ((ByteArray.mk #[]), (0, (0, (([] : List Link), (0, ())))))), (.t tI ((ofA p0 p1).2))], []))
      (br ((!(validF p2)))
        (some (.tu [(.t tyItem ((ByteArray.mk #[]), (0, (0, (([] : List Link), (0, ())))))), (.t tI 7)], []))
        (br (cIx p1.2.2.2.1 (isub .i64 (llen p1.2.2.2.1) 1))
          (br ((ile p3 (((lgt tyLink p1.2.2.2.1 (Int.toNat (isub .i64 (llen p1.2.2.2.1) 1))).2).1)))
            (some (.tu [(.t tyItem ((ByteArray.mk #[]), (0, (0, (([] : List Link), (0, ())))))), (.t tI 13)], []))
            (br ((igt p3 40000))
              (some (.tu [(.t tyItem ((ByteArray.mk #[]), (0, (0, (([] : List Link), (0, ())))))), (.t tI 13)], []))
              (br ((ieq (llen p1.2.2.2.1) 8))
                (some (.tu [(.t tyItem ((ByteArray.mk #[]), (0, (0, (([] : List Link), (0, ())))))), (.t tI 3)], []))
                (br ((lenOk5 p1.2.2.2.1))
                  (br (cApp (cloneL p1.2.2.2.1) ([((p2.1, (p2.2.1, ())), (p3, ()))]) 24)
                    (some (.tu [(.t tyItem (p1.1, (p1.2.1, (p1.2.2.1, (((cloneL p1.2.2.2.1) ++ ([((p2.1, (p2.2.1, ())), (p3, ()))])), (p1.2.2.2.2.1, ())))))), (.t tI 0)], []))
                    (none))
                  (none)))))
          (none))))
    (none)
theorem e_f23A (p0 : Policy) (p1 : Item) (p2 : Keep) (p3 : Int) : runF g_f23A tc_f23A rv_f23A false [.t tyPolicy p0, .t tyItem p1, .t tyKeep p2, .t tI p3] [] = r_f23A p0 p1 p2 p3 := by kernel_rfl
theorem ok_f23A : Option.map (trC Tryz.prog) Tryz.f23.body = some tc_f23A.er := by kernel_rfl
theorem rok_f23A : trVs Tryz.prog Tryz.f23.results.toList = some (rv_f23A.map Prod.fst) := by kernel_rfl
theorem en_f23A : Entered Tryz.prog 23 := .inr ⟨by decide, _, Tryz.func23, by kernel_rfl, by kernel_rfl⟩
theorem gk_f23A : GOk Tryz.prog g_f23A := gok_of _ (by
  intro p hp
  simp only [List.mem_cons, List.not_mem_nil, or_false] at hp
  rcases hp with rfl | rfl | rfl
  · exact ⟨en_f50A, ms_f50A⟩
  · exact ⟨en_f52, ms_f52⟩
  · exact ⟨en_f53, ms_f53⟩)
theorem lk_f23A : tc_f23A.lok g_f23A := by repeat (first | exact trivial | refine ⟨?_, ?_⟩)
theorem mr_f23A : Meets Tryz.prog 23 (runF g_f23A tc_f23A rv_f23A false) := by
  obtain ⟨c, hc, hi⟩ := Option.map_eq_some_iff.1 ok_f23A
  exact meets_of (by decide) Tryz.func23 hc hi Tryz.ntmps23 rok_f23A gk_f23A lk_f23A mixed
def dr_f23B_0 : List DO := [(.mk (oP 51 (.fa 3 (.t 5))) []), (.mk (oL 52 51) [0]), (.mk (oC 53 53 [(.t 52)]) [1]), (.mk (oM 54 (.ld true 2 (.t 6))) []), (.mk (oV 55 3) []), (.mk (oP 56 (.bd [(.v (.int .i64 0)), (.v (.int .i64 0)), (.v (.int .i64 0))] [(0, 2, (.t 54)), (2, 1, (.t 55))])) [3, 4]), (.mk (oM 57 (.bs 62 3 1 [(.v (.int .i64 0)), (.v (.int .i64 0)), (.v (.int .i64 0))] [(0, 3, (.t 56))])) [5]), (.mk (oM 58 (.app 62 3 24 (.t 53) (.t 57))) [2, 6, 2]), (.mk (oP 59 (.fa 3 (.t 5))) [0, 1, 2, 3, 4, 5, 6, 7]), (.mk (.mk none none (.m (.st 1 (.t 59) (.t 58)))) [8, 7, 7, 0, 1, 2, 3, 4, 5, 6, 7])]
/-- cipherplan/lifetime.Renew -/
def tc_f23B : TC := (.sq (.reg [(oM 4 (.box (.t 0))), (oM 5 (.box (.t 1))), (oM 6 (.box (.t 2))), (oM 8 (.new [(.v (.string (ByteArray.mk #[]))), (.v (.int .i64 0)), (.v (.int .i64 0)), (.v (.slice none 0 0)), (.v (.int .i64 0))])), (oP 9 (.mv (cI 0)))]) (.sq (.reg [(oM 13 (.ld true 2 (.t 4))), (oM 14 (.ld true 5 (.t 5))), (oC 15 50 [(.t 13), (.t 14)]), (oV 12 15), (oP 16 (.ext 0 (.t 12))), (oP 17 (.ext 1 (.t 12))), (oV 10 16), (oV 11 17)]) (.sq (.bk 0 (.sq (.reg [(oV 19 11), (oP 20 (.bin false .neq (.t 19) (cI 0))), (oV 18 20)]) (.cd (.t 18) (.sq (.reg [(oP 21 (.bd [(.v (.string (ByteArray.mk #[]))), (.v (.int .i64 0)), (.v (.int .i64 0)), (.v (.slice none 0 0)), (.v (.int .i64 0))] [])), (oV 22 11), (.mk none none (.m (.st 5 (.t 8) (.t 21)))), (oV 9 22)]) .rt) (.sq (.reg [(oM 24 (.ld true 2 (.t 6))), (oC 25 52 [(.t 24)]), (oP 26 (.nt (.t 25))), (oV 23 26)]) (.cd (.t 23) (.sq (.reg [(oP 27 (.bd [(.v (.string (ByteArray.mk #[]))), (.v (.int .i64 0)), (.v (.int .i64 0)), (.v (.slice none 0 0)), (.v (.int .i64 0))] [])), (.mk none none (.m (.st 5 (.t 8) (.t 27)))), (oP 9 (.mv (cI 7)))]) .rt) (.sq (.reg [(oV 29 3), (oP 30 (.fa 3 (.t 5))), (oL 31 30), (oP 32 (.fa 3 (.t 5))), (oL 33 32), (oP 34 (.len false (.t 33))), (oP 35 (.bin false .sub (.t 34) (cI 1))), (oP 36 (.ix 3 (.t 31) (.t 35))), (oP 37 (.fa 2 (.t 36))), (oL 38 37), (oP 39 (.bin false .leq (.t 29) (.t 38))), (oV 40 39), (oQ 41 40 false (.mv (.t 3))), (oQ 42 40 false (.bin false .gtr (.t 41) (cI 40000))), (oP 43 (.pick (.t 40) (cB true) (.t 42))), (oV 28 43)]) (.cd (.t 28) (.sq (.reg [(oP 44 (.bd [(.v (.string (ByteArray.mk #[]))), (.v (.int .i64 0)), (.v (.int .i64 0)), (.v (.slice none 0 0)), (.v (.int .i64 0))] [])), (.mk none none (.m (.st 5 (.t 8) (.t 44)))), (oP 9 (.mv (cI 13)))]) .rt) (.sq (.reg [(oP 46 (.fa 3 (.t 5))), (oL 47 46), (oP 48 (.len false (.t 47))), (oP 49 (.bin false .eql (.t 48) (cI 8))), (oV 45 49)]) (.cd (.t 45) (.sq (.reg [(oP 50 (.bd [(.v (.string (ByteArray.mk #[]))), (.v (.int .i64 0)), (.v (.int .i64 0)), (.v (.slice none 0 0)), (.v (.int .i64 0))] [])), (.mk none none (.m (.st 5 (.t 8) (.t 50)))), (oP 9 (.mv (cI 3)))]) .rt) .sk))))))))) (.sq (.dr dr_f23B_0 [(0, [5, 53, 58, 5053, 10053, 15053]), (1, [5, 53, 58, 5053, 10053, 15053]), (2, [5, 8, 53, 58, 5053, 10053, 15053]), (3, [6]), (4, []), (5, []), (6, []), (7, [5, 8, 53, 58, 5053, 5058, 10053, 10058, 15053, 15058]), (8, [5, 53, 58, 5053, 10053, 15053]), (9, [5, 8, 53, 58, 5053, 10053, 15053])] (.of [0, 1, 3, 4, 5, 6, 2, 7, 8, 9])) (.sq (.reg [(oM 60 (.ld true 5 (.t 5))), (.mk none none (.m (.st 5 (.t 8) (.t 60)))), (oP 9 (.mv (cI 0)))]) .rt)))))
def rv_f23B : List (RV × Option Ty) := [((.c 8 true 5), some tyItem), ((.t 9), some tI)]
def g_f23B : G := ⟨TYs, [], 61, EL [(50, sp_f50B), (52, sp_f52), (53, sp_f53)], keeps, (fun _ _ => none), IL [], RL []⟩
def r_f23B (p0 : Policy) (p1 : Item) (p2 : Keep) (p3 : Int) : Option (V × List VO) :=
  br ((ofOkB p0 p1))
    (br ((ine ((ofA p0 p1).2) 0))
      (some (.tu [(.t tyItem ((ByteArray.mk #[]), (0, (0, (([] : List Link), (0, ())))))), (.t tI ((ofA p0 p1).2))], []))
      (br ((!(validF p2)))
        (some (.tu [(.t tyItem ((ByteArray.mk #[]), (0, (0, (([] : List Link), (0, ())))))), (.t tI 7)], []))
        (br (cIx p1.2.2.2.1 (isub .i64 (llen p1.2.2.2.1) 1))
          (br ((ile p3 (((lgt tyLink p1.2.2.2.1 (Int.toNat (isub .i64 (llen p1.2.2.2.1) 1))).2).1)))
            (some (.tu [(.t tyItem ((ByteArray.mk #[]), (0, (0, (([] : List Link), (0, ())))))), (.t tI 13)], []))
            (br ((igt p3 40000))
              (some (.tu [(.t tyItem ((ByteArray.mk #[]), (0, (0, (([] : List Link), (0, ())))))), (.t tI 13)], []))
              (br ((ieq (llen p1.2.2.2.1) 8))
                (some (.tu [(.t tyItem ((ByteArray.mk #[]), (0, (0, (([] : List Link), (0, ())))))), (.t tI 3)], []))
                (br ((lenOk5 p1.2.2.2.1))
                  (br (cApp (cloneL p1.2.2.2.1) ([((p2.1, (p2.2.1, ())), (p3, ()))]) 24)
                    (some (.tu [(.t tyItem (p1.1, (p1.2.1, (p1.2.2.1, (((cloneL p1.2.2.2.1) ++ ([((p2.1, (p2.2.1, ())), (p3, ()))])), (p1.2.2.2.2.1, ())))))), (.t tI 0)], []))
                    (none))
                  (none)))))
          (none))))
    (none)
theorem e_f23B (p0 : Policy) (p1 : Item) (p2 : Keep) (p3 : Int) : runF g_f23B tc_f23B rv_f23B false [.t tyPolicy p0, .t tyItem p1, .t tyKeep p2, .t tI p3] [] = r_f23B p0 p1 p2 p3 := by kernel_rfl
theorem ok_f23B : Option.map (trC Tryz.prog) Tryz.f23.body = some tc_f23B.er := by kernel_rfl
theorem rok_f23B : trVs Tryz.prog Tryz.f23.results.toList = some (rv_f23B.map Prod.fst) := by kernel_rfl
theorem en_f23B : Entered Tryz.prog 23 := .inr ⟨by decide, _, Tryz.func23, by kernel_rfl, by kernel_rfl⟩
theorem gk_f23B : GOk Tryz.prog g_f23B := gok_of _ (by
  intro p hp
  simp only [List.mem_cons, List.not_mem_nil, or_false] at hp
  rcases hp with rfl | rfl | rfl
  · exact ⟨en_f50B, ms_f50B⟩
  · exact ⟨en_f52, ms_f52⟩
  · exact ⟨en_f53, ms_f53⟩)
theorem lk_f23B : tc_f23B.lok g_f23B := by repeat (first | exact trivial | refine ⟨?_, ?_⟩)
theorem mr_f23B : Meets Tryz.prog 23 (runF g_f23B tc_f23B rv_f23B false) := by
  obtain ⟨c, hc, hi⟩ := Option.map_eq_some_iff.1 ok_f23B
  exact meets_of (by decide) Tryz.func23 hc hi Tryz.ntmps23 rok_f23B gk_f23B lk_f23B mixed
def dr_f23E_0 : List DO := [(.mk (oP 51 (.fa 3 (.t 5))) []), (.mk (oL 52 51) [0]), (.mk (oC 53 53 [(.t 52)]) [1]), (.mk (oM 54 (.ld true 2 (.t 6))) []), (.mk (oV 55 3) []), (.mk (oP 56 (.bd [(.v (.int .i64 0)), (.v (.int .i64 0)), (.v (.int .i64 0))] [(0, 2, (.t 54)), (2, 1, (.t 55))])) [3, 4]), (.mk (oM 57 (.bs 62 3 1 [(.v (.int .i64 0)), (.v (.int .i64 0)), (.v (.int .i64 0))] [(0, 3, (.t 56))])) [5]), (.mk (oM 58 (.app 62 3 24 (.t 53) (.t 57))) [2, 6, 2]), (.mk (oP 59 (.fa 3 (.t 5))) [0, 1, 2, 3, 4, 5, 6, 7]), (.mk (.mk none none (.m (.st 1 (.t 59) (.t 58)))) [8, 7, 7, 0, 1, 2, 3, 4, 5, 6, 7])]
/-- cipherplan/lifetime.Renew -/
def tc_f23E : TC := (.sq (.reg [(oM 4 (.box (.t 0))), (oM 5 (.box (.t 1))), (oM 6 (.box (.t 2))), (oM 8 (.new [(.v (.string (ByteArray.mk #[]))), (.v (.int .i64 0)), (.v (.int .i64 0)), (.v (.slice none 0 0)), (.v (.int .i64 0))])), (oP 9 (.mv (cI 0)))]) (.sq (.reg [(oM 13 (.ld true 2 (.t 4))), (oM 14 (.ld true 5 (.t 5))), (oC 15 50 [(.t 13), (.t 14)]), (oV 12 15), (oP 16 (.ext 0 (.t 12))), (oP 17 (.ext 1 (.t 12))), (oV 10 16), (oV 11 17)]) (.sq (.bk 0 (.sq (.reg [(oV 19 11), (oP 20 (.bin false .neq (.t 19) (cI 0))), (oV 18 20)]) (.cd (.t 18) (.sq (.reg [(oP 21 (.bd [(.v (.string (ByteArray.mk #[]))), (.v (.int .i64 0)), (.v (.int .i64 0)), (.v (.slice none 0 0)), (.v (.int .i64 0))] [])), (oV 22 11), (.mk none none (.m (.st 5 (.t 8) (.t 21)))), (oV 9 22)]) .rt) (.sq (.reg [(oM 24 (.ld true 2 (.t 6))), (oC 25 52 [(.t 24)]), (oP 26 (.nt (.t 25))), (oV 23 26)]) (.cd (.t 23) (.sq (.reg [(oP 27 (.bd [(.v (.string (ByteArray.mk #[]))), (.v (.int .i64 0)), (.v (.int .i64 0)), (.v (.slice none 0 0)), (.v (.int .i64 0))] [])), (.mk none none (.m (.st 5 (.t 8) (.t 27)))), (oP 9 (.mv (cI 7)))]) .rt) (.sq (.reg [(oV 29 3), (oP 30 (.fa 3 (.t 5))), (oL 31 30), (oP 32 (.fa 3 (.t 5))), (oL 33 32), (oP 34 (.len false (.t 33))), (oP 35 (.bin false .sub (.t 34) (cI 1))), (oP 36 (.ix 3 (.t 31) (.t 35))), (oP 37 (.fa 2 (.t 36))), (oL 38 37), (oP 39 (.bin false .leq (.t 29) (.t 38))), (oV 40 39), (oQ 41 40 false (.mv (.t 3))), (oQ 42 40 false (.bin false .gtr (.t 41) (cI 40000))), (oP 43 (.pick (.t 40) (cB true) (.t 42))), (oV 28 43)]) (.cd (.t 28) (.sq (.reg [(oP 44 (.bd [(.v (.string (ByteArray.mk #[]))), (.v (.int .i64 0)), (.v (.int .i64 0)), (.v (.slice none 0 0)), (.v (.int .i64 0))] [])), (.mk none none (.m (.st 5 (.t 8) (.t 44)))), (oP 9 (.mv (cI 13)))]) .rt) (.sq (.reg [(oP 46 (.fa 3 (.t 5))), (oL 47 46), (oP 48 (.len false (.t 47))), (oP 49 (.bin false .eql (.t 48) (cI 8))), (oV 45 49)]) (.cd (.t 45) (.sq (.reg [(oP 50 (.bd [(.v (.string (ByteArray.mk #[]))), (.v (.int .i64 0)), (.v (.int .i64 0)), (.v (.slice none 0 0)), (.v (.int .i64 0))] [])), (.mk none none (.m (.st 5 (.t 8) (.t 50)))), (oP 9 (.mv (cI 3)))]) .rt) .sk))))))))) (.sq (.dr dr_f23E_0 [(0, [5, 53, 58, 5053, 10053, 15053]), (1, [5, 53, 58, 5053, 10053, 15053]), (2, [5, 8, 53, 58, 5053, 10053, 15053]), (3, [6]), (4, []), (5, []), (6, []), (7, [5, 8, 53, 58, 5053, 5058, 10053, 10058, 15053, 15058]), (8, [5, 53, 58, 5053, 10053, 15053]), (9, [5, 8, 53, 58, 5053, 10053, 15053])] (.of [0, 1, 3, 4, 5, 6, 2, 7, 8, 9])) (.sq (.reg [(oM 60 (.ld true 5 (.t 5))), (.mk none none (.m (.st 5 (.t 8) (.t 60)))), (oP 9 (.mv (cI 0)))]) .rt)))))
def rv_f23E : List (RV × Option Ty) := [((.c 8 true 5), some tyItem), ((.t 9), some tI)]
def g_f23E : G := ⟨TYs, [], 61, EL [(50, sp_f50E), (52, sp_f52), (53, sp_f53)], keeps, (fun _ _ => none), IL [], RL []⟩
def r_f23E (p0 : Policy) (p1 : Item) (p2 : Keep) (p3 : Int) : Option (V × List VO) :=
  br ((ofOkE p0 p1))
    (br ((ine (ofE p0 p1) 0))
      (some (.tu [(.t tyItem ((ByteArray.mk #[]), (0, (0, (([] : List Link), (0, ())))))), (.t tI (ofE p0 p1))], []))
      (br ((!(validF p2)))
        (some (.tu [(.t tyItem ((ByteArray.mk #[]), (0, (0, (([] : List Link), (0, ())))))), (.t tI 7)], []))
        (br (cIx p1.2.2.2.1 (isub .i64 (llen p1.2.2.2.1) 1))
          (br ((ile p3 (((lgt tyLink p1.2.2.2.1 (Int.toNat (isub .i64 (llen p1.2.2.2.1) 1))).2).1)))
            (some (.tu [(.t tyItem ((ByteArray.mk #[]), (0, (0, (([] : List Link), (0, ())))))), (.t tI 13)], []))
            (br ((igt p3 40000))
              (some (.tu [(.t tyItem ((ByteArray.mk #[]), (0, (0, (([] : List Link), (0, ())))))), (.t tI 13)], []))
              (br ((ieq (llen p1.2.2.2.1) 8))
                (some (.tu [(.t tyItem ((ByteArray.mk #[]), (0, (0, (([] : List Link), (0, ())))))), (.t tI 3)], []))
                (br ((lenOk5 p1.2.2.2.1))
                  (br (cApp (cloneL p1.2.2.2.1) ([((p2.1, (p2.2.1, ())), (p3, ()))]) 24)
                    (some (.tu [(.t tyItem (p1.1, (p1.2.1, (p1.2.2.1, (((cloneL p1.2.2.2.1) ++ ([((p2.1, (p2.2.1, ())), (p3, ()))])), (p1.2.2.2.2.1, ())))))), (.t tI 0)], []))
                    (none))
                  (none)))))
          (none))))
    (none)
theorem e_f23E (p0 : Policy) (p1 : Item) (p2 : Keep) (p3 : Int) : runF g_f23E tc_f23E rv_f23E false [.t tyPolicy p0, .t tyItem p1, .t tyKeep p2, .t tI p3] [] = r_f23E p0 p1 p2 p3 := by kernel_rfl
theorem ok_f23E : Option.map (trC Tryz.prog) Tryz.f23.body = some tc_f23E.er := by kernel_rfl
theorem rok_f23E : trVs Tryz.prog Tryz.f23.results.toList = some (rv_f23E.map Prod.fst) := by kernel_rfl
theorem en_f23E : Entered Tryz.prog 23 := .inr ⟨by decide, _, Tryz.func23, by kernel_rfl, by kernel_rfl⟩
theorem gk_f23E : GOk Tryz.prog g_f23E := gok_of _ (by
  intro p hp
  simp only [List.mem_cons, List.not_mem_nil, or_false] at hp
  rcases hp with rfl | rfl | rfl
  · exact ⟨en_f50E, ms_f50E⟩
  · exact ⟨en_f52, ms_f52⟩
  · exact ⟨en_f53, ms_f53⟩)
theorem lk_f23E : tc_f23E.lok g_f23E := by repeat (first | exact trivial | refine ⟨?_, ?_⟩)
theorem mr_f23E : Meets Tryz.prog 23 (runF g_f23E tc_f23E rv_f23E false) := by
  obtain ⟨c, hc, hi⟩ := Option.map_eq_some_iff.1 ok_f23E
  exact meets_of (by decide) Tryz.func23 hc hi Tryz.ntmps23 rok_f23E gk_f23E lk_f23E mixed
theorem ren_tail {y : Policy} {i : Item} {u : Keep} {day : Int} (h : fineB y i = true) (a5 : ofE y i = ofE y i) :
    br (!(validF u)) (some (V.tu [(.t tyItem noItem), (.t tI 7)], [])) (br (cIx i.2.2.2.1 (isub .i64 (llen i.2.2.2.1) 1)) (br (ile day (lgt tyLink i.2.2.2.1 (Int.toNat (isub .i64 (llen i.2.2.2.1) 1))).2.1) (some (.tu [(.t tyItem noItem), (.t tI 13)], ([] : List VO))) (br (igt day 40000) (some (.tu [(.t tyItem noItem), (.t tI 13)], [])) (br (ieq (llen i.2.2.2.1) 8) (some (.tu [(.t tyItem noItem), (.t tI 3)], [])) (br (lenOk5 i.2.2.2.1) (br (cApp (cloneL i.2.2.2.1) ([((u.1, (u.2.1, ())), (day, ()))]) 24) (some (.tu [(.t tyItem (i.1, (i.2.1, (i.2.2.1, (((cloneL i.2.2.2.1) ++ ([((u.1, (u.2.1, ())), (day, ()))])), (i.2.2.2.2.1, ())))))), (.t tI 0)], [])) none) none)))) none) = some (.tu [.t tyItem (RenewF y i u day).1, .t tI (RenewF y i u day).2], []) := by
  obtain ⟨_, _, _, e7, e8⟩ := fine_lens h
  have hf := h
  simp only [fineB, Bool.and_eq_true] at hf
  have hl := (itemOk_iff.1 hf.2).2.2.2.1
  have c1 : lenOk5 i.2.2.2.1 = true := decide_eq_true (by omega)
  have c2 : cApp (cloneL i.2.2.2.1) ([((u.1, (u.2.1, ())), (day, ()))]) 24 = true := cApp_ok (by simp [cloneL]; omega) (by omega)
  rw [e7, e8, c1, c2]
  simp only [br_true, Int.toNat_natCast]
  have hd : (lgt tyLink i.2.2.2.1 (i.2.2.2.1.length - 1)).2.1 = lastDay i := rfl
  rw [hd]
  have e0 : renE y i u day = if validF u = false then 7 else if day ≤ lastDay i ∨ 40000 < day then 13 else if i.2.2.2.1.length = 8 then 3 else 0 := by
    unfold renE
    rw [if_neg (show ¬ fineB y i = false by rw [h]; simp)]
  have fin : ∀ n, ¬ n = 0 → renE y i u day = n → some (V.tu [(.t tyItem noItem), (.t tI n)], ([] : List VO)) = some (.tu [.t tyItem (RenewF y i u day).1, .t tI (RenewF y i u day).2], []) := fun n hn e => by
    unfold RenewF
    rw [e, if_neg hn]
  cases hv : validF u with
  | false =>
    rw [hv, if_pos rfl] at e0
    exact fin 7 (by omega) e0
  | true =>
    rw [hv, if_neg (show ¬ true = false by simp)] at e0
    rw [Bool.not_true, br_false]
    refine br_intro (fun g => ?_) (fun g1 => br_intro (fun g => ?_) (fun g2 => br_intro (fun g => ?_) (fun g3 => ?_)))
    · rw [if_pos (.inl (of_decide_eq_true g))] at e0
      exact fin 13 (by omega) e0
    · rw [if_pos (.inr (of_decide_eq_true g))] at e0
      exact fin 13 (by omega) e0
    · have g1 := of_decide_eq_false g1
      have g2 := of_decide_eq_false g2
      simp only [ieq_dec, llen, decide_eq_true_eq] at g
      rw [if_neg (by omega), if_pos (by omega)] at e0
      exact fin 3 (by omega) e0
    · have g1 := of_decide_eq_false g1
      have g2 := of_decide_eq_false g2
      simp only [ieq_dec, llen, decide_eq_false_iff_not] at g3
      rw [if_neg (by omega), if_neg (by omega)] at e0
      unfold RenewF
      rw [if_pos e0]
      rfl
theorem s_f23 (y : Policy) (i : Item) (u : Keep) (day : Int) (h : renLen y i u day = true) : orO (r_f23A y i u day) (orO (r_f23B y i u day) (r_f23E y i u day)) = some (.tu [.t tyItem (RenewF y i u day).1, .t tI (RenewF y i u day).2], []) := by
  rcases three (show fineLen y i = true from h) with ⟨a1, a2, a3⟩ | ⟨a0, a1, a2, a3⟩ | ⟨a0, b0, a1, a3⟩
  · unfold r_f23A
    rw [a1, br_true, show ine (ofA y i).2 0 = false from rfl, br_false]
    have := ren_tail (u := u) (day := day) a3 rfl
    unfold noItem at this
    rw [this]
    rfl
  · unfold r_f23A r_f23B
    rw [a0, a1, br_true, br_false, show ine (ofA y i).2 0 = false from rfl, br_false]
    have := ren_tail (u := u) (day := day) a3 rfl
    unfold noItem at this
    rw [this]
    rfl
  · have a2 := ofE_ne y i
    have a4 : renE y i u day = ofE y i := by unfold renE; rw [if_pos a3]
    have a5 : ¬ ofE y i = 0 := by simpa [ine] using a2
    unfold r_f23A r_f23B r_f23E
    rw [a0, b0, a1, br_true, br_false, a2, br_true]
    unfold RenewF
    rw [a4, if_neg a5]
    rfl
def sp_f23 : Ent := spec (.pr tyPolicy (.pr tyItem (.pr tyKeep (.pr tI .nil)))) (fun x => (renLen x.1 x.2.1 x.2.2.1 x.2.2.2.1)) (fun x => (.tu [(.t tyItem ((RenewF x.1 x.2.1 x.2.2.1 x.2.2.2.1).1)), (.t tI ((RenewF x.1 x.2.1 x.2.2.1 x.2.2.2.1).2))]))
theorem en_f23 : Entered Tryz.prog 23 := .inr ⟨by decide, _, Tryz.func23, by kernel_rfl, by kernel_rfl⟩
theorem ms_f23 : Meets Tryz.prog 23 (strip sp_f23) := meets_spec (meets_or mr_f23A (meets_or mr_f23B mr_f23E)) fun x hok => orF_pick (e_f23A x.1 x.2.1 x.2.2.1 x.2.2.2.1) (e_f23B x.1 x.2.1 x.2.2.1 x.2.2.2.1) (e_f23E x.1 x.2.1 x.2.2.1 x.2.2.2.1) (s_f23 x.1 x.2.1 x.2.2.1 x.2.2.2.1 hok)
end Go.Proofs.YtfehjdaielifiaaGreat.K
