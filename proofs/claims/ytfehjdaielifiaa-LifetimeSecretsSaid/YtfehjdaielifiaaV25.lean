/-
  lifetime: Renew.
-/
import Derived.Test.YtfehjdaielifiaaV21
import Derived.Test.YtfehjdaielifiaaB5
set_option linter.unusedSimpArgs false
set_option linter.unusedVariables false
namespace Go.Proofs.Ytfehjdaielifiaa.K
open Go.RowKit
def noItem : Item := (ByteArray.mk #[], (0, (0, (([] : List Link), (0, ())))))
def renE (y : Policy) (i : Item) (u : Keep) (day : Int) : Int := if fineB y i = false then ofE y i else if validF u = false then 7 else if day ≤ lastDay i ∨ 40000 < day then 13 else if i.2.2.2.1.length = 8 then 3 else 0
def moreL (i : Item) (u : Keep) (day : Int) : Item := (i.1, (i.2.1, (i.2.2.1, (i.2.2.2.1 ++ [(u, (day, ()))], (i.2.2.2.2.1, ())))))
def RenewF (y : Policy) (i : Item) (u : Keep) (day : Int) : Item × Int := if renE y i u day = 0 then (moreL i u day, 0) else (noItem, renE y i u day)
def renLen (y : Policy) (i : Item) (_u : Keep) (_day : Int) : Bool := fineLen y i
def dr_lifetime_Renew_A_0 : List DO := [(.mk (.mk (some 51) none (.m (.pu (.fa 3 (.t 5))))) []), (.mk (.mk (some 52) none (.m (.ld false 1 (.t 51)))) [0]), (.mk (.mk (some 53) none (.call 31 [(.t 52)])) [1]), (.mk (.mk (some 54) none (.m (.ld true 2 (.t 6)))) []), (.mk (.mk (some 55) none (.m (.pu (.mv (.t 3))))) []), (.mk (.mk (some 56) none (.m (.pu (.bd [(.v (.int .i64 0)), (.v (.int .i64 0)), (.v (.int .i64 0))] [(0, 2, (.t 54)), (2, 1, (.t 55))])))) [3, 4]), (.mk (.mk (some 57) none (.m (.bs 44 3 1 [(.v (.int .i64 0)), (.v (.int .i64 0)), (.v (.int .i64 0))] [(0, 3, (.t 56))]))) [5]), (.mk (.mk (some 58) none (.m (.app 44 3 24 (.t 53) (.t 57)))) [2, 6, 2]), (.mk (.mk (some 59) none (.m (.pu (.fa 3 (.t 5))))) [0, 1, 2, 3, 4, 5, 6, 7]), (.mk (.mk none none (.m (.st 1 (.t 59) (.t 58)))) [8, 7, 7, 0, 1, 2, 3, 4, 5, 6, 7])]
/-- cipherplan/lifetime.Renew -/
def tc_lifetime_Renew_A : TC := (.sq (.reg [(.mk (some 4) none (.m (.box (.t 0)))), (.mk (some 5) none (.m (.box (.t 1)))), (.mk (some 6) none (.m (.box (.t 2)))), (.mk (some 8) none (.m (.new [(.v (.string (ByteArray.mk #[]))), (.v (.int .i64 0)), (.v (.int .i64 0)), (.v (.slice none 0 0)), (.v (.int .i64 0))]))), (.mk (some 9) none (.m (.pu (.mv (.c (.v (.int .i64 0)))))))]) (.sq (.reg [(.mk (some 13) none (.m (.ld true 2 (.t 4)))), (.mk (some 14) none (.m (.ld true 5 (.t 5)))), (.mk (some 15) none (.call 24 [(.t 13), (.t 14)])), (.mk (some 12) none (.m (.pu (.mv (.t 15))))), (.mk (some 16) none (.m (.pu (.ext 0 (.t 12))))), (.mk (some 17) none (.m (.pu (.ext 1 (.t 12))))), (.mk (some 10) none (.m (.pu (.mv (.t 16))))), (.mk (some 11) none (.m (.pu (.mv (.t 17)))))]) (.sq (.bk 0 (.sq (.reg [(.mk (some 19) none (.m (.pu (.mv (.t 11))))), (.mk (some 20) none (.m (.pu (.bin false .neq (.t 19) (.c (.v (.int .i64 0))))))), (.mk (some 18) none (.m (.pu (.mv (.t 20)))))]) (.cd (.t 18) (.sq (.reg [(.mk (some 21) none (.m (.pu (.bd [(.v (.string (ByteArray.mk #[]))), (.v (.int .i64 0)), (.v (.int .i64 0)), (.v (.slice none 0 0)), (.v (.int .i64 0))] [])))), (.mk (some 22) none (.m (.pu (.mv (.t 11))))), (.mk none none (.m (.st 5 (.t 8) (.t 21)))), (.mk (some 9) none (.m (.pu (.mv (.t 22)))))]) .rt) (.sq (.reg [(.mk (some 24) none (.m (.ld true 2 (.t 6)))), (.mk (some 25) none (.call 30 [(.t 24)])), (.mk (some 26) none (.m (.pu (.nt (.t 25))))), (.mk (some 23) none (.m (.pu (.mv (.t 26)))))]) (.cd (.t 23) (.sq (.reg [(.mk (some 27) none (.m (.pu (.bd [(.v (.string (ByteArray.mk #[]))), (.v (.int .i64 0)), (.v (.int .i64 0)), (.v (.slice none 0 0)), (.v (.int .i64 0))] [])))), (.mk none none (.m (.st 5 (.t 8) (.t 27)))), (.mk (some 9) none (.m (.pu (.mv (.c (.v (.int .i64 7)))))))]) .rt) (.sq (.reg [(.mk (some 29) none (.m (.pu (.mv (.t 3))))), (.mk (some 30) none (.m (.pu (.fa 3 (.t 5))))), (.mk (some 31) none (.m (.ld false 1 (.t 30)))), (.mk (some 32) none (.m (.pu (.fa 3 (.t 5))))), (.mk (some 33) none (.m (.ld false 1 (.t 32)))), (.mk (some 34) none (.m (.pu (.len false (.t 33))))), (.mk (some 35) none (.m (.pu (.bin false .sub (.t 34) (.c (.v (.int .i64 1))))))), (.mk (some 36) none (.m (.pu (.ix 3 (.t 31) (.t 35))))), (.mk (some 37) none (.m (.pu (.fa 2 (.t 36))))), (.mk (some 38) none (.m (.ld false 1 (.t 37)))), (.mk (some 39) none (.m (.pu (.bin false .leq (.t 29) (.t 38))))), (.mk (some 40) none (.m (.pu (.mv (.t 39))))), (.mk (some 41) (some (40, false)) (.m (.pu (.mv (.t 3))))), (.mk (some 42) (some (40, false)) (.m (.pu (.bin false .gtr (.t 41) (.c (.v (.int .i64 40000))))))), (.mk (some 43) none (.m (.pu (.pick (.t 40) (.c (.v (.bool true))) (.t 42))))), (.mk (some 28) none (.m (.pu (.mv (.t 43)))))]) (.cd (.t 28) (.sq (.reg [(.mk (some 44) none (.m (.pu (.bd [(.v (.string (ByteArray.mk #[]))), (.v (.int .i64 0)), (.v (.int .i64 0)), (.v (.slice none 0 0)), (.v (.int .i64 0))] [])))), (.mk none none (.m (.st 5 (.t 8) (.t 44)))), (.mk (some 9) none (.m (.pu (.mv (.c (.v (.int .i64 13)))))))]) .rt) (.sq (.reg [(.mk (some 46) none (.m (.pu (.fa 3 (.t 5))))), (.mk (some 47) none (.m (.ld false 1 (.t 46)))), (.mk (some 48) none (.m (.pu (.len false (.t 47))))), (.mk (some 49) none (.m (.pu (.bin false .eql (.t 48) (.c (.v (.int .i64 8))))))), (.mk (some 45) none (.m (.pu (.mv (.t 49)))))]) (.cd (.t 45) (.sq (.reg [(.mk (some 50) none (.m (.pu (.bd [(.v (.string (ByteArray.mk #[]))), (.v (.int .i64 0)), (.v (.int .i64 0)), (.v (.slice none 0 0)), (.v (.int .i64 0))] [])))), (.mk none none (.m (.st 5 (.t 8) (.t 50)))), (.mk (some 9) none (.m (.pu (.mv (.c (.v (.int .i64 3)))))))]) .rt) .sk))))))))) (.sq (.dr dr_lifetime_Renew_A_0 [(0, [5, 53, 58, 5053, 10053, 15053]), (1, [5, 53, 58, 5053, 10053, 15053]), (2, [5, 8, 53, 58, 5053, 10053, 15053]), (3, [6]), (4, []), (5, []), (6, []), (7, [5, 8, 53, 58, 5053, 5058, 10053, 10058, 15053, 15058]), (8, [5, 53, 58, 5053, 10053, 15053]), (9, [5, 8, 53, 58, 5053, 10053, 15053])] (.of [0, 1, 3, 4, 5, 6, 2, 7, 8, 9])) (.sq (.reg [(.mk (some 60) none (.m (.ld true 5 (.t 5)))), (.mk none none (.m (.st 5 (.t 8) (.t 60)))), (.mk (some 9) none (.m (.pu (.mv (.c (.v (.int .i64 0)))))))]) .rt)))))
def rv_lifetime_Renew_A : List (RV × Option Ty) := [((.c 8 true 5), some tyItem), ((.t 9), some tI)]
def g_lifetime_Renew_A : G := ⟨TYs, [], 61, EL [(24, sp_lifetime_of_A), (30, sp_catalog_Valid), (31, sp_slices_Clone_api_Link_api_Link)], keeps, (fun _ _ => none), IL [], RL []⟩
def r_lifetime_Renew_A (p0 : Policy) (p1 : Item) (p2 : Keep) (p3 : Int) : Option (V × List VO) :=
  br ((ofOkA p0 p1))
    (br ((ine ((ofA p0 p1).2) 0))
      (some (.tu [(.t tyItem ((ByteArray.mk #[]), (0, (0, (([] : List Link), (0, ())))))), (.t tI ((ofA p0 p1).2))], []))
      (br ((!(validF p2)))
        (some (.tu [(.t tyItem ((ByteArray.mk #[]), (0, (0, (([] : List Link), (0, ())))))), (.t tI 7)], []))
        (br (cIx p1.2.2.2.1 (isub .i64 (llen p1.2.2.2.1) 1))
          (br ((ile p3 (((lgt tyLink p1.2.2.2.1 (Int.toNat (isub .i64 (llen p1.2.2.2.1) 1))).2).1)))
            (some (.tu [(.t tyItem ((ByteArray.mk #[]), (0, (0, (([] : List Link), (0, ())))))), (.t tI 13)], []))
            (br ((igt p3 40000))
              (some (.tu [(.t tyItem ((ByteArray.mk #[]), (0, (0, (([] : List Link), (0, ())))))), (.t tI 13)], []))
              (br ((ieq (llen p1.2.2.2.1) 8))
                (some (.tu [(.t tyItem ((ByteArray.mk #[]), (0, (0, (([] : List Link), (0, ())))))), (.t tI 3)], []))
                (br ((lenOk5 p1.2.2.2.1))
                  (br (cApp (cloneL p1.2.2.2.1) ([((p2.1, (p2.2.1, ())), (p3, ()))]) 24)
                    (some (.tu [(.t tyItem (p1.1, (p1.2.1, (p1.2.2.1, (((cloneL p1.2.2.2.1) ++ ([((p2.1, (p2.2.1, ())), (p3, ()))])), (p1.2.2.2.2.1, ())))))), (.t tI 0)], []))
                    (none))
                  (none)))))
          (none))))
    (none)
theorem e_lifetime_Renew_A (p0 : Policy) (p1 : Item) (p2 : Keep) (p3 : Int) : runF g_lifetime_Renew_A tc_lifetime_Renew_A rv_lifetime_Renew_A false [.t tyPolicy p0, .t tyItem p1, .t tyKeep p2, .t tI p3] [] = r_lifetime_Renew_A p0 p1 p2 p3 := by kernel_rfl
theorem ok_lifetime_Renew_A : Option.map (trC Try.prog) Try.f19.body = some tc_lifetime_Renew_A.er := by kernel_rfl
theorem rok_lifetime_Renew_A : trVs Try.prog Try.f19.results.toList = some (rv_lifetime_Renew_A.map Prod.fst) := by kernel_rfl
theorem gk_lifetime_Renew_A : GOk Try.prog g_lifetime_Renew_A := gok_of _ (by
  intro p hp
  simp only [List.mem_cons, List.not_mem_nil, or_false] at hp
  rcases hp with rfl | rfl | rfl
  · exact ⟨en_lifetime_of_A, ms_lifetime_of_A⟩
  · exact ⟨en_catalog_Valid, ms_catalog_Valid⟩
  · exact ⟨en_slices_Clone_api_Link_api_Link, ms_slices_Clone_api_Link_api_Link⟩)
theorem lk_lifetime_Renew_A : tc_lifetime_Renew_A.lok g_lifetime_Renew_A := by repeat (first | exact trivial | refine ⟨?_, ?_⟩)
theorem mr_lifetime_Renew_A : Meets Try.prog 19 (runF g_lifetime_Renew_A tc_lifetime_Renew_A rv_lifetime_Renew_A false) := by
  obtain ⟨c, hc, hi⟩ := Option.map_eq_some_iff.1 ok_lifetime_Renew_A
  exact meets_of (by decide) Try.func19 hc hi Try.ntmps19 rok_lifetime_Renew_A gk_lifetime_Renew_A lk_lifetime_Renew_A mixed
def dr_lifetime_Renew_B_0 : List DO := [(.mk (.mk (some 51) none (.m (.pu (.fa 3 (.t 5))))) []), (.mk (.mk (some 52) none (.m (.ld false 1 (.t 51)))) [0]), (.mk (.mk (some 53) none (.call 31 [(.t 52)])) [1]), (.mk (.mk (some 54) none (.m (.ld true 2 (.t 6)))) []), (.mk (.mk (some 55) none (.m (.pu (.mv (.t 3))))) []), (.mk (.mk (some 56) none (.m (.pu (.bd [(.v (.int .i64 0)), (.v (.int .i64 0)), (.v (.int .i64 0))] [(0, 2, (.t 54)), (2, 1, (.t 55))])))) [3, 4]), (.mk (.mk (some 57) none (.m (.bs 44 3 1 [(.v (.int .i64 0)), (.v (.int .i64 0)), (.v (.int .i64 0))] [(0, 3, (.t 56))]))) [5]), (.mk (.mk (some 58) none (.m (.app 44 3 24 (.t 53) (.t 57)))) [2, 6, 2]), (.mk (.mk (some 59) none (.m (.pu (.fa 3 (.t 5))))) [0, 1, 2, 3, 4, 5, 6, 7]), (.mk (.mk none none (.m (.st 1 (.t 59) (.t 58)))) [8, 7, 7, 0, 1, 2, 3, 4, 5, 6, 7])]
/-- cipherplan/lifetime.Renew -/
def tc_lifetime_Renew_B : TC := (.sq (.reg [(.mk (some 4) none (.m (.box (.t 0)))), (.mk (some 5) none (.m (.box (.t 1)))), (.mk (some 6) none (.m (.box (.t 2)))), (.mk (some 8) none (.m (.new [(.v (.string (ByteArray.mk #[]))), (.v (.int .i64 0)), (.v (.int .i64 0)), (.v (.slice none 0 0)), (.v (.int .i64 0))]))), (.mk (some 9) none (.m (.pu (.mv (.c (.v (.int .i64 0)))))))]) (.sq (.reg [(.mk (some 13) none (.m (.ld true 2 (.t 4)))), (.mk (some 14) none (.m (.ld true 5 (.t 5)))), (.mk (some 15) none (.call 24 [(.t 13), (.t 14)])), (.mk (some 12) none (.m (.pu (.mv (.t 15))))), (.mk (some 16) none (.m (.pu (.ext 0 (.t 12))))), (.mk (some 17) none (.m (.pu (.ext 1 (.t 12))))), (.mk (some 10) none (.m (.pu (.mv (.t 16))))), (.mk (some 11) none (.m (.pu (.mv (.t 17)))))]) (.sq (.bk 0 (.sq (.reg [(.mk (some 19) none (.m (.pu (.mv (.t 11))))), (.mk (some 20) none (.m (.pu (.bin false .neq (.t 19) (.c (.v (.int .i64 0))))))), (.mk (some 18) none (.m (.pu (.mv (.t 20)))))]) (.cd (.t 18) (.sq (.reg [(.mk (some 21) none (.m (.pu (.bd [(.v (.string (ByteArray.mk #[]))), (.v (.int .i64 0)), (.v (.int .i64 0)), (.v (.slice none 0 0)), (.v (.int .i64 0))] [])))), (.mk (some 22) none (.m (.pu (.mv (.t 11))))), (.mk none none (.m (.st 5 (.t 8) (.t 21)))), (.mk (some 9) none (.m (.pu (.mv (.t 22)))))]) .rt) (.sq (.reg [(.mk (some 24) none (.m (.ld true 2 (.t 6)))), (.mk (some 25) none (.call 30 [(.t 24)])), (.mk (some 26) none (.m (.pu (.nt (.t 25))))), (.mk (some 23) none (.m (.pu (.mv (.t 26)))))]) (.cd (.t 23) (.sq (.reg [(.mk (some 27) none (.m (.pu (.bd [(.v (.string (ByteArray.mk #[]))), (.v (.int .i64 0)), (.v (.int .i64 0)), (.v (.slice none 0 0)), (.v (.int .i64 0))] [])))), (.mk none none (.m (.st 5 (.t 8) (.t 27)))), (.mk (some 9) none (.m (.pu (.mv (.c (.v (.int .i64 7)))))))]) .rt) (.sq (.reg [(.mk (some 29) none (.m (.pu (.mv (.t 3))))), (.mk (some 30) none (.m (.pu (.fa 3 (.t 5))))), (.mk (some 31) none (.m (.ld false 1 (.t 30)))), (.mk (some 32) none (.m (.pu (.fa 3 (.t 5))))), (.mk (some 33) none (.m (.ld false 1 (.t 32)))), (.mk (some 34) none (.m (.pu (.len false (.t 33))))), (.mk (some 35) none (.m (.pu (.bin false .sub (.t 34) (.c (.v (.int .i64 1))))))), (.mk (some 36) none (.m (.pu (.ix 3 (.t 31) (.t 35))))), (.mk (some 37) none (.m (.pu (.fa 2 (.t 36))))), (.mk (some 38) none (.m (.ld false 1 (.t 37)))), (.mk (some 39) none (.m (.pu (.bin false .leq (.t 29) (.t 38))))), (.mk (some 40) none (.m (.pu (.mv (.t 39))))), (.mk (some 41) (some (40, false)) (.m (.pu (.mv (.t 3))))), (.mk (some 42) (some (40, false)) (.m (.pu (.bin false .gtr (.t 41) (.c (.v (.int .i64 40000))))))), (.mk (some 43) none (.m (.pu (.pick (.t 40) (.c (.v (.bool true))) (.t 42))))), (.mk (some 28) none (.m (.pu (.mv (.t 43)))))]) (.cd (.t 28) (.sq (.reg [(.mk (some 44) none (.m (.pu (.bd [(.v (.string (ByteArray.mk #[]))), (.v (.int .i64 0)), (.v (.int .i64 0)), (.v (.slice none 0 0)), (.v (.int .i64 0))] [])))), (.mk none none (.m (.st 5 (.t 8) (.t 44)))), (.mk (some 9) none (.m (.pu (.mv (.c (.v (.int .i64 13)))))))]) .rt) (.sq (.reg [(.mk (some 46) none (.m (.pu (.fa 3 (.t 5))))), (.mk (some 47) none (.m (.ld false 1 (.t 46)))), (.mk (some 48) none (.m (.pu (.len false (.t 47))))), (.mk (some 49) none (.m (.pu (.bin false .eql (.t 48) (.c (.v (.int .i64 8))))))), (.mk (some 45) none (.m (.pu (.mv (.t 49)))))]) (.cd (.t 45) (.sq (.reg [(.mk (some 50) none (.m (.pu (.bd [(.v (.string (ByteArray.mk #[]))), (.v (.int .i64 0)), (.v (.int .i64 0)), (.v (.slice none 0 0)), (.v (.int .i64 0))] [])))), (.mk none none (.m (.st 5 (.t 8) (.t 50)))), (.mk (some 9) none (.m (.pu (.mv (.c (.v (.int .i64 3)))))))]) .rt) .sk))))))))) (.sq (.dr dr_lifetime_Renew_B_0 [(0, [5, 53, 58, 5053, 10053, 15053]), (1, [5, 53, 58, 5053, 10053, 15053]), (2, [5, 8, 53, 58, 5053, 10053, 15053]), (3, [6]), (4, []), (5, []), (6, []), (7, [5, 8, 53, 58, 5053, 5058, 10053, 10058, 15053, 15058]), (8, [5, 53, 58, 5053, 10053, 15053]), (9, [5, 8, 53, 58, 5053, 10053, 15053])] (.of [0, 1, 3, 4, 5, 6, 2, 7, 8, 9])) (.sq (.reg [(.mk (some 60) none (.m (.ld true 5 (.t 5)))), (.mk none none (.m (.st 5 (.t 8) (.t 60)))), (.mk (some 9) none (.m (.pu (.mv (.c (.v (.int .i64 0)))))))]) .rt)))))
def rv_lifetime_Renew_B : List (RV × Option Ty) := [((.c 8 true 5), some tyItem), ((.t 9), some tI)]
def g_lifetime_Renew_B : G := ⟨TYs, [], 61, EL [(24, sp_lifetime_of_B), (30, sp_catalog_Valid), (31, sp_slices_Clone_api_Link_api_Link)], keeps, (fun _ _ => none), IL [], RL []⟩
def r_lifetime_Renew_B (p0 : Policy) (p1 : Item) (p2 : Keep) (p3 : Int) : Option (V × List VO) :=
  br ((ofOkB p0 p1))
    (br ((ine ((ofA p0 p1).2) 0))
      (some (.tu [(.t tyItem ((ByteArray.mk #[]), (0, (0, (([] : List Link), (0, ())))))), (.t tI ((ofA p0 p1).2))], []))
      (br ((!(validF p2)))
        (some (.tu [(.t tyItem ((ByteArray.mk #[]), (0, (0, (([] : List Link), (0, ())))))), (.t tI 7)], []))
        (br (cIx p1.2.2.2.1 (isub .i64 (llen p1.2.2.2.1) 1))
          (br ((ile p3 (((lgt tyLink p1.2.2.2.1 (Int.toNat (isub .i64 (llen p1.2.2.2.1) 1))).2).1)))
            (some (.tu [(.t tyItem ((ByteArray.mk #[]), (0, (0, (([] : List Link), (0, ())))))), (.t tI 13)], []))
            (br ((igt p3 40000))
              (some (.tu [(.t tyItem ((ByteArray.mk #[]), (0, (0, (([] : List Link), (0, ())))))), (.t tI 13)], []))
              (br ((ieq (llen p1.2.2.2.1) 8))
                (some (.tu [(.t tyItem ((ByteArray.mk #[]), (0, (0, (([] : List Link), (0, ())))))), (.t tI 3)], []))
                (br ((lenOk5 p1.2.2.2.1))
                  (br (cApp (cloneL p1.2.2.2.1) ([((p2.1, (p2.2.1, ())), (p3, ()))]) 24)
                    (some (.tu [(.t tyItem (p1.1, (p1.2.1, (p1.2.2.1, (((cloneL p1.2.2.2.1) ++ ([((p2.1, (p2.2.1, ())), (p3, ()))])), (p1.2.2.2.2.1, ())))))), (.t tI 0)], []))
                    (none))
                  (none)))))
          (none))))
    (none)
theorem e_lifetime_Renew_B (p0 : Policy) (p1 : Item) (p2 : Keep) (p3 : Int) : runF g_lifetime_Renew_B tc_lifetime_Renew_B rv_lifetime_Renew_B false [.t tyPolicy p0, .t tyItem p1, .t tyKeep p2, .t tI p3] [] = r_lifetime_Renew_B p0 p1 p2 p3 := by kernel_rfl
theorem ok_lifetime_Renew_B : Option.map (trC Try.prog) Try.f19.body = some tc_lifetime_Renew_B.er := by kernel_rfl
theorem rok_lifetime_Renew_B : trVs Try.prog Try.f19.results.toList = some (rv_lifetime_Renew_B.map Prod.fst) := by kernel_rfl
theorem gk_lifetime_Renew_B : GOk Try.prog g_lifetime_Renew_B := gok_of _ (by
  intro p hp
  simp only [List.mem_cons, List.not_mem_nil, or_false] at hp
  rcases hp with rfl | rfl | rfl
  · exact ⟨en_lifetime_of_B, ms_lifetime_of_B⟩
  · exact ⟨en_catalog_Valid, ms_catalog_Valid⟩
  · exact ⟨en_slices_Clone_api_Link_api_Link, ms_slices_Clone_api_Link_api_Link⟩)
theorem lk_lifetime_Renew_B : tc_lifetime_Renew_B.lok g_lifetime_Renew_B := by repeat (first | exact trivial | refine ⟨?_, ?_⟩)
theorem mr_lifetime_Renew_B : Meets Try.prog 19 (runF g_lifetime_Renew_B tc_lifetime_Renew_B rv_lifetime_Renew_B false) := by
  obtain ⟨c, hc, hi⟩ := Option.map_eq_some_iff.1 ok_lifetime_Renew_B
  exact meets_of (by decide) Try.func19 hc hi Try.ntmps19 rok_lifetime_Renew_B gk_lifetime_Renew_B lk_lifetime_Renew_B mixed
def dr_lifetime_Renew_E_0 : List DO := [(.mk (.mk (some 51) none (.m (.pu (.fa 3 (.t 5))))) []), (.mk (.mk (some 52) none (.m (.ld false 1 (.t 51)))) [0]), (.mk (.mk (some 53) none (.call 31 [(.t 52)])) [1]), (.mk (.mk (some 54) none (.m (.ld true 2 (.t 6)))) []), (.mk (.mk (some 55) none (.m (.pu (.mv (.t 3))))) []), (.mk (.mk (some 56) none (.m (.pu (.bd [(.v (.int .i64 0)), (.v (.int .i64 0)), (.v (.int .i64 0))] [(0, 2, (.t 54)), (2, 1, (.t 55))])))) [3, 4]), (.mk (.mk (some 57) none (.m (.bs 44 3 1 [(.v (.int .i64 0)), (.v (.int .i64 0)), (.v (.int .i64 0))] [(0, 3, (.t 56))]))) [5]), (.mk (.mk (some 58) none (.m (.app 44 3 24 (.t 53) (.t 57)))) [2, 6, 2]), (.mk (.mk (some 59) none (.m (.pu (.fa 3 (.t 5))))) [0, 1, 2, 3, 4, 5, 6, 7]), (.mk (.mk none none (.m (.st 1 (.t 59) (.t 58)))) [8, 7, 7, 0, 1, 2, 3, 4, 5, 6, 7])]
/-- cipherplan/lifetime.Renew -/
def tc_lifetime_Renew_E : TC := (.sq (.reg [(.mk (some 4) none (.m (.box (.t 0)))), (.mk (some 5) none (.m (.box (.t 1)))), (.mk (some 6) none (.m (.box (.t 2)))), (.mk (some 8) none (.m (.new [(.v (.string (ByteArray.mk #[]))), (.v (.int .i64 0)), (.v (.int .i64 0)), (.v (.slice none 0 0)), (.v (.int .i64 0))]))), (.mk (some 9) none (.m (.pu (.mv (.c (.v (.int .i64 0)))))))]) (.sq (.reg [(.mk (some 13) none (.m (.ld true 2 (.t 4)))), (.mk (some 14) none (.m (.ld true 5 (.t 5)))), (.mk (some 15) none (.call 24 [(.t 13), (.t 14)])), (.mk (some 12) none (.m (.pu (.mv (.t 15))))), (.mk (some 16) none (.m (.pu (.ext 0 (.t 12))))), (.mk (some 17) none (.m (.pu (.ext 1 (.t 12))))), (.mk (some 10) none (.m (.pu (.mv (.t 16))))), (.mk (some 11) none (.m (.pu (.mv (.t 17)))))]) (.sq (.bk 0 (.sq (.reg [(.mk (some 19) none (.m (.pu (.mv (.t 11))))), (.mk (some 20) none (.m (.pu (.bin false .neq (.t 19) (.c (.v (.int .i64 0))))))), (.mk (some 18) none (.m (.pu (.mv (.t 20)))))]) (.cd (.t 18) (.sq (.reg [(.mk (some 21) none (.m (.pu (.bd [(.v (.string (ByteArray.mk #[]))), (.v (.int .i64 0)), (.v (.int .i64 0)), (.v (.slice none 0 0)), (.v (.int .i64 0))] [])))), (.mk (some 22) none (.m (.pu (.mv (.t 11))))), (.mk none none (.m (.st 5 (.t 8) (.t 21)))), (.mk (some 9) none (.m (.pu (.mv (.t 22)))))]) .rt) (.sq (.reg [(.mk (some 24) none (.m (.ld true 2 (.t 6)))), (.mk (some 25) none (.call 30 [(.t 24)])), (.mk (some 26) none (.m (.pu (.nt (.t 25))))), (.mk (some 23) none (.m (.pu (.mv (.t 26)))))]) (.cd (.t 23) (.sq (.reg [(.mk (some 27) none (.m (.pu (.bd [(.v (.string (ByteArray.mk #[]))), (.v (.int .i64 0)), (.v (.int .i64 0)), (.v (.slice none 0 0)), (.v (.int .i64 0))] [])))), (.mk none none (.m (.st 5 (.t 8) (.t 27)))), (.mk (some 9) none (.m (.pu (.mv (.c (.v (.int .i64 7)))))))]) .rt) (.sq (.reg [(.mk (some 29) none (.m (.pu (.mv (.t 3))))), (.mk (some 30) none (.m (.pu (.fa 3 (.t 5))))), (.mk (some 31) none (.m (.ld false 1 (.t 30)))), (.mk (some 32) none (.m (.pu (.fa 3 (.t 5))))), (.mk (some 33) none (.m (.ld false 1 (.t 32)))), (.mk (some 34) none (.m (.pu (.len false (.t 33))))), (.mk (some 35) none (.m (.pu (.bin false .sub (.t 34) (.c (.v (.int .i64 1))))))), (.mk (some 36) none (.m (.pu (.ix 3 (.t 31) (.t 35))))), (.mk (some 37) none (.m (.pu (.fa 2 (.t 36))))), (.mk (some 38) none (.m (.ld false 1 (.t 37)))), (.mk (some 39) none (.m (.pu (.bin false .leq (.t 29) (.t 38))))), (.mk (some 40) none (.m (.pu (.mv (.t 39))))), (.mk (some 41) (some (40, false)) (.m (.pu (.mv (.t 3))))), (.mk (some 42) (some (40, false)) (.m (.pu (.bin false .gtr (.t 41) (.c (.v (.int .i64 40000))))))), (.mk (some 43) none (.m (.pu (.pick (.t 40) (.c (.v (.bool true))) (.t 42))))), (.mk (some 28) none (.m (.pu (.mv (.t 43)))))]) (.cd (.t 28) (.sq (.reg [(.mk (some 44) none (.m (.pu (.bd [(.v (.string (ByteArray.mk #[]))), (.v (.int .i64 0)), (.v (.int .i64 0)), (.v (.slice none 0 0)), (.v (.int .i64 0))] [])))), (.mk none none (.m (.st 5 (.t 8) (.t 44)))), (.mk (some 9) none (.m (.pu (.mv (.c (.v (.int .i64 13)))))))]) .rt) (.sq (.reg [(.mk (some 46) none (.m (.pu (.fa 3 (.t 5))))), (.mk (some 47) none (.m (.ld false 1 (.t 46)))), (.mk (some 48) none (.m (.pu (.len false (.t 47))))), (.mk (some 49) none (.m (.pu (.bin false .eql (.t 48) (.c (.v (.int .i64 8))))))), (.mk (some 45) none (.m (.pu (.mv (.t 49)))))]) (.cd (.t 45) (.sq (.reg [(.mk (some 50) none (.m (.pu (.bd [(.v (.string (ByteArray.mk #[]))), (.v (.int .i64 0)), (.v (.int .i64 0)), (.v (.slice none 0 0)), (.v (.int .i64 0))] [])))), (.mk none none (.m (.st 5 (.t 8) (.t 50)))), (.mk (some 9) none (.m (.pu (.mv (.c (.v (.int .i64 3)))))))]) .rt) .sk))))))))) (.sq (.dr dr_lifetime_Renew_E_0 [(0, [5, 53, 58, 5053, 10053, 15053]), (1, [5, 53, 58, 5053, 10053, 15053]), (2, [5, 8, 53, 58, 5053, 10053, 15053]), (3, [6]), (4, []), (5, []), (6, []), (7, [5, 8, 53, 58, 5053, 5058, 10053, 10058, 15053, 15058]), (8, [5, 53, 58, 5053, 10053, 15053]), (9, [5, 8, 53, 58, 5053, 10053, 15053])] (.of [0, 1, 3, 4, 5, 6, 2, 7, 8, 9])) (.sq (.reg [(.mk (some 60) none (.m (.ld true 5 (.t 5)))), (.mk none none (.m (.st 5 (.t 8) (.t 60)))), (.mk (some 9) none (.m (.pu (.mv (.c (.v (.int .i64 0)))))))]) .rt)))))
def rv_lifetime_Renew_E : List (RV × Option Ty) := [((.c 8 true 5), some tyItem), ((.t 9), some tI)]
def g_lifetime_Renew_E : G := ⟨TYs, [], 61, EL [(24, sp_lifetime_of_E), (30, sp_catalog_Valid), (31, sp_slices_Clone_api_Link_api_Link)], keeps, (fun _ _ => none), IL [], RL []⟩
def r_lifetime_Renew_E (p0 : Policy) (p1 : Item) (p2 : Keep) (p3 : Int) : Option (V × List VO) :=
  br ((ofOkE p0 p1))
    (br ((ine (ofE p0 p1) 0))
      (some (.tu [(.t tyItem ((ByteArray.mk #[]), (0, (0, (([] : List Link), (0, ())))))), (.t tI (ofE p0 p1))], []))
      (br ((!(validF p2)))
        (some (.tu [(.t tyItem ((ByteArray.mk #[]), (0, (0, (([] : List Link), (0, ())))))), (.t tI 7)], []))
        (br (cIx p1.2.2.2.1 (isub .i64 (llen p1.2.2.2.1) 1))
          (br ((ile p3 (((lgt tyLink p1.2.2.2.1 (Int.toNat (isub .i64 (llen p1.2.2.2.1) 1))).2).1)))
            (some (.tu [(.t tyItem ((ByteArray.mk #[]), (0, (0, (([] : List Link), (0, ())))))), (.t tI 13)], []))
            (br ((igt p3 40000))
              (some (.tu [(.t tyItem ((ByteArray.mk #[]), (0, (0, (([] : List Link), (0, ())))))), (.t tI 13)], []))
              (br ((ieq (llen p1.2.2.2.1) 8))
                (some (.tu [(.t tyItem ((ByteArray.mk #[]), (0, (0, (([] : List Link), (0, ())))))), (.t tI 3)], []))
                (br ((lenOk5 p1.2.2.2.1))
                  (br (cApp (cloneL p1.2.2.2.1) ([((p2.1, (p2.2.1, ())), (p3, ()))]) 24)
                    (some (.tu [(.t tyItem (p1.1, (p1.2.1, (p1.2.2.1, (((cloneL p1.2.2.2.1) ++ ([((p2.1, (p2.2.1, ())), (p3, ()))])), (p1.2.2.2.2.1, ())))))), (.t tI 0)], []))
                    (none))
                  (none)))))
          (none))))
    (none)
theorem e_lifetime_Renew_E (p0 : Policy) (p1 : Item) (p2 : Keep) (p3 : Int) : runF g_lifetime_Renew_E tc_lifetime_Renew_E rv_lifetime_Renew_E false [.t tyPolicy p0, .t tyItem p1, .t tyKeep p2, .t tI p3] [] = r_lifetime_Renew_E p0 p1 p2 p3 := by kernel_rfl
theorem ok_lifetime_Renew_E : Option.map (trC Try.prog) Try.f19.body = some tc_lifetime_Renew_E.er := by kernel_rfl
theorem rok_lifetime_Renew_E : trVs Try.prog Try.f19.results.toList = some (rv_lifetime_Renew_E.map Prod.fst) := by kernel_rfl
theorem gk_lifetime_Renew_E : GOk Try.prog g_lifetime_Renew_E := gok_of _ (by
  intro p hp
  simp only [List.mem_cons, List.not_mem_nil, or_false] at hp
  rcases hp with rfl | rfl | rfl
  · exact ⟨en_lifetime_of_E, ms_lifetime_of_E⟩
  · exact ⟨en_catalog_Valid, ms_catalog_Valid⟩
  · exact ⟨en_slices_Clone_api_Link_api_Link, ms_slices_Clone_api_Link_api_Link⟩)
theorem lk_lifetime_Renew_E : tc_lifetime_Renew_E.lok g_lifetime_Renew_E := by repeat (first | exact trivial | refine ⟨?_, ?_⟩)
theorem mr_lifetime_Renew_E : Meets Try.prog 19 (runF g_lifetime_Renew_E tc_lifetime_Renew_E rv_lifetime_Renew_E false) := by
  obtain ⟨c, hc, hi⟩ := Option.map_eq_some_iff.1 ok_lifetime_Renew_E
  exact meets_of (by decide) Try.func19 hc hi Try.ntmps19 rok_lifetime_Renew_E gk_lifetime_Renew_E lk_lifetime_Renew_E mixed
theorem ren_tail {y : Policy} {i : Item} {u : Keep} {day : Int} (h : fineB y i = true) (a5 : ofE y i = ofE y i) :
    br (!(validF u)) (some (V.tu [(.t tyItem noItem), (.t tI 7)], [])) (br (cIx i.2.2.2.1 (isub .i64 (llen i.2.2.2.1) 1)) (br (ile day (lgt tyLink i.2.2.2.1 (Int.toNat (isub .i64 (llen i.2.2.2.1) 1))).2.1) (some (.tu [(.t tyItem noItem), (.t tI 13)], ([] : List VO))) (br (igt day 40000) (some (.tu [(.t tyItem noItem), (.t tI 13)], [])) (br (ieq (llen i.2.2.2.1) 8) (some (.tu [(.t tyItem noItem), (.t tI 3)], [])) (br (lenOk5 i.2.2.2.1) (br (cApp (cloneL i.2.2.2.1) ([((u.1, (u.2.1, ())), (day, ()))]) 24) (some (.tu [(.t tyItem (i.1, (i.2.1, (i.2.2.1, (((cloneL i.2.2.2.1) ++ ([((u.1, (u.2.1, ())), (day, ()))])), (i.2.2.2.2.1, ())))))), (.t tI 0)], [])) none) none)))) none) = some (.tu [.t tyItem (RenewF y i u day).1, .t tI (RenewF y i u day).2], []) := by
  obtain ⟨_, _, _, e7, e8⟩ := fine_lens h
  have hf := h
  simp only [fineB, Bool.and_eq_true] at hf
  have hl := (itemOk_iff.1 hf.2).2.2.2.1
  have c1 : lenOk5 i.2.2.2.1 = true := decide_eq_true (by omega)
  have c2 : cApp (cloneL i.2.2.2.1) ([((u.1, (u.2.1, ())), (day, ()))]) 24 = true := cApp_ok (by simp [cloneL]; omega) (by omega)
  rw [e7, e8, c1, c2]
  simp only [br_true, Int.toNat_natCast]
  have hd : (lgt tyLink i.2.2.2.1 (i.2.2.2.1.length - 1)).2.1 = lastDay i := rfl
  rw [hd]
  have e0 : renE y i u day = if validF u = false then 7 else if day ≤ lastDay i ∨ 40000 < day then 13 else if i.2.2.2.1.length = 8 then 3 else 0 := by
    unfold renE
    rw [if_neg (show ¬ fineB y i = false by rw [h]; simp)]
  have fin : ∀ n, ¬ n = 0 → renE y i u day = n → some (V.tu [(.t tyItem noItem), (.t tI n)], ([] : List VO)) = some (.tu [.t tyItem (RenewF y i u day).1, .t tI (RenewF y i u day).2], []) := fun n hn e => by
    unfold RenewF
    rw [e, if_neg hn]
  cases hv : validF u with
  | false =>
    rw [hv, if_pos rfl] at e0
    exact fin 7 (by omega) e0
  | true =>
    rw [hv, if_neg (show ¬ true = false by simp)] at e0
    rw [Bool.not_true, br_false]
    refine br_intro (fun g => ?_) (fun g1 => br_intro (fun g => ?_) (fun g2 => br_intro (fun g => ?_) (fun g3 => ?_)))
    · rw [if_pos (.inl (of_decide_eq_true g))] at e0
      exact fin 13 (by omega) e0
    · rw [if_pos (.inr (of_decide_eq_true g))] at e0
      exact fin 13 (by omega) e0
    · have g1 := of_decide_eq_false g1
      have g2 := of_decide_eq_false g2
      simp only [ieq_dec, llen, decide_eq_true_eq] at g
      rw [if_neg (by omega), if_pos (by omega)] at e0
      exact fin 3 (by omega) e0
    · have g1 := of_decide_eq_false g1
      have g2 := of_decide_eq_false g2
      simp only [ieq_dec, llen, decide_eq_false_iff_not] at g3
      rw [if_neg (by omega), if_neg (by omega)] at e0
      unfold RenewF
      rw [if_pos e0]
      rfl
theorem s_lifetime_Renew (y : Policy) (i : Item) (u : Keep) (day : Int) (h : renLen y i u day = true) : orO (r_lifetime_Renew_A y i u day) (orO (r_lifetime_Renew_B y i u day) (r_lifetime_Renew_E y i u day)) = some (.tu [.t tyItem (RenewF y i u day).1, .t tI (RenewF y i u day).2], []) := by
  rcases three (show fineLen y i = true from h) with ⟨a1, a2, a3⟩ | ⟨a0, a1, a2, a3⟩ | ⟨a0, b0, a1, a3⟩
  · unfold r_lifetime_Renew_A
    rw [a1, br_true, show ine (ofA y i).2 0 = false from rfl, br_false]
    have := ren_tail (u := u) (day := day) a3 rfl
    unfold noItem at this
    rw [this]
    rfl
  · unfold r_lifetime_Renew_A r_lifetime_Renew_B
    rw [a0, a1, br_true, br_false, show ine (ofA y i).2 0 = false from rfl, br_false]
    have := ren_tail (u := u) (day := day) a3 rfl
    unfold noItem at this
    rw [this]
    rfl
  · have a2 := ofE_ne y i
    have a4 : renE y i u day = ofE y i := by unfold renE; rw [if_pos a3]
    have a5 : ¬ ofE y i = 0 := by simpa [ine] using a2
    unfold r_lifetime_Renew_A r_lifetime_Renew_B r_lifetime_Renew_E
    rw [a0, b0, a1, br_true, br_false, a2, br_true]
    unfold RenewF
    rw [a4, if_neg a5]
    rfl
def sp_lifetime_Renew : Ent := spec (.pr tyPolicy (.pr tyItem (.pr tyKeep (.pr tI .nil)))) (fun x => (renLen x.1 x.2.1 x.2.2.1 x.2.2.2.1)) (fun x => (.tu [(.t tyItem ((RenewF x.1 x.2.1 x.2.2.1 x.2.2.2.1).1)), (.t tI ((RenewF x.1 x.2.1 x.2.2.1 x.2.2.2.1).2))]))
theorem en_lifetime_Renew : Entered Try.prog 19 := .inr ⟨by decide, _, Try.func19, by kernel_rfl, by kernel_rfl⟩
theorem ms_lifetime_Renew : Meets Try.prog 19 (strip sp_lifetime_Renew) := meets_spec (meets_or mr_lifetime_Renew_A (meets_or mr_lifetime_Renew_B mr_lifetime_Renew_E)) fun x hok => orF_pick (e_lifetime_Renew_A x.1 x.2.1 x.2.2.1 x.2.2.2.1) (e_lifetime_Renew_B x.1 x.2.1 x.2.2.1 x.2.2.2.1) (e_lifetime_Renew_E x.1 x.2.1 x.2.2.1 x.2.2.2.1) (s_lifetime_Renew x.1 x.2.1 x.2.2.1 x.2.2.2.1 hok)
end Go.Proofs.Ytfehjdaielifiaa.K
