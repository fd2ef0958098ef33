/-
 catalog: which uses are valid.
-/
import Derived.Test.YtfehjdaielifiaaGreatV1
set_option linter.unusedSimpArgs false
set_option linter.unusedVariables false
namespace Go.Proofs.YtfehjdaielifiaaGreat.K
open Go.RowKit
def tc_f111 : TC := (.sq (.reg [(oM 0 (.new [(.v (.string (ByteArray.mk #[]))), (.v (.int .i64 0)), (.v (.int .i64 0)), (.v (.slice none 0 0)), (.v (.slice none 0 0)), (.v (.string (ByteArray.mk #[]))), (.v (.int .i64 0)), (.v (.int .i64 0)), (.v (.slice none 0 0)), (.v (.slice none 0 0)), (.v (.string (ByteArray.mk #[]))), (.v (.int .i64 0)), (.v (.int .i64 0)), (.v (.slice none 0 0)), (.v (.slice none 0 0)), (.v (.string (ByteArray.mk #[]))), (.v (.int .i64 0)), (.v (.int .i64 0)), (.v (.slice none 0 0)), (.v (.slice none 0 0)), (.v (.string (ByteArray.mk #[]))), (.v (.int .i64 0)), (.v (.int .i64 0)), (.v (.slice none 0 0)), (.v (.slice none 0 0)), (.v (.string (ByteArray.mk #[]))), (.v (.int .i64 0)), (.v (.int .i64 0)), (.v (.slice none 0 0)), (.v (.slice none 0 0)), (.v (.string (ByteArray.mk #[]))), (.v (.int .i64 0)), (.v (.int .i64 0)), (.v (.slice none 0 0)), (.v (.slice none 0 0)), (.v (.string (ByteArray.mk #[]))), (.v (.int .i64 0)), (.v (.int .i64 0)), (.v (.slice none 0 0)), (.v (.slice none 0 0)), (.v (.string (ByteArray.mk #[]))), (.v (.int .i64 0)), (.v (.int .i64 0)), (.v (.slice none 0 0)), (.v (.slice none 0 0)), (.v (.string (ByteArray.mk #[]))), (.v (.int .i64 0)), (.v (.int .i64 0)), (.v (.slice none 0 0)), (.v (.slice none 0 0)), (.v (.string (ByteArray.mk #[]))), (.v (.int .i64 0)), (.v (.int .i64 0)), (.v (.slice none 0 0)), (.v (.slice none 0 0)), (.v (.string (ByteArray.mk #[]))), (.v (.int .i64 0)), (.v (.int .i64 0)), (.v (.slice none 0 0)), (.v (.slice none 0 0)), (.v (.string (ByteArray.mk #[]))), (.v (.int .i64 0)), (.v (.int .i64 0)), (.v (.slice none 0 0)), (.v (.slice none 0 0)), (.v (.string (ByteArray.mk #[]))), (.v (.int .i64 0)), (.v (.int .i64 0)), (.v (.slice none 0 0)), (.v (.slice none 0 0)), (.v (.string (ByteArray.mk #[]))), (.v (.int .i64 0)), (.v (.int .i64 0)), (.v (.slice none 0 0)), (.v (.slice none 0 0)), (.v (.string (ByteArray.mk #[]))), (.v (.int .i64 0)), (.v (.int .i64 0)), (.v (.slice none 0 0)), (.v (.slice none 0 0)), (.v (.string (ByteArray.mk #[]))), (.v (.int .i64 0)), (.v (.int .i64 0)), (.v (.slice none 0 0)), (.v (.slice none 0 0)), (.v (.string (ByteArray.mk #[]))), (.v (.int .i64 0)), (.v (.int .i64 0)), (.v (.slice none 0 0)), (.v (.slice none 0 0)), (.v (.string (ByteArray.mk #[]))), (.v (.int .i64 0)), (.v (.int .i64 0)), (.v (.slice none 0 0)), (.v (.slice none 0 0)), (.v (.string (ByteArray.mk #[]))), (.v (.int .i64 0)), (.v (.int .i64 0)), (.v (.slice none 0 0)), (.v (.slice none 0 0)), (.v (.string (ByteArray.mk #[]))), (.v (.int .i64 0)), (.v (.int .i64 0)), (.v (.slice none 0 0)), (.v (.slice none 0 0)), (.v (.string (ByteArray.mk #[]))), (.v (.int .i64 0)), (.v (.int .i64 0)), (.v (.slice none 0 0)), (.v (.slice none 0 0)), (.v (.string (ByteArray.mk #[]))), (.v (.int .i64 0)), (.v (.int .i64 0)), (.v (.slice none 0 0)), (.v (.slice none 0 0))]))]) (.sq (.reg [(oM 1 (.bs 3 1 1 [(.v (.int .i64 0))] [(0, 1, (cI 18))])), (oP 2 (.bd [(.v (.string (ByteArray.mk #[]))), (.v (.int .i64 0)), (.v (.int .i64 0)), (.v (.slice none 0 0)), (.v (.slice none 0 0))] [(0, 1, (.c (.v (.string (ByteArray.mk #[109, 100, 53]))))), (1, 1, (cI 1)), (2, 1, (cI 0)), (3, 1, (.c (.v (.slice none 0 0)))), (4, 1, (.t 1))])), (oM 3 (.bs 3 1 1 [(.v (.int .i64 0))] [(0, 1, (cI 60))])), (oP 4 (.bd [(.v (.string (ByteArray.mk #[]))), (.v (.int .i64 0)), (.v (.int .i64 0)), (.v (.slice none 0 0)), (.v (.slice none 0 0))] [(0, 1, (.c (.v (.string (ByteArray.mk #[115, 104, 97, 49]))))), (1, 1, (cI 1)), (2, 1, (cI 0)), (3, 1, (.c (.v (.slice none 0 0)))), (4, 1, (.t 3))])), (oM 5 (.bs 3 1 1 [(.v (.int .i64 0))] [(0, 1, (cI 128))])), (oP 6 (.bd [(.v (.string (ByteArray.mk #[]))), (.v (.int .i64 0)), (.v (.int .i64 0)), (.v (.slice none 0 0)), (.v (.slice none 0 0))] [(0, 1, (.c (.v (.string (ByteArray.mk #[115, 104, 97, 50, 53, 54]))))), (1, 1, (cI 1)), (2, 1, (cI 0)), (3, 1, (.c (.v (.slice none 0 0)))), (4, 1, (.t 5))])), (oM 7 (.bs 3 1 1 [(.v (.int .i64 0))] [(0, 1, (cI 192))])), (oP 8 (.bd [(.v (.string (ByteArray.mk #[]))), (.v (.int .i64 0)), (.v (.int .i64 0)), (.v (.slice none 0 0)), (.v (.slice none 0 0))] [(0, 1, (.c (.v (.string (ByteArray.mk #[115, 104, 97, 51, 56, 52]))))), (1, 1, (cI 1)), (2, 1, (cI 0)), (3, 1, (.c (.v (.slice none 0 0)))), (4, 1, (.t 7))])), (oP 9 (.bd [(.v (.string (ByteArray.mk #[]))), (.v (.int .i64 0)), (.v (.int .i64 0)), (.v (.slice none 0 0)), (.v (.slice none 0 0))] [(0, 1, (.c (.v (.string (ByteArray.mk #[114, 115, 97]))))), (1, 1, (cI 2)), (2, 1, (cI 1)), (3, 1, (.c (.v (.slice none 0 0)))), (4, 1, (.c (.v (.slice none 0 0))))])), (oP 10 (.bd [(.v (.string (ByteArray.mk #[]))), (.v (.int .i64 0)), (.v (.int .i64 0)), (.v (.slice none 0 0)), (.v (.slice none 0 0))] [(0, 1, (.c (.v (.string (ByteArray.mk #[100, 115, 97]))))), (1, 1, (cI 2)), (2, 1, (cI 1)), (3, 1, (.c (.v (.slice none 0 0)))), (4, 1, (.c (.v (.slice none 0 0))))])), (oP 11 (.bd [(.v (.string (ByteArray.mk #[]))), (.v (.int .i64 0)), (.v (.int .i64 0)), (.v (.slice none 0 0)), (.v (.slice none 0 0))] [(0, 1, (.c (.v (.string (ByteArray.mk #[101, 99, 100, 115, 97]))))), (1, 1, (cI 2)), (2, 1, (cI 2)), (3, 1, (.c (.v (.slice none 0 0)))), (4, 1, (.c (.v (.slice none 0 0))))])), (oM 12 (.bs 3 1 1 [(.v (.int .i64 0))] [(0, 1, (cI 128))])), (oP 13 (.bd [(.v (.string (ByteArray.mk #[]))), (.v (.int .i64 0)), (.v (.int .i64 0)), (.v (.slice none 0 0)), (.v (.slice none 0 0))] [(0, 1, (.c (.v (.string (ByteArray.mk #[101, 100, 50, 53, 53, 49, 57]))))), (1, 1, (cI 2)), (2, 1, (cI 0)), (3, 1, (.c (.v (.slice none 0 0)))), (4, 1, (.t 12))])), (oM 14 (.bs 3 1 3 [(.v (.int .i64 0)), (.v (.int .i64 0)), (.v (.int .i64 0))] [(0, 1, (cI 44)), (1, 1, (cI 65)), (2, 1, (cI 87))])), (oM 15 (.bs 3 1 3 [(.v (.int .i64 0)), (.v (.int .i64 0)), (.v (.int .i64 0))] [(0, 1, (cI 128)), (1, 1, (cI 192)), (2, 1, (cI 256))])), (oP 16 (.bd [(.v (.string (ByteArray.mk #[]))), (.v (.int .i64 0)), (.v (.int .i64 0)), (.v (.slice none 0 0)), (.v (.slice none 0 0))] [(0, 1, (.c (.v (.string (ByteArray.mk #[109, 108, 100, 115, 97]))))), (1, 1, (cI 2)), (2, 1, (cI 3)), (3, 1, (.t 14)), (4, 1, (.t 15))])), (oP 17 (.bd [(.v (.string (ByteArray.mk #[]))), (.v (.int .i64 0)), (.v (.int .i64 0)), (.v (.slice none 0 0)), (.v (.slice none 0 0))] [(0, 1, (.c (.v (.string (ByteArray.mk #[114, 115, 97, 107, 120]))))), (1, 1, (cI 3)), (2, 1, (cI 1)), (3, 1, (.c (.v (.slice none 0 0)))), (4, 1, (.c (.v (.slice none 0 0))))])), (oP 18 (.bd [(.v (.string (ByteArray.mk #[]))), (.v (.int .i64 0)), (.v (.int .i64 0)), (.v (.slice none 0 0)), (.v (.slice none 0 0))] [(0, 1, (.c (.v (.string (ByteArray.mk #[100, 104, 101]))))), (1, 1, (cI 3)), (2, 1, (cI 1)), (3, 1, (.c (.v (.slice none 0 0)))), (4, 1, (.c (.v (.slice none 0 0))))])), (oP 19 (.bd [(.v (.string (ByteArray.mk #[]))), (.v (.int .i64 0)), (.v (.int .i64 0)), (.v (.slice none 0 0)), (.v (.slice none 0 0))] [(0, 1, (.c (.v (.string (ByteArray.mk #[101, 99, 100, 104, 101]))))), (1, 1, (cI 3)), (2, 1, (cI 2)), (3, 1, (.c (.v (.slice none 0 0)))), (4, 1, (.c (.v (.slice none 0 0))))])), (oM 20 (.bs 3 1 3 [(.v (.int .i64 0)), (.v (.int .i64 0)), (.v (.int .i64 0))] [(0, 1, (cI 512)), (1, 1, (cI 768)), (2, 1, (cI 1024))])), (oM 21 (.bs 3 1 3 [(.v (.int .i64 0)), (.v (.int .i64 0)), (.v (.int .i64 0))] [(0, 1, (cI 128)), (1, 1, (cI 192)), (2, 1, (cI 256))])), (oP 22 (.bd [(.v (.string (ByteArray.mk #[]))), (.v (.int .i64 0)), (.v (.int .i64 0)), (.v (.slice none 0 0)), (.v (.slice none 0 0))] [(0, 1, (.c (.v (.string (ByteArray.mk #[109, 108, 107, 101, 109]))))), (1, 1, (cI 3)), (2, 1, (cI 3)), (3, 1, (.t 20)), (4, 1, (.t 21))])), (oM 23 (.bs 3 1 2 [(.v (.int .i64 0)), (.v (.int .i64 0))] [(0, 1, (cI 40)), (1, 1, (cI 128))])), (oM 24 (.bs 3 1 2 [(.v (.int .i64 0)), (.v (.int .i64 0))] [(0, 1, (cI 40)), (1, 1, (cI 60))])), (oP 25 (.bd [(.v (.string (ByteArray.mk #[]))), (.v (.int .i64 0)), (.v (.int .i64 0)), (.v (.slice none 0 0)), (.v (.slice none 0 0))] [(0, 1, (.c (.v (.string (ByteArray.mk #[114, 99, 52]))))), (1, 1, (cI 4)), (2, 1, (cI 3)), (3, 1, (.t 23)), (4, 1, (.t 24))])), (oM 26 (.bs 3 1 2 [(.v (.int .i64 0)), (.v (.int .i64 0))] [(0, 1, (cI 112)), (1, 1, (cI 168))])), (oM 27 (.bs 3 1 2 [(.v (.int .i64 0)), (.v (.int .i64 0))] [(0, 1, (cI 80)), (1, 1, (cI 112))])), (oP 28 (.bd [(.v (.string (ByteArray.mk #[]))), (.v (.int .i64 0)), (.v (.int .i64 0)), (.v (.slice none 0 0)), (.v (.slice none 0 0))] [(0, 1, (.c (.v (.string (ByteArray.mk #[100, 101, 115, 51]))))), (1, 1, (cI 4)), (2, 1, (cI 3)), (3, 1, (.t 26)), (4, 1, (.t 27))])), (oM 29 (.bs 3 1 2 [(.v (.int .i64 0)), (.v (.int .i64 0))] [(0, 1, (cI 128)), (1, 1, (cI 256))])), (oM 30 (.bs 3 1 2 [(.v (.int .i64 0)), (.v (.int .i64 0))] [(0, 1, (cI 128)), (1, 1, (cI 256))])), (oP 31 (.bd [(.v (.string (ByteArray.mk #[]))), (.v (.int .i64 0)), (.v (.int .i64 0)), (.v (.slice none 0 0)), (.v (.slice none 0 0))] [(0, 1, (.c (.v (.string (ByteArray.mk #[97, 101, 115, 99, 98, 99]))))), (1, 1, (cI 4)), (2, 1, (cI 3)), (3, 1, (.t 29)), (4, 1, (.t 30))])), (oM 32 (.bs 3 1 2 [(.v (.int .i64 0)), (.v (.int .i64 0))] [(0, 1, (cI 128)), (1, 1, (cI 256))])), (oM 33 (.bs 3 1 2 [(.v (.int .i64 0)), (.v (.int .i64 0))] [(0, 1, (cI 128)), (1, 1, (cI 256))])), (oP 34 (.bd [(.v (.string (ByteArray.mk #[]))), (.v (.int .i64 0)), (.v (.int .i64 0)), (.v (.slice none 0 0)), (.v (.slice none 0 0))] [(0, 1, (.c (.v (.string (ByteArray.mk #[97, 101, 115, 103, 99, 109]))))), (1, 1, (cI 4)), (2, 1, (cI 3)), (3, 1, (.t 32)), (4, 1, (.t 33))])), (oM 35 (.bs 3 1 1 [(.v (.int .i64 0))] [(0, 1, (cI 256))])), (oP 36 (.bd [(.v (.string (ByteArray.mk #[]))), (.v (.int .i64 0)), (.v (.int .i64 0)), (.v (.slice none 0 0)), (.v (.slice none 0 0))] [(0, 1, (.c (.v (.string (ByteArray.mk #[99, 104, 97, 99, 104, 97]))))), (1, 1, (cI 4)), (2, 1, (cI 0)), (3, 1, (.c (.v (.slice none 0 0)))), (4, 1, (.t 35))])), (oM 37 (.bs 3 1 1 [(.v (.int .i64 0))] [(0, 1, (cI 64))])), (oP 38 (.bd [(.v (.string (ByteArray.mk #[]))), (.v (.int .i64 0)), (.v (.int .i64 0)), (.v (.slice none 0 0)), (.v (.slice none 0 0))] [(0, 1, (.c (.v (.string (ByteArray.mk #[104, 109, 97, 99, 109, 100, 53]))))), (1, 1, (cI 5)), (2, 1, (cI 0)), (3, 1, (.c (.v (.slice none 0 0)))), (4, 1, (.t 37))])), (oM 39 (.bs 3 1 1 [(.v (.int .i64 0))] [(0, 1, (cI 80))])), (oP 40 (.bd [(.v (.string (ByteArray.mk #[]))), (.v (.int .i64 0)), (.v (.int .i64 0)), (.v (.slice none 0 0)), (.v (.slice none 0 0))] [(0, 1, (.c (.v (.string (ByteArray.mk #[104, 109, 97, 99, 115, 104, 97, 49]))))), (1, 1, (cI 5)), (2, 1, (cI 0)), (3, 1, (.c (.v (.slice none 0 0)))), (4, 1, (.t 39))])), (oM 41 (.bs 3 1 1 [(.v (.int .i64 0))] [(0, 1, (cI 128))])), (oP 42 (.bd [(.v (.string (ByteArray.mk #[]))), (.v (.int .i64 0)), (.v (.int .i64 0)), (.v (.slice none 0 0)), (.v (.slice none 0 0))] [(0, 1, (.c (.v (.string (ByteArray.mk #[104, 109, 97, 99, 115, 104, 97, 50, 53, 54]))))), (1, 1, (cI 5)), (2, 1, (cI 0)), (3, 1, (.c (.v (.slice none 0 0)))), (4, 1, (.t 41))])), (oM 43 (.bs 3 1 1 [(.v (.int .i64 0))] [(0, 1, (cI 256))])), (oP 44 (.bd [(.v (.string (ByteArray.mk #[]))), (.v (.int .i64 0)), (.v (.int .i64 0)), (.v (.slice none 0 0)), (.v (.slice none 0 0))] [(0, 1, (.c (.v (.string (ByteArray.mk #[97, 101, 97, 100]))))), (1, 1, (cI 5)), (2, 1, (cI 0)), (3, 1, (.c (.v (.slice none 0 0)))), (4, 1, (.t 43))])), (oP 45 (.bd [(.v (.string (ByteArray.mk #[]))), (.v (.int .i64 0)), (.v (.int .i64 0)), (.v (.slice none 0 0)), (.v (.slice none 0 0)), (.v (.string (ByteArray.mk #[]))), (.v (.int .i64 0)), (.v (.int .i64 0)), (.v (.slice none 0 0)), (.v (.slice none 0 0)), (.v (.string (ByteArray.mk #[]))), (.v (.int .i64 0)), (.v (.int .i64 0)), (.v (.slice none 0 0)), (.v (.slice none 0 0)), (.v (.string (ByteArray.mk #[]))), (.v (.int .i64 0)), (.v (.int .i64 0)), (.v (.slice none 0 0)), (.v (.slice none 0 0)), (.v (.string (ByteArray.mk #[]))), (.v (.int .i64 0)), (.v (.int .i64 0)), (.v (.slice none 0 0)), (.v (.slice none 0 0)), (.v (.string (ByteArray.mk #[]))), (.v (.int .i64 0)), (.v (.int .i64 0)), (.v (.slice none 0 0)), (.v (.slice none 0 0)), (.v (.string (ByteArray.mk #[]))), (.v (.int .i64 0)), (.v (.int .i64 0)), (.v (.slice none 0 0)), (.v (.slice none 0 0)), (.v (.string (ByteArray.mk #[]))), (.v (.int .i64 0)), (.v (.int .i64 0)), (.v (.slice none 0 0)), (.v (.slice none 0 0)), (.v (.string (ByteArray.mk #[]))), (.v (.int .i64 0)), (.v (.int .i64 0)), (.v (.slice none 0 0)), (.v (.slice none 0 0)), (.v (.string (ByteArray.mk #[]))), (.v (.int .i64 0)), (.v (.int .i64 0)), (.v (.slice none 0 0)), (.v (.slice none 0 0)), (.v (.string (ByteArray.mk #[]))), (.v (.int .i64 0)), (.v (.int .i64 0)), (.v (.slice none 0 0)), (.v (.slice none 0 0)), (.v (.string (ByteArray.mk #[]))), (.v (.int .i64 0)), (.v (.int .i64 0)), (.v (.slice none 0 0)), (.v (.slice none 0 0)), (.v (.string (ByteArray.mk #[]))), (.v (.int .i64 0)), (.v (.int .i64 0)), (.v (.slice none 0 0)), (.v (.slice none 0 0)), (.v (.string (ByteArray.mk #[]))), (.v (.int .i64 0)), (.v (.int .i64 0)), (.v (.slice none 0 0)), (.v (.slice none 0 0)), (.v (.string (ByteArray.mk #[]))), (.v (.int .i64 0)), (.v (.int .i64 0)), (.v (.slice none 0 0)), (.v (.slice none 0 0)), (.v (.string (ByteArray.mk #[]))), (.v (.int .i64 0)), (.v (.int .i64 0)), (.v (.slice none 0 0)), (.v (.slice none 0 0)), (.v (.string (ByteArray.mk #[]))), (.v (.int .i64 0)), (.v (.int .i64 0)), (.v (.slice none 0 0)), (.v (.slice none 0 0)), (.v (.string (ByteArray.mk #[]))), (.v (.int .i64 0)), (.v (.int .i64 0)), (.v (.slice none 0 0)), (.v (.slice none 0 0)), (.v (.string (ByteArray.mk #[]))), (.v (.int .i64 0)), (.v (.int .i64 0)), (.v (.slice none 0 0)), (.v (.slice none 0 0)), (.v (.string (ByteArray.mk #[]))), (.v (.int .i64 0)), (.v (.int .i64 0)), (.v (.slice none 0 0)), (.v (.slice none 0 0)), (.v (.string (ByteArray.mk #[]))), (.v (.int .i64 0)), (.v (.int .i64 0)), (.v (.slice none 0 0)), (.v (.slice none 0 0)), (.v (.string (ByteArray.mk #[]))), (.v (.int .i64 0)), (.v (.int .i64 0)), (.v (.slice none 0 0)), (.v (.slice none 0 0)), (.v (.string (ByteArray.mk #[]))), (.v (.int .i64 0)), (.v (.int .i64 0)), (.v (.slice none 0 0)), (.v (.slice none 0 0))] [(5, 5, (.t 2)), (10, 5, (.t 4)), (15, 5, (.t 6)), (20, 5, (.t 8)), (25, 5, (.t 9)), (30, 5, (.t 10)), (35, 5, (.t 11)), (40, 5, (.t 13)), (45, 5, (.t 16)), (50, 5, (.t 17)), (55, 5, (.t 18)), (60, 5, (.t 19)), (65, 5, (.t 22)), (70, 5, (.t 25)), (75, 5, (.t 28)), (80, 5, (.t 31)), (85, 5, (.t 34)), (90, 5, (.t 36)), (95, 5, (.t 38)), (100, 5, (.t 40)), (105, 5, (.t 42)), (110, 5, (.t 44))])), (.mk none none (.m (.st 115 (.t 0) (.t 45))))]) .rt))
def rv_f111 : List (RV × Option Ty) := [((.c 0 true 115), some (.pr tyRow (.pr tyRow (.pr tyRow (.pr tyRow (.pr tyRow (.pr tyRow (.pr tyRow (.pr tyRow (.pr tyRow (.pr tyRow (.pr tyRow (.pr tyRow (.pr tyRow (.pr tyRow (.pr tyRow (.pr tyRow (.pr tyRow (.pr tyRow (.pr tyRow (.pr tyRow (.pr tyRow (.pr tyRow (.pr tyRow .nil))))))))))))))))))))))))]
def g_f111 : G := ⟨TYs, [], 46, EL [], keeps, (fun _ _ => none), IL [], RL []⟩
def r_f111  : Option (V × List VO) :=
 some (.t (.pr tyRow (.pr tyRow (.pr tyRow (.pr tyRow (.pr tyRow (.pr tyRow (.pr tyRow (.pr tyRow (.pr tyRow (.pr tyRow (.pr tyRow (.pr tyRow (.pr tyRow (.pr tyRow (.pr tyRow (.pr tyRow (.pr tyRow (.pr tyRow (.pr tyRow (.pr tyRow (.pr tyRow (.pr tyRow (.pr tyRow .nil))))))))))))))))))))))) (((ByteArray.mk #[]), (0, (0, (([] : List Int), (([] : List Int), ()))))), (((ByteArray.mk #[109, 100, 53]), (1, (0, (([] : List Int), ([18], ()))))), (((ByteArray.mk #[115, 104, 97, 49]), (1, (0, (([] : List Int), ([60], ()))))), (((ByteArray.mk #[115, 104, 97, 50, 53, 54]), (1, (0, (([] : List Int), ([128], ()))))), (((ByteArray.mk #[115, 104, 97, 51, 56, 52]), (1, (0, (([] : List Int), ([192], ()))))), (((ByteArray.mk #[114, 115, 97]), (2, (1, (([] : List Int), (([] : List Int), ()))))), (((ByteArray.mk #[100, 115, 97]), (2, (1, (([] : List Int), (([] : List Int), ()))))), (((ByteArray.mk #[101, 99, 100, 115, 97]), (2, (2, (([] : List Int), (([] : List Int), ()))))), (((ByteArray.mk #[101, 100, 50, 53, 53, 49, 57]), (2, (0, (([] : List Int), ([128], ()))))), (((ByteArray.mk #[109, 108, 100, 115, 97]), (2, (3, ([44, 65, 87], ([128, 192, 256], ()))))), (((ByteArray.mk #[114, 115, 97, 107, 120]), (3, (1, (([] : List Int), (([] : List Int), ()))))), (((ByteArray.mk #[100, 104, 101]), (3, (1, (([] : List Int), (([] : List Int), ()))))), (((ByteArray.mk #[101, 99, 100, 104, 101]), (3, (2, (([] : List Int), (([] : List Int), ()))))), (((ByteArray.mk #[109, 108, 107, 101, 109]), (3, (3, ([512, 768, 1024], ([128, 192, 256], ()))))), (((ByteArray.mk #[114, 99, 52]), (4, (3, ([40, 128], ([40, 60], ()))))), (((ByteArray.mk #[100, 101, 115, 51]), (4, (3, ([112, 168], ([80, 112], ()))))), (((ByteArray.mk #[97, 101, 115, 99, 98, 99]), (4, (3, ([128, 256], ([128, 256], ()))))), (((ByteArray.mk #[97, 101, 115, 103, 99, 109]), (4, (3, ([128, 256], ([128, 256], ()))))), (((ByteArray.mk #[99, 104, 97, 99, 104, 97]), (4, (0, (([] : List Int), ([256], ()))))), (((ByteArray.mk #[104, 109, 97, 99, 109, 100, 53]), (5, (0, (([] : List Int), ([64], ()))))), (((ByteArray.mk #[104, 109, 97, 99, 115, 104, 97, 49]), (5, (0, (([] : List Int), ([80], ()))))), (((ByteArray.mk #[104, 109, 97, 99, 115, 104, 97, 50, 53, 54]), (5, (0, (([] : List Int), ([128], ()))))), (((ByteArray.mk #[97, 101, 97, 100]), (5, (0, (([] : List Int), ([256], ()))))), ()))))))))))))))))))))))), [])
theorem e_f111  : runF g_f111 tc_f111 rv_f111 false [] [] = r_f111  := by kernel_rfl
theorem ok_f111 : Option.map (trC Tryz.prog) Tryz.f111.body = some tc_f111.er := by kernel_rfl
theorem rok_f111 : trVs Tryz.prog Tryz.f111.results.toList = some (rv_f111.map Prod.fst) := by kernel_rfl
theorem en_f111 : Entered Tryz.prog 111 := .inr ⟨by decide, _, Tryz.func111, by kernel_rfl, by kernel_rfl⟩
theorem gk_f111 : GOk Tryz.prog g_f111 := gok_of _ (fun p hp => by cases hp)
theorem lk_f111 : tc_f111.lok g_f111 := by repeat (first | exact trivial | refine ⟨?_, ?_⟩)
def rowsF : Ty.T (.pr tyRow (.pr tyRow (.pr tyRow (.pr tyRow (.pr tyRow (.pr tyRow (.pr tyRow (.pr tyRow (.pr tyRow (.pr tyRow (.pr tyRow (.pr tyRow (.pr tyRow (.pr tyRow (.pr tyRow (.pr tyRow (.pr tyRow (.pr tyRow (.pr tyRow (.pr tyRow (.pr tyRow (.pr tyRow (.pr tyRow .nil))))))))))))))))))))))) := (((ByteArray.mk #[]), (0, (0, (([] : List Int), (([] : List Int), ()))))), (((ByteArray.mk #[109, 100, 53]), (1, (0, (([] : List Int), ([18], ()))))), (((ByteArray.mk #[115, 104, 97, 49]), (1, (0, (([] : List Int), ([60], ()))))), (((ByteArray.mk #[115, 104, 97, 50, 53, 54]), (1, (0, (([] : List Int), ([128], ()))))), (((ByteArray.mk #[115, 104, 97, 51, 56, 52]), (1, (0, (([] : List Int), ([192], ()))))), (((ByteArray.mk #[114, 115, 97]), (2, (1, (([] : List Int), (([] : List Int), ()))))), (((ByteArray.mk #[100, 115, 97]), (2, (1, (([] : List Int), (([] : List Int), ()))))), (((ByteArray.mk #[101, 99, 100, 115, 97]), (2, (2, (([] : List Int), (([] : List Int), ()))))), (((ByteArray.mk #[101, 100, 50, 53, 53, 49, 57]), (2, (0, (([] : List Int), ([128], ()))))), (((ByteArray.mk #[109, 108, 100, 115, 97]), (2, (3, ([44, 65, 87], ([128, 192, 256], ()))))), (((ByteArray.mk #[114, 115, 97, 107, 120]), (3, (1, (([] : List Int), (([] : List Int), ()))))), (((ByteArray.mk #[100, 104, 101]), (3, (1, (([] : List Int), (([] : List Int), ()))))), (((ByteArray.mk #[101, 99, 100, 104, 101]), (3, (2, (([] : List Int), (([] : List Int), ()))))), (((ByteArray.mk #[109, 108, 107, 101, 109]), (3, (3, ([512, 768, 1024], ([128, 192, 256], ()))))), (((ByteArray.mk #[114, 99, 52]), (4, (3, ([40, 128], ([40, 60], ()))))), (((ByteArray.mk #[100, 101, 115, 51]), (4, (3, ([112, 168], ([80, 112], ()))))), (((ByteArray.mk #[97, 101, 115, 99, 98, 99]), (4, (3, ([128, 256], ([128, 256], ()))))), (((ByteArray.mk #[97, 101, 115, 103, 99, 109]), (4, (3, ([128, 256], ([128, 256], ()))))), (((ByteArray.mk #[99, 104, 97, 99, 104, 97]), (4, (0, (([] : List Int), ([256], ()))))), (((ByteArray.mk #[104, 109, 97, 99, 109, 100, 53]), (5, (0, (([] : List Int), ([64], ()))))), (((ByteArray.mk #[104, 109, 97, 99, 115, 104, 97, 49]), (5, (0, (([] : List Int), ([80], ()))))), (((ByteArray.mk #[104, 109, 97, 99, 115, 104, 97, 50, 53, 54]), (5, (0, (([] : List Int), ([128], ()))))), (((ByteArray.mk #[97, 101, 97, 100]), (5, (0, (([] : List Int), ([256], ()))))), ())))))))))))))))))))))))
theorem s_f111 : r_f111 = some (.t (tyR tyRow 23) rowsF, []) := rfl
def sp_f111 : Ent := spec .nil (fun x => true) (fun x => (.t (.pr tyRow (.pr tyRow (.pr tyRow (.pr tyRow (.pr tyRow (.pr tyRow (.pr tyRow (.pr tyRow (.pr tyRow (.pr tyRow (.pr tyRow (.pr tyRow (.pr tyRow (.pr tyRow (.pr tyRow (.pr tyRow (.pr tyRow (.pr tyRow (.pr tyRow (.pr tyRow (.pr tyRow (.pr tyRow (.pr tyRow .nil))))))))))))))))))))))) rowsF))
theorem ms_f111 : Meets Tryz.prog 111 (strip sp_f111) := by
 obtain ⟨c, hc, hi⟩ := Option.map_eq_some_iff.1 ok_f111
 exact meets_spec (R := runF g_f111 tc_f111 rv_f111 false) (meets_of (by decide) Tryz.func111 hc hi Tryz.ntmps111 rok_f111 gk_f111 lk_f111 mixed) fun x _ => (e_f111 ).trans (s_f111 )
def noRow : Row := ((ByteArray.mk #[]), (0, (0, (([] : List Int), (([] : List Int), ())))))
def ofF (a : Int) : Row × Bool := if a < 1 ∨ 22 < a then (noRow, false) else (arrGetI tyRow 23 rowsF a, true)
def tc_f95 : TC := (.sq (.reg [(oM 2 (.new [(.v (.string (ByteArray.mk #[]))), (.v (.int .i64 0)), (.v (.int .i64 0)), (.v (.slice none 0 0)), (.v (.slice none 0 0))])), (oP 3 (.mv (cB false)))]) (.sq (.sq (.reg [(oV 4 0), (oP 5 (.bin false .lss (.t 4) (cI 1))), (oV 6 5), (oQ 7 6 false (.mv (.t 0))), (oQ 8 6 false (.bin false .gtr (.t 7) (cI 22))), (oP 9 (.pick (.t 6) (cB true) (.t 8)))]) (.cd (.t 9) (.sq (.reg [(oP 10 (.bd [(.v (.string (ByteArray.mk #[]))), (.v (.int .i64 0)), (.v (.int .i64 0)), (.v (.slice none 0 0)), (.v (.slice none 0 0))] [])), (.mk none none (.m (.st 5 (.t 2) (.t 10)))), (oP 3 (.mv (cB false)))]) .rt) .sk)) (.sq (.reg [(oC 11 111 []), (oV 12 0), (oC 13 1002322 [(.t 11), (.t 12)]), (.mk none none (.m (.st 5 (.t 2) (.t 13)))), (oP 3 (.mv (cB true)))]) .rt)))
def rv_f95 : List (RV × Option Ty) := [((.c 2 true 5), some tyRow), ((.t 3), some .bool)]
def g_f95 : G := ⟨TYs, [], 14, EL [(111, sp_f111), (1002322, sp_op_index_145)], keeps, (fun _ _ => none), IL [], RL []⟩
def r_f95 (p0 : Int) : Option (V × List VO) :=
 br ((ilt p0 1))
  (some (.tu [(.t tyRow ((ByteArray.mk #[]), (0, (0, (([] : List Int), (([] : List Int), ())))))), (.t .bool false)], []))
  (br ((igt p0 22))
   (some (.tu [(.t tyRow ((ByteArray.mk #[]), (0, (0, (([] : List Int), (([] : List Int), ())))))), (.t .bool false)], []))
   (br ((arrOk tyRow 23 rowsF p0))
    (some (.tu [(.t tyRow (arrGetI tyRow 23 rowsF p0)), (.t .bool true)], []))
    (none)))
theorem e_f95 (p0 : Int) : runF g_f95 tc_f95 rv_f95 false [.t tI p0] [] = r_f95 p0 := by kernel_rfl
theorem ok_f95 : Option.map (trC Tryz.prog) Tryz.f95.body = some tc_f95.er := by kernel_rfl
theorem rok_f95 : trVs Tryz.prog Tryz.f95.results.toList = some (rv_f95.map Prod.fst) := by kernel_rfl
theorem en_f95 : Entered Tryz.prog 95 := .inr ⟨by decide, _, Tryz.func95, by kernel_rfl, by kernel_rfl⟩
theorem gk_f95 : GOk Tryz.prog g_f95 := gok_of _ (by
 intro p hp
 simp only [List.mem_cons, List.not_mem_nil, or_false] at hp
 rcases hp with rfl | rfl
 ·exact ⟨en_f111, ms_f111⟩
 ·exact ⟨en_op_index_145, ms_op_index_145⟩)
theorem lk_f95 : tc_f95.lok g_f95 := by repeat (first | exact trivial | refine ⟨?_, ?_⟩)
theorem s_f95 (a : Int) : r_f95 a = some (.tu [.t tyRow (ofF a).1, .t .bool (ofF a).2], []) := by
 simp only [r_f95]
 refine br_intro (fun h1 => ?_) (fun h1 => br_intro (fun h2 => ?_) (fun h2 => ?_))
 ·have h1 : a < 1 := by simpa [ilt] using h1
  simp [ofF, h1, noRow]
 ·have h2 : 22 < a := by simpa [igt] using h2
  simp [ofF, h2, noRow]
 ·have h1 : ¬ a < 1 := by simpa [ilt] using h1
  have h2 : ¬ 22 < a := by simpa [igt] using h2
  have h3 : arrOk tyRow 23 rowsF a = true := by simp [arrOk]; omega
  rw [h3, br_true]
  simp [ofF, h1, h2]
def sp_f95 : Ent := spec (.pr tI .nil) (fun x => true) (fun x => (.tu [(.t tyRow ((ofF x.1).1)), (.t .bool ((ofF x.1).2))]))
theorem ms_f95 : Meets Tryz.prog 95 (strip sp_f95) := by
 obtain ⟨c, hc, hi⟩ := Option.map_eq_some_iff.1 ok_f95
 exact meets_spec (R := runF g_f95 tc_f95 rv_f95 false) (meets_of (by decide) Tryz.func95 hc hi Tryz.ntmps95 rok_f95 gk_f95 lk_f95 mixed) fun x _ => (e_f95 x.1).trans (s_f95 x.1)
def modL : List (Int × Int) := [(1024, 56), (2048, 80), (3072, 112), (7680, 128), (15360, 192)]
def modA : (Keep × (Keep × (Keep × (Keep × (Keep × Unit))))) := ((1024, (56, ())), ((2048, (80, ())), ((3072, (112, ())), ((7680, (128, ())), ((15360, (192, ())), ())))))
def modZ (b i : Int) : Option Int := ((modL.drop i.toNat).find? fun x => ilt b x.1).map (·.2)
def modF (b : Int) : Int := (modZ b 0).getD 256
def fg_f96_0 : Fg := ⟨[(0, some tI), (10, some (.pr tyKeep (.pr tyKeep (.pr tyKeep (.pr tyKeep (.pr tyKeep .nil)))))), (11, some tI)], []⟩
def tb_f96_0 : TC := (.sq (.reg [(oP 12 (.bin false .lss (.t 11) (cI 5)))]) (.sq (.cd (.t 12) .sk (.fg ⟨[], []⟩ (.ex 0))) (.sq (.bk 1 (.sq (.reg [(oC 13 1002354 [(.t 10), (.t 11)]), (oM 4 (.new [(.v (.int .i64 0)), (.v (.int .i64 0))])), (.mk none none (.m (.st 2 (.t 4) (.t 13))))]) (.sq (.reg [(oV 14 0), (oP 15 (.fa 0 (.t 4))), (oL 16 15), (oP 17 (.bin false .lss (.t 14) (.t 16)))]) (.cd (.t 17) (.sq (.reg [(oP 18 (.fa 1 (.t 4))), (oL 19 18), (oV 2 19)]) (.fg ⟨[(2, some tI)], []⟩ .rt)) .sk)))) (.reg [(oP 20 (.bin false .add (.t 11) (cI 1))), (oV 11 20)]))))
def tc_f96 : TC := (.sq (.reg [(oP 2 (.mv (cI 0)))]) (.sq (.sq (.reg [(oP 5 (.bd [(.v (.int .i64 0)), (.v (.int .i64 0))] [(0, 1, (cI 1024)), (1, 1, (cI 56))])), (oP 6 (.bd [(.v (.int .i64 0)), (.v (.int .i64 0))] [(0, 1, (cI 2048)), (1, 1, (cI 80))])), (oP 7 (.bd [(.v (.int .i64 0)), (.v (.int .i64 0))] [(0, 1, (cI 3072)), (1, 1, (cI 112))])), (oP 8 (.bd [(.v (.int .i64 0)), (.v (.int .i64 0))] [(0, 1, (cI 7680)), (1, 1, (cI 128))])), (oP 9 (.bd [(.v (.int .i64 0)), (.v (.int .i64 0))] [(0, 1, (cI 15360)), (1, 1, (cI 192))])), (oP 10 (.bd [(.v (.int .i64 0)), (.v (.int .i64 0)), (.v (.int .i64 0)), (.v (.int .i64 0)), (.v (.int .i64 0)), (.v (.int .i64 0)), (.v (.int .i64 0)), (.v (.int .i64 0)), (.v (.int .i64 0)), (.v (.int .i64 0))] [(0, 2, (.t 5)), (2, 2, (.t 6)), (4, 2, (.t 7)), (6, 2, (.t 8)), (8, 2, (.t 9))])), (oP 11 (.mv (cI 0)))]) (.bk 0 (.lp 0 fg_f96_0 tb_f96_0))) (.sq (.reg [(oP 2 (.mv (cI 256)))]) .rt)))
def rv_f96 : List (RV × Option Ty) := [((.t 2), some tI)]
abbrev sh_f96_0 : Sh := ⟨[(0, .ty tI), (10, .ty (.pr tyKeep (.pr tyKeep (.pr tyKeep (.pr tyKeep (.pr tyKeep .nil)))))), (11, .ty tI)], []⟩
def st_f96_0 (x0 : Int) (x10 : (Keep × (Keep × (Keep × (Keep × (Keep × Unit)))))) (x11 : Int) : VS := sh_f96_0.st (x0, x10, x11, ()) ()
abbrev sh_f96_0_ret : Sh := ⟨[(2, .ty tI)], []⟩
def st_f96_0_ret (x2 : Int) : VS := sh_f96_0_ret.st (x2, ()) ()
abbrev sh_f96_0_e0 : Sh := ⟨[], []⟩
def st_f96_0_e0  : VS := sh_f96_0_e0.st () ()
-- loop 0: (x0 : Int) (x10 : (Keep × (Keep × (Keep × (Keep × (Keep × Unit)))))) (x11 : Int); out: ('ret',) (x2 : Int); ('exit', 0)
def L_f96_0 : VS → Option (Bool × List (Bool × Exit × VS)) := mkL sh_f96_0 (fun x y => (x.2.1 == modA && decide (0 ≤ x.2.2.1 ∧ x.2.2.1 ≤ 5))) (fun x y => [(((modZ x.1 x.2.2.1).isSome), .ret, st_f96_0_ret ((modZ x.1 x.2.2.1).getD 0)), (true, .exit 0, st_f96_0_e0)])
def g_f96 : G := ⟨TYs, [], 21, EL [(1002354, sp_op_index_147)], keeps, (Ls [L_f96_0]), IL [], RL []⟩
def b_f96_0 (x0 : Int) (x10 : (Keep × (Keep × (Keep × (Keep × (Keep × Unit)))))) (x11 : Int) : Option (Exit × VS) :=
 br ((ilt x11 5))
  (br ((arrOk tyKeep 5 x10 x11))
   (br ((ilt x0 ((arrGetI tyKeep 5 x10 x11).1)))
    (some (.ret, st_f96_0_ret (((arrGetI tyKeep 5 x10 x11).2).1)))
    (some (.normal, st_f96_0 x0 x10 (iadd .i64 x11 1))))
   (none))
  (some (.exit 0, st_f96_0_e0))
noncomputable def lp_f96_0 (x0 : Int) (x10 : (Keep × (Keep × (Keep × (Keep × (Keep × Unit)))))) (x11 : Int) : Option (Exit × VS) := loopF (roundF g_f96 fg_f96_0 tb_f96_0) (st_f96_0 x0 x10 x11)
noncomputable def n_f96_0 (x0 : Int) (x10 : (Keep × (Keep × (Keep × (Keep × (Keep × Unit)))))) (x11 : Int) : Option (Exit × VS) :=
 br ((ilt x11 5))
  (br ((arrOk tyKeep 5 x10 x11))
   (br ((ilt x0 ((arrGetI tyKeep 5 x10 x11).1)))
    (some (.ret, st_f96_0_ret (((arrGetI tyKeep 5 x10 x11).2).1)))
    (lp_f96_0 x0 x10 (iadd .i64 x11 1)))
   (none))
  (some (.exit 0, st_f96_0_e0))
def la_f96_0 (x0 : Int) (x10 : (Keep × (Keep × (Keep × (Keep × (Keep × Unit)))))) (x11 : Int) : Option (Exit × VS) := br ((modZ x0 x11).isSome) (some (.ret, st_f96_0_ret ((modZ x0 x11).getD 0))) <| some (.exit 0, st_f96_0_e0)
theorem be_f96_0 (x0 : Int) (x10 : (Keep × (Keep × (Keep × (Keep × (Keep × Unit)))))) (x11 : Int) : roundF g_f96 fg_f96_0 tb_f96_0 (st_f96_0 x0 x10 x11) = b_f96_0 x0 x10 x11 := by kernel_rfl
theorem ln_f96_0 (x0 : Int) (x10 : (Keep × (Keep × (Keep × (Keep × (Keep × Unit)))))) (x11 : Int) : lp_f96_0 x0 x10 x11 = n_f96_0 x0 x10 x11 := (loopF_nxt _ _).trans (by
 rw [be_f96_0]
 simp only [b_f96_0, n_f96_0, nxt_br, nxt_n, nxt_r, nxt_e, nxt_0]
 rfl)
def r_f96 (p0 : Int) : Option (V × List VO) :=
 br ((((1024, (56, ())), ((2048, (80, ())), ((3072, (112, ())), ((7680, (128, ())), ((15360, (192, ())), ()))))) == modA && decide (0 ≤ (0 : Int) ∧ (0 : Int) ≤ 5)))
  (br (((modZ p0 (0 : Int)).isSome))
   (some (.t tI ((modZ p0 (0 : Int)).getD 0), []))
   (some (.t tI 256, [])))
  (none)
theorem e_f96 (p0 : Int) : runF g_f96 tc_f96 rv_f96 false [.t tI p0] [] = r_f96 p0 := by kernel_rfl
theorem ok_f96 : Option.map (trC Tryz.prog) Tryz.f96.body = some tc_f96.er := by kernel_rfl
theorem rok_f96 : trVs Tryz.prog Tryz.f96.results.toList = some (rv_f96.map Prod.fst) := by kernel_rfl
theorem en_f96 : Entered Tryz.prog 96 := .inr ⟨by decide, _, Tryz.func96, by kernel_rfl, by kernel_rfl⟩
theorem gk_f96 : GOk Tryz.prog g_f96 := gok_of _ (by
 intro p hp
 simp only [List.mem_cons, List.not_mem_nil, or_false] at hp
 rcases hp with rfl
 ·exact ⟨en_op_index_147, ms_op_index_147⟩)
theorem l_f96_0 (x0 : Int) (x10 : (Keep × (Keep × (Keep × (Keep × (Keep × Unit)))))) (x11 : Int) (h : (x10 == modA && decide (0 ≤ x11 ∧ x11 ≤ 5)) = true) : lp_f96_0 x0 x10 x11 = la_f96_0 x0 x10 x11 := by
 simp only [Bool.and_eq_true, decide_eq_true_eq, beq_iff_eq] at h
 obtain ⟨rfl, h1, h2⟩ := h
 obtain ⟨k, rfl⟩ := Int.eq_ofNat_of_zero_le h1
 refine up_ind 5 (fun k => lp_f96_0 x0 modA (k : Int) = la_f96_0 x0 modA (k : Int)) ?_ ?_ k (by omega)
 ·rw [ln_f96_0]
  rfl
 ·intro k hk ih
  rw [ln_f96_0]
  simp only [n_f96_0, add1 (show k < 4611686018427387904 by omega), ih]
  have e1 : ilt (k : Int) 5 = true := by simp only [ilt, decide_eq_true_eq]; omega
  have e2 : arrOk tyKeep 5 modA (k : Int) = true := by simp only [arrOk, decide_eq_true_eq]; omega
  simp only [e1, e2, br_true]
  have hk5 : k = 0 ∨ k = 1 ∨ k = 2 ∨ k = 3 ∨ k = 4 := by omega
  rcases hk5 with rfl | rfl | rfl | rfl | rfl
  ·show br (ilt x0 1024) _ _ = _
   cases h : ilt x0 1024 <;> simp [la_f96_0, modZ, modL, h, br_true, br_false] <;> rfl
  ·show br (ilt x0 2048) _ _ = _
   cases h : ilt x0 2048 <;> simp [la_f96_0, modZ, modL, h, br_true, br_false] <;> rfl
  ·show br (ilt x0 3072) _ _ = _
   cases h : ilt x0 3072 <;> simp [la_f96_0, modZ, modL, h, br_true, br_false] <;> rfl
  ·show br (ilt x0 7680) _ _ = _
   cases h : ilt x0 7680 <;> simp [la_f96_0, modZ, modL, h, br_true, br_false] <;> rfl
  ·show br (ilt x0 15360) _ _ = _
   cases h : ilt x0 15360 <;> simp [la_f96_0, modZ, modL, h, br_true, br_false] <;> rfl
theorem lo_f96_0 : ∀ S l p, g_f96.L 0 (fgt fg_f96_0 S) = some (true, l) → pickA l = some p → loopF (roundF g_f96 fg_f96_0 tb_f96_0) S = some p :=
 lok_of (s := sh_f96_0) ⟨by decide, by decide⟩ (by kernel_rfl) fun x y hok p hp => by
 simp only [pickA_br, pickA_one] at hp
 exact (l_f96_0 x.1 x.2.1 x.2.2.1 (by simpa using hok)).trans hp
theorem lk_f96 : tc_f96.lok g_f96 := by
 repeat (first | exact trivial | exact lo_f96_0 | refine ⟨?_, ?_⟩)
theorem s_f96 (b : Int) : r_f96 b = some (.t tI (modF b), []) := by
 simp only [r_f96]
 show br true (br (modZ b 0).isSome (some (V.t tI ((modZ b 0).getD 0), [])) _) _ = _
 rw [br_true, modF]
 cases modZ b 0 <;> rfl
def sp_f96 : Ent := spec (.pr tI .nil) (fun x => true) (fun x => (.t tI (modF x.1)))
theorem ms_f96 : Meets Tryz.prog 96 (strip sp_f96) := by
 obtain ⟨c, hc, hi⟩ := Option.map_eq_some_iff.1 ok_f96
 exact meets_spec (R := runF g_f96 tc_f96 rv_f96 false) (meets_of (by decide) Tryz.func96 hc hi Tryz.ntmps96 rok_f96 gk_f96 lk_f96 mixed) fun x _ => (e_f96 x.1).trans (s_f96 x.1)
def idxN (v : Int) : List Int → Option Nat
 | [] => none
 | a :: l => if a == v then some 0 else (idxN v l).map (· + 1)
theorem idxN_lt {v : Int} : ∀ {l : List Int} {k : Nat}, idxN v l = some k → k < l.length
 | [], _, h => by cases h
 | a :: l, k, h => by
  unfold idxN at h
  split at h
  ·injection h with h; subst h; simp
  ·obtain ⟨j, h1, h2⟩ := Option.map_eq_some_iff.1 h
   have := idxN_lt h1
   simp only [List.length_cons]; omega
theorem idxN_none {v : Int} : ∀ {l : List Int}, idxN v l = none ↔ v ∉ l
 | [] => by simp [idxN]
 | a :: l => by
  have ih := idxN_none (v := v) (l := l)
  unfold idxN
  by_cases h : a = v
  ·simp [h]
  ·have h' : ¬ v = a := fun e => h e.symm
   simp [h, h', ih]
def idxF (l : List Int) (v : Int) : Int := match idxN v l with | some k => (k : Int) | none => -1
def idxOk1 (l : List Int) (_v : Int) : Bool := decide (l.length ≤ 100000)
def fg_f98_0 : Fg := ⟨[(0, some (.sl tI)), (1, some tI), (7, some tI), (8, some tI)], []⟩
def tb_f98_0 : TC := (.sq (.reg [(oP 9 (.bin false .lss (.t 8) (.t 7)))]) (.sq (.cd (.t 9) .sk (.fg ⟨[], []⟩ (.ex 0))) (.sq (.bk 1 (.sq (.reg [(oV 10 8), (oV 5 10)]) (.sq (.reg [(oV 11 1), (oV 12 0), (oV 13 5), (oP 14 (.ix 1 (.t 12) (.t 13))), (oL 15 14), (oP 16 (.bin false .eql (.t 11) (.t 15)))]) (.cd (.t 16) (.sq (.reg [(oV 17 5), (oV 4 17)]) (.fg ⟨[(4, some tI)], []⟩ .rt)) .sk)))) (.reg [(oP 18 (.bin false .add (.t 8) (cI 1))), (oV 8 18)]))))
def tc_f98 : TC := (.sq (.reg [(oP 4 (.mv (cI 0)))]) (.sq (.sq (.reg [(oV 6 0), (oP 7 (.len false (.t 6))), (oP 8 (.mv (cI 0)))]) (.bk 0 (.lp 0 fg_f98_0 tb_f98_0))) (.sq (.reg [(oP 4 (.mv (cI (-1))))]) .rt)))
def rv_f98 : List (RV × Option Ty) := [((.t 4), some tI)]
abbrev sh_f98_0 : Sh := ⟨[(0, .ty (.sl tI)), (1, .ty tI), (7, .ty tI), (8, .ty tI)], []⟩
def st_f98_0 (x0 : (List Int)) (x1 : Int) (x7 : Int) (x8 : Int) : VS := sh_f98_0.st (x0, x1, x7, x8, ()) ()
abbrev sh_f98_0_ret : Sh := ⟨[(4, .ty tI)], []⟩
def st_f98_0_ret (x4 : Int) : VS := sh_f98_0_ret.st (x4, ()) ()
abbrev sh_f98_0_e0 : Sh := ⟨[], []⟩
def st_f98_0_e0  : VS := sh_f98_0_e0.st () ()
-- loop 0: (x0 : (List Int)) (x1 : Int) (x7 : Int) (x8 : Int); out: ('ret',) (x4 : Int); ('exit', 0)
def L_f98_0 : VS → Option (Bool × List (Bool × Exit × VS)) := mkL sh_f98_0 (fun x y => (rngOk x.1 x.2.2.1 x.2.2.2.1)) (fun x y => [(((idxN x.2.1 (x.1.drop x.2.2.2.1.toNat)).isSome), .ret, st_f98_0_ret (x.2.2.2.1 + ((idxN x.2.1 (x.1.drop x.2.2.2.1.toNat)).getD 0 : Nat))), (true, .exit 0, st_f98_0_e0)])
def g_f98 : G := ⟨TYs, [], 19, EL [], keeps, (Ls [L_f98_0]), IL [], RL []⟩
def b_f98_0 (x0 : (List Int)) (x1 : Int) (x7 : Int) (x8 : Int) : Option (Exit × VS) :=
 br ((ilt x8 x7))
  (br (cIx x0 x8)
   (br ((ieq x1 (lgt tI x0 (Int.toNat x8))))
    (some (.ret, st_f98_0_ret x8))
    (some (.normal, st_f98_0 x0 x1 x7 (iadd .i64 x8 1))))
   (none))
  (some (.exit 0, st_f98_0_e0))
noncomputable def lp_f98_0 (x0 : (List Int)) (x1 : Int) (x7 : Int) (x8 : Int) : Option (Exit × VS) := loopF (roundF g_f98 fg_f98_0 tb_f98_0) (st_f98_0 x0 x1 x7 x8)
noncomputable def n_f98_0 (x0 : (List Int)) (x1 : Int) (x7 : Int) (x8 : Int) : Option (Exit × VS) :=
 br ((ilt x8 x7))
  (br (cIx x0 x8)
   (br ((ieq x1 (lgt tI x0 (Int.toNat x8))))
    (some (.ret, st_f98_0_ret x8))
    (lp_f98_0 x0 x1 x7 (iadd .i64 x8 1)))
   (none))
  (some (.exit 0, st_f98_0_e0))
def la_f98_0 (x0 : (List Int)) (x1 : Int) (x7 : Int) (x8 : Int) : Option (Exit × VS) := br ((idxN x1 (x0.drop x8.toNat)).isSome) (some (.ret, st_f98_0_ret (x8 + ((idxN x1 (x0.drop x8.toNat)).getD 0 : Nat)))) <| some (.exit 0, st_f98_0_e0)
theorem be_f98_0 (x0 : (List Int)) (x1 : Int) (x7 : Int) (x8 : Int) : roundF g_f98 fg_f98_0 tb_f98_0 (st_f98_0 x0 x1 x7 x8) = b_f98_0 x0 x1 x7 x8 := by kernel_rfl
theorem ln_f98_0 (x0 : (List Int)) (x1 : Int) (x7 : Int) (x8 : Int) : lp_f98_0 x0 x1 x7 x8 = n_f98_0 x0 x1 x7 x8 := (loopF_nxt _ _).trans (by
 rw [be_f98_0]
 simp only [b_f98_0, n_f98_0, nxt_br, nxt_n, nxt_r, nxt_e, nxt_0]
 rfl)
def r_f98 (p0 : (List Int)) (p1 : Int) : Option (V × List VO) :=
 br ((rngOk p0 (llen p0) (0 : Int)))
  (br (((idxN p1 (p0.drop (0 : Int).toNat)).isSome))
   (some (.t tI ((0 : Int) + ((idxN p1 (p0.drop (0 : Int).toNat)).getD 0 : Nat)), []))
   (some (.t tI (-1), [])))
  (none)
theorem e_f98 (p0 : (List Int)) (p1 : Int) : runF g_f98 tc_f98 rv_f98 false [.t (.sl tI) p0, .t tI p1] [] = r_f98 p0 p1 := by kernel_rfl
theorem ok_f98 : Option.map (trC Tryz.prog) Tryz.f98.body = some tc_f98.er := by kernel_rfl
theorem rok_f98 : trVs Tryz.prog Tryz.f98.results.toList = some (rv_f98.map Prod.fst) := by kernel_rfl
theorem en_f98 : Entered Tryz.prog 98 := .inr ⟨by decide, _, Tryz.func98, by kernel_rfl, by kernel_rfl⟩
theorem gk_f98 : GOk Tryz.prog g_f98 := gok_of _ (fun p hp => by cases hp)
theorem l_f98_0 (x0 : (List Int)) (x1 : Int) (x7 : Int) (x8 : Int) (h : (rngOk x0 x7 x8) = true) : lp_f98_0 x0 x1 x7 x8 = la_f98_0 x0 x1 x7 x8 := by
 obtain ⟨rfl, h3, k, rfl, hk⟩ := rng_k h
 clear h
 refine range_ind x0 (fun k => lp_f98_0 x0 x1 (x0.length : Int) (k : Int) = la_f98_0 x0 x1 (x0.length : Int) (k : Int)) ?_ ?_ k hk
 ·rw [ln_f98_0]
  simp [n_f98_0, la_f98_0, ilt_nat, br_false, idxN]
 ·intro k hk ih
  rw [ln_f98_0]
  simp only [n_f98_0, ilt_nat, cIx_nat, hk, decide_true, br_true, Int.toNat_natCast, add1 (show k < 4611686018427387904 by omega), ih, lgt_get (y := tI) hk]
  simp only [la_f98_0, Int.toNat_natCast, List.drop_eq_getElem_cons hk, idxN, ieq]
  have hc : (x1 == x0[k]) = (x0[k] == x1) := Bool.beq_comm
  cases h : x0[k] == x1 with
  | true => simp [h, hc, br_true]
  | false =>
   simp only [h, hc, br_false, Bool.false_eq_true, if_false]
   cases hq : idxN x1 (x0.drop (k + 1)) with
   | none => rfl
   | some j =>
    simp only [Option.map_some, Option.isSome_some, Option.getD_some, br_true]
    congr 3
    omega
theorem lo_f98_0 : ∀ S l p, g_f98.L 0 (fgt fg_f98_0 S) = some (true, l) → pickA l = some p → loopF (roundF g_f98 fg_f98_0 tb_f98_0) S = some p :=
 lok_of (s := sh_f98_0) ⟨by decide, by decide⟩ (by kernel_rfl) fun x y hok p hp => by
 simp only [pickA_br, pickA_one] at hp
 exact (l_f98_0 x.1 x.2.1 x.2.2.1 x.2.2.2.1 (by simpa using hok)).trans hp
theorem lk_f98 : tc_f98.lok g_f98 := by
 repeat (first | exact trivial | exact lo_f98_0 | refine ⟨?_, ?_⟩)
theorem s_f98 (l : List Int) (v : Int) (h : idxOk1 l v = true) : r_f98 l v = some (.t tI (idxF l v), []) := by
 simp only [idxOk1, decide_eq_true_eq] at h
 simp only [r_f98, rng_0 h, br_true, Int.toNat_zero, List.drop_zero, idxF]
 cases idxN v l <;> simp [br_true, br_false]
def sp_f98 : Ent := spec (.pr (.sl tI) (.pr tI .nil)) (fun x => (idxOk1 x.1 x.2.1)) (fun x => (.t tI (idxF x.1 x.2.1)))
theorem ms_f98 : Meets Tryz.prog 98 (strip sp_f98) := by
 obtain ⟨c, hc, hi⟩ := Option.map_eq_some_iff.1 ok_f98
 exact meets_spec (R := runF g_f98 tc_f98 rv_f98 false) (meets_of (by decide) Tryz.func98 hc hi Tryz.ntmps98 rok_f98 gk_f98 lk_f98 mixed) fun x hok => (e_f98 x.1 x.2.1).trans (s_f98 x.1 x.2.1 hok)
def hasF (l : List Int) (v : Int) : Bool := l.contains v
def tc_f97 : TC := (.sq (.reg [(oP 4 (.mv (cB false)))]) (.sq (.reg [(oV 5 0), (oV 6 1), (oC 7 98 [(.t 5), (.t 6)]), (oP 8 (.bin false .geq (.t 7) (cI 0))), (oV 4 8)]) .rt))
def rv_f97 : List (RV × Option Ty) := [((.t 4), some .bool)]
def g_f97 : G := ⟨TYs, [], 9, EL [(98, sp_f98)], keeps, (fun _ _ => none), IL [], RL []⟩
def r_f97 (p0 : (List Int)) (p1 : Int) : Option (V × List VO) :=
 br ((idxOk1 p0 p1))
  (some (.t .bool (ige (idxF p0 p1) 0), []))
  (none)
theorem e_f97 (p0 : (List Int)) (p1 : Int) : runF g_f97 tc_f97 rv_f97 false [.t (.sl tI) p0, .t tI p1] [] = r_f97 p0 p1 := by kernel_rfl
theorem ok_f97 : Option.map (trC Tryz.prog) Tryz.f97.body = some tc_f97.er := by kernel_rfl
theorem rok_f97 : trVs Tryz.prog Tryz.f97.results.toList = some (rv_f97.map Prod.fst) := by kernel_rfl
theorem en_f97 : Entered Tryz.prog 97 := .inr ⟨by decide, _, Tryz.func97, by kernel_rfl, by kernel_rfl⟩
theorem gk_f97 : GOk Tryz.prog g_f97 := gok_of _ (by
 intro p hp
 simp only [List.mem_cons, List.not_mem_nil, or_false] at hp
 rcases hp with rfl
 ·exact ⟨en_f98, ms_f98⟩)
theorem lk_f97 : tc_f97.lok g_f97 := by repeat (first | exact trivial | refine ⟨?_, ?_⟩)
theorem s_f97 (l : List Int) (v : Int) (h : idxOk1 l v = true) : r_f97 l v = some (.t .bool (hasF l v), []) := by
 simp only [r_f97, h, br_true]
 congr 3
 unfold idxF hasF
 cases hq : idxN v l with
 | none =>
  have := idxN_none.1 hq
  simp [ige, this]
 | some k =>
  have : v ∈ l := Classical.byContradiction fun hn => by rw [idxN_none.2 hn] at hq; cases hq
  simp only [ige, List.contains_iff_mem.2 this, decide_eq_true_eq]
  omega
def sp_f97 : Ent := spec (.pr (.sl tI) (.pr tI .nil)) (fun x => (idxOk1 x.1 x.2.1)) (fun x => (.t .bool (hasF x.1 x.2.1)))
theorem ms_f97 : Meets Tryz.prog 97 (strip sp_f97) := by
 obtain ⟨c, hc, hi⟩ := Option.map_eq_some_iff.1 ok_f97
 exact meets_spec (R := runF g_f97 tc_f97 rv_f97 false) (meets_of (by decide) Tryz.func97 hc hi Tryz.ntmps97 rok_f97 gk_f97 lk_f97 mixed) fun x hok => (e_f97 x.1 x.2.1).trans (s_f97 x.1 x.2.1 hok)
end Go.Proofs.YtfehjdaielifiaaGreat.K
