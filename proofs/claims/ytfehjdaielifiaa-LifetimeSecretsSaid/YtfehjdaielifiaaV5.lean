/-
  catalog: which uses are valid.
-/
import Derived.Test.YtfehjdaielifiaaV1
set_option linter.unusedSimpArgs false
set_option linter.unusedVariables false
namespace Go.Proofs.Ytfehjdaielifiaa.K
open Go.RowKit
/-! the table -/
/-- cipherplan/catalog.rows -/
def tc_catalog_rows : TC := (.sq (.reg [(.mk (some 0) none (.m (.new [(.v (.string (ByteArray.mk #[]))), (.v (.int .i64 0)), (.v (.int .i64 0)), (.v (.slice none 0 0)), (.v (.slice none 0 0)), (.v (.string (ByteArray.mk #[]))), (.v (.int .i64 0)), (.v (.int .i64 0)), (.v (.slice none 0 0)), (.v (.slice none 0 0)), (.v (.string (ByteArray.mk #[]))), (.v (.int .i64 0)), (.v (.int .i64 0)), (.v (.slice none 0 0)), (.v (.slice none 0 0)), (.v (.string (ByteArray.mk #[]))), (.v (.int .i64 0)), (.v (.int .i64 0)), (.v (.slice none 0 0)), (.v (.slice none 0 0)), (.v (.string (ByteArray.mk #[]))), (.v (.int .i64 0)), (.v (.int .i64 0)), (.v (.slice none 0 0)), (.v (.slice none 0 0)), (.v (.string (ByteArray.mk #[]))), (.v (.int .i64 0)), (.v (.int .i64 0)), (.v (.slice none 0 0)), (.v (.slice none 0 0)), (.v (.string (ByteArray.mk #[]))), (.v (.int .i64 0)), (.v (.int .i64 0)), (.v (.slice none 0 0)), (.v (.slice none 0 0)), (.v (.string (ByteArray.mk #[]))), (.v (.int .i64 0)), (.v (.int .i64 0)), (.v (.slice none 0 0)), (.v (.slice none 0 0)), (.v (.string (ByteArray.mk #[]))), (.v (.int .i64 0)), (.v (.int .i64 0)), (.v (.slice none 0 0)), (.v (.slice none 0 0)), (.v (.string (ByteArray.mk #[]))), (.v (.int .i64 0)), (.v (.int .i64 0)), (.v (.slice none 0 0)), (.v (.slice none 0 0)), (.v (.string (ByteArray.mk #[]))), (.v (.int .i64 0)), (.v (.int .i64 0)), (.v (.slice none 0 0)), (.v (.slice none 0 0)), (.v (.string (ByteArray.mk #[]))), (.v (.int .i64 0)), (.v (.int .i64 0)), (.v (.slice none 0 0)), (.v (.slice none 0 0)), (.v (.string (ByteArray.mk #[]))), (.v (.int .i64 0)), (.v (.int .i64 0)), (.v (.slice none 0 0)), (.v (.slice none 0 0)), (.v (.string (ByteArray.mk #[]))), (.v (.int .i64 0)), (.v (.int .i64 0)), (.v (.slice none 0 0)), (.v (.slice none 0 0)), (.v (.string (ByteArray.mk #[]))), (.v (.int .i64 0)), (.v (.int .i64 0)), (.v (.slice none 0 0)), (.v (.slice none 0 0)), (.v (.string (ByteArray.mk #[]))), (.v (.int .i64 0)), (.v (.int .i64 0)), (.v (.slice none 0 0)), (.v (.slice none 0 0)), (.v (.string (ByteArray.mk #[]))), (.v (.int .i64 0)), (.v (.int .i64 0)), (.v (.slice none 0 0)), (.v (.slice none 0 0)), (.v (.string (ByteArray.mk #[]))), (.v (.int .i64 0)), (.v (.int .i64 0)), (.v (.slice none 0 0)), (.v (.slice none 0 0)), (.v (.string (ByteArray.mk #[]))), (.v (.int .i64 0)), (.v (.int .i64 0)), (.v (.slice none 0 0)), (.v (.slice none 0 0)), (.v (.string (ByteArray.mk #[]))), (.v (.int .i64 0)), (.v (.int .i64 0)), (.v (.slice none 0 0)), (.v (.slice none 0 0)), (.v (.string (ByteArray.mk #[]))), (.v (.int .i64 0)), (.v (.int .i64 0)), (.v (.slice none 0 0)), (.v (.slice none 0 0)), (.v (.string (ByteArray.mk #[]))), (.v (.int .i64 0)), (.v (.int .i64 0)), (.v (.slice none 0 0)), (.v (.slice none 0 0)), (.v (.string (ByteArray.mk #[]))), (.v (.int .i64 0)), (.v (.int .i64 0)), (.v (.slice none 0 0)), (.v (.slice none 0 0))])))]) (.sq (.reg [(.mk (some 1) none (.m (.bs 3 1 1 [(.v (.int .i64 0))] [(0, 1, (.c (.v (.int .i64 18))))]))), (.mk (some 2) none (.m (.pu (.bd [(.v (.string (ByteArray.mk #[]))), (.v (.int .i64 0)), (.v (.int .i64 0)), (.v (.slice none 0 0)), (.v (.slice none 0 0))] [(0, 1, (.c (.v (.string (ByteArray.mk #[109, 100, 53]))))), (1, 1, (.c (.v (.int .i64 1)))), (2, 1, (.c (.v (.int .i64 0)))), (3, 1, (.c (.v (.slice none 0 0)))), (4, 1, (.t 1))])))), (.mk (some 3) none (.m (.bs 3 1 1 [(.v (.int .i64 0))] [(0, 1, (.c (.v (.int .i64 60))))]))), (.mk (some 4) none (.m (.pu (.bd [(.v (.string (ByteArray.mk #[]))), (.v (.int .i64 0)), (.v (.int .i64 0)), (.v (.slice none 0 0)), (.v (.slice none 0 0))] [(0, 1, (.c (.v (.string (ByteArray.mk #[115, 104, 97, 49]))))), (1, 1, (.c (.v (.int .i64 1)))), (2, 1, (.c (.v (.int .i64 0)))), (3, 1, (.c (.v (.slice none 0 0)))), (4, 1, (.t 3))])))), (.mk (some 5) none (.m (.bs 3 1 1 [(.v (.int .i64 0))] [(0, 1, (.c (.v (.int .i64 128))))]))), (.mk (some 6) none (.m (.pu (.bd [(.v (.string (ByteArray.mk #[]))), (.v (.int .i64 0)), (.v (.int .i64 0)), (.v (.slice none 0 0)), (.v (.slice none 0 0))] [(0, 1, (.c (.v (.string (ByteArray.mk #[115, 104, 97, 50, 53, 54]))))), (1, 1, (.c (.v (.int .i64 1)))), (2, 1, (.c (.v (.int .i64 0)))), (3, 1, (.c (.v (.slice none 0 0)))), (4, 1, (.t 5))])))), (.mk (some 7) none (.m (.bs 3 1 1 [(.v (.int .i64 0))] [(0, 1, (.c (.v (.int .i64 192))))]))), (.mk (some 8) none (.m (.pu (.bd [(.v (.string (ByteArray.mk #[]))), (.v (.int .i64 0)), (.v (.int .i64 0)), (.v (.slice none 0 0)), (.v (.slice none 0 0))] [(0, 1, (.c (.v (.string (ByteArray.mk #[115, 104, 97, 51, 56, 52]))))), (1, 1, (.c (.v (.int .i64 1)))), (2, 1, (.c (.v (.int .i64 0)))), (3, 1, (.c (.v (.slice none 0 0)))), (4, 1, (.t 7))])))), (.mk (some 9) none (.m (.pu (.bd [(.v (.string (ByteArray.mk #[]))), (.v (.int .i64 0)), (.v (.int .i64 0)), (.v (.slice none 0 0)), (.v (.slice none 0 0))] [(0, 1, (.c (.v (.string (ByteArray.mk #[114, 115, 97]))))), (1, 1, (.c (.v (.int .i64 2)))), (2, 1, (.c (.v (.int .i64 1)))), (3, 1, (.c (.v (.slice none 0 0)))), (4, 1, (.c (.v (.slice none 0 0))))])))), (.mk (some 10) none (.m (.pu (.bd [(.v (.string (ByteArray.mk #[]))), (.v (.int .i64 0)), (.v (.int .i64 0)), (.v (.slice none 0 0)), (.v (.slice none 0 0))] [(0, 1, (.c (.v (.string (ByteArray.mk #[100, 115, 97]))))), (1, 1, (.c (.v (.int .i64 2)))), (2, 1, (.c (.v (.int .i64 1)))), (3, 1, (.c (.v (.slice none 0 0)))), (4, 1, (.c (.v (.slice none 0 0))))])))), (.mk (some 11) none (.m (.pu (.bd [(.v (.string (ByteArray.mk #[]))), (.v (.int .i64 0)), (.v (.int .i64 0)), (.v (.slice none 0 0)), (.v (.slice none 0 0))] [(0, 1, (.c (.v (.string (ByteArray.mk #[101, 99, 100, 115, 97]))))), (1, 1, (.c (.v (.int .i64 2)))), (2, 1, (.c (.v (.int .i64 2)))), (3, 1, (.c (.v (.slice none 0 0)))), (4, 1, (.c (.v (.slice none 0 0))))])))), (.mk (some 12) none (.m (.bs 3 1 1 [(.v (.int .i64 0))] [(0, 1, (.c (.v (.int .i64 128))))]))), (.mk (some 13) none (.m (.pu (.bd [(.v (.string (ByteArray.mk #[]))), (.v (.int .i64 0)), (.v (.int .i64 0)), (.v (.slice none 0 0)), (.v (.slice none 0 0))] [(0, 1, (.c (.v (.string (ByteArray.mk #[101, 100, 50, 53, 53, 49, 57]))))), (1, 1, (.c (.v (.int .i64 2)))), (2, 1, (.c (.v (.int .i64 0)))), (3, 1, (.c (.v (.slice none 0 0)))), (4, 1, (.t 12))])))), (.mk (some 14) none (.m (.bs 3 1 3 [(.v (.int .i64 0)), (.v (.int .i64 0)), (.v (.int .i64 0))] [(0, 1, (.c (.v (.int .i64 44)))), (1, 1, (.c (.v (.int .i64 65)))), (2, 1, (.c (.v (.int .i64 87))))]))), (.mk (some 15) none (.m (.bs 3 1 3 [(.v (.int .i64 0)), (.v (.int .i64 0)), (.v (.int .i64 0))] [(0, 1, (.c (.v (.int .i64 128)))), (1, 1, (.c (.v (.int .i64 192)))), (2, 1, (.c (.v (.int .i64 256))))]))), (.mk (some 16) none (.m (.pu (.bd [(.v (.string (ByteArray.mk #[]))), (.v (.int .i64 0)), (.v (.int .i64 0)), (.v (.slice none 0 0)), (.v (.slice none 0 0))] [(0, 1, (.c (.v (.string (ByteArray.mk #[109, 108, 100, 115, 97]))))), (1, 1, (.c (.v (.int .i64 2)))), (2, 1, (.c (.v (.int .i64 3)))), (3, 1, (.t 14)), (4, 1, (.t 15))])))), (.mk (some 17) none (.m (.pu (.bd [(.v (.string (ByteArray.mk #[]))), (.v (.int .i64 0)), (.v (.int .i64 0)), (.v (.slice none 0 0)), (.v (.slice none 0 0))] [(0, 1, (.c (.v (.string (ByteArray.mk #[114, 115, 97, 107, 120]))))), (1, 1, (.c (.v (.int .i64 3)))), (2, 1, (.c (.v (.int .i64 1)))), (3, 1, (.c (.v (.slice none 0 0)))), (4, 1, (.c (.v (.slice none 0 0))))])))), (.mk (some 18) none (.m (.pu (.bd [(.v (.string (ByteArray.mk #[]))), (.v (.int .i64 0)), (.v (.int .i64 0)), (.v (.slice none 0 0)), (.v (.slice none 0 0))] [(0, 1, (.c (.v (.string (ByteArray.mk #[100, 104, 101]))))), (1, 1, (.c (.v (.int .i64 3)))), (2, 1, (.c (.v (.int .i64 1)))), (3, 1, (.c (.v (.slice none 0 0)))), (4, 1, (.c (.v (.slice none 0 0))))])))), (.mk (some 19) none (.m (.pu (.bd [(.v (.string (ByteArray.mk #[]))), (.v (.int .i64 0)), (.v (.int .i64 0)), (.v (.slice none 0 0)), (.v (.slice none 0 0))] [(0, 1, (.c (.v (.string (ByteArray.mk #[101, 99, 100, 104, 101]))))), (1, 1, (.c (.v (.int .i64 3)))), (2, 1, (.c (.v (.int .i64 2)))), (3, 1, (.c (.v (.slice none 0 0)))), (4, 1, (.c (.v (.slice none 0 0))))])))), (.mk (some 20) none (.m (.bs 3 1 3 [(.v (.int .i64 0)), (.v (.int .i64 0)), (.v (.int .i64 0))] [(0, 1, (.c (.v (.int .i64 512)))), (1, 1, (.c (.v (.int .i64 768)))), (2, 1, (.c (.v (.int .i64 1024))))]))), (.mk (some 21) none (.m (.bs 3 1 3 [(.v (.int .i64 0)), (.v (.int .i64 0)), (.v (.int .i64 0))] [(0, 1, (.c (.v (.int .i64 128)))), (1, 1, (.c (.v (.int .i64 192)))), (2, 1, (.c (.v (.int .i64 256))))]))), (.mk (some 22) none (.m (.pu (.bd [(.v (.string (ByteArray.mk #[]))), (.v (.int .i64 0)), (.v (.int .i64 0)), (.v (.slice none 0 0)), (.v (.slice none 0 0))] [(0, 1, (.c (.v (.string (ByteArray.mk #[109, 108, 107, 101, 109]))))), (1, 1, (.c (.v (.int .i64 3)))), (2, 1, (.c (.v (.int .i64 3)))), (3, 1, (.t 20)), (4, 1, (.t 21))])))), (.mk (some 23) none (.m (.bs 3 1 2 [(.v (.int .i64 0)), (.v (.int .i64 0))] [(0, 1, (.c (.v (.int .i64 40)))), (1, 1, (.c (.v (.int .i64 128))))]))), (.mk (some 24) none (.m (.bs 3 1 2 [(.v (.int .i64 0)), (.v (.int .i64 0))] [(0, 1, (.c (.v (.int .i64 40)))), (1, 1, (.c (.v (.int .i64 60))))]))), (.mk (some 25) none (.m (.pu (.bd [(.v (.string (ByteArray.mk #[]))), (.v (.int .i64 0)), (.v (.int .i64 0)), (.v (.slice none 0 0)), (.v (.slice none 0 0))] [(0, 1, (.c (.v (.string (ByteArray.mk #[114, 99, 52]))))), (1, 1, (.c (.v (.int .i64 4)))), (2, 1, (.c (.v (.int .i64 3)))), (3, 1, (.t 23)), (4, 1, (.t 24))])))), (.mk (some 26) none (.m (.bs 3 1 2 [(.v (.int .i64 0)), (.v (.int .i64 0))] [(0, 1, (.c (.v (.int .i64 112)))), (1, 1, (.c (.v (.int .i64 168))))]))), (.mk (some 27) none (.m (.bs 3 1 2 [(.v (.int .i64 0)), (.v (.int .i64 0))] [(0, 1, (.c (.v (.int .i64 80)))), (1, 1, (.c (.v (.int .i64 112))))]))), (.mk (some 28) none (.m (.pu (.bd [(.v (.string (ByteArray.mk #[]))), (.v (.int .i64 0)), (.v (.int .i64 0)), (.v (.slice none 0 0)), (.v (.slice none 0 0))] [(0, 1, (.c (.v (.string (ByteArray.mk #[100, 101, 115, 51]))))), (1, 1, (.c (.v (.int .i64 4)))), (2, 1, (.c (.v (.int .i64 3)))), (3, 1, (.t 26)), (4, 1, (.t 27))])))), (.mk (some 29) none (.m (.bs 3 1 2 [(.v (.int .i64 0)), (.v (.int .i64 0))] [(0, 1, (.c (.v (.int .i64 128)))), (1, 1, (.c (.v (.int .i64 256))))]))), (.mk (some 30) none (.m (.bs 3 1 2 [(.v (.int .i64 0)), (.v (.int .i64 0))] [(0, 1, (.c (.v (.int .i64 128)))), (1, 1, (.c (.v (.int .i64 256))))]))), (.mk (some 31) none (.m (.pu (.bd [(.v (.string (ByteArray.mk #[]))), (.v (.int .i64 0)), (.v (.int .i64 0)), (.v (.slice none 0 0)), (.v (.slice none 0 0))] [(0, 1, (.c (.v (.string (ByteArray.mk #[97, 101, 115, 99, 98, 99]))))), (1, 1, (.c (.v (.int .i64 4)))), (2, 1, (.c (.v (.int .i64 3)))), (3, 1, (.t 29)), (4, 1, (.t 30))])))), (.mk (some 32) none (.m (.bs 3 1 2 [(.v (.int .i64 0)), (.v (.int .i64 0))] [(0, 1, (.c (.v (.int .i64 128)))), (1, 1, (.c (.v (.int .i64 256))))]))), (.mk (some 33) none (.m (.bs 3 1 2 [(.v (.int .i64 0)), (.v (.int .i64 0))] [(0, 1, (.c (.v (.int .i64 128)))), (1, 1, (.c (.v (.int .i64 256))))]))), (.mk (some 34) none (.m (.pu (.bd [(.v (.string (ByteArray.mk #[]))), (.v (.int .i64 0)), (.v (.int .i64 0)), (.v (.slice none 0 0)), (.v (.slice none 0 0))] [(0, 1, (.c (.v (.string (ByteArray.mk #[97, 101, 115, 103, 99, 109]))))), (1, 1, (.c (.v (.int .i64 4)))), (2, 1, (.c (.v (.int .i64 3)))), (3, 1, (.t 32)), (4, 1, (.t 33))])))), (.mk (some 35) none (.m (.bs 3 1 1 [(.v (.int .i64 0))] [(0, 1, (.c (.v (.int .i64 256))))]))), (.mk (some 36) none (.m (.pu (.bd [(.v (.string (ByteArray.mk #[]))), (.v (.int .i64 0)), (.v (.int .i64 0)), (.v (.slice none 0 0)), (.v (.slice none 0 0))] [(0, 1, (.c (.v (.string (ByteArray.mk #[99, 104, 97, 99, 104, 97]))))), (1, 1, (.c (.v (.int .i64 4)))), (2, 1, (.c (.v (.int .i64 0)))), (3, 1, (.c (.v (.slice none 0 0)))), (4, 1, (.t 35))])))), (.mk (some 37) none (.m (.bs 3 1 1 [(.v (.int .i64 0))] [(0, 1, (.c (.v (.int .i64 64))))]))), (.mk (some 38) none (.m (.pu (.bd [(.v (.string (ByteArray.mk #[]))), (.v (.int .i64 0)), (.v (.int .i64 0)), (.v (.slice none 0 0)), (.v (.slice none 0 0))] [(0, 1, (.c (.v (.string (ByteArray.mk #[104, 109, 97, 99, 109, 100, 53]))))), (1, 1, (.c (.v (.int .i64 5)))), (2, 1, (.c (.v (.int .i64 0)))), (3, 1, (.c (.v (.slice none 0 0)))), (4, 1, (.t 37))])))), (.mk (some 39) none (.m (.bs 3 1 1 [(.v (.int .i64 0))] [(0, 1, (.c (.v (.int .i64 80))))]))), (.mk (some 40) none (.m (.pu (.bd [(.v (.string (ByteArray.mk #[]))), (.v (.int .i64 0)), (.v (.int .i64 0)), (.v (.slice none 0 0)), (.v (.slice none 0 0))] [(0, 1, (.c (.v (.string (ByteArray.mk #[104, 109, 97, 99, 115, 104, 97, 49]))))), (1, 1, (.c (.v (.int .i64 5)))), (2, 1, (.c (.v (.int .i64 0)))), (3, 1, (.c (.v (.slice none 0 0)))), (4, 1, (.t 39))])))), (.mk (some 41) none (.m (.bs 3 1 1 [(.v (.int .i64 0))] [(0, 1, (.c (.v (.int .i64 128))))]))), (.mk (some 42) none (.m (.pu (.bd [(.v (.string (ByteArray.mk #[]))), (.v (.int .i64 0)), (.v (.int .i64 0)), (.v (.slice none 0 0)), (.v (.slice none 0 0))] [(0, 1, (.c (.v (.string (ByteArray.mk #[104, 109, 97, 99, 115, 104, 97, 50, 53, 54]))))), (1, 1, (.c (.v (.int .i64 5)))), (2, 1, (.c (.v (.int .i64 0)))), (3, 1, (.c (.v (.slice none 0 0)))), (4, 1, (.t 41))])))), (.mk (some 43) none (.m (.bs 3 1 1 [(.v (.int .i64 0))] [(0, 1, (.c (.v (.int .i64 256))))]))), (.mk (some 44) none (.m (.pu (.bd [(.v (.string (ByteArray.mk #[]))), (.v (.int .i64 0)), (.v (.int .i64 0)), (.v (.slice none 0 0)), (.v (.slice none 0 0))] [(0, 1, (.c (.v (.string (ByteArray.mk #[97, 101, 97, 100]))))), (1, 1, (.c (.v (.int .i64 5)))), (2, 1, (.c (.v (.int .i64 0)))), (3, 1, (.c (.v (.slice none 0 0)))), (4, 1, (.t 43))])))), (.mk (some 45) none (.m (.pu (.bd [(.v (.string (ByteArray.mk #[]))), (.v (.int .i64 0)), (.v (.int .i64 0)), (.v (.slice none 0 0)), (.v (.slice none 0 0)), (.v (.string (ByteArray.mk #[]))), (.v (.int .i64 0)), (.v (.int .i64 0)), (.v (.slice none 0 0)), (.v (.slice none 0 0)), (.v (.string (ByteArray.mk #[]))), (.v (.int .i64 0)), (.v (.int .i64 0)), (.v (.slice none 0 0)), (.v (.slice none 0 0)), (.v (.string (ByteArray.mk #[]))), (.v (.int .i64 0)), (.v (.int .i64 0)), (.v (.slice none 0 0)), (.v (.slice none 0 0)), (.v (.string (ByteArray.mk #[]))), (.v (.int .i64 0)), (.v (.int .i64 0)), (.v (.slice none 0 0)), (.v (.slice none 0 0)), (.v (.string (ByteArray.mk #[]))), (.v (.int .i64 0)), (.v (.int .i64 0)), (.v (.slice none 0 0)), (.v (.slice none 0 0)), (.v (.string (ByteArray.mk #[]))), (.v (.int .i64 0)), (.v (.int .i64 0)), (.v (.slice none 0 0)), (.v (.slice none 0 0)), (.v (.string (ByteArray.mk #[]))), (.v (.int .i64 0)), (.v (.int .i64 0)), (.v (.slice none 0 0)), (.v (.slice none 0 0)), (.v (.string (ByteArray.mk #[]))), (.v (.int .i64 0)), (.v (.int .i64 0)), (.v (.slice none 0 0)), (.v (.slice none 0 0)), (.v (.string (ByteArray.mk #[]))), (.v (.int .i64 0)), (.v (.int .i64 0)), (.v (.slice none 0 0)), (.v (.slice none 0 0)), (.v (.string (ByteArray.mk #[]))), (.v (.int .i64 0)), (.v (.int .i64 0)), (.v (.slice none 0 0)), (.v (.slice none 0 0)), (.v (.string (ByteArray.mk #[]))), (.v (.int .i64 0)), (.v (.int .i64 0)), (.v (.slice none 0 0)), (.v (.slice none 0 0)), (.v (.string (ByteArray.mk #[]))), (.v (.int .i64 0)), (.v (.int .i64 0)), (.v (.slice none 0 0)), (.v (.slice none 0 0)), (.v (.string (ByteArray.mk #[]))), (.v (.int .i64 0)), (.v (.int .i64 0)), (.v (.slice none 0 0)), (.v (.slice none 0 0)), (.v (.string (ByteArray.mk #[]))), (.v (.int .i64 0)), (.v (.int .i64 0)), (.v (.slice none 0 0)), (.v (.slice none 0 0)), (.v (.string (ByteArray.mk #[]))), (.v (.int .i64 0)), (.v (.int .i64 0)), (.v (.slice none 0 0)), (.v (.slice none 0 0)), (.v (.string (ByteArray.mk #[]))), (.v (.int .i64 0)), (.v (.int .i64 0)), (.v (.slice none 0 0)), (.v (.slice none 0 0)), (.v (.string (ByteArray.mk #[]))), (.v (.int .i64 0)), (.v (.int .i64 0)), (.v (.slice none 0 0)), (.v (.slice none 0 0)), (.v (.string (ByteArray.mk #[]))), (.v (.int .i64 0)), (.v (.int .i64 0)), (.v (.slice none 0 0)), (.v (.slice none 0 0)), (.v (.string (ByteArray.mk #[]))), (.v (.int .i64 0)), (.v (.int .i64 0)), (.v (.slice none 0 0)), (.v (.slice none 0 0)), (.v (.string (ByteArray.mk #[]))), (.v (.int .i64 0)), (.v (.int .i64 0)), (.v (.slice none 0 0)), (.v (.slice none 0 0)), (.v (.string (ByteArray.mk #[]))), (.v (.int .i64 0)), (.v (.int .i64 0)), (.v (.slice none 0 0)), (.v (.slice none 0 0)), (.v (.string (ByteArray.mk #[]))), (.v (.int .i64 0)), (.v (.int .i64 0)), (.v (.slice none 0 0)), (.v (.slice none 0 0))] [(5, 5, (.t 2)), (10, 5, (.t 4)), (15, 5, (.t 6)), (20, 5, (.t 8)), (25, 5, (.t 9)), (30, 5, (.t 10)), (35, 5, (.t 11)), (40, 5, (.t 13)), (45, 5, (.t 16)), (50, 5, (.t 17)), (55, 5, (.t 18)), (60, 5, (.t 19)), (65, 5, (.t 22)), (70, 5, (.t 25)), (75, 5, (.t 28)), (80, 5, (.t 31)), (85, 5, (.t 34)), (90, 5, (.t 36)), (95, 5, (.t 38)), (100, 5, (.t 40)), (105, 5, (.t 42)), (110, 5, (.t 44))])))), (.mk none none (.m (.st 115 (.t 0) (.t 45))))]) .rt))
def rv_catalog_rows : List (RV × Option Ty) := [((.c 0 true 115), some (.pr tyRow (.pr tyRow (.pr tyRow (.pr tyRow (.pr tyRow (.pr tyRow (.pr tyRow (.pr tyRow (.pr tyRow (.pr tyRow (.pr tyRow (.pr tyRow (.pr tyRow (.pr tyRow (.pr tyRow (.pr tyRow (.pr tyRow (.pr tyRow (.pr tyRow (.pr tyRow (.pr tyRow (.pr tyRow (.pr tyRow .nil))))))))))))))))))))))))]
def g_catalog_rows : G := ⟨TYs, [], 46, EL [], keeps, (fun _ _ => none), IL [], RL []⟩
def r_catalog_rows  : Option (V × List VO) :=
  some (.t (.pr tyRow (.pr tyRow (.pr tyRow (.pr tyRow (.pr tyRow (.pr tyRow (.pr tyRow (.pr tyRow (.pr tyRow (.pr tyRow (.pr tyRow (.pr tyRow (.pr tyRow (.pr tyRow (.pr tyRow (.pr tyRow (.pr tyRow (.pr tyRow (.pr tyRow (.pr tyRow (.pr tyRow (.pr tyRow (.pr tyRow .nil))))))))))))))))))))))) (((ByteArray.mk #[]), (0, (0, (([] : List Int), (([] : List Int), ()))))), (((ByteArray.mk #[109, 100, 53]), (1, (0, (([] : List Int), ([18], ()))))), (((ByteArray.mk #[115, 104, 97, 49]), (1, (0, (([] : List Int), ([60], ()))))), (((ByteArray.mk #[115, 104, 97, 50, 53, 54]), (1, (0, (([] : List Int), ([128], ()))))), (((ByteArray.mk #[115, 104, 97, 51, 56, 52]), (1, (0, (([] : List Int), ([192], ()))))), (((ByteArray.mk #[114, 115, 97]), (2, (1, (([] : List Int), (([] : List Int), ()))))), (((ByteArray.mk #[100, 115, 97]), (2, (1, (([] : List Int), (([] : List Int), ()))))), (((ByteArray.mk #[101, 99, 100, 115, 97]), (2, (2, (([] : List Int), (([] : List Int), ()))))), (((ByteArray.mk #[101, 100, 50, 53, 53, 49, 57]), (2, (0, (([] : List Int), ([128], ()))))), (((ByteArray.mk #[109, 108, 100, 115, 97]), (2, (3, ([44, 65, 87], ([128, 192, 256], ()))))), (((ByteArray.mk #[114, 115, 97, 107, 120]), (3, (1, (([] : List Int), (([] : List Int), ()))))), (((ByteArray.mk #[100, 104, 101]), (3, (1, (([] : List Int), (([] : List Int), ()))))), (((ByteArray.mk #[101, 99, 100, 104, 101]), (3, (2, (([] : List Int), (([] : List Int), ()))))), (((ByteArray.mk #[109, 108, 107, 101, 109]), (3, (3, ([512, 768, 1024], ([128, 192, 256], ()))))), (((ByteArray.mk #[114, 99, 52]), (4, (3, ([40, 128], ([40, 60], ()))))), (((ByteArray.mk #[100, 101, 115, 51]), (4, (3, ([112, 168], ([80, 112], ()))))), (((ByteArray.mk #[97, 101, 115, 99, 98, 99]), (4, (3, ([128, 256], ([128, 256], ()))))), (((ByteArray.mk #[97, 101, 115, 103, 99, 109]), (4, (3, ([128, 256], ([128, 256], ()))))), (((ByteArray.mk #[99, 104, 97, 99, 104, 97]), (4, (0, (([] : List Int), ([256], ()))))), (((ByteArray.mk #[104, 109, 97, 99, 109, 100, 53]), (5, (0, (([] : List Int), ([64], ()))))), (((ByteArray.mk #[104, 109, 97, 99, 115, 104, 97, 49]), (5, (0, (([] : List Int), ([80], ()))))), (((ByteArray.mk #[104, 109, 97, 99, 115, 104, 97, 50, 53, 54]), (5, (0, (([] : List Int), ([128], ()))))), (((ByteArray.mk #[97, 101, 97, 100]), (5, (0, (([] : List Int), ([256], ()))))), ()))))))))))))))))))))))), [])
theorem e_catalog_rows  : runF g_catalog_rows tc_catalog_rows rv_catalog_rows false [] [] = r_catalog_rows  := by kernel_rfl
theorem ok_catalog_rows : Option.map (trC Try.prog) Try.f67.body = some tc_catalog_rows.er := by kernel_rfl
theorem rok_catalog_rows : trVs Try.prog Try.f67.results.toList = some (rv_catalog_rows.map Prod.fst) := by kernel_rfl
theorem en_catalog_rows : Entered Try.prog 67 := .inr ⟨by decide, _, Try.func67, by kernel_rfl, by kernel_rfl⟩
theorem gk_catalog_rows : GOk Try.prog g_catalog_rows := gok_of _ (fun p hp => by cases hp)
theorem lk_catalog_rows : tc_catalog_rows.lok g_catalog_rows := by repeat (first | exact trivial | refine ⟨?_, ?_⟩)
def rowsF : Ty.T (.pr tyRow (.pr tyRow (.pr tyRow (.pr tyRow (.pr tyRow (.pr tyRow (.pr tyRow (.pr tyRow (.pr tyRow (.pr tyRow (.pr tyRow (.pr tyRow (.pr tyRow (.pr tyRow (.pr tyRow (.pr tyRow (.pr tyRow (.pr tyRow (.pr tyRow (.pr tyRow (.pr tyRow (.pr tyRow (.pr tyRow .nil))))))))))))))))))))))) := (((ByteArray.mk #[]), (0, (0, (([] : List Int), (([] : List Int), ()))))), (((ByteArray.mk #[109, 100, 53]), (1, (0, (([] : List Int), ([18], ()))))), (((ByteArray.mk #[115, 104, 97, 49]), (1, (0, (([] : List Int), ([60], ()))))), (((ByteArray.mk #[115, 104, 97, 50, 53, 54]), (1, (0, (([] : List Int), ([128], ()))))), (((ByteArray.mk #[115, 104, 97, 51, 56, 52]), (1, (0, (([] : List Int), ([192], ()))))), (((ByteArray.mk #[114, 115, 97]), (2, (1, (([] : List Int), (([] : List Int), ()))))), (((ByteArray.mk #[100, 115, 97]), (2, (1, (([] : List Int), (([] : List Int), ()))))), (((ByteArray.mk #[101, 99, 100, 115, 97]), (2, (2, (([] : List Int), (([] : List Int), ()))))), (((ByteArray.mk #[101, 100, 50, 53, 53, 49, 57]), (2, (0, (([] : List Int), ([128], ()))))), (((ByteArray.mk #[109, 108, 100, 115, 97]), (2, (3, ([44, 65, 87], ([128, 192, 256], ()))))), (((ByteArray.mk #[114, 115, 97, 107, 120]), (3, (1, (([] : List Int), (([] : List Int), ()))))), (((ByteArray.mk #[100, 104, 101]), (3, (1, (([] : List Int), (([] : List Int), ()))))), (((ByteArray.mk #[101, 99, 100, 104, 101]), (3, (2, (([] : List Int), (([] : List Int), ()))))), (((ByteArray.mk #[109, 108, 107, 101, 109]), (3, (3, ([512, 768, 1024], ([128, 192, 256], ()))))), (((ByteArray.mk #[114, 99, 52]), (4, (3, ([40, 128], ([40, 60], ()))))), (((ByteArray.mk #[100, 101, 115, 51]), (4, (3, ([112, 168], ([80, 112], ()))))), (((ByteArray.mk #[97, 101, 115, 99, 98, 99]), (4, (3, ([128, 256], ([128, 256], ()))))), (((ByteArray.mk #[97, 101, 115, 103, 99, 109]), (4, (3, ([128, 256], ([128, 256], ()))))), (((ByteArray.mk #[99, 104, 97, 99, 104, 97]), (4, (0, (([] : List Int), ([256], ()))))), (((ByteArray.mk #[104, 109, 97, 99, 109, 100, 53]), (5, (0, (([] : List Int), ([64], ()))))), (((ByteArray.mk #[104, 109, 97, 99, 115, 104, 97, 49]), (5, (0, (([] : List Int), ([80], ()))))), (((ByteArray.mk #[104, 109, 97, 99, 115, 104, 97, 50, 53, 54]), (5, (0, (([] : List Int), ([128], ()))))), (((ByteArray.mk #[97, 101, 97, 100]), (5, (0, (([] : List Int), ([256], ()))))), ())))))))))))))))))))))))
theorem s_catalog_rows : r_catalog_rows = some (.t (tyR tyRow 23) rowsF, []) := rfl
def sp_catalog_rows : Ent := spec .nil (fun x => true) (fun x => (.t (.pr tyRow (.pr tyRow (.pr tyRow (.pr tyRow (.pr tyRow (.pr tyRow (.pr tyRow (.pr tyRow (.pr tyRow (.pr tyRow (.pr tyRow (.pr tyRow (.pr tyRow (.pr tyRow (.pr tyRow (.pr tyRow (.pr tyRow (.pr tyRow (.pr tyRow (.pr tyRow (.pr tyRow (.pr tyRow (.pr tyRow .nil))))))))))))))))))))))) rowsF))
theorem ms_catalog_rows : Meets Try.prog 67 (strip sp_catalog_rows) := by
  obtain ⟨c, hc, hi⟩ := Option.map_eq_some_iff.1 ok_catalog_rows
  exact meets_spec (R := runF g_catalog_rows tc_catalog_rows rv_catalog_rows false) (meets_of (by decide) Try.func67 hc hi Try.ntmps67 rok_catalog_rows gk_catalog_rows lk_catalog_rows mixed) fun x _ => (e_catalog_rows ).trans (s_catalog_rows )
def noRow : Row := ((ByteArray.mk #[]), (0, (0, (([] : List Int), (([] : List Int), ())))))
def ofF (a : Int) : Row × Bool := if a < 1 ∨ 22 < a then (noRow, false) else (arrGetI tyRow 23 rowsF a, true)
/-- cipherplan/catalog.of -/
def tc_catalog_of : TC := (.sq (.reg [(.mk (some 2) none (.m (.new [(.v (.string (ByteArray.mk #[]))), (.v (.int .i64 0)), (.v (.int .i64 0)), (.v (.slice none 0 0)), (.v (.slice none 0 0))]))), (.mk (some 3) none (.m (.pu (.mv (.c (.v (.bool false)))))))]) (.sq (.sq (.reg [(.mk (some 4) none (.m (.pu (.mv (.t 0))))), (.mk (some 5) none (.m (.pu (.bin false .lss (.t 4) (.c (.v (.int .i64 1))))))), (.mk (some 6) none (.m (.pu (.mv (.t 5))))), (.mk (some 7) (some (6, false)) (.m (.pu (.mv (.t 0))))), (.mk (some 8) (some (6, false)) (.m (.pu (.bin false .gtr (.t 7) (.c (.v (.int .i64 22))))))), (.mk (some 9) none (.m (.pu (.pick (.t 6) (.c (.v (.bool true))) (.t 8)))))]) (.cd (.t 9) (.sq (.reg [(.mk (some 10) none (.m (.pu (.bd [(.v (.string (ByteArray.mk #[]))), (.v (.int .i64 0)), (.v (.int .i64 0)), (.v (.slice none 0 0)), (.v (.slice none 0 0))] [])))), (.mk none none (.m (.st 5 (.t 2) (.t 10)))), (.mk (some 3) none (.m (.pu (.mv (.c (.v (.bool false)))))))]) .rt) .sk)) (.sq (.reg [(.mk (some 11) none (.call 67 [])), (.mk (some 12) none (.m (.pu (.mv (.t 0))))), (.mk (some 13) none (.call 1001826 [(.t 11), (.t 12)])), (.mk none none (.m (.st 5 (.t 2) (.t 13)))), (.mk (some 3) none (.m (.pu (.mv (.c (.v (.bool true)))))))]) .rt)))
def rv_catalog_of : List (RV × Option Ty) := [((.c 2 true 5), some tyRow), ((.t 3), some .bool)]
def g_catalog_of : G := ⟨TYs, [], 14, EL [(67, sp_catalog_rows), (1001826, sp_op_index_114)], keeps, (fun _ _ => none), IL [], RL []⟩
def r_catalog_of (p0 : Int) : Option (V × List VO) :=
  br ((ilt p0 1))
    (some (.tu [(.t tyRow ((ByteArray.mk #[]), (0, (0, (([] : List Int), (([] : List Int), ())))))), (.t .bool false)], []))
    (br ((igt p0 22))
      (some (.tu [(.t tyRow ((ByteArray.mk #[]), (0, (0, (([] : List Int), (([] : List Int), ())))))), (.t .bool false)], []))
      (br ((arrOk tyRow 23 rowsF p0))
        (some (.tu [(.t tyRow (arrGetI tyRow 23 rowsF p0)), (.t .bool true)], []))
        (none)))
theorem e_catalog_of (p0 : Int) : runF g_catalog_of tc_catalog_of rv_catalog_of false [.t tI p0] [] = r_catalog_of p0 := by kernel_rfl
theorem ok_catalog_of : Option.map (trC Try.prog) Try.f56.body = some tc_catalog_of.er := by kernel_rfl
theorem rok_catalog_of : trVs Try.prog Try.f56.results.toList = some (rv_catalog_of.map Prod.fst) := by kernel_rfl
theorem en_catalog_of : Entered Try.prog 56 := .inr ⟨by decide, _, Try.func56, by kernel_rfl, by kernel_rfl⟩
theorem gk_catalog_of : GOk Try.prog g_catalog_of := gok_of _ (by
  intro p hp
  simp only [List.mem_cons, List.not_mem_nil, or_false] at hp
  rcases hp with rfl | rfl
  · exact ⟨en_catalog_rows, ms_catalog_rows⟩
  · exact ⟨en_op_index_114, ms_op_index_114⟩)
theorem lk_catalog_of : tc_catalog_of.lok g_catalog_of := by repeat (first | exact trivial | refine ⟨?_, ?_⟩)
theorem s_catalog_of (a : Int) : r_catalog_of a = some (.tu [.t tyRow (ofF a).1, .t .bool (ofF a).2], []) := by
  simp only [r_catalog_of]
  refine br_intro (fun h1 => ?_) (fun h1 => br_intro (fun h2 => ?_) (fun h2 => ?_))
  · have h1 : a < 1 := by simpa [ilt] using h1
    simp [ofF, h1, noRow]
  · have h2 : 22 < a := by simpa [igt] using h2
    simp [ofF, h2, noRow]
  · have h1 : ¬ a < 1 := by simpa [ilt] using h1
    have h2 : ¬ 22 < a := by simpa [igt] using h2
    have h3 : arrOk tyRow 23 rowsF a = true := by simp [arrOk]; omega
    rw [h3, br_true]
    simp [ofF, h1, h2]
def sp_catalog_of : Ent := spec (.pr tI .nil) (fun x => true) (fun x => (.tu [(.t tyRow ((ofF x.1).1)), (.t .bool ((ofF x.1).2))]))
theorem ms_catalog_of : Meets Try.prog 56 (strip sp_catalog_of) := by
  obtain ⟨c, hc, hi⟩ := Option.map_eq_some_iff.1 ok_catalog_of
  exact meets_spec (R := runF g_catalog_of tc_catalog_of rv_catalog_of false) (meets_of (by decide) Try.func56 hc hi Try.ntmps56 rok_catalog_of gk_catalog_of lk_catalog_of mixed) fun x _ => (e_catalog_of x.1).trans (s_catalog_of x.1)

/-! sizes of RSA and the like -/
def modL : List (Int × Int) := [(1024, 56), (2048, 80), (3072, 112), (7680, 128), (15360, 192)]
def modA : (Keep × (Keep × (Keep × (Keep × (Keep × Unit))))) := ((1024, (56, ())), ((2048, (80, ())), ((3072, (112, ())), ((7680, (128, ())), ((15360, (192, ())), ())))))
def modZ (b i : Int) : Option Int := ((modL.drop i.toNat).find? fun x => ilt b x.1).map (·.2)
def modF (b : Int) : Int := (modZ b 0).getD 256
def fg_catalog_modulus_0 : Fg := ⟨[(0, some tI), (10, some (.pr tyKeep (.pr tyKeep (.pr tyKeep (.pr tyKeep (.pr tyKeep .nil)))))), (11, some tI)], []⟩
def tb_catalog_modulus_0 : TC := (.sq (.reg [(.mk (some 12) none (.m (.pu (.bin false .lss (.t 11) (.c (.v (.int .i64 5)))))))]) (.sq (.cd (.t 12) .sk (.fg ⟨[], []⟩ (.ex 0))) (.sq (.bk 1 (.sq (.reg [(.mk (some 13) none (.call 1001874 [(.t 10), (.t 11)])), (.mk (some 4) none (.m (.new [(.v (.int .i64 0)), (.v (.int .i64 0))]))), (.mk none none (.m (.st 2 (.t 4) (.t 13))))]) (.sq (.reg [(.mk (some 14) none (.m (.pu (.mv (.t 0))))), (.mk (some 15) none (.m (.pu (.fa 0 (.t 4))))), (.mk (some 16) none (.m (.ld false 1 (.t 15)))), (.mk (some 17) none (.m (.pu (.bin false .lss (.t 14) (.t 16)))))]) (.cd (.t 17) (.sq (.reg [(.mk (some 18) none (.m (.pu (.fa 1 (.t 4))))), (.mk (some 19) none (.m (.ld false 1 (.t 18)))), (.mk (some 2) none (.m (.pu (.mv (.t 19)))))]) (.fg ⟨[(2, some tI)], []⟩ .rt)) .sk)))) (.reg [(.mk (some 20) none (.m (.pu (.bin false .add (.t 11) (.c (.v (.int .i64 1))))))), (.mk (some 11) none (.m (.pu (.mv (.t 20)))))]))))
/-- cipherplan/catalog.modulus -/
def tc_catalog_modulus : TC := (.sq (.reg [(.mk (some 2) none (.m (.pu (.mv (.c (.v (.int .i64 0)))))))]) (.sq (.sq (.reg [(.mk (some 5) none (.m (.pu (.bd [(.v (.int .i64 0)), (.v (.int .i64 0))] [(0, 1, (.c (.v (.int .i64 1024)))), (1, 1, (.c (.v (.int .i64 56))))])))), (.mk (some 6) none (.m (.pu (.bd [(.v (.int .i64 0)), (.v (.int .i64 0))] [(0, 1, (.c (.v (.int .i64 2048)))), (1, 1, (.c (.v (.int .i64 80))))])))), (.mk (some 7) none (.m (.pu (.bd [(.v (.int .i64 0)), (.v (.int .i64 0))] [(0, 1, (.c (.v (.int .i64 3072)))), (1, 1, (.c (.v (.int .i64 112))))])))), (.mk (some 8) none (.m (.pu (.bd [(.v (.int .i64 0)), (.v (.int .i64 0))] [(0, 1, (.c (.v (.int .i64 7680)))), (1, 1, (.c (.v (.int .i64 128))))])))), (.mk (some 9) none (.m (.pu (.bd [(.v (.int .i64 0)), (.v (.int .i64 0))] [(0, 1, (.c (.v (.int .i64 15360)))), (1, 1, (.c (.v (.int .i64 192))))])))), (.mk (some 10) none (.m (.pu (.bd [(.v (.int .i64 0)), (.v (.int .i64 0)), (.v (.int .i64 0)), (.v (.int .i64 0)), (.v (.int .i64 0)), (.v (.int .i64 0)), (.v (.int .i64 0)), (.v (.int .i64 0)), (.v (.int .i64 0)), (.v (.int .i64 0))] [(0, 2, (.t 5)), (2, 2, (.t 6)), (4, 2, (.t 7)), (6, 2, (.t 8)), (8, 2, (.t 9))])))), (.mk (some 11) none (.m (.pu (.mv (.c (.v (.int .i64 0)))))))]) (.bk 0 (.lp 0 fg_catalog_modulus_0 tb_catalog_modulus_0))) (.sq (.reg [(.mk (some 2) none (.m (.pu (.mv (.c (.v (.int .i64 256)))))))]) .rt)))
def rv_catalog_modulus : List (RV × Option Ty) := [((.t 2), some tI)]
abbrev sh_catalog_modulus_0 : Sh := ⟨[(0, .ty tI), (10, .ty (.pr tyKeep (.pr tyKeep (.pr tyKeep (.pr tyKeep (.pr tyKeep .nil)))))), (11, .ty tI)], []⟩
def st_catalog_modulus_0 (x0 : Int) (x10 : (Keep × (Keep × (Keep × (Keep × (Keep × Unit)))))) (x11 : Int) : VS := sh_catalog_modulus_0.st (x0, x10, x11, ()) ()
abbrev sh_catalog_modulus_0_ret : Sh := ⟨[(2, .ty tI)], []⟩
def st_catalog_modulus_0_ret (x2 : Int) : VS := sh_catalog_modulus_0_ret.st (x2, ()) ()
abbrev sh_catalog_modulus_0_e0 : Sh := ⟨[], []⟩
def st_catalog_modulus_0_e0  : VS := sh_catalog_modulus_0_e0.st () ()
-- loop 0: (x0 : Int) (x10 : (Keep × (Keep × (Keep × (Keep × (Keep × Unit)))))) (x11 : Int); out: ('ret',) (x2 : Int); ('exit', 0) 
def L_catalog_modulus_0 : VS → Option (Bool × List (Bool × Exit × VS)) := mkL sh_catalog_modulus_0 (fun x y => (x.2.1 == modA && decide (0 ≤ x.2.2.1 ∧ x.2.2.1 ≤ 5))) (fun x y => [(((modZ x.1 x.2.2.1).isSome), .ret, st_catalog_modulus_0_ret ((modZ x.1 x.2.2.1).getD 0)), (true, .exit 0, st_catalog_modulus_0_e0)])
def g_catalog_modulus : G := ⟨TYs, [], 21, EL [(1001874, sp_op_index_117)], keeps, (Ls [L_catalog_modulus_0]), IL [], RL []⟩
def b_catalog_modulus_0 (x0 : Int) (x10 : (Keep × (Keep × (Keep × (Keep × (Keep × Unit)))))) (x11 : Int) : Option (Exit × VS) :=
  br ((ilt x11 5))
    (br ((arrOk tyKeep 5 x10 x11))
      (br ((ilt x0 ((arrGetI tyKeep 5 x10 x11).1)))
        (some (.ret, st_catalog_modulus_0_ret (((arrGetI tyKeep 5 x10 x11).2).1)))
        (some (.normal, st_catalog_modulus_0 x0 x10 (iadd .i64 x11 1))))
      (none))
    (some (.exit 0, st_catalog_modulus_0_e0))
noncomputable def lp_catalog_modulus_0 (x0 : Int) (x10 : (Keep × (Keep × (Keep × (Keep × (Keep × Unit)))))) (x11 : Int) : Option (Exit × VS) := loopF (roundF g_catalog_modulus fg_catalog_modulus_0 tb_catalog_modulus_0) (st_catalog_modulus_0 x0 x10 x11)
noncomputable def n_catalog_modulus_0 (x0 : Int) (x10 : (Keep × (Keep × (Keep × (Keep × (Keep × Unit)))))) (x11 : Int) : Option (Exit × VS) :=
  br ((ilt x11 5))
    (br ((arrOk tyKeep 5 x10 x11))
      (br ((ilt x0 ((arrGetI tyKeep 5 x10 x11).1)))
        (some (.ret, st_catalog_modulus_0_ret (((arrGetI tyKeep 5 x10 x11).2).1)))
        (lp_catalog_modulus_0 x0 x10 (iadd .i64 x11 1)))
      (none))
    (some (.exit 0, st_catalog_modulus_0_e0))
def la_catalog_modulus_0 (x0 : Int) (x10 : (Keep × (Keep × (Keep × (Keep × (Keep × Unit)))))) (x11 : Int) : Option (Exit × VS) := br ((modZ x0 x11).isSome) (some (.ret, st_catalog_modulus_0_ret ((modZ x0 x11).getD 0))) <| some (.exit 0, st_catalog_modulus_0_e0)
theorem be_catalog_modulus_0 (x0 : Int) (x10 : (Keep × (Keep × (Keep × (Keep × (Keep × Unit)))))) (x11 : Int) : roundF g_catalog_modulus fg_catalog_modulus_0 tb_catalog_modulus_0 (st_catalog_modulus_0 x0 x10 x11) = b_catalog_modulus_0 x0 x10 x11 := by kernel_rfl
theorem ln_catalog_modulus_0 (x0 : Int) (x10 : (Keep × (Keep × (Keep × (Keep × (Keep × Unit)))))) (x11 : Int) : lp_catalog_modulus_0 x0 x10 x11 = n_catalog_modulus_0 x0 x10 x11 := (loopF_nxt _ _).trans (by
  rw [be_catalog_modulus_0]
  simp only [b_catalog_modulus_0, n_catalog_modulus_0, nxt_br, nxt_n, nxt_r, nxt_e, nxt_0]
  rfl)
def r_catalog_modulus (p0 : Int) : Option (V × List VO) :=
  br ((((1024, (56, ())), ((2048, (80, ())), ((3072, (112, ())), ((7680, (128, ())), ((15360, (192, ())), ()))))) == modA && decide (0 ≤ (0 : Int) ∧ (0 : Int) ≤ 5)))
    (br (((modZ p0 (0 : Int)).isSome))
      (some (.t tI ((modZ p0 (0 : Int)).getD 0), []))
      (some (.t tI 256, [])))
    (none)
theorem e_catalog_modulus (p0 : Int) : runF g_catalog_modulus tc_catalog_modulus rv_catalog_modulus false [.t tI p0] [] = r_catalog_modulus p0 := by kernel_rfl
theorem ok_catalog_modulus : Option.map (trC Try.prog) Try.f57.body = some tc_catalog_modulus.er := by kernel_rfl
theorem rok_catalog_modulus : trVs Try.prog Try.f57.results.toList = some (rv_catalog_modulus.map Prod.fst) := by kernel_rfl
theorem en_catalog_modulus : Entered Try.prog 57 := .inr ⟨by decide, _, Try.func57, by kernel_rfl, by kernel_rfl⟩
theorem gk_catalog_modulus : GOk Try.prog g_catalog_modulus := gok_of _ (by
  intro p hp
  simp only [List.mem_cons, List.not_mem_nil, or_false] at hp
  rcases hp with rfl
  · exact ⟨en_op_index_117, ms_op_index_117⟩)
theorem l_catalog_modulus_0 (x0 : Int) (x10 : (Keep × (Keep × (Keep × (Keep × (Keep × Unit)))))) (x11 : Int) (h : (x10 == modA && decide (0 ≤ x11 ∧ x11 ≤ 5)) = true) : lp_catalog_modulus_0 x0 x10 x11 = la_catalog_modulus_0 x0 x10 x11 := by
  simp only [Bool.and_eq_true, decide_eq_true_eq, beq_iff_eq] at h
  obtain ⟨rfl, h1, h2⟩ := h
  obtain ⟨k, rfl⟩ := Int.eq_ofNat_of_zero_le h1
  refine up_ind 5 (fun k => lp_catalog_modulus_0 x0 modA (k : Int) = la_catalog_modulus_0 x0 modA (k : Int)) ?_ ?_ k (by omega)
  · rw [ln_catalog_modulus_0]
    rfl
  · intro k hk ih
    rw [ln_catalog_modulus_0]
    simp only [n_catalog_modulus_0, add1 (show k < 4611686018427387904 by omega), ih]
    have e1 : ilt (k : Int) 5 = true := by simp only [ilt, decide_eq_true_eq]; omega
    have e2 : arrOk tyKeep 5 modA (k : Int) = true := by simp only [arrOk, decide_eq_true_eq]; omega
    simp only [e1, e2, br_true]
    have hk5 : k = 0 ∨ k = 1 ∨ k = 2 ∨ k = 3 ∨ k = 4 := by omega
    rcases hk5 with rfl | rfl | rfl | rfl | rfl
    · show br (ilt x0 1024) _ _ = _
      cases h : ilt x0 1024 <;> simp [la_catalog_modulus_0, modZ, modL, h, br_true, br_false] <;> rfl
    · show br (ilt x0 2048) _ _ = _
      cases h : ilt x0 2048 <;> simp [la_catalog_modulus_0, modZ, modL, h, br_true, br_false] <;> rfl
    · show br (ilt x0 3072) _ _ = _
      cases h : ilt x0 3072 <;> simp [la_catalog_modulus_0, modZ, modL, h, br_true, br_false] <;> rfl
    · show br (ilt x0 7680) _ _ = _
      cases h : ilt x0 7680 <;> simp [la_catalog_modulus_0, modZ, modL, h, br_true, br_false] <;> rfl
    · show br (ilt x0 15360) _ _ = _
      cases h : ilt x0 15360 <;> simp [la_catalog_modulus_0, modZ, modL, h, br_true, br_false] <;> rfl
theorem lo_catalog_modulus_0 : ∀ S l p, g_catalog_modulus.L 0 (fgt fg_catalog_modulus_0 S) = some (true, l) → pickA l = some p → loopF (roundF g_catalog_modulus fg_catalog_modulus_0 tb_catalog_modulus_0) S = some p :=
  lok_of (s := sh_catalog_modulus_0) ⟨by decide, by decide⟩ (by kernel_rfl) fun x y hok p hp => by
  simp only [pickA_br, pickA_one] at hp
  exact (l_catalog_modulus_0 x.1 x.2.1 x.2.2.1 (by simpa using hok)).trans hp
theorem lk_catalog_modulus : tc_catalog_modulus.lok g_catalog_modulus := by
  repeat (first | exact trivial | exact lo_catalog_modulus_0 | refine ⟨?_, ?_⟩)
theorem s_catalog_modulus (b : Int) : r_catalog_modulus b = some (.t tI (modF b), []) := by
  simp only [r_catalog_modulus]
  show br true (br (modZ b 0).isSome (some (V.t tI ((modZ b 0).getD 0), [])) _) _ = _
  rw [br_true, modF]
  cases modZ b 0 <;> rfl
def sp_catalog_modulus : Ent := spec (.pr tI .nil) (fun x => true) (fun x => (.t tI (modF x.1)))
theorem ms_catalog_modulus : Meets Try.prog 57 (strip sp_catalog_modulus) := by
  obtain ⟨c, hc, hi⟩ := Option.map_eq_some_iff.1 ok_catalog_modulus
  exact meets_spec (R := runF g_catalog_modulus tc_catalog_modulus rv_catalog_modulus false) (meets_of (by decide) Try.func57 hc hi Try.ntmps57 rok_catalog_modulus gk_catalog_modulus lk_catalog_modulus mixed) fun x _ => (e_catalog_modulus x.1).trans (s_catalog_modulus x.1)

/-! slices.Index, slices.Contains -/
def idxN (v : Int) : List Int → Option Nat
  | [] => none
  | a :: l => if a == v then some 0 else (idxN v l).map (· + 1)
theorem idxN_lt {v : Int} : ∀ {l : List Int} {k : Nat}, idxN v l = some k → k < l.length
  | [], _, h => by cases h
  | a :: l, k, h => by
    unfold idxN at h
    split at h
    · injection h with h; subst h; simp
    · obtain ⟨j, h1, h2⟩ := Option.map_eq_some_iff.1 h
      have := idxN_lt h1
      simp only [List.length_cons]; omega
theorem idxN_none {v : Int} : ∀ {l : List Int}, idxN v l = none ↔ v ∉ l
  | [] => by simp [idxN]
  | a :: l => by
    have ih := idxN_none (v := v) (l := l)
    unfold idxN
    by_cases h : a = v
    · simp [h]
    · have h' : ¬ v = a := fun e => h e.symm
      simp [h, h', ih]
def idxF (l : List Int) (v : Int) : Int := match idxN v l with | some k => (k : Int) | none => -1
def idxOk1 (l : List Int) (_v : Int) : Bool := decide (l.length ≤ 100000)
def fg_slices_Index_int_int_0 : Fg := ⟨[(0, some (.sl tI)), (1, some tI), (7, some tI), (8, some tI)], []⟩
def tb_slices_Index_int_int_0 : TC := (.sq (.reg [(.mk (some 9) none (.m (.pu (.bin false .lss (.t 8) (.t 7)))))]) (.sq (.cd (.t 9) .sk (.fg ⟨[], []⟩ (.ex 0))) (.sq (.bk 1 (.sq (.reg [(.mk (some 10) none (.m (.pu (.mv (.t 8))))), (.mk (some 5) none (.m (.pu (.mv (.t 10)))))]) (.sq (.reg [(.mk (some 11) none (.m (.pu (.mv (.t 1))))), (.mk (some 12) none (.m (.pu (.mv (.t 0))))), (.mk (some 13) none (.m (.pu (.mv (.t 5))))), (.mk (some 14) none (.m (.pu (.ix 1 (.t 12) (.t 13))))), (.mk (some 15) none (.m (.ld false 1 (.t 14)))), (.mk (some 16) none (.m (.pu (.bin false .eql (.t 11) (.t 15)))))]) (.cd (.t 16) (.sq (.reg [(.mk (some 17) none (.m (.pu (.mv (.t 5))))), (.mk (some 4) none (.m (.pu (.mv (.t 17)))))]) (.fg ⟨[(4, some tI)], []⟩ .rt)) .sk)))) (.reg [(.mk (some 18) none (.m (.pu (.bin false .add (.t 8) (.c (.v (.int .i64 1))))))), (.mk (some 8) none (.m (.pu (.mv (.t 18)))))]))))
/-- slices.Index[[]int,int] -/
def tc_slices_Index_int_int : TC := (.sq (.reg [(.mk (some 4) none (.m (.pu (.mv (.c (.v (.int .i64 0)))))))]) (.sq (.sq (.reg [(.mk (some 6) none (.m (.pu (.mv (.t 0))))), (.mk (some 7) none (.m (.pu (.len false (.t 6))))), (.mk (some 8) none (.m (.pu (.mv (.c (.v (.int .i64 0)))))))]) (.bk 0 (.lp 0 fg_slices_Index_int_int_0 tb_slices_Index_int_int_0))) (.sq (.reg [(.mk (some 4) none (.m (.pu (.mv (.c (.v (.int .i64 (-1))))))))]) .rt)))
def rv_slices_Index_int_int : List (RV × Option Ty) := [((.t 4), some tI)]
abbrev sh_slices_Index_int_int_0 : Sh := ⟨[(0, .ty (.sl tI)), (1, .ty tI), (7, .ty tI), (8, .ty tI)], []⟩
def st_slices_Index_int_int_0 (x0 : (List Int)) (x1 : Int) (x7 : Int) (x8 : Int) : VS := sh_slices_Index_int_int_0.st (x0, x1, x7, x8, ()) ()
abbrev sh_slices_Index_int_int_0_ret : Sh := ⟨[(4, .ty tI)], []⟩
def st_slices_Index_int_int_0_ret (x4 : Int) : VS := sh_slices_Index_int_int_0_ret.st (x4, ()) ()
abbrev sh_slices_Index_int_int_0_e0 : Sh := ⟨[], []⟩
def st_slices_Index_int_int_0_e0  : VS := sh_slices_Index_int_int_0_e0.st () ()
-- loop 0: (x0 : (List Int)) (x1 : Int) (x7 : Int) (x8 : Int); out: ('ret',) (x4 : Int); ('exit', 0) 
def L_slices_Index_int_int_0 : VS → Option (Bool × List (Bool × Exit × VS)) := mkL sh_slices_Index_int_int_0 (fun x y => (rngOk x.1 x.2.2.1 x.2.2.2.1)) (fun x y => [(((idxN x.2.1 (x.1.drop x.2.2.2.1.toNat)).isSome), .ret, st_slices_Index_int_int_0_ret (x.2.2.2.1 + ((idxN x.2.1 (x.1.drop x.2.2.2.1.toNat)).getD 0 : Nat))), (true, .exit 0, st_slices_Index_int_int_0_e0)])
def g_slices_Index_int_int : G := ⟨TYs, [], 19, EL [], keeps, (Ls [L_slices_Index_int_int_0]), IL [], RL []⟩
def b_slices_Index_int_int_0 (x0 : (List Int)) (x1 : Int) (x7 : Int) (x8 : Int) : Option (Exit × VS) :=
  br ((ilt x8 x7))
    (br (cIx x0 x8)
      (br ((ieq x1 (lgt tI x0 (Int.toNat x8))))
        (some (.ret, st_slices_Index_int_int_0_ret x8))
        (some (.normal, st_slices_Index_int_int_0 x0 x1 x7 (iadd .i64 x8 1))))
      (none))
    (some (.exit 0, st_slices_Index_int_int_0_e0))
noncomputable def lp_slices_Index_int_int_0 (x0 : (List Int)) (x1 : Int) (x7 : Int) (x8 : Int) : Option (Exit × VS) := loopF (roundF g_slices_Index_int_int fg_slices_Index_int_int_0 tb_slices_Index_int_int_0) (st_slices_Index_int_int_0 x0 x1 x7 x8)
noncomputable def n_slices_Index_int_int_0 (x0 : (List Int)) (x1 : Int) (x7 : Int) (x8 : Int) : Option (Exit × VS) :=
  br ((ilt x8 x7))
    (br (cIx x0 x8)
      (br ((ieq x1 (lgt tI x0 (Int.toNat x8))))
        (some (.ret, st_slices_Index_int_int_0_ret x8))
        (lp_slices_Index_int_int_0 x0 x1 x7 (iadd .i64 x8 1)))
      (none))
    (some (.exit 0, st_slices_Index_int_int_0_e0))
def la_slices_Index_int_int_0 (x0 : (List Int)) (x1 : Int) (x7 : Int) (x8 : Int) : Option (Exit × VS) := br ((idxN x1 (x0.drop x8.toNat)).isSome) (some (.ret, st_slices_Index_int_int_0_ret (x8 + ((idxN x1 (x0.drop x8.toNat)).getD 0 : Nat)))) <| some (.exit 0, st_slices_Index_int_int_0_e0)
theorem be_slices_Index_int_int_0 (x0 : (List Int)) (x1 : Int) (x7 : Int) (x8 : Int) : roundF g_slices_Index_int_int fg_slices_Index_int_int_0 tb_slices_Index_int_int_0 (st_slices_Index_int_int_0 x0 x1 x7 x8) = b_slices_Index_int_int_0 x0 x1 x7 x8 := by kernel_rfl
theorem ln_slices_Index_int_int_0 (x0 : (List Int)) (x1 : Int) (x7 : Int) (x8 : Int) : lp_slices_Index_int_int_0 x0 x1 x7 x8 = n_slices_Index_int_int_0 x0 x1 x7 x8 := (loopF_nxt _ _).trans (by
  rw [be_slices_Index_int_int_0]
  simp only [b_slices_Index_int_int_0, n_slices_Index_int_int_0, nxt_br, nxt_n, nxt_r, nxt_e, nxt_0]
  rfl)
def r_slices_Index_int_int (p0 : (List Int)) (p1 : Int) : Option (V × List VO) :=
  br ((rngOk p0 (llen p0) (0 : Int)))
    (br (((idxN p1 (p0.drop (0 : Int).toNat)).isSome))
      (some (.t tI ((0 : Int) + ((idxN p1 (p0.drop (0 : Int).toNat)).getD 0 : Nat)), []))
      (some (.t tI (-1), [])))
    (none)
theorem e_slices_Index_int_int (p0 : (List Int)) (p1 : Int) : runF g_slices_Index_int_int tc_slices_Index_int_int rv_slices_Index_int_int false [.t (.sl tI) p0, .t tI p1] [] = r_slices_Index_int_int p0 p1 := by kernel_rfl
theorem ok_slices_Index_int_int : Option.map (trC Try.prog) Try.f59.body = some tc_slices_Index_int_int.er := by kernel_rfl
theorem rok_slices_Index_int_int : trVs Try.prog Try.f59.results.toList = some (rv_slices_Index_int_int.map Prod.fst) := by kernel_rfl
theorem en_slices_Index_int_int : Entered Try.prog 59 := .inr ⟨by decide, _, Try.func59, by kernel_rfl, by kernel_rfl⟩
theorem gk_slices_Index_int_int : GOk Try.prog g_slices_Index_int_int := gok_of _ (fun p hp => by cases hp)
theorem l_slices_Index_int_int_0 (x0 : (List Int)) (x1 : Int) (x7 : Int) (x8 : Int) (h : (rngOk x0 x7 x8) = true) : lp_slices_Index_int_int_0 x0 x1 x7 x8 = la_slices_Index_int_int_0 x0 x1 x7 x8 := by
  obtain ⟨rfl, h3, k, rfl, hk⟩ := rng_k h
  clear h
  refine range_ind x0 (fun k => lp_slices_Index_int_int_0 x0 x1 (x0.length : Int) (k : Int) = la_slices_Index_int_int_0 x0 x1 (x0.length : Int) (k : Int)) ?_ ?_ k hk
  · rw [ln_slices_Index_int_int_0]
    simp [n_slices_Index_int_int_0, la_slices_Index_int_int_0, ilt_nat, br_false, idxN]
  · intro k hk ih
    rw [ln_slices_Index_int_int_0]
    simp only [n_slices_Index_int_int_0, ilt_nat, cIx_nat, hk, decide_true, br_true, Int.toNat_natCast, add1 (show k < 4611686018427387904 by omega), ih, lgt_get (y := tI) hk]
    simp only [la_slices_Index_int_int_0, Int.toNat_natCast, List.drop_eq_getElem_cons hk, idxN, ieq]
    have hc : (x1 == x0[k]) = (x0[k] == x1) := Bool.beq_comm
    cases h : x0[k] == x1 with
    | true => simp [h, hc, br_true]
    | false =>
      simp only [h, hc, br_false, Bool.false_eq_true, if_false]
      cases hq : idxN x1 (x0.drop (k + 1)) with
      | none => rfl
      | some j =>
        simp only [Option.map_some, Option.isSome_some, Option.getD_some, br_true]
        congr 3
        omega
theorem lo_slices_Index_int_int_0 : ∀ S l p, g_slices_Index_int_int.L 0 (fgt fg_slices_Index_int_int_0 S) = some (true, l) → pickA l = some p → loopF (roundF g_slices_Index_int_int fg_slices_Index_int_int_0 tb_slices_Index_int_int_0) S = some p :=
  lok_of (s := sh_slices_Index_int_int_0) ⟨by decide, by decide⟩ (by kernel_rfl) fun x y hok p hp => by
  simp only [pickA_br, pickA_one] at hp
  exact (l_slices_Index_int_int_0 x.1 x.2.1 x.2.2.1 x.2.2.2.1 (by simpa using hok)).trans hp
theorem lk_slices_Index_int_int : tc_slices_Index_int_int.lok g_slices_Index_int_int := by
  repeat (first | exact trivial | exact lo_slices_Index_int_int_0 | refine ⟨?_, ?_⟩)
theorem s_slices_Index_int_int (l : List Int) (v : Int) (h : idxOk1 l v = true) : r_slices_Index_int_int l v = some (.t tI (idxF l v), []) := by
  simp only [idxOk1, decide_eq_true_eq] at h
  simp only [r_slices_Index_int_int, rng_0 h, br_true, Int.toNat_zero, List.drop_zero, idxF]
  cases idxN v l <;> simp [br_true, br_false]
def sp_slices_Index_int_int : Ent := spec (.pr (.sl tI) (.pr tI .nil)) (fun x => (idxOk1 x.1 x.2.1)) (fun x => (.t tI (idxF x.1 x.2.1)))
theorem ms_slices_Index_int_int : Meets Try.prog 59 (strip sp_slices_Index_int_int) := by
  obtain ⟨c, hc, hi⟩ := Option.map_eq_some_iff.1 ok_slices_Index_int_int
  exact meets_spec (R := runF g_slices_Index_int_int tc_slices_Index_int_int rv_slices_Index_int_int false) (meets_of (by decide) Try.func59 hc hi Try.ntmps59 rok_slices_Index_int_int gk_slices_Index_int_int lk_slices_Index_int_int mixed) fun x hok => (e_slices_Index_int_int x.1 x.2.1).trans (s_slices_Index_int_int x.1 x.2.1 hok)
def hasF (l : List Int) (v : Int) : Bool := l.contains v
/-- slices.Contains[[]int,int] -/
def tc_slices_Contains_int_int : TC := (.sq (.reg [(.mk (some 4) none (.m (.pu (.mv (.c (.v (.bool false)))))))]) (.sq (.reg [(.mk (some 5) none (.m (.pu (.mv (.t 0))))), (.mk (some 6) none (.m (.pu (.mv (.t 1))))), (.mk (some 7) none (.call 59 [(.t 5), (.t 6)])), (.mk (some 8) none (.m (.pu (.bin false .geq (.t 7) (.c (.v (.int .i64 0))))))), (.mk (some 4) none (.m (.pu (.mv (.t 8)))))]) .rt))
def rv_slices_Contains_int_int : List (RV × Option Ty) := [((.t 4), some .bool)]
def g_slices_Contains_int_int : G := ⟨TYs, [], 9, EL [(59, sp_slices_Index_int_int)], keeps, (fun _ _ => none), IL [], RL []⟩
def r_slices_Contains_int_int (p0 : (List Int)) (p1 : Int) : Option (V × List VO) :=
  br ((idxOk1 p0 p1))
    (some (.t .bool (ige (idxF p0 p1) 0), []))
    (none)
theorem e_slices_Contains_int_int (p0 : (List Int)) (p1 : Int) : runF g_slices_Contains_int_int tc_slices_Contains_int_int rv_slices_Contains_int_int false [.t (.sl tI) p0, .t tI p1] [] = r_slices_Contains_int_int p0 p1 := by kernel_rfl
theorem ok_slices_Contains_int_int : Option.map (trC Try.prog) Try.f58.body = some tc_slices_Contains_int_int.er := by kernel_rfl
theorem rok_slices_Contains_int_int : trVs Try.prog Try.f58.results.toList = some (rv_slices_Contains_int_int.map Prod.fst) := by kernel_rfl
theorem en_slices_Contains_int_int : Entered Try.prog 58 := .inr ⟨by decide, _, Try.func58, by kernel_rfl, by kernel_rfl⟩
theorem gk_slices_Contains_int_int : GOk Try.prog g_slices_Contains_int_int := gok_of _ (by
  intro p hp
  simp only [List.mem_cons, List.not_mem_nil, or_false] at hp
  rcases hp with rfl
  · exact ⟨en_slices_Index_int_int, ms_slices_Index_int_int⟩)
theorem lk_slices_Contains_int_int : tc_slices_Contains_int_int.lok g_slices_Contains_int_int := by repeat (first | exact trivial | refine ⟨?_, ?_⟩)
theorem s_slices_Contains_int_int (l : List Int) (v : Int) (h : idxOk1 l v = true) : r_slices_Contains_int_int l v = some (.t .bool (hasF l v), []) := by
  simp only [r_slices_Contains_int_int, h, br_true]
  congr 3
  unfold idxF hasF
  cases hq : idxN v l with
  | none =>
    have := idxN_none.1 hq
    simp [ige, this]
  | some k =>
    have : v ∈ l := Classical.byContradiction fun hn => by rw [idxN_none.2 hn] at hq; cases hq
    simp only [ige, List.contains_iff_mem.2 this, decide_eq_true_eq]
    omega
def sp_slices_Contains_int_int : Ent := spec (.pr (.sl tI) (.pr tI .nil)) (fun x => (idxOk1 x.1 x.2.1)) (fun x => (.t .bool (hasF x.1 x.2.1)))
theorem ms_slices_Contains_int_int : Meets Try.prog 58 (strip sp_slices_Contains_int_int) := by
  obtain ⟨c, hc, hi⟩ := Option.map_eq_some_iff.1 ok_slices_Contains_int_int
  exact meets_spec (R := runF g_slices_Contains_int_int tc_slices_Contains_int_int rv_slices_Contains_int_int false) (meets_of (by decide) Try.func58 hc hi Try.ntmps58 rok_slices_Contains_int_int gk_slices_Contains_int_int lk_slices_Contains_int_int mixed) fun x hok => (e_slices_Contains_int_int x.1 x.2.1).trans (s_slices_Contains_int_int x.1 x.2.1 hok)
end Go.Proofs.Ytfehjdaielifiaa.K
