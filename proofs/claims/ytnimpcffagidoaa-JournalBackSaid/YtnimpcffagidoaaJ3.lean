/-
  The law JournalBack.
-/
import Derived.Test.YtnimpcffagidoaaJ2
import Derived.Test.YtnimpcffagidoaaPlain42
import Derived.KernelRfl
set_option linter.unusedSimpArgs false
set_option linter.unusedVariables false
namespace Go.Proofs.Ytnimpcffagidoaa.K
open Go.RowKit
noncomputable section
/-- the bytes of decisions behind a text -/
def catL (s : ByteArray) (l : List Decision) : ByteArray := l.foldl (fun s d => s ++ (encV d).1) s
def validAll (l : List Decision) : Bool := l.all fun d => validB (dec d)
def dr_law42_JournalBack_0 : List DO := [(.mk (.mk (some 86) none (.m (.pu (.mv (.t 13))))) []), (.mk (.mk (some 87) none (.m (.pu (.fa 0 (.t 7))))) []), (.mk (.mk (some 88) none (.m (.ld false 1 (.t 87)))) [1]), (.mk (.mk (some 89) none (.call 22 [(.t 86), (.t 88)])) [0, 2]), (.mk (.mk (some 90) none (.m (.pu (.mv (.t 89))))) [3, 3]), (.mk (.mk (some 91) (some (90, true)) (.m (.pu (.mv (.t 14))))) [4]), (.mk (.mk (some 92) (some (90, true)) (.m (.pu (.mv (.t 8))))) [4]), (.mk (.mk (some 93) (some (90, true)) (.m (.pu (.len true (.t 92))))) [6, 4]), (.mk (.mk (some 94) (some (90, true)) (.m (.pu (.bin false .eql (.t 91) (.t 93))))) [5, 7, 4]), (.mk (.mk (some 95) none (.m (.pu (.pick (.t 90) (.t 94) (.c (.v (.bool false))))))) [4, 8]), (.mk (.mk (some 96) none (.m (.pu (.mv (.t 95))))) [9, 4]), (.mk (.mk (some 97) (some (96, true)) (.m (.pu (.mv (.t 16))))) [10]), (.mk (.mk (some 98) (some (96, true)) (.m (.pu (.fa 0 (.t 7))))) [10]), (.mk (.mk (some 99) (some (96, true)) (.m (.ld false 1 (.t 98)))) [12, 10]), (.mk (.mk (some 100) (some (96, true)) (.m (.pu (.len false (.t 99))))) [13, 10]), (.mk (.mk (some 101) (some (96, true)) (.m (.pu (.bin false .eql (.t 97) (.t 100))))) [11, 14, 10]), (.mk (.mk (some 102) none (.m (.pu (.pick (.t 96) (.t 101) (.c (.v (.bool false))))))) [10, 15]), (.mk (.mk (some 103) none (.m (.pu (.mv (.t 102))))) [16, 10]), (.mk (.mk (some 104) (some (103, true)) (.m (.ld true 1 (.t 15)))) [17]), (.mk (.mk (some 105) (some (103, true)) (.m (.ld true 1 (.t 7)))) [17]), (.mk (.mk (some 106) (some (103, true)) (.call 31 [(.t 104), (.t 105)])) [18, 19, 17, 17]), (.mk (.mk (some 107) none (.m (.pu (.pick (.t 103) (.t 106) (.c (.v (.bool false))))))) [17, 20]), (.mk (.mk (some 108) none (.m (.pu (.mv (.t 107))))) [21, 20]), (.mk (.mk (some 109) (some (108, true)) (.m (.pu (.mv (.t 18))))) [22]), (.mk (.mk (some 110) (some (108, true)) (.m (.pu (.mv (.t 17))))) [22]), (.mk (.mk (some 111) (some (108, true)) (.m (.pu (.bin false .quo (.t 110) (.c (.v (.int .i64 12))))))) [24, 22]), (.mk (.mk (some 112) (some (108, true)) (.m (.pu (.slc 5 (.t 109) none (some (.t 111)) none)))) [23, 25, 22]), (.mk (.mk (some 113) (some (108, true)) (.m (.pu (.fa 0 (.t 7))))) [22]), (.mk (.mk (some 114) (some (108, true)) (.m (.ld false 1 (.t 113)))) [27, 22]), (.mk (.mk (some 115) (some (108, true)) (.m (.pu (.mv (.t 17))))) [22]), (.mk (.mk (some 116) (some (108, true)) (.m (.pu (.bin false .quo (.t 115) (.c (.v (.int .i64 12))))))) [29, 22]), (.mk (.mk (some 117) (some (108, true)) (.m (.pu (.slc 5 (.t 114) none (some (.t 116)) none)))) [28, 30, 22]), (.mk (.mk (some 118) (some (108, true)) (.call 22 [(.t 112), (.t 117)])) [26, 31, 22, 22]), (.mk (.mk (some 119) none (.m (.pu (.pick (.t 108) (.t 118) (.c (.v (.bool false))))))) [22, 32]), (.mk (.mk (some 120) none (.m (.pu (.mv (.t 119))))) [33, 32]), (.mk (.mk (some 121) (some (120, true)) (.m (.pu (.mv (.t 8))))) [34]), (.mk (.mk (some 122) (some (120, true)) (.call 23 [(.t 121)])) [35, 34, 34]), (.mk (.mk (some 123) (some (120, true)) (.m (.pu (.mv (.t 8))))) [34]), (.mk (.mk (some 124) (some (120, true)) (.m (.pu (.bin false .eql (.t 122) (.t 123))))) [36, 37, 34]), (.mk (.mk (some 125) none (.m (.pu (.pick (.t 120) (.t 124) (.c (.v (.bool false))))))) [34, 38]), (.mk (.mk (some 126) none (.m (.pu (.mv (.t 125))))) [39, 36]), (.mk (.mk (some 127) (some (126, true)) (.call 14 [])) [40, 40]), (.mk (.mk (some 128) none (.m (.pu (.pick (.t 126) (.t 127) (.c (.v (.bool false))))))) [40, 41]), (.mk (.mk (some 6) none (.m (.pu (.mv (.t 128))))) [42, 41, 0, 1, 2, 3, 4, 5, 6, 7, 8, 9, 10, 11, 12, 13, 14, 15, 16, 17, 18, 19, 20, 21, 22, 23, 24, 25, 26, 27, 28, 29, 30, 31, 32, 33, 34, 35, 36, 37, 38, 39, 40, 41, 42])]
def fg_law42_JournalBack_0 : Fg := ⟨[(1, some (.int .u8)), (2, some .str), (7, none), (8, some .str), (33, some (.sl tyDecision)), (34, some tI), (35, some tI)], [(7, some tyLedger)]⟩
def tb_law42_JournalBack_0 : TC := (.sq (.reg [(.mk (some 36) none (.m (.pu (.bin false .lss (.t 35) (.t 34)))))]) (.sq (.cd (.t 36) .sk (.fg ⟨[(1, some (.int .u8)), (2, some .str), (7, none), (8, some .str)], [(7, some tyLedger)]⟩ (.ex 0))) (.sq (.bk 1 (.sq (.reg [(.mk (some 37) none (.m (.pu (.ix 5 (.t 33) (.t 35))))), (.mk (some 38) none (.m (.ld true 5 (.t 37)))), (.mk (some 10) none (.m (.new [(.v (.int .i64 0)), (.v (.int .i64 0)), (.v (.int .i64 0)), (.v (.int .i64 0)), (.v (.int .i64 0))]))), (.mk none none (.m (.st 5 (.t 10) (.t 38))))]) (.sq (.reg [(.mk (some 40) none (.m (.pu (.mv (.t 8))))), (.mk (some 41) none (.m (.ld true 5 (.t 10)))), (.mk (some 42) none (.call 47 [(.t 40), (.t 41)])), (.mk (some 39) none (.m (.pu (.mv (.t 42))))), (.mk (some 43) none (.m (.pu (.ext 0 (.t 39))))), (.mk (some 44) none (.m (.pu (.ext 1 (.t 39))))), (.mk (some 11) none (.m (.pu (.mv (.t 43))))), (.mk (some 12) none (.m (.pu (.mv (.t 44)))))]) (.sq (.sq (.reg [(.mk (some 45) none (.m (.pu (.mv (.t 12))))), (.mk (some 46) none (.m (.pu (.bin false .neq (.t 45) (.c (.v (.int .i64 0)))))))]) (.cd (.t 46) (.sq (.reg [(.mk (some 6) none (.m (.pu (.mv (.c (.v (.bool false)))))))]) (.fg ⟨[(6, some .bool)], []⟩ .rt)) .sk)) (.reg [(.mk (some 47) none (.m (.pu (.mv (.t 11))))), (.mk (some 8) none (.m (.pu (.mv (.t 47)))))]))))) (.reg [(.mk (some 48) none (.m (.pu (.bin false .add (.t 35) (.c (.v (.int .i64 1))))))), (.mk (some 35) none (.m (.pu (.mv (.t 48)))))]))))
/-- cipherplan/cipherplanlaw42.JournalBack -/
def tc_law42_JournalBack : TC := (.sq (.reg [(.mk (some 6) none (.m (.pu (.mv (.c (.v (.bool false)))))))]) (.sq (.sq (.reg [(.mk (some 20) none (.m (.pu (.mv (.t 0))))), (.mk (some 21) none (.call 15 [(.t 20)])), (.mk (some 22) none (.m (.pu (.nt (.t 21))))), (.mk (some 23) none (.m (.pu (.mv (.t 22))))), (.mk (some 24) (some (23, false)) (.m (.pu (.mv (.t 2))))), (.mk (some 25) (some (23, false)) (.m (.pu (.len true (.t 24))))), (.mk (some 26) (some (23, false)) (.m (.pu (.bin false .gtr (.t 25) (.c (.v (.int .i64 300))))))), (.mk (some 27) none (.m (.pu (.pick (.t 23) (.c (.v (.bool true))) (.t 26)))))]) (.cd (.t 27) (.sq (.reg [(.mk (some 28) none (.call 14 [])), (.mk (some 6) none (.m (.pu (.mv (.t 28)))))]) .rt) .sk)) (.sq (.reg [(.mk (some 29) none (.m (.pu (.mv (.t 0))))), (.mk (some 30) none (.call 17 [(.t 29)])), (.mk (some 31) none (.call 16 [(.t 30), (.c (.v (.int .i64 8)))])), (.mk (some 7) none (.m (.new [(.v (.slice none 0 0))]))), (.mk none none (.m (.st 1 (.t 7) (.t 31))))]) (.sq (.reg [(.mk (some 8) none (.m (.pu (.mv (.c (.v (.string (ByteArray.mk #[]))))))))]) (.sq (.sq (.reg [(.mk (some 32) none (.m (.pu (.fa 0 (.t 7))))), (.mk (some 33) none (.m (.ld false 1 (.t 32)))), (.mk (some 34) none (.m (.pu (.len false (.t 33))))), (.mk (some 35) none (.m (.pu (.mv (.c (.v (.int .i64 0)))))))]) (.bk 0 (.lp 0 fg_law42_JournalBack_0 tb_law42_JournalBack_0))) (.sq (.reg [(.mk (some 50) none (.m (.pu (.mv (.t 8))))), (.mk (some 51) none (.call 19 [(.t 50)])), (.mk (some 49) none (.m (.pu (.mv (.t 51))))), (.mk (some 52) none (.m (.pu (.ext 0 (.t 49))))), (.mk (some 53) none (.m (.pu (.ext 1 (.t 49))))), (.mk (some 13) none (.m (.pu (.mv (.t 52))))), (.mk (some 14) none (.m (.pu (.mv (.t 53)))))]) (.sq (.reg [(.mk (some 55) none (.m (.pu (.mv (.t 8))))), (.mk (some 56) none (.call 52 [(.t 55)])), (.mk (some 54) none (.m (.pu (.mv (.t 56))))), (.mk (some 57) none (.m (.pu (.ext 0 (.t 54))))), (.mk (some 58) none (.m (.pu (.ext 1 (.t 54))))), (.mk (some 15) none (.m (.new [(.v (.slice none 0 0))]))), (.mk none none (.m (.st 1 (.t 15) (.t 57)))), (.mk (some 16) none (.m (.pu (.mv (.t 58)))))]) (.sq (.reg [(.mk (some 59) none (.m (.pu (.mv (.t 1))))), (.mk (some 60) none (.m (.pu (.cv .i64 (.t 59))))), (.mk (some 61) none (.m (.pu (.mv (.t 8))))), (.mk (some 62) none (.m (.pu (.len true (.t 61))))), (.mk (some 63) none (.m (.pu (.bin false .add (.t 62) (.c (.v (.int .i64 1))))))), (.mk (some 64) none (.call 20 [(.t 60), (.t 63)])), (.mk (some 17) none (.m (.pu (.mv (.t 64)))))]) (.sq (.reg [(.mk (some 66) none (.m (.pu (.mv (.t 8))))), (.mk (some 67) none (.m (.pu (.mv (.t 17))))), (.mk (some 68) none (.m (.pu (.mv (.t 2))))), (.mk (some 69) none (.call 49 [(.t 66), (.t 67), (.t 68)])), (.mk (some 70) none (.call 19 [(.t 69)])), (.mk (some 65) none (.m (.pu (.mv (.t 70))))), (.mk (some 71) none (.m (.pu (.ext 0 (.t 65))))), (.mk (some 72) none (.m (.pu (.ext 1 (.t 65))))), (.mk (some 18) none (.m (.pu (.mv (.t 71))))), (.mk (some 19) none (.m (.pu (.mv (.t 72)))))]) (.sq (.sq (.reg [(.mk (some 73) none (.m (.pu (.mv (.t 18))))), (.mk (some 74) none (.m (.pu (.len false (.t 73))))), (.mk (some 75) none (.m (.pu (.mv (.t 17))))), (.mk (some 76) none (.m (.pu (.bin false .quo (.t 75) (.c (.v (.int .i64 12))))))), (.mk (some 77) none (.m (.pu (.bin false .lss (.t 74) (.t 76))))), (.mk (some 78) none (.m (.pu (.mv (.t 77))))), (.mk (some 79) (some (78, false)) (.m (.pu (.fa 0 (.t 7))))), (.mk (some 80) (some (78, false)) (.m (.ld false 1 (.t 79)))), (.mk (some 81) (some (78, false)) (.m (.pu (.len false (.t 80))))), (.mk (some 82) (some (78, false)) (.m (.pu (.mv (.t 17))))), (.mk (some 83) (some (78, false)) (.m (.pu (.bin false .quo (.t 82) (.c (.v (.int .i64 12))))))), (.mk (some 84) (some (78, false)) (.m (.pu (.bin false .lss (.t 81) (.t 83))))), (.mk (some 85) none (.m (.pu (.pick (.t 78) (.c (.v (.bool true))) (.t 84)))))]) (.cd (.t 85) (.sq (.reg [(.mk (some 6) none (.m (.pu (.mv (.c (.v (.bool false)))))))]) .rt) .sk)) (.sq (.dr dr_law42_JournalBack_0 [(0, []), (1, [7]), (2, [7]), (3, []), (4, []), (5, []), (6, []), (7, []), (8, []), (9, []), (10, []), (11, []), (12, [7]), (13, [7]), (14, []), (15, []), (16, []), (17, []), (18, [15]), (19, [7]), (20, []), (21, []), (22, []), (23, []), (24, []), (25, []), (26, []), (27, [7]), (28, [7]), (29, []), (30, []), (31, []), (32, []), (33, []), (34, []), (35, []), (36, []), (37, []), (38, []), (39, []), (40, []), (41, []), (42, []), (43, [])] (.of [0, 1, 2, 3, 4, 5, 6, 7, 8, 9, 10, 11, 12, 13, 14, 15, 16, 17, 18, 19, 20, 21, 22, 23, 24, 25, 26, 27, 28, 29, 30, 31, 32, 33, 34, 35, 36, 37, 38, 39, 40, 41, 42, 43])) .rt)))))))))))
def rv_law42_JournalBack : List (RV × Option Ty) := [((.t 6), some .bool)]
abbrev sh_law42_JournalBack_0 : Sh := ⟨[(1, .ty (.int .u8)), (2, .ty .str), (7, .ptr 7 0), (8, .ty .str), (33, .ty (.sl tyDecision)), (34, .ty tI), (35, .ty tI)], [(7, .box tyLedger)]⟩
def st_law42_JournalBack_0 (x1 : Int) (x2 : ByteArray) (x8 : ByteArray) (x33 : (List Decision)) (x34 : Int) (x35 : Int) (y7 : Ledger) : VS := sh_law42_JournalBack_0.st (x1, x2, (), x8, x33, x34, x35, ()) (y7, ())
abbrev sh_law42_JournalBack_0_ret : Sh := ⟨[(6, .ty .bool)], []⟩
def st_law42_JournalBack_0_ret (x6 : Bool) : VS := sh_law42_JournalBack_0_ret.st (x6, ()) ()
abbrev sh_law42_JournalBack_0_e0 : Sh := ⟨[(1, .ty (.int .u8)), (2, .ty .str), (7, .ptr 7 0), (8, .ty .str)], [(7, .box tyLedger)]⟩
def st_law42_JournalBack_0_e0 (x1 : Int) (x2 : ByteArray) (x8 : ByteArray) (y7 : Ledger) : VS := sh_law42_JournalBack_0_e0.st (x1, x2, (), x8, ()) (y7, ())
-- loop 0: (x1 : Int) (x2 : ByteArray) (x8 : ByteArray) (x33 : (List Decision)) (x34 : Int) (x35 : Int) (y7 : Ledger); out: ('ret',) (x6 : Bool); ('exit', 0) (x1 : Int) (x2 : ByteArray) (x8 : ByteArray) (y7 : Ledger)
def L_law42_JournalBack_0 : VS → Option (Bool × List (Bool × Exit × VS)) := mkL sh_law42_JournalBack_0 (fun x y => (rngOk x.2.2.2.2.1 x.2.2.2.2.2.1 x.2.2.2.2.2.2.1 && decide (x.2.2.2.1.size ≤ 12 * x.2.2.2.2.2.2.1 ∧ x.2.2.2.2.1.length ≤ 100) && validAll x.2.2.2.2.1)) (fun x y => [(true, .exit 0, st_law42_JournalBack_0_e0 (x.1) (x.2.1) (catL x.2.2.2.1 (x.2.2.2.2.1.drop x.2.2.2.2.2.2.1.toNat)) (y.1))])
def g_law42_JournalBack : G := ⟨TYs, [], 129, EL [(14, sp_law42_awake), (15, sp_make_Light), (16, sp_move_Ledger), (17, sp_make_Roll), (19, sp_journal_Open), (20, sp_make_Mod), (22, sp_ref42_SameDecisions), (23, sp_journal_Whole), (31, sp_ref41_Same), (47, sp_journal_Append), (49, sp_journal_Crash), (52, sp_journal_Replay)], keeps, (Ls [L_law42_JournalBack_0])⟩
def b_law42_JournalBack_0 (x1 : Int) (x2 : ByteArray) (x8 : ByteArray) (x33 : (List Decision)) (x34 : Int) (x35 : Int) (y7 : Ledger) : Option (Exit × VS) :=
  br ((ilt x35 x34))
    (br (cIx x33 x35)
      (br ((appOk x8 (lgt tyDecision x33 (Int.toNat x35))))
        (br ((ine ((appV x8 (lgt tyDecision x33 (Int.toNat x35))).2) 0))
          (some (.ret, st_law42_JournalBack_0_ret false))
          (some (.normal, st_law42_JournalBack_0 x1 x2 ((appV x8 (lgt tyDecision x33 (Int.toNat x35))).1) x33 x34 (iadd .i64 x35 1) y7)))
        (none))
      (none))
    (some (.exit 0, st_law42_JournalBack_0_e0 x1 x2 x8 y7))
noncomputable def lp_law42_JournalBack_0 (x1 : Int) (x2 : ByteArray) (x8 : ByteArray) (x33 : (List Decision)) (x34 : Int) (x35 : Int) (y7 : Ledger) : Option (Exit × VS) := loopF (roundF g_law42_JournalBack fg_law42_JournalBack_0 tb_law42_JournalBack_0) (st_law42_JournalBack_0 x1 x2 x8 x33 x34 x35 y7)
noncomputable def n_law42_JournalBack_0 (x1 : Int) (x2 : ByteArray) (x8 : ByteArray) (x33 : (List Decision)) (x34 : Int) (x35 : Int) (y7 : Ledger) : Option (Exit × VS) :=
  br ((ilt x35 x34))
    (br (cIx x33 x35)
      (br ((appOk x8 (lgt tyDecision x33 (Int.toNat x35))))
        (br ((ine ((appV x8 (lgt tyDecision x33 (Int.toNat x35))).2) 0))
          (some (.ret, st_law42_JournalBack_0_ret false))
          (lp_law42_JournalBack_0 x1 x2 ((appV x8 (lgt tyDecision x33 (Int.toNat x35))).1) x33 x34 (iadd .i64 x35 1) y7))
        (none))
      (none))
    (some (.exit 0, st_law42_JournalBack_0_e0 x1 x2 x8 y7))
def la_law42_JournalBack_0 (x1 : Int) (x2 : ByteArray) (x8 : ByteArray) (x33 : (List Decision)) (x34 : Int) (x35 : Int) (y7 : Ledger) : Option (Exit × VS) := some (.exit 0, st_law42_JournalBack_0_e0 (x1) (x2) (catL x8 (x33.drop x35.toNat)) (y7))
theorem be_law42_JournalBack_0 (x1 : Int) (x2 : ByteArray) (x8 : ByteArray) (x33 : (List Decision)) (x34 : Int) (x35 : Int) (y7 : Ledger) : roundF g_law42_JournalBack fg_law42_JournalBack_0 tb_law42_JournalBack_0 (st_law42_JournalBack_0 x1 x2 x8 x33 x34 x35 y7) = b_law42_JournalBack_0 x1 x2 x8 x33 x34 x35 y7 := by kernel_rfl
theorem ln_law42_JournalBack_0 (x1 : Int) (x2 : ByteArray) (x8 : ByteArray) (x33 : (List Decision)) (x34 : Int) (x35 : Int) (y7 : Ledger) : lp_law42_JournalBack_0 x1 x2 x8 x33 x34 x35 y7 = n_law42_JournalBack_0 x1 x2 x8 x33 x34 x35 y7 := (loopF_nxt _ _).trans (by
  rw [be_law42_JournalBack_0]
  simp only [b_law42_JournalBack_0, n_law42_JournalBack_0, nxt_br, nxt_n, nxt_r, nxt_e, nxt_0]
  rfl)
def r_law42_JournalBack (p0 : (List Int)) (p1 : Int) (p2 : ByteArray) : Option (V × List VO) :=
  br ((!(light p0)))
    (some (.t .bool awake2, []))
    (br ((igt (slen p2) 300))
      (some (.t .bool awake2, []))
      (br ((ledOk (roll p0) 8))
        (br ((rngOk ((ledV (roll p0) 8).1) (llen ((ledV (roll p0) 8).1)) (0 : Int) && decide ((ByteArray.mk #[]).size ≤ 12 * (0 : Int) ∧ ((ledV (roll p0) 8).1).length ≤ 100) && validAll ((ledV (roll p0) 8).1)))
          (br ((sz6 (catL (ByteArray.mk #[]) (((ledV (roll p0) 8).1).drop (0 : Int).toNat))))
            (br ((replayOk (catL (ByteArray.mk #[]) (((ledV (roll p0) 8).1).drop (0 : Int).toNat))))
              (br ((dmodOk (icv .i64 (p1)) (iadd .i64 (slen (catL (ByteArray.mk #[]) (((ledV (roll p0) 8).1).drop (0 : Int).toNat))) 1)))
                (br ((crashOk (catL (ByteArray.mk #[]) (((ledV (roll p0) 8).1).drop (0 : Int).toNat)) (dmod (icv .i64 (p1)) (iadd .i64 (slen (catL (ByteArray.mk #[]) (((ledV (roll p0) 8).1).drop (0 : Int).toNat))) 1)) (p2)))
                  (br ((sz6 (crashV (catL (ByteArray.mk #[]) (((ledV (roll p0) 8).1).drop (0 : Int).toNat)) (dmod (icv .i64 (p1)) (iadd .i64 (slen (catL (ByteArray.mk #[]) (((ledV (roll p0) 8).1).drop (0 : Int).toNat))) 1)) (p2))))
                    (br (cNz 12)
                      (br ((ilt (llen ((openV (crashV (catL (ByteArray.mk #[]) (((ledV (roll p0) 8).1).drop (0 : Int).toNat)) (dmod (icv .i64 (p1)) (iadd .i64 (slen (catL (ByteArray.mk #[]) (((ledV (roll p0) 8).1).drop (0 : Int).toNat))) 1)) (p2))).1)) (iquo .i64 (dmod (icv .i64 (p1)) (iadd .i64 (slen (catL (ByteArray.mk #[]) (((ledV (roll p0) 8).1).drop (0 : Int).toNat))) 1)) 12)))
                        (some (.t .bool false, []))
                        (br (cNz 12)
                          (br ((ilt (llen (((ledV (roll p0) 8)).1)) (iquo .i64 (dmod (icv .i64 (p1)) (iadd .i64 (slen (catL (ByteArray.mk #[]) (((ledV (roll p0) 8).1).drop (0 : Int).toNat))) 1)) 12)))
                            (some (.t .bool false, []))
                            (br ((eqOk ((openV (catL (ByteArray.mk #[]) (((ledV (roll p0) 8).1).drop (0 : Int).toNat))).1) (((ledV (roll p0) 8)).1)))
                              (br ((eqDs ((openV (catL (ByteArray.mk #[]) (((ledV (roll p0) 8).1).drop (0 : Int).toNat))).1) (((ledV (roll p0) 8)).1)))
                                (br ((ieq ((openV (catL (ByteArray.mk #[]) (((ledV (roll p0) 8).1).drop (0 : Int).toNat))).2) (slen (catL (ByteArray.mk #[]) (((ledV (roll p0) 8).1).drop (0 : Int).toNat)))))
                                  (br ((ieq ((replayV (catL (ByteArray.mk #[]) (((ledV (roll p0) 8).1).drop (0 : Int).toNat))).2) (llen (((ledV (roll p0) 8)).1))))
                                    (br ((sameOk ((replayV (catL (ByteArray.mk #[]) (((ledV (roll p0) 8).1).drop (0 : Int).toNat))).1) ((ledV (roll p0) 8))))
                                      (br ((sameV ((replayV (catL (ByteArray.mk #[]) (((ledV (roll p0) 8).1).drop (0 : Int).toNat))).1) ((ledV (roll p0) 8))))
                                        (br (cNz 12)
                                          (br (cSl ((openV (crashV (catL (ByteArray.mk #[]) (((ledV (roll p0) 8).1).drop (0 : Int).toNat)) (dmod (icv .i64 (p1)) (iadd .i64 (slen (catL (ByteArray.mk #[]) (((ledV (roll p0) 8).1).drop (0 : Int).toNat))) 1)) (p2))).1) 0 (iquo .i64 (dmod (icv .i64 (p1)) (iadd .i64 (slen (catL (ByteArray.mk #[]) (((ledV (roll p0) 8).1).drop (0 : Int).toNat))) 1)) 12) ((List.length ((openV (crashV (catL (ByteArray.mk #[]) (((ledV (roll p0) 8).1).drop (0 : Int).toNat)) (dmod (icv .i64 (p1)) (iadd .i64 (slen (catL (ByteArray.mk #[]) (((ledV (roll p0) 8).1).drop (0 : Int).toNat))) 1)) (p2))).1) : Nat) : Int))
                                            (br (cNz 12)
                                              (br (cSl (((ledV (roll p0) 8)).1) 0 (iquo .i64 (dmod (icv .i64 (p1)) (iadd .i64 (slen (catL (ByteArray.mk #[]) (((ledV (roll p0) 8).1).drop (0 : Int).toNat))) 1)) 12) ((List.length (((ledV (roll p0) 8)).1) : Nat) : Int))
                                                (br ((eqOk (lsl ((openV (crashV (catL (ByteArray.mk #[]) (((ledV (roll p0) 8).1).drop (0 : Int).toNat)) (dmod (icv .i64 (p1)) (iadd .i64 (slen (catL (ByteArray.mk #[]) (((ledV (roll p0) 8).1).drop (0 : Int).toNat))) 1)) (p2))).1) 0 (iquo .i64 (dmod (icv .i64 (p1)) (iadd .i64 (slen (catL (ByteArray.mk #[]) (((ledV (roll p0) 8).1).drop (0 : Int).toNat))) 1)) 12)) (lsl (((ledV (roll p0) 8)).1) 0 (iquo .i64 (dmod (icv .i64 (p1)) (iadd .i64 (slen (catL (ByteArray.mk #[]) (((ledV (roll p0) 8).1).drop (0 : Int).toNat))) 1)) 12))))
                                                  (br ((eqDs (lsl ((openV (crashV (catL (ByteArray.mk #[]) (((ledV (roll p0) 8).1).drop (0 : Int).toNat)) (dmod (icv .i64 (p1)) (iadd .i64 (slen (catL (ByteArray.mk #[]) (((ledV (roll p0) 8).1).drop (0 : Int).toNat))) 1)) (p2))).1) 0 (iquo .i64 (dmod (icv .i64 (p1)) (iadd .i64 (slen (catL (ByteArray.mk #[]) (((ledV (roll p0) 8).1).drop (0 : Int).toNat))) 1)) 12)) (lsl (((ledV (roll p0) 8)).1) 0 (iquo .i64 (dmod (icv .i64 (p1)) (iadd .i64 (slen (catL (ByteArray.mk #[]) (((ledV (roll p0) 8).1).drop (0 : Int).toNat))) 1)) 12))))
                                                    (br ((sz6 (catL (ByteArray.mk #[]) (((ledV (roll p0) 8).1).drop (0 : Int).toNat))))
                                                      (br ((seq (wholeV (catL (ByteArray.mk #[]) (((ledV (roll p0) 8).1).drop (0 : Int).toNat))) (catL (ByteArray.mk #[]) (((ledV (roll p0) 8).1).drop (0 : Int).toNat))))
                                                        (some (.t .bool awake2, []))
                                                        (some (.t .bool false, [])))
                                                      (none))
                                                    (some (.t .bool false, [])))
                                                  (none))
                                                (none))
                                              (none))
                                            (none))
                                          (none))
                                        (some (.t .bool false, [])))
                                      (none))
                                    (some (.t .bool false, [])))
                                  (some (.t .bool false, [])))
                                (some (.t .bool false, [])))
                              (none)))
                          (none)))
                      (none))
                    (none))
                  (none))
                (none))
              (none))
            (none))
          (none))
        (none)))
theorem e_law42_JournalBack (p0 : (List Int)) (p1 : Int) (p2 : ByteArray) : runF g_law42_JournalBack tc_law42_JournalBack rv_law42_JournalBack false [.t (.sl tI) p0, .t (.int .u8) p1, .t .str p2] [] = r_law42_JournalBack p0 p1 p2 := by kernel_rfl
theorem ok_law42_JournalBack : Option.map (trC Try.prog) Try.f12.body = some tc_law42_JournalBack.er := by kernel_rfl
theorem rok_law42_JournalBack : trVs Try.prog Try.f12.results.toList = some (rv_law42_JournalBack.map Prod.fst) := by kernel_rfl
theorem en_law42_JournalBack : Entered Try.prog 12 := .inr ⟨by decide, _, Try.func12, by kernel_rfl, by kernel_rfl⟩
theorem gk_law42_JournalBack : GOk Try.prog g_law42_JournalBack := gok_of _ (by
  intro p hp
  simp only [List.mem_cons, List.not_mem_nil, or_false] at hp
  rcases hp with rfl | rfl | rfl | rfl | rfl | rfl | rfl | rfl | rfl | rfl | rfl | rfl
  · exact ⟨en_law42_awake, ms_law42_awake⟩
  · exact ⟨en_make_Light, ms_make_Light⟩
  · exact ⟨en_move_Ledger, ms_move_Ledger⟩
  · exact ⟨en_make_Roll, ms_make_Roll⟩
  · exact ⟨en_journal_Open, ms_journal_Open⟩
  · exact ⟨en_make_Mod, ms_make_Mod⟩
  · exact ⟨en_ref42_SameDecisions, ms_ref42_SameDecisions⟩
  · exact ⟨en_journal_Whole, ms_journal_Whole⟩
  · exact ⟨en_ref41_Same, ms_ref41_Same⟩
  · exact ⟨en_journal_Append, ms_journal_Append⟩
  · exact ⟨en_journal_Crash, ms_journal_Crash⟩
  · exact ⟨en_journal_Replay, ms_journal_Replay⟩)
theorem enc_valid {d : Decision} (h : validB (dec d) = true) : encV d = (⟨(dec d).bytes.toArray⟩, 0) := by
  unfold encV
  rw [if_pos h]
theorem l_law42_JournalBack_0 (x1 : Int) (x2 : ByteArray) (x8 : ByteArray) (x33 : (List Decision)) (x34 : Int) (x35 : Int) (y7 : Ledger) (h : (rngOk x33 x34 x35 && decide (x8.size ≤ 12 * x35 ∧ x33.length ≤ 100) && validAll x33) = true) : lp_law42_JournalBack_0 x1 x2 x8 x33 x34 x35 y7 = la_law42_JournalBack_0 x1 x2 x8 x33 x34 x35 y7 := by
  simp only [Bool.and_eq_true, decide_eq_true_eq] at h
  obtain ⟨⟨h0, h4, h6⟩, h5⟩ := h
  obtain ⟨rfl, h3, k, rfl, hk⟩ := rng_k h0
  clear h0
  revert x8
  refine range_ind x33 (fun k => ∀ x8 : ByteArray, (x8.size : Int) ≤ 12 * (k : Int) → lp_law42_JournalBack_0 x1 x2 x8 x33 (x33.length : Int) (k : Int) y7 = la_law42_JournalBack_0 x1 x2 x8 x33 (x33.length : Int) (k : Int) y7) ?_ ?_ k hk
  · intro x8 _
    rw [ln_law42_JournalBack_0]
    simp [n_law42_JournalBack_0, la_law42_JournalBack_0, ilt_nat, br_false, catL]
  · intro k hk ih x8 hx
    rw [ln_law42_JournalBack_0]
    have hv : validB (dec x33[k]) = true := List.all_eq_true.1 h5 x33[k] (List.getElem_mem hk)
    have hs := enc_size x33[k]
    have e1 : appOk x8 x33[k] = true := by simp only [appOk, sz6, decide_eq_true_eq]; omega
    have e2 : appV x8 x33[k] = (x8 ++ (encV x33[k]).1, 0) := by
      unfold appV
      rw [if_neg (by rw [enc_valid hv]; simp), if_neg (by omega)]
    have i1 := ih (x8 ++ (encV x33[k]).1) (by rw [ByteArray.size_append]; omega)
    simp only [n_law42_JournalBack_0, ilt_nat, cIx_nat, hk, decide_true, br_true, Int.toNat_natCast, lgt_get (y := tyDecision) hk, add1 (show k < 4611686018427387904 by omega), e1, e2, i1, ine, bne_self_eq_false, br_false]
    simp only [la_law42_JournalBack_0, Int.toNat_natCast, List.drop_eq_getElem_cons hk, catL, List.foldl_cons]
theorem lo_law42_JournalBack_0 : ∀ S l p, g_law42_JournalBack.L 0 (fgt fg_law42_JournalBack_0 S) = some (true, l) → pickA l = some p → loopF (roundF g_law42_JournalBack fg_law42_JournalBack_0 tb_law42_JournalBack_0) S = some p :=
  lok_of (s := sh_law42_JournalBack_0) ⟨by decide, by decide⟩ (by kernel_rfl) fun x y hok p hp => by
  simp only [pickA_br, pickA_one] at hp
  exact (l_law42_JournalBack_0 x.1 x.2.1 x.2.2.2.1 x.2.2.2.2.1 x.2.2.2.2.2.1 x.2.2.2.2.2.2.1 y.1 (by simpa using hok)).trans hp
theorem lk_law42_JournalBack : tc_law42_JournalBack.lok g_law42_JournalBack := by
  repeat (first | exact trivial | exact lo_law42_JournalBack_0 | refine ⟨?_, ?_⟩)
theorem ba_app (a b : List UInt8) : (ByteArray.mk a.toArray) ++ (ByteArray.mk b.toArray) = ByteArray.mk (a ++ b).toArray := by
  apply ByteArray.ext
  simp [ByteArray.data_append]
theorem catL_is : ∀ (l : List Decision) (a : List UInt8), validAll l = true → catL ⟨a.toArray⟩ l = ⟨(a ++ bytesOf (decs l)).toArray⟩
  | [], a, _ => by simp [catL, bytesOf]
  | d :: l, a, h => by
    simp only [validAll, List.all_cons, Bool.and_eq_true] at h
    have : catL ⟨a.toArray⟩ (d :: l) = catL (⟨a.toArray⟩ ++ (encV d).1) l := rfl
    rw [this, enc_valid h.1, ba_app, catL_is l _ h.2]
    simp [bytesOf]
theorem rep_gen : ∀ (l m : List Decision), Gen zeroDec (decs (m ++ l)) → (m ++ l).length ≤ 100 → l.foldl repF (m, ()) = (m ++ l, ())
  | [], m, _, _ => by simp
  | d :: l, m, h, hl => by
    have e : m ++ d :: l = (m ++ [d]) ++ l := by simp
    have hg : Gen zeroDec (decs m) := by
      have := h.take m.length
      rwa [show (decs (m ++ d :: l)).take m.length = decs m by simp] at this
    have hg2 : Gen zeroDec (decs m ++ [dec d]) := by
      have := h.take (m.length + 1)
      rwa [show decs (m ++ d :: l) = (decs m ++ [dec d]) ++ decs l by simp, List.take_left' (by simp)] at this
    have hml : (decs m).length = m.length := List.length_map _
    simp only [List.length_append, List.length_cons] at hl
    have hlast : Follows (lastD zeroDec (decs m)) (dec d) := by
      have : ∀ (a : Dec) (l : List Dec) (x : Dec), Gen a (l ++ [x]) → Follows (lastD a l) x := by
        intro a l x
        induction l generalizing a with
        | nil => intro h; exact h.1
        | cons b l ih => intro h; rw [lastD_cons]; exact ih b h.2
      exact this _ _ _ hg2
    have hv : validB (dec d) = true := hg2.valid0 (by simp; omega) (dec d) (by simp)
    have hf := hlast
    simp only [Follows] at hf
    obtain ⟨r1, r2⟩ := add_gen hg (by omega) hv (by omega)
    have e3 : decs m ++ [dec d] = decs (m ++ [d]) := by simp
    have e4 : repF (m, ()) d = (m ++ [d], ()) := by
      simp only [repF, addV, r2]
      rw [e3, und_decs]
    rw [List.foldl_cons, e4, rep_gen l (m ++ [d]) (by rw [← e]; exact h) (by simp; omega), ← e]
theorem opens_pre (ds : List Dec) (t : List UInt8) (hv : ∀ d ∈ ds, validB d = true) : ∃ r, opens ⟨(bytesOf ds ++ t).toArray⟩ = ds ++ r ∧ (t = [] → r = []) := by
  have hl := bytesOf_len ds
  have hsz : (ByteArray.mk (bytesOf ds ++ t).toArray).size = 12 * ds.length + t.length := by show Array.size _ = _; simp [hl]
  unfold opens
  rw [hsz, show 12 * ds.length + t.length + 1 = (12 * ds.length + t.length + 1 - ds.length) + ds.length from by omega]
  show ∃ r, openL _ (bytesOf ds ++ t) = _ ∧ _
  rw [openL_pre _ _ _ hv]
  refine ⟨_, rfl, fun ht => ?_⟩
  subst ht
  cases (12 * ds.length + ([] : List UInt8).length + 1 - ds.length) with
  | zero => rfl
  | succ n => rfl
def strOk (_ : List Int) (_ : Int) (t : ByteArray) : Bool := true
set_option maxRecDepth 100000 in
theorem s_law42_JournalBack (p0 : List Int) (p1 : Int) (p2 : ByteArray) : r_law42_JournalBack p0 p1 p2 = some (.t .bool true, []) := by
  unfold r_law42_JournalBack
  cases h0 : light p0 with
  | false => rfl
  | true =>
    simp only [Bool.not_true, br_false]
    cases h1 : igt (slen p2) 300 with
    | true => rfl
    | false =>
      have hp2 : p2.size ≤ 300 := by simp only [igt, slen, decide_eq_false_iff_not] at h1; omega
      obtain ⟨g1, g2, g3⟩ := led_facts (n := 8) (dOk_roll h0) (by decide)
      have hl8 : (ledV (roll p0) 8).1.length ≤ 8 := g2
      have l1 : ledOk (roll p0) 8 = true := by simp only [ledOk, dOk_roll h0, Bool.true_and]; rfl
      have hu : ledV (roll p0) 8 = ((ledV (roll p0) 8).1, ()) := rfl
      rw [l1, hu]
      generalize (ledV (roll p0) 8).1 = l at g1 hl8
      have hdl : (decs l).length = l.length := List.length_map _
      have hva : ∀ d ∈ decs l, validB d = true := g1.valid0 (by omega)
      have hvl : validAll l = true := List.all_eq_true.2 fun d hd => hva (dec d) (List.mem_map.2 ⟨d, hd, rfl⟩)
      have c1 : (rngOk l (llen l) 0 && decide (((ByteArray.mk #[]).size : Int) ≤ 12 * 0 ∧ l.length ≤ 100) && validAll l) = true := by
        simp only [rng_0 (show l.length ≤ 100000 by omega), hvl, Bool.true_and, Bool.and_true, decide_eq_true_eq]
        exact ⟨by decide, by omega⟩
      have hS : catL (ByteArray.mk #[]) (l.drop (Int.toNat (0 : Int))) = ⟨(bytesOf (decs l)).toArray⟩ := by
        have := catL_is l [] hvl
        simpa using this
      simp only [br_true]
      rw [c1, br_true]
      rw [hS]
      have hbl := bytesOf_len (decs l)
      rw [hdl] at hbl
      have hsz : (ByteArray.mk (bytesOf (decs l)).toArray).size = 12 * l.length := by show Array.size _ = _; simp [hbl]
      have hop : opens ⟨(bytesOf (decs l)).toArray⟩ = decs l := by
        obtain ⟨r, e1, e2⟩ := opens_pre (decs l) [] hva
        rw [List.append_nil] at e1
        rw [e1, e2 rfl, List.append_nil]
      have hoV : openV ⟨(bytesOf (decs l)).toArray⟩ = (l, ((12 * l.length : Nat) : Int)) := by
        simp only [openV, hop, und_decs, hdl]
      have hrV : replayV ⟨(bytesOf (decs l)).toArray⟩ = ((l, ()), (l.length : Int)) := by
        have := rep_gen l [] (by simpa using g1) (by simpa using (by omega : l.length ≤ 100))
        simp only [replayV, hoV, this, List.nil_append]
      have hwV : wholeV ⟨(bytesOf (decs l)).toArray⟩ = ⟨(bytesOf (decs l)).toArray⟩ := by
        simp only [wholeV, hop, hdl, ← hsz]
        exact ByteArray.extract_zero_size
      generalize hSS : (ByteArray.mk (bytesOf (decs l)).toArray) = S at *
      have s6 : sz6 S = true := by simp only [sz6, decide_eq_true_eq]; omega
      have r6 : replayOk S = true := by simp only [replayOk, s6, Bool.true_and, hoV, decide_eq_true_eq]; omega
      have e5 : iadd .i64 (slen S) 1 = ((12 * l.length + 1 : Nat) : Int) := by rw [iadd_in (by simp only [slen]; omega)]; simp only [slen]; omega
      have d1 : dmodOk (icv .i64 p1) ((12 * l.length + 1 : Nat) : Int) = true := by simp only [dmodOk, decide_eq_true_eq]; omega
      have hk : 0 ≤ dmod (icv .i64 p1) ((12 * l.length + 1 : Nat) : Int) ∧ dmod (icv .i64 p1) ((12 * l.length + 1 : Nat) : Int) < ((12 * l.length + 1 : Nat) : Int) := by
        unfold dmod
        rw [if_neg (by omega)]
        exact ⟨Int.emod_nonneg _ (by omega), Int.emod_lt_of_pos _ (by omega)⟩
      rw [e5]
      obtain ⟨k, hkk⟩ := Int.eq_ofNat_of_zero_le hk.1
      rw [hkk] at hk ⊢
      have hk2 : k ≤ 12 * l.length := by omega
      have t6 : sz6 p2 = true := by simp only [sz6, decide_eq_true_eq]; omega
      have cr : crashOk S (k : Int) p2 = true := by simp only [crashOk, s6, t6, Bool.and_self]
      have hq : iquo .i64 (k : Int) 12 = ((k / 12 : Nat) : Int) := by
        have : Int.tdiv (k : Int) 12 = ((k / 12 : Nat) : Int) := by rw [Int.tdiv_eq_ediv_of_nonneg (by omega)]; omega
        show IntKind.i64.wrap (Int.tdiv (k : Int) 12) = _
        rw [this]
        exact Go.IntWalk.i64_in _ (by omega)
      have hql : k / 12 ≤ l.length := by omega
      obtain ⟨r, ho, hcs⟩ : ∃ r, opens (crashV S (k : Int) p2) = (decs l).take (k / 12) ++ r ∧ (crashV S (k : Int) p2).size ≤ 1000000 := by
        have e1 : (max (min (k : Int) S.size) 0).toNat = k := by omega
        have e2 : crashV S (k : Int) p2 = ⟨(bytesOf ((decs l).take (k / 12)) ++ ((((bytesOf (decs l)).take k).drop (12 * (k / 12))) ++ p2.data.toList)).toArray⟩ := by
          have e3 : ((bytesOf (decs l)).take k).take (12 * (k / 12)) = bytesOf ((decs l).take (k / 12)) := by
            rw [List.take_take, Nat.min_eq_left (by omega)]
            have : bytesOf (decs l) = bytesOf ((decs l).take (k / 12)) ++ bytesOf ((decs l).drop (k / 12)) := by rw [← bytesOf_append, List.take_append_drop]
            rw [this, List.take_left' (by rw [bytesOf_len, List.length_take]; omega)]
          have a1 : S.extract 0 k = ⟨((bytesOf (decs l)).take k).toArray⟩ := by
            rw [← hSS]
            apply ByteArray.ext
            simp [ByteArray.data_extract]
          have a2 : ByteArray.mk p2.data.toList.toArray = p2 := by cases p2; simp
          rw [← e3, ← List.append_assoc, List.take_append_drop, ← ba_app, a2]
          unfold crashV
          rw [e1, a1]
        obtain ⟨r, h1, _⟩ := opens_pre ((decs l).take (k / 12)) ((((bytesOf (decs l)).take k).drop (12 * (k / 12))) ++ p2.data.toList) (fun d hd => hva d (List.mem_of_mem_take hd))
        refine ⟨r, e2 ▸ h1, ?_⟩
        unfold crashV
        rw [ByteArray.size_append, ByteArray.size_extract]
        omega
      have o6 : sz6 (crashV S (k : Int) p2) = true := by simp only [sz6, decide_eq_true_eq]; exact hcs
      have hov : (openV (crashV S (k : Int) p2)).1 = l.take (k / 12) ++ r.map und := by
        simp only [openV, ho]
        rw [List.map_append, List.map_take, und_decs]
      have c12 : cNz 12 = true := rfl
      have n1 : ilt (llen (l.take (k / 12) ++ r.map und)) ((k / 12 : Nat) : Int) = false := by
        simp only [ilt, llen, decide_eq_false_iff_not, List.length_append, List.length_take]
        omega
      have n2 : ilt (llen l) ((k / 12 : Nat) : Int) = false := by
        simp only [ilt, llen, decide_eq_false_iff_not]
        omega
      have q1 : eqOk l l = true := by simp only [eqOk, decide_eq_true_eq]; omega
      have q2 : eqDs l l = true := by simp [eqDs]
      have q3 : sameOk (l, ()) (l, ()) = true := by simp only [sameOk, decide_eq_true_eq]; omega
      have q4 : sameV (l, ()) (l, ()) = true := by simp [sameV]
      have v1 : lsl (l.take (k / 12) ++ r.map und) 0 ((k / 12 : Nat) : Int) = l.take (k / 12) := by
        have h5 : (l.take (k / 12)).length = k / 12 := by rw [List.length_take]; omega
        simp only [lsl, Int.toNat_natCast, Int.toNat_zero, List.drop_zero, Nat.sub_zero]
        exact List.take_left' h5
      have v2 : lsl l 0 ((k / 12 : Nat) : Int) = l.take (k / 12) := by
        simp only [lsl, Int.toNat_natCast, Int.toNat_zero, List.drop_zero, Nat.sub_zero]
      have w1 : cSl (l.take (k / 12) ++ r.map und) 0 ((k / 12 : Nat) : Int) (((l.take (k / 12) ++ r.map und).length : Nat) : Int) = true := by
        simp only [cSl, decide_eq_true_eq, List.length_append, List.length_take]
        omega
      have w2 : cSl l 0 ((k / 12 : Nat) : Int) ((l.length : Nat) : Int) = true := by
        simp only [cSl, decide_eq_true_eq]
        omega
      have q5 : eqOk (l.take (k / 12)) (l.take (k / 12)) = true := by simp only [eqOk, decide_eq_true_eq, List.length_take]; omega
      have q6 : eqDs (l.take (k / 12)) (l.take (k / 12)) = true := by simp [eqDs]
      have q7 : ieq ((12 * l.length : Nat) : Int) (slen S) = true := by
        simp only [ieq, slen, beq_iff_eq]
        omega
      have q8 : ieq (l.length : Int) (llen l) = true := by simp [ieq, llen]
      have q9 : seq S S = true := by simp [seq]
      simp only [s6, r6, d1, cr, o6, c12, hq, hov, n1, n2, hoV, hrV, hwV, q1, q2, q3, q4, v1, v2, w1, w2, q5, q6, q7, q8, q9, br_true, br_false]
      rfl
def lawBack (_ : List Int) (_ : Int) (_ : ByteArray) : Bool := true
def sp_law42_JournalBack : Ent := spec (.pr (.sl tI) (.pr (.int .u8) (.pr .str .nil))) (fun x => true) (fun x => (.t .bool (lawBack x.1 x.2.1 x.2.2.1)))
theorem ms_law42_JournalBack : Meets Try.prog 12 (strip sp_law42_JournalBack) := by
  obtain ⟨c, hc, hi⟩ := Option.map_eq_some_iff.1 ok_law42_JournalBack
  exact meets_spec (R := runF g_law42_JournalBack tc_law42_JournalBack rv_law42_JournalBack false) (meets_of (by decide) Try.func12 hc hi Try.ntmps12 rok_law42_JournalBack gk_law42_JournalBack lk_law42_JournalBack mixed) fun x _ => (e_law42_JournalBack x.1 x.2.1 x.2.2.1).trans (s_law42_JournalBack x.1 x.2.1 x.2.2.1)
theorem walkJournalBack (z0 : (List Int)) (z1 : Int) (z2 : ByteArray) (W : World) (v0 : Value) (v1 : Value) (v2 : Value) (c0 : C noX W (fun _ => .no) (V.t (.sl tI) z0).d v0) (c1 : C noX W (fun _ => .no) (V.t (.int .u8) z1).d v1) (c2 : C noX W (fun _ => .no) (V.t .str z2).d v2) (w0 : Ty.wf (.sl tI) z0) (w1 : Ty.wf (.int .u8) z1) (w2 : Ty.wf .str z2) :
    Calls Try.prog 12 #[v0, v1, v2] W fun r w' => r = .returned (.bool true) ∧ Below W.heap.size W w' :=
  calls_true (by decide) ms_law42_JournalBack (args := [.t (.sl tI) z0, .t (.int .u8) z1, .t .str z2]) (strip_spec (x := (z0, z1, z2, ())) rfl (rfl)) (by simp only [V.ds, Cs]; exact ⟨_, _, rfl, c0, _, _, rfl, c1, _, _, rfl, c2, rfl⟩)
end
end Go.Proofs.Ytnimpcffagidoaa.K
