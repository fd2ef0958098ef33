/-
  The law LedgerAdds.
-/
import Derived.Test.YtnimpcffagidoaaL3
import Derived.KernelRfl
set_option linter.unusedSimpArgs false
set_option linter.unusedVariables false
namespace Go.Proofs.Ytnimpcffagidoaa.K
open Go.RowKit
noncomputable section
/-- the decisions that are there behind k more -/
def adW : Nat → Dice → Decision → List Decision → List Decision
  | 0, _, _, w => w
  | k + 1, d, a, w => adW k (decN d a) (decV d a) (if w.length = 128 then w else w ++ [decV d a])
/-- what holds between two rounds -/
structure Ads (i : Int) (a : Decision) (w : List Decision) : Prop where
  len : w.length ≤ 128
  gen : Gen zeroDec (decs w)
  last : w.length < 128 → lastD zeroDec (decs w) = dec a
  bd : 0 ≤ a.1 ∧ a.1 ≤ 2 * i ∧ 0 ≤ a.2.1 ∧ a.2.1 ≤ i
open Classical in
def laOk (n i : Int) (l : Ledger) (a : Decision) (w : List Decision) (d : Dice) : Bool := dOk d && decide (0 ≤ i ∧ i ≤ 132 ∧ n ≤ 132 ∧ l.1 = w ∧ Ads i a w)
def laBad (_n _i : Int) (_l : Ledger) (_a : Decision) (_w : List Decision) (_d : Dice) : Bool := false
def laF (_n _i : Int) (_l : Ledger) (_a : Decision) (_w : List Decision) (_d : Dice) : Bool := false
def laL (n i : Int) (_l : Ledger) (a : Decision) (w : List Decision) (d : Dice) : Ledger := (adW (n - i).toNat d a w, ())
def laW (n i : Int) (_l : Ledger) (a : Decision) (w : List Decision) (d : Dice) : List Decision := adW (n - i).toNat d a w
def dr_law41_LedgerAdds_0 : List DO := [(.mk (.mk (some 46) none (.m (.ld true 1 (.t 10)))) []), (.mk (.mk (some 47) none (.m (.pu (.mv (.t 8))))) []), (.mk (.mk (some 48) none (.m (.ld true 5 (.t 7)))) []), (.mk (.mk (some 49) none (.m (.bs 40 5 1 [(.v (.int .i64 0)), (.v (.int .i64 0)), (.v (.int .i64 0)), (.v (.int .i64 0)), (.v (.int .i64 0))] [(0, 5, (.t 48))]))) [2]), (.mk (.mk (some 50) none (.m (.app 40 5 40 (.t 47) (.t 49)))) [1, 3]), (.mk (.mk none none (.m (.st 1 (.t 6) (.t 46)))) [0, 4, 0]), (.mk (.mk (some 8) none (.m (.pu (.mv (.t 50))))) [4, 5, 0, 1, 2, 3, 4, 5])]
def fg_law41_LedgerAdds_0 : Fg := ⟨[(5, none), (6, none), (7, none), (8, none), (21, some tI), (22, some tI)], [(6, some tyLedger), (7, some tyDecision), (8, none), (17, some tyDice), (50, none), (5017, none), (10017, none), (15017, none)]⟩
def tb_law41_LedgerAdds_0 : TC := (.sq (.reg [(.mk (some 23) none (.m (.pu (.bin false .lss (.t 22) (.t 21)))))]) (.sq (.cd (.t 23) .sk (.fg ⟨[(6, none), (8, none)], [(6, some tyLedger), (8, none), (50, none)]⟩ (.ex 0))) (.sq (.bk 1 (.sq (.reg [(.mk (some 24) none (.m (.pu (.mv (.t 5))))), (.mk (some 25) none (.m (.ld true 5 (.t 7)))), (.mk (some 26) none (.call 29 [(.t 24), (.t 25)])), (.mk none none (.m (.st 5 (.t 7) (.t 26))))]) (.sq (.reg [(.mk (some 28) none (.m (.ld true 1 (.t 6)))), (.mk (some 29) none (.m (.ld true 5 (.t 7)))), (.mk (some 30) none (.call 26 [(.t 28), (.t 29)])), (.mk (some 27) none (.m (.pu (.mv (.t 30))))), (.mk (some 31) none (.m (.pu (.ext 0 (.t 27))))), (.mk (some 32) none (.m (.pu (.ext 1 (.t 27))))), (.mk (some 10) none (.m (.new [(.v (.slice none 0 0))]))), (.mk none none (.m (.st 1 (.t 10) (.t 31)))), (.mk (some 11) none (.m (.pu (.mv (.t 32)))))]) (.sq (.sq (.reg [(.mk (some 33) none (.m (.pu (.mv (.t 8))))), (.mk (some 34) none (.m (.pu (.len false (.t 33))))), (.mk (some 35) none (.m (.pu (.bin false .eql (.t 34) (.c (.v (.int .i64 128)))))))]) (.cd (.t 35) (.sq (.sq (.reg [(.mk (some 36) none (.m (.pu (.mv (.t 11))))), (.mk (some 37) none (.m (.pu (.bin false .neq (.t 36) (.c (.v (.int .i64 3))))))), (.mk (some 38) none (.m (.pu (.mv (.t 37))))), (.mk (some 39) (some (38, false)) (.m (.ld true 1 (.t 10)))), (.mk (some 40) (some (38, false)) (.m (.ld true 1 (.t 6)))), (.mk (some 41) (some (38, false)) (.call 30 [(.t 39), (.t 40)])), (.mk (some 42) (some (38, false)) (.m (.pu (.nt (.t 41))))), (.mk (some 43) none (.m (.pu (.pick (.t 38) (.c (.v (.bool true))) (.t 42)))))]) (.cd (.t 43) (.sq (.reg [(.mk (some 4) none (.m (.pu (.mv (.c (.v (.bool false)))))))]) (.fg ⟨[(4, some .bool)], []⟩ .rt)) .sk)) (.fg ⟨[(5, none), (6, none), (7, none), (8, none), (21, some tI), (22, some tI)], [(6, some tyLedger), (7, some tyDecision), (8, none), (17, some tyDice), (50, none), (5017, none), (10017, none), (15017, none)]⟩ (.ex 1))) .sk)) (.sq (.sq (.reg [(.mk (some 44) none (.m (.pu (.mv (.t 11))))), (.mk (some 45) none (.m (.pu (.bin false .neq (.t 44) (.c (.v (.int .i64 0)))))))]) (.cd (.t 45) (.sq (.reg [(.mk (some 4) none (.m (.pu (.mv (.c (.v (.bool false)))))))]) (.fg ⟨[(4, some .bool)], []⟩ .rt)) .sk)) (.dr dr_law41_LedgerAdds_0 [(0, [10]), (1, [8, 50]), (2, [7]), (3, []), (4, [8, 50, 5050, 10050, 15050]), (5, [6]), (6, [8, 50])] (.of [0, 1, 2, 3, 4, 5, 6]))))))) (.reg [(.mk (some 51) none (.m (.pu (.bin false .add (.t 22) (.c (.v (.int .i64 1))))))), (.mk (some 22) none (.m (.pu (.mv (.t 51)))))]))))
/-- cipherplan/cipherplanlaw41.LedgerAdds -/
def tc_law41_LedgerAdds : TC := (.sq (.reg [(.mk (some 4) none (.m (.pu (.mv (.c (.v (.bool false)))))))]) (.sq (.sq (.reg [(.mk (some 12) none (.m (.pu (.mv (.t 0))))), (.mk (some 13) none (.call 15 [(.t 12)])), (.mk (some 14) none (.m (.pu (.nt (.t 13)))))]) (.cd (.t 14) (.sq (.reg [(.mk (some 15) none (.call 24 [])), (.mk (some 4) none (.m (.pu (.mv (.t 15)))))]) .rt) .sk)) (.sq (.reg [(.mk (some 16) none (.m (.pu (.mv (.t 0))))), (.mk (some 17) none (.call 17 [(.t 16)])), (.mk (some 5) none (.m (.pu (.mv (.t 17)))))]) (.sq (.reg [(.mk (some 6) none (.m (.new [(.v (.slice none 0 0))])))]) (.sq (.reg [(.mk (some 7) none (.m (.new [(.v (.int .i64 0)), (.v (.int .i64 0)), (.v (.int .i64 0)), (.v (.int .i64 0)), (.v (.int .i64 0))])))]) (.sq (.reg [(.mk (some 8) none (.m (.pu (.mv (.c (.v (.slice none 0 0)))))))]) (.sq (.reg [(.mk (some 18) none (.m (.pu (.mv (.t 1))))), (.mk (some 19) none (.m (.pu (.cv .i64 (.t 18))))), (.mk (some 20) none (.m (.pu (.bin false .rem (.t 19) (.c (.v (.int .i64 133))))))), (.mk (some 9) none (.m (.pu (.mv (.t 20)))))]) (.sq (.sq (.reg [(.mk (some 21) none (.m (.pu (.mv (.t 9))))), (.mk (some 22) none (.m (.pu (.mv (.c (.v (.int .i64 0)))))))]) (.bk 0 (.nw 8 40 (.lp 0 fg_law41_LedgerAdds_0 tb_law41_LedgerAdds_0)))) (.sq (.reg [(.mk (some 52) none (.m (.ld true 1 (.t 6)))), (.mk (some 53) none (.m (.pu (.mv (.t 8))))), (.mk (some 54) none (.m (.pu (.bd [(.v (.slice none 0 0))] [(0, 1, (.t 53))])))), (.mk (some 55) none (.call 31 [(.t 52), (.t 54)])), (.mk (some 56) none (.m (.pu (.mv (.t 55))))), (.mk (some 57) (some (56, true)) (.m (.ld true 1 (.t 6)))), (.mk (some 58) (some (56, true)) (.call 32 [(.t 57)])), (.mk (some 59) (some (56, true)) (.m (.pu (.bin false .eql (.t 58) (.c (.v (.int .i64 0))))))), (.mk (some 60) none (.m (.pu (.pick (.t 56) (.t 59) (.c (.v (.bool false))))))), (.mk (some 61) none (.m (.pu (.mv (.t 60))))), (.mk (some 62) (some (61, true)) (.call 24 [])), (.mk (some 63) none (.m (.pu (.pick (.t 61) (.t 62) (.c (.v (.bool false))))))), (.mk (some 4) none (.m (.pu (.mv (.t 63)))))]) .rt)))))))))
def rv_law41_LedgerAdds : List (RV × Option Ty) := [((.t 4), some .bool)]
abbrev sh_law41_LedgerAdds_0 : Sh := ⟨[(5, .ptr 17 0), (6, .ptr 6 0), (7, .ptr 7 0), (8, .ms 8), (21, .ty tI), (22, .ty tI)], [(6, .box tyLedger), (7, .box tyDecision), (8, .arr 40 tyDecision), (17, .box tyDice), (50, .no), (5017, .no), (10017, .no), (15017, .no)]⟩
def st_law41_LedgerAdds_0 (x21 : Int) (x22 : Int) (y6 : Ledger) (y7 : Decision) (y8 : (List Decision)) (y17 : Dice) : VS := sh_law41_LedgerAdds_0.st ((), (), (), (), x21, x22, ()) (y6, y7, y8, y17, (), (), (), (), ())
abbrev sh_law41_LedgerAdds_0_ret : Sh := ⟨[(4, .ty .bool)], []⟩
def st_law41_LedgerAdds_0_ret (x4 : Bool) : VS := sh_law41_LedgerAdds_0_ret.st (x4, ()) ()
abbrev sh_law41_LedgerAdds_0_e0 : Sh := ⟨[(6, .ptr 6 0), (8, .ms 8)], [(6, .box tyLedger), (8, .arr 40 tyDecision), (50, .no)]⟩
def st_law41_LedgerAdds_0_e0 (y6 : Ledger) (y8 : (List Decision)) : VS := sh_law41_LedgerAdds_0_e0.st ((), (), ()) (y6, y8, (), ())
-- loop 0: (x21 : Int) (x22 : Int) (y6 : Ledger) (y7 : Decision) (y8 : (List Decision)) (y17 : Dice); out: ('ret',) (x4 : Bool); ('exit', 0) (y6 : Ledger) (y8 : (List Decision))
def L_law41_LedgerAdds_0 : VS → Option (Bool × List (Bool × Exit × VS)) := mkL sh_law41_LedgerAdds_0 (fun x y => (laOk x.2.2.2.2.1 x.2.2.2.2.2.1 y.1 y.2.1 y.2.2.1 y.2.2.2.1)) (fun x y => [((laBad x.2.2.2.2.1 x.2.2.2.2.2.1 y.1 y.2.1 y.2.2.1 y.2.2.2.1), .ret, st_law41_LedgerAdds_0_ret (laF x.2.2.2.2.1 x.2.2.2.2.2.1 y.1 y.2.1 y.2.2.1 y.2.2.2.1)), (true, .exit 0, st_law41_LedgerAdds_0_e0 (laL x.2.2.2.2.1 x.2.2.2.2.2.1 y.1 y.2.1 y.2.2.1 y.2.2.2.1) (laW x.2.2.2.2.1 x.2.2.2.2.2.1 y.1 y.2.1 y.2.2.1 y.2.2.2.1))])
def g_law41_LedgerAdds : G := ⟨TYs, [], 64, EL [(15, sp_make_Light), (17, sp_make_Roll), (24, sp_law41_awake), (26, sp_ledger_Add), (29, sp_move_Decision), (30, sp_ledger_Same), (31, sp_ref41_Same), (32, sp_ledger_Check)], keeps, (Ls [L_law41_LedgerAdds_0])⟩
def b_law41_LedgerAdds_0 (x21 : Int) (x22 : Int) (y6 : Ledger) (y7 : Decision) (y8 : (List Decision)) (y17 : Dice) : Option (Exit × VS) :=
  br ((ilt x22 x21))
    (br ((decOk y17 y7))
      (br ((addOk y6 (decV y17 y7)))
        (br ((ieq (llen y8) 128))
          (br ((ine ((addV y6 (decV y17 y7)).2) 3))
            (some (.ret, st_law41_LedgerAdds_0_ret false))
            (br ((sameOk ((addV y6 (decV y17 y7)).1) y6))
              (br ((!(sameV ((addV y6 (decV y17 y7)).1) y6)))
                (some (.ret, st_law41_LedgerAdds_0_ret false))
                (some (.normal, st_law41_LedgerAdds_0 x21 (iadd .i64 x22 1) y6 (decV y17 y7) y8 (decN y17 y7))))
              (none)))
          (br ((ine ((addV y6 (decV y17 y7)).2) 0))
            (some (.ret, st_law41_LedgerAdds_0_ret false))
            (br (cApp y8 ([((decV y17 y7).1, (((decV y17 y7).2).1, ((((decV y17 y7).2).2).1, (((((decV y17 y7).2).2).2).1, ((((((decV y17 y7).2).2).2).2).1, ())))))]) 40)
              (some (.normal, st_law41_LedgerAdds_0 x21 (iadd .i64 x22 1) ((addV y6 (decV y17 y7)).1) (decV y17 y7) (y8 ++ ([((decV y17 y7).1, (((decV y17 y7).2).1, ((((decV y17 y7).2).2).1, (((((decV y17 y7).2).2).2).1, ((((((decV y17 y7).2).2).2).2).1, ())))))])) (decN y17 y7)))
              (none))))
        (none))
      (none))
    (some (.exit 0, st_law41_LedgerAdds_0_e0 y6 y8))
noncomputable def lp_law41_LedgerAdds_0 (x21 : Int) (x22 : Int) (y6 : Ledger) (y7 : Decision) (y8 : (List Decision)) (y17 : Dice) : Option (Exit × VS) := loopF (roundF g_law41_LedgerAdds fg_law41_LedgerAdds_0 tb_law41_LedgerAdds_0) (st_law41_LedgerAdds_0 x21 x22 y6 y7 y8 y17)
noncomputable def n_law41_LedgerAdds_0 (x21 : Int) (x22 : Int) (y6 : Ledger) (y7 : Decision) (y8 : (List Decision)) (y17 : Dice) : Option (Exit × VS) :=
  br ((ilt x22 x21))
    (br ((decOk y17 y7))
      (br ((addOk y6 (decV y17 y7)))
        (br ((ieq (llen y8) 128))
          (br ((ine ((addV y6 (decV y17 y7)).2) 3))
            (some (.ret, st_law41_LedgerAdds_0_ret false))
            (br ((sameOk ((addV y6 (decV y17 y7)).1) y6))
              (br ((!(sameV ((addV y6 (decV y17 y7)).1) y6)))
                (some (.ret, st_law41_LedgerAdds_0_ret false))
                (lp_law41_LedgerAdds_0 x21 (iadd .i64 x22 1) y6 (decV y17 y7) y8 (decN y17 y7)))
              (none)))
          (br ((ine ((addV y6 (decV y17 y7)).2) 0))
            (some (.ret, st_law41_LedgerAdds_0_ret false))
            (br (cApp y8 ([((decV y17 y7).1, (((decV y17 y7).2).1, ((((decV y17 y7).2).2).1, (((((decV y17 y7).2).2).2).1, ((((((decV y17 y7).2).2).2).2).1, ())))))]) 40)
              (lp_law41_LedgerAdds_0 x21 (iadd .i64 x22 1) ((addV y6 (decV y17 y7)).1) (decV y17 y7) (y8 ++ ([((decV y17 y7).1, (((decV y17 y7).2).1, ((((decV y17 y7).2).2).1, (((((decV y17 y7).2).2).2).1, ((((((decV y17 y7).2).2).2).2).1, ())))))])) (decN y17 y7))
              (none))))
        (none))
      (none))
    (some (.exit 0, st_law41_LedgerAdds_0_e0 y6 y8))
def la_law41_LedgerAdds_0 (x21 : Int) (x22 : Int) (y6 : Ledger) (y7 : Decision) (y8 : (List Decision)) (y17 : Dice) : Option (Exit × VS) := br (laBad x21 x22 y6 y7 y8 y17) (some (.ret, st_law41_LedgerAdds_0_ret (laF x21 x22 y6 y7 y8 y17))) <| some (.exit 0, st_law41_LedgerAdds_0_e0 (laL x21 x22 y6 y7 y8 y17) (laW x21 x22 y6 y7 y8 y17))
theorem be_law41_LedgerAdds_0 (x21 : Int) (x22 : Int) (y6 : Ledger) (y7 : Decision) (y8 : (List Decision)) (y17 : Dice) : roundF g_law41_LedgerAdds fg_law41_LedgerAdds_0 tb_law41_LedgerAdds_0 (st_law41_LedgerAdds_0 x21 x22 y6 y7 y8 y17) = b_law41_LedgerAdds_0 x21 x22 y6 y7 y8 y17 := by kernel_rfl
theorem ln_law41_LedgerAdds_0 (x21 : Int) (x22 : Int) (y6 : Ledger) (y7 : Decision) (y8 : (List Decision)) (y17 : Dice) : lp_law41_LedgerAdds_0 x21 x22 y6 y7 y8 y17 = n_law41_LedgerAdds_0 x21 x22 y6 y7 y8 y17 := (loopF_nxt _ _).trans (by
  rw [be_law41_LedgerAdds_0]
  simp only [b_law41_LedgerAdds_0, n_law41_LedgerAdds_0, nxt_br, nxt_n, nxt_r, nxt_e, nxt_0]
  rfl)
def r_law41_LedgerAdds (p0 : (List Int)) (p1 : Int) : Option (V × List VO) :=
  br ((!(light p0)))
    (some (.t .bool awakeV, []))
    (br (cNz 133)
      (br ((laOk (irem (icv .i64 p1) 133) 0 (([] : List Decision), ()) (0, (0, (0, (0, (0, ()))))) ([] : List Decision) (roll p0)))
        (br ((laBad (irem (icv .i64 p1) 133) 0 (([] : List Decision), ()) (0, (0, (0, (0, (0, ()))))) ([] : List Decision) (roll p0)))
          (some (.t .bool (laF (irem (icv .i64 p1) 133) 0 (([] : List Decision), ()) (0, (0, (0, (0, (0, ()))))) ([] : List Decision) (roll p0)), []))
          (br ((sameOk (laL (irem (icv .i64 p1) 133) 0 (([] : List Decision), ()) (0, (0, (0, (0, (0, ()))))) ([] : List Decision) (roll p0)) ((laW (irem (icv .i64 p1) 133) 0 (([] : List Decision), ()) (0, (0, (0, (0, (0, ()))))) ([] : List Decision) (roll p0)), ())))
            (br ((sameV (laL (irem (icv .i64 p1) 133) 0 (([] : List Decision), ()) (0, (0, (0, (0, (0, ()))))) ([] : List Decision) (roll p0)) ((laW (irem (icv .i64 p1) 133) 0 (([] : List Decision), ()) (0, (0, (0, (0, (0, ()))))) ([] : List Decision) (roll p0)), ())))
              (br ((lenOk (laL (irem (icv .i64 p1) 133) 0 (([] : List Decision), ()) (0, (0, (0, (0, (0, ()))))) ([] : List Decision) (roll p0))))
                (br ((ieq (checkV (laL (irem (icv .i64 p1) 133) 0 (([] : List Decision), ()) (0, (0, (0, (0, (0, ()))))) ([] : List Decision) (roll p0))) 0))
                  (some (.t .bool awakeV, []))
                  (some (.t .bool false, [])))
                (none))
              (some (.t .bool false, [])))
            (none)))
        (none))
      (none))
theorem e_law41_LedgerAdds (p0 : (List Int)) (p1 : Int) : runF g_law41_LedgerAdds tc_law41_LedgerAdds rv_law41_LedgerAdds false [.t (.sl tI) p0, .t (.int .u8) p1] [] = r_law41_LedgerAdds p0 p1 := by kernel_rfl
theorem ok_law41_LedgerAdds : Option.map (trC Try.prog) Try.f7.body = some tc_law41_LedgerAdds.er := by kernel_rfl
theorem rok_law41_LedgerAdds : trVs Try.prog Try.f7.results.toList = some (rv_law41_LedgerAdds.map Prod.fst) := by kernel_rfl
theorem en_law41_LedgerAdds : Entered Try.prog 7 := .inr ⟨by decide, _, Try.func7, by kernel_rfl, by kernel_rfl⟩
theorem gk_law41_LedgerAdds : GOk Try.prog g_law41_LedgerAdds := gok_of _ (by
  intro p hp
  simp only [List.mem_cons, List.not_mem_nil, or_false] at hp
  rcases hp with rfl | rfl | rfl | rfl | rfl | rfl | rfl | rfl
  · exact ⟨en_make_Light, ms_make_Light⟩
  · exact ⟨en_make_Roll, ms_make_Roll⟩
  · exact ⟨en_law41_awake, ms_law41_awake⟩
  · exact ⟨en_ledger_Add, ms_ledger_Add⟩
  · exact ⟨en_move_Decision, ms_move_Decision⟩
  · exact ⟨en_ledger_Same, ms_ledger_Same⟩
  · exact ⟨en_ref41_Same, ms_ref41_Same⟩
  · exact ⟨en_ledger_Check, ms_ledger_Check⟩)
theorem dec_follows {d : Dice} {a : Decision} : Follows (dec a) (dec (decV d a)) := by
  have v1 := dval_lt (d := d) (n := 3) (by omega)
  have v2 := dval_lt (d := adv d) (n := 2) (by omega)
  have v3 := dval_lt (d := adv (adv d)) (n := 5) (by omega)
  have v4 := dval_lt (d := adv (adv (adv d))) (n := 3) (by omega)
  have v5 := dval_lt (d := adv (adv (adv (adv d)))) (n := 2) (by omega)
  simp only [Follows, dec, decV]
  omega
theorem valid_of {e : Dec} (h : 0 ≤ e.day ∧ e.day ≤ 40000 ∧ 0 ≤ e.known ∧ e.known ≤ 400 ∧ 1 ≤ e.kind ∧ e.kind ≤ 5 ∧ 0 ≤ e.subject ∧ e.subject ≤ 2 ∧ 0 ≤ e.value ∧ e.value ≤ 1) : validB e = true := by
  simp [validB]
  omega
theorem valid_dec {d : Dice} {a : Decision} {i : Int} (h : 0 ≤ a.1 ∧ a.1 ≤ 2 * i ∧ 0 ≤ a.2.1 ∧ a.2.1 ≤ i) (hi : i ≤ 132) : validB (dec (decV d a)) = true := by
  have h1 := dec_follows (d := d) (a := a)
  simp only [Follows] at h1
  simp only [dec] at h1
  refine valid_of ?_
  simp only [dec]
  omega
theorem Ads.next {i : Int} {a : Decision} {w : List Decision} {d : Dice} (h : Ads i a w) (hi : i ≤ 132) : addV (w, ()) (decV d a) = ((if w.length = 128 then w else w ++ [decV d a], ()), if w.length = 128 then 3 else 0) ∧ Ads (i + 1) (decV d a) (if w.length = 128 then w else w ++ [decV d a]) := by
  obtain ⟨h1, h2, h3, h4⟩ := h
  have hl : (decs w).length = w.length := List.length_map _
  have b := dec_bd d a
  by_cases hw : w.length = 128
  · rw [if_pos hw, if_pos hw]
    have hc := check_gen h2 (by omega)
    have hr : addR (decs w) (dec (decV d a)) = 3 := by
      unfold addR
      rw [if_neg (by simp [hc]), if_pos (by omega)]
    refine ⟨?_, h1, h2, fun hlt => by omega, by omega⟩
    simp only [addV, hr, addL]
    rw [if_neg (by decide), und_decs]
  · rw [if_neg hw, if_neg hw]
    have hlt : w.length < 128 := by omega
    have hla := h3 hlt
    have hf := dec_follows (d := d) (a := a)
    have hf' := hf
    simp only [Follows] at hf'
    obtain ⟨e1, e2⟩ := add_gen h2 (by omega) (valid_dec h4 hi) (x := dec (decV d a)) (by rw [hla]; omega)
    have e3 : decs (w ++ [decV d a]) = decs w ++ [dec (decV d a)] := by simp
    refine ⟨?_, by simp; omega, by rw [e3]; exact h2.snoc (by rw [hla]; exact hf), fun _ => by rw [e3, lastD_snoc], by omega⟩
    simp only [addV, e1, e2]
    rw [← e3, und_decs]
theorem l_law41_LedgerAdds_0 (n i : Int) (l : Ledger) (a : Decision) (w : List Decision) (d : Dice) (h : laOk n i l a w d = true) : lp_law41_LedgerAdds_0 n i l a w d = la_law41_LedgerAdds_0 n i l a w d := by
  simp only [laOk, Bool.and_eq_true, decide_eq_true_eq] at h
  obtain ⟨h0, h1, h2, h3, h4, h5⟩ := h
  obtain ⟨l, u⟩ := l
  have h4' : w = l := h4.symm
  clear h4
  subst h4'
  induction hk : (n - i).toNat generalizing i a w d with
  | zero =>
    rw [ln_law41_LedgerAdds_0]
    have e1 : ilt i n = false := by simp [ilt]; omega
    simp [n_law41_LedgerAdds_0, la_law41_LedgerAdds_0, e1, br_false, laBad, laL, laW, hk, adW]
  | succ k ih =>
    rw [ln_law41_LedgerAdds_0]
    have e1 : ilt i n = true := by simp [ilt]; omega
    have e2 : decOk d a = true := by simp only [decOk, h0, Bool.true_and, decide_eq_true_eq]; have := h5.bd; omega
    have e3 : addOk (w, u) (decV d a) = true := by simp only [addOk, lenOk, decide_eq_true_eq]; have := h5.len; omega
    obtain ⟨e4, e5⟩ := h5.next (d := d) (by omega)
    have e6 : iadd .i64 i 1 = i + 1 := iadd_in (by omega)
    have e7 : sameOk (w, u) (w, u) = true := by simp only [sameOk, decide_eq_true_eq]; have := h5.len; omega
    have e8 : sameV (w, u) (w, u) = true := by simp [sameV]
    have e9 : ∀ x : Decision, cApp w [x] 40 = true := fun x => by have := h5.len; simp [cApp]; omega
    have := ih (i + 1) (decV d a) (if w.length = 128 then w else w ++ [decV d a]) (decN d a) (dOk_dec h0) (by omega) (by omega) e5 (by omega)
    simp only [n_law41_LedgerAdds_0, e1, e2, e3, e4, e6, br_true]
    by_cases hw : w.length = 128
    · have f1 : ieq (llen w) 128 = true := by simp [ieq, llen, hw]
      simp only [hw, if_true] at this ⊢
      simp only [f1, br_true, ine, bne_self_eq_false, br_false, e7, e8, Bool.not_true]
      rw [this]
      simp only [la_law41_LedgerAdds_0, laBad, br_false, laL, laW, hk, adW, hw, if_true, show (n - (i + 1)).toNat = k by omega]
    · have f1 : ieq (llen w) 128 = false := by simp [ieq, llen]; omega
      simp only [hw, if_false] at this ⊢
      simp only [f1, br_true, ine, bne_self_eq_false, br_false, e9]
      refine (show _ = lp_law41_LedgerAdds_0 n (i + 1) (w ++ [decV d a], u) (decV d a) (w ++ [decV d a]) (decN d a) from rfl).trans ?_
      rw [this]
      simp only [la_law41_LedgerAdds_0, laBad, br_false, laL, laW, hk, adW, hw, if_false, show (n - (i + 1)).toNat = k by omega]
theorem lo_law41_LedgerAdds_0 : ∀ S l p, g_law41_LedgerAdds.L 0 (fgt fg_law41_LedgerAdds_0 S) = some (true, l) → pickA l = some p → loopF (roundF g_law41_LedgerAdds fg_law41_LedgerAdds_0 tb_law41_LedgerAdds_0) S = some p :=
  lok_of (s := sh_law41_LedgerAdds_0) ⟨by decide, by decide⟩ (by kernel_rfl) fun x y hok p hp => by
  simp only [pickA_br, pickA_one] at hp
  exact (l_law41_LedgerAdds_0 x.2.2.2.2.1 x.2.2.2.2.2.1 y.1 y.2.1 y.2.2.1 y.2.2.2.1 (by simpa using hok)).trans hp
theorem lk_law41_LedgerAdds : tc_law41_LedgerAdds.lok g_law41_LedgerAdds := by
  repeat (first | exact trivial | exact lo_law41_LedgerAdds_0 | refine ⟨?_, ?_⟩)
theorem adW_ads : ∀ (k : Nat) (i : Int) (d : Dice) (a : Decision) (w : List Decision), Ads i a w → i + k ≤ 133 → ∃ a', Ads (i + k) a' (adW k d a w)
  | 0, i, d, a, w, h, _ => ⟨a, by simpa [adW] using h⟩
  | k + 1, i, d, a, w, h, hk => by
    obtain ⟨a', h'⟩ := adW_ads k (i + 1) (decN d a) (decV d a) _ (h.next (by omega)).2 (by omega)
    exact ⟨a', by rw [show i + ((k + 1 : Nat) : Int) = i + 1 + (k : Int) by omega]; exact h'⟩
theorem s_law41_LedgerAdds (p0 : List Int) (p1 : Int) : r_law41_LedgerAdds p0 p1 = some (.t .bool true, []) := by
  simp only [r_law41_LedgerAdds]
  refine br_intro (fun _ => rfl) (fun h1 => ?_)
  have h0 : light p0 = true := by simpa using h1
  have hm : irem (icv .i64 p1) 133 ≤ 132 := by
    have := Int.tmod_lt_of_pos (icv .i64 p1) (show (0 : Int) < 133 by decide)
    show Int.tmod _ _ ≤ 132
    omega
  generalize irem (icv .i64 p1) 133 = n at hm ⊢
  have hz : Ads 0 zeroT [] := ⟨by simp, trivial, fun _ => rfl, by decide⟩
  have e1 : laOk n 0 ([], ()) (0, (0, (0, (0, (0, ()))))) [] (roll p0) = true := by
    simp only [laOk, dOk_roll h0, Bool.true_and, decide_eq_true_eq]
    exact ⟨by omega, by omega, hm, by trivial, hz⟩
  obtain ⟨a', hA⟩ := adW_ads (n - 0).toNat 0 (roll p0) zeroT [] hz (by omega)
  have hl := hA.len
  have e2 : ∀ a, laL n 0 ([], ()) a [] (roll p0) = (adW (n - 0).toNat (roll p0) a [], ()) := fun _ => rfl
  have e3 : cNz 133 = true := rfl
  simp only [e1, e3, br_true, laBad, br_false]
  show br (sameOk (adW (n - 0).toNat (roll p0) zeroT [], ()) (adW (n - 0).toNat (roll p0) zeroT [], ())) (br (sameV (adW (n - 0).toNat (roll p0) zeroT [], ()) (adW (n - 0).toNat (roll p0) zeroT [], ())) (br (lenOk (adW (n - 0).toNat (roll p0) zeroT [], ())) (br (ieq (checkV (adW (n - 0).toNat (roll p0) zeroT [], ())) 0) _ _) _) _) _ = _
  generalize adW (n - 0).toNat (roll p0) zeroT [] = w at hA hl
  have f1 : sameOk (w, ()) (w, ()) = true := by simp only [sameOk, decide_eq_true_eq]; omega
  have f2 : sameV (w, ()) (w, ()) = true := by simp [sameV]
  have f3 : lenOk (w, ()) = true := by simp only [lenOk, decide_eq_true_eq]; omega
  have f4 : checkV (w, ()) = 0 := check_gen hA.gen (by simp; omega)
  simp only [f1, f2, f3, f4, br_true]
  rfl
def lawAdds (_ : List Int) (_ : Int) : Bool := true
def sp_law41_LedgerAdds : Ent := spec (.pr (.sl tI) (.pr (.int .u8) .nil)) (fun x => true) (fun x => (.t .bool (lawAdds x.1 x.2.1)))
theorem ms_law41_LedgerAdds : Meets Try.prog 7 (strip sp_law41_LedgerAdds) := by
  obtain ⟨c, hc, hi⟩ := Option.map_eq_some_iff.1 ok_law41_LedgerAdds
  exact meets_spec (R := runF g_law41_LedgerAdds tc_law41_LedgerAdds rv_law41_LedgerAdds false) (meets_of (by decide) Try.func7 hc hi Try.ntmps7 rok_law41_LedgerAdds gk_law41_LedgerAdds lk_law41_LedgerAdds mixed) fun x _ => (e_law41_LedgerAdds x.1 x.2.1).trans (s_law41_LedgerAdds x.1 x.2.1)
end
end Go.Proofs.Ytnimpcffagidoaa.K
