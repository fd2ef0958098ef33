import Derived.Test.YtkkoedniahnneaaDoorQ4
set_option linter.unusedSimpArgs false
set_option linter.unusedVariables false
set_option linter.unusedSectionVars false
namespace Go.Proofs.YtkkoedniahnneaaDoor.K
open Go.RowKit
noncomputable section
set_option linter.unusedSectionVars false
def stBad (lv:Int)(acc:List BlkT)(x:ParserXX):Bool:=ieq x.2.2.1 0&&ine (stX lv acc x).2.2.2.1 0
def stF (x:ParserXX)(lv:Int):List BlkT:=bif stBad lv [] x then [] else (stX lv [] x).1
def stD (x:ParserXX)(lv:Int):ParserXX:=(stX lv [] x).2
def stS:Nat->ParserXX->Int->Bool
 |0,_,_=>false
 |n+1,x,lv=>okR x&&cP (rmX x<=n/\0<=lv/\lv+rmX x<=2000000)
def stOk (x:ParserXX)(lv:Int):Bool:=okR x&&cP (0<=lv/\lv+rmX x<=2000000)
theorem fuel_ref07_parser_statements (x:ParserXX)(lv:Int)(h:stOk x lv=true): ∃ N,stS N x lv=true:=by
 obtain ⟨h1,h2⟩:=Bool.and_eq_true_iff.1 h
 obtain ⟨h2,h3⟩:=cP_of h2
 exact ⟨rmX x+1,Bool.and_eq_true_iff.2 ⟨h1,cP_in ⟨Nat.le_refl _,h2,h3⟩⟩⟩
def sw0 (ws:List ByteArray)(x:ParserXX):Bool:=lxOk2 x&&cP (ws.length<=1000000)
theorem flOk_of {x:ParserXX}(h:okR x=true):flOk x=true:=by
 obtain ⟨_,_,h3,_⟩:=cP_of (okR_lx h)
 exact cP_in h3
theorem stX_eq {x:ParserXX}(h:okR x=true)(lv:Int)(acc:List BlkT):stX lv acc x=bif !(ieq x.2.2.1 0&&(ine x.2.1.1 0&&ine x.2.1.1 125)) then (acc,x) else
  bif ine x.2.1.1 119|| !x.2.1.2.2.1 then (acc,flD x) else stB stX lv acc x.2.1.2.2.2.1 (wsX [] (dS (igt lv 16) x)).1 (hdX lv x):=by
 rw [show stX lv acc x=stG (rmX x+1) lv acc x from rfl,stG_eq]
 cases !(ieq x.2.2.1 0&&(ine x.2.1.1 0&&ine x.2.1.1 125)) with
 |true=>rfl
 |false=>
  rw [cond_false,cond_false]
  cases hc:ine x.2.1.1 119|| !x.2.1.2.2.1 with
  |true=>rfl
  |false=>
   rw [cond_false,cond_false]
   have hq:ieq x.2.1.1 119=true:=by
    cases hz:ieq x.2.1.1 119 with
    |true=>rfl
    |false=>
     rw [show ine x.2.1.1 119= !ieq x.2.1.1 119 from rfl,hz] at hc
     cases hc
   obtain ⟨h1,h2⟩:=hd_ok (lv:=lv) h
   have ha:=hd_adv (lv:=lv) h hq
   generalize (wsX [] (dS (igt lv 16) x)).1=ws
   generalize hdX lv x=y at h1 h2 ha ⊢
   have k1:=rm_tk h1
   unfold stB
   cases h59:ieq y.2.1.1 59 with
   |true=>
    rw [cond_true,cond_true]
    have:=ha (.inl (eq_of_beq h59))
    exact stX_is (okR_tk h1) (by omega) _ _
   |false=>
    rw [cond_false,cond_false]
    cases h123:ieq y.2.1.1 123 with
    |false=>rfl
    |true=>
     rw [cond_true,cond_true]
     have:=ha (.inr (eq_of_beq h123))
     rw [stX_is (okR_tk h1) (by omega)]
     obtain ⟨g1,g2⟩:=stG_ok (rmX (tkD y)+1) (lv+1) [] (tkD y) (okR_tk h1)
     rw [show stG (rmX (tkD y)+1) (lv+1) [] (tkD y)=stX (lv+1) [] (tkD y) from rfl] at g1 g2
     generalize stX (lv+1) [] (tkD y)=i at g1 g2 ⊢
     unfold stC
     cases ine i.2.2.2.1 0 with
     |true=>rfl
     |false=>
      rw [cond_false,cond_false]
      cases ine i.2.2.1.1 125 with
      |true=>rfl
      |false=>
       rw [cond_false,cond_false]
       have:=rm_tk g1
       exact stX_is (okR_tk g1) (by omega) _ _
theorem en_f94:Entered Tryd.prog 94:= .inr ⟨by decide,_,Tryd.func94,by kernel_rfl,by kernel_rfl⟩
def sp_f94R [Fuel]:Ent:=specP tyParserXX (.pr tI .nil) (fun d x=>(stS fuel d x.1)) (fun d x=>(.t (.sl tyBlkT) (stF d x.1))) (fun d x=>(stD d x.1))
theorem en_f94R:Entered Tryd.prog 94:=en_f94
section
variable [Fuel][Nonempty (PLift (Meets Tryd.prog 94 (strip sp_f94R)))]
theorem ms_f94R:Meets Tryd.prog 94 (strip sp_f94R):=(Classical.choice (inferInstance:Nonempty (PLift (Meets Tryd.prog 94 (strip sp_f94R))))).down
def sw1 [Fuel](lv:Int)(acc:List BlkT)(x:ParserXX):Bool:=okR x&&cP (rmX x<=fuel/\0<=lv/\lv+rmX x<=2000000/\acc.length<=1000000)
def dr_f94_0:List DO:=[(.mk (oP 67 (.fa 0 (.t 6))) []),(.mk (oL 68 67) [0]),(.mk (oV 69 0) []),(.mk (oP 70 (.nc (.t 69))) [2]),(.mk (oP 71 (.fa 4 (.t 70))) [3]),(.mk (oP 72 (.fa 1 (.t 71))) [4]),(.mk (oL 73 72) [5]),(.mk (oM 74 (.bs 9 1 1 [(.v (.string (ByteArray.mk #[])))] [(0,1,(.t 73))])) [6]),(.mk (oM 75 (.app 9 1 16 (.t 68) (.t 74))) [1,7]),(.mk (oP 76 (.fa 0 (.t 6))) [0,1,2,3,4,5,6,7,8]),(.mk (.mk none none (.m (.st 1 (.t 76) (.t 75)))) [9,8,8,0,1,2,3,4,5,6,7,8])]
def fg_f94_0:Fg:=⟨[(0,none),(1,some tI),(5,none),(6,none)],[(5,none),(6,none),(75,none),(136,none),(20600,none),(50000,some tyParserXX)]⟩
def tb_f94_0:TC:=(.sq (.sq (.reg [(oV 61 0),(oP 62 (.nc (.t 61))),(oP 63 (.fa 4 (.t 62))),(oP 64 (.fa 0 (.t 63))),(oL 65 64),(oP 66 (.bin false .eql (.t 65) (.c (.v (.int .u8 119)))))]) (.cd (.t 66) .sk (.fg ⟨[(0,none),(1,some tI),(5,none),(6,none)],[(5,none),(6,some tyBlkT),(75,none),(136,none),(20600,none),(50000,some tyParserXX)]⟩ (.ex 2)))) (.bk 3 (.sq (.dr dr_f94_0 [(0,[6,75,20600]),(1,[6,75,20600]),(2,[50000]),(3,[50000]),(4,[50000]),(5,[50000]),(6,[50000]),(7,[]),(8,[6,75,5075,10075,15075,20600]),(9,[6,75,20600]),(10,[6,75,20600])] (.of [0,1,2,3,4,5,6,7,8,9,10])) (.reg [(oV 77 0),(oC 78 93 [(.t 77)])]))))
def fg_f94_1:Fg:=⟨[(0,none),(1,some tI),(5,none)],[(5,none),(136,none),(50000,some tyParserXX)]⟩
def tb_f94_1:TC:=(.sq (.sq (.reg [(oV 7 0),(oP 8 (.nc (.t 7))),(oP 9 (.fa 8 (.t 8))),(oL 10 9),(oP 11 (.bin false .eql (.t 10) (cI 0))),(oV 12 11),(oQ 13 12 true (.mv (.t 0))),(oQ 14 12 true (.nc (.t 13))),(oQ 15 12 true (.fa 4 (.t 14))),(oQ 16 12 true (.fa 0 (.t 15))),(oG 17 12 true (.m (.ld false 1 (.t 16)))),(oQ 18 12 true (.bin false .neq (.t 17) (.c (.v (.int .u8 0))))),(oP 19 (.pick (.t 12) (.t 18) (cB false))),(oV 20 19),(oQ 21 20 true (.mv (.t 0))),(oQ 22 20 true (.nc (.t 21))),(oQ 23 20 true (.fa 4 (.t 22))),(oQ 24 20 true (.fa 0 (.t 23))),(oG 25 20 true (.m (.ld false 1 (.t 24)))),(oQ 26 20 true (.bin false .neq (.t 25) (.c (.v (.int .u8 125))))),(oP 27 (.pick (.t 20) (.t 26) (cB false)))]) (.cd (.t 27) .sk (.fg ⟨[(5,none)],[(5,none),(136,none),(50000,some tyParserXX)]⟩ (.ex 0)))) (.bk 1 (.sq (.sq (.reg [(oV 28 0),(oP 29 (.nc (.t 28))),(oP 30 (.fa 4 (.t 29))),(oP 31 (.fa 0 (.t 30))),(oL 32 31),(oP 33 (.bin false .neq (.t 32) (.c (.v (.int .u8 119))))),(oV 34 33),(oQ 35 34 false (.mv (.t 0))),(oQ 36 34 false (.nc (.t 35))),(oQ 37 34 false (.fa 4 (.t 36))),(oQ 38 34 false (.fa 2 (.t 37))),(oG 39 34 false (.m (.ld false 1 (.t 38)))),(oQ 40 34 false (.nt (.t 39))),(oP 41 (.pick (.t 34) (cB true) (.t 40)))]) (.cd (.t 41) (.sq (.reg [(oV 42 0),(oC 43 95 [(.t 42)])]) (.sq (.reg [(oP 4 (.mv (.c (.v (.slice none 0 0)))))]) (.fg ⟨[(4,none)],[(5,none),(136,none),(50000,some tyParserXX)]⟩ .rt))) .sk)) (.sq (.reg [(oV 44 0),(oV 45 0),(oP 46 (.nc (.t 45))),(oP 47 (.fa 9 (.t 46))),(oL 48 47),(oV 49 48),(oQ 50 49 false (.mv (.t 1))),(oQ 51 49 false (.bin false .gtr (.t 50) (cI 16))),(oP 52 (.pick (.t 49) (cB true) (.t 51))),(oP 53 (.nc (.t 44))),(oP 54 (.fa 9 (.t 53))),(.mk none none (.m (.st 1 (.t 54) (.t 52))))]) (.sq (.reg [(oV 55 0),(oP 56 (.nc (.t 55))),(oP 57 (.fa 4 (.t 56))),(oP 58 (.fa 3 (.t 57))),(oL 59 58),(oP 60 (.bd [(.v (.slice none 0 0)),(.v (.bool false)),(.v (.slice none 0 0)),(.v (.int .i64 0))] [(3,1,(.t 59))])),(oM 6 (.new [(.v (.slice none 0 0)),(.v (.bool false)),(.v (.slice none 0 0)),(.v (.int .i64 0))])),(.mk none none (.m (.st 4 (.t 6) (.t 60))))]) (.sq (.bk 2 (.nf 6 0 9 20600 (.lp 0 fg_f94_0 tb_f94_0))) (.sq (.reg [(oV 79 0),(oV 80 0),(oP 81 (.nc (.t 80))),(oP 82 (.fa 9 (.t 81))),(oL 83 82),(oV 84 83),(oQ 85 84 false (.fa 0 (.t 6))),(oG 86 84 false (.m (.ld false 1 (.t 85)))),(oQ 87 84 false (.len false (.t 86))),(oQ 88 84 false (.bin false .gtr (.t 87) (cI 64))),(oP 89 (.pick (.t 84) (cB true) (.t 88))),(oP 90 (.nc (.t 79))),(oP 91 (.fa 9 (.t 90))),(.mk none none (.m (.st 1 (.t 91) (.t 89))))]) (.sq (.sq (.reg [(oV 92 0),(oP 93 (.nc (.t 92))),(oP 94 (.fa 4 (.t 93))),(oP 95 (.fa 0 (.t 94))),(oL 96 95)]) (.bk 4 (.sq (.reg [(oP 100 (.bin false .eql (.t 96) (.c (.v (.int .u8 59))))),(oV 99 100)]) (.cd (.t 99) .sk (.sq (.reg [(oP 102 (.bin false .eql (.t 96) (.c (.v (.int .u8 123))))),(oV 101 102)]) (.cd (.t 101) (.sq (.reg [(oP 103 (.fa 1 (.t 6))),(.mk none none (.m (.st 1 (.t 103) (cB true))))]) (.sq (.reg [(oV 104 0),(oC 105 93 [(.t 104)])]) (.sq (.reg [(oV 106 0),(oV 107 1),(oP 108 (.bin false .add (.t 107) (cI 1))),(oC 109 94 [(.t 106),(.t 108)]),(oP 110 (.fa 2 (.t 6))),(.mk none none (.m (.st 1 (.t 110) (.t 109))))]) (.sq (.reg [(oV 111 0),(oP 112 (.nc (.t 111))),(oP 113 (.fa 8 (.t 112))),(oL 114 113),(oP 115 (.bin false .eql (.t 114) (cI 0))),(oV 116 115),(oQ 117 116 true (.mv (.t 0))),(oQ 118 116 true (.nc (.t 117))),(oQ 119 116 true (.fa 4 (.t 118))),(oQ 120 116 true (.fa 0 (.t 119))),(oG 121 116 true (.m (.ld false 1 (.t 120)))),(oQ 122 116 true (.bin false .neq (.t 121) (.c (.v (.int .u8 125))))),(oP 123 (.pick (.t 116) (.t 122) (cB false)))]) (.cd (.t 123) (.reg [(oV 124 0),(oC 125 95 [(.t 124)])]) .sk))))) (.reg [(oV 97 0),(oC 98 95 [(.t 97)])]))))))) (.sq (.sq (.reg [(oV 126 0),(oP 127 (.nc (.t 126))),(oP 128 (.fa 8 (.t 127))),(oL 129 128),(oP 130 (.bin false .neq (.t 129) (cI 0)))]) (.cd (.t 130) (.sq (.reg [(oP 4 (.mv (.c (.v (.slice none 0 0)))))]) (.fg ⟨[(4,none)],[(5,none),(136,none),(50000,some tyParserXX)]⟩ .rt)) .sk)) (.sq (.reg [(oV 131 0),(oC 132 93 [(.t 131)])]) (.reg [(oV 133 5),(oM 134 (.ld true 4 (.t 6))),(oM 135 (.bs 38 4 1 [(.v (.slice none 0 0)),(.v (.bool false)),(.v (.slice none 0 0)),(.v (.int .i64 0))] [(0,4,(.t 134))])),(oM 136 (.app 38 4 64 (.t 133) (.t 135))),(oV 5 136)])))))))))))
def tc_f94:TC:=(.sq (.reg [(oP 4 (.mv (.c (.v (.slice none 0 0)))))]) (.sq (.reg [(oP 5 (.mv (.c (.v (.slice none 0 0)))))]) (.sq (.bk 0 (.nf 6 0 9 20600 (.nw 5 38 (.lp 1 fg_f94_1 tb_f94_1)))) (.sq (.reg [(oV 137 5),(oV 4 137)]) .rt))))
def rv_f94:List (RV×Option Ty):=[((.t 4),some (.sl tyBlkT))]
abbrev sh_f94_0:Sh:=⟨[(0,.ptr 50000 0),(1,.ty tI),(5,.ms 5),(6,.ptr 6 0)],[(5,.arr 38 tyBlkT),(6,.bag [.ms 20600,.ty .bool,.nl,.ty tI]),(75,.no),(136,.no),(20600,.arr 9 .str),(50000,.box tyParserXX)]⟩
def st_f94_0 (x1:Int)(y5:(List BlkT))(y6_1:Bool)(y6_3:Int)(y20600:(List ByteArray))(y50000:ParserXX):VS:=sh_f94_0.st ((),x1,(),(),()) (y5,((),y6_1,(),y6_3,()),(),(),y20600,y50000,())
abbrev sh_f94_0_e2:Sh:=⟨[(0,.ptr 50000 0),(1,.ty tI),(5,.ms 5),(6,.ptr 6 0)],[(5,.arr 38 tyBlkT),(6,.bag [.ms 20600,.ty .bool,.nl,.ty tI]),(75,.no),(136,.no),(20600,.arr 9 .str),(50000,.box tyParserXX)]⟩
def st_f94_0_e2 (x1:Int)(y5:(List BlkT))(y6_1:Bool)(y6_3:Int)(y20600:(List ByteArray))(y50000:ParserXX):VS:=sh_f94_0_e2.st ((),x1,(),(),()) (y5,((),y6_1,(),y6_3,()),(),(),y20600,y50000,())
-- loop 0: (x1 : Int) (y5 : (List BlkT)) (y6_1 : Bool) (y6_3 : Int) (y20600 : (List ByteArray)) (y50000 : ParserXX); out: ('exit', 2) (x1 : Int) (y5 : (List BlkT)) (y6_1 : Bool) (y6_3 : Int) (y20600 : (List ByteArray)) (y50000 : ParserXX)
abbrev sh_f94_1:Sh:=⟨[(0,.ptr 50000 0),(1,.ty tI),(5,.ms 5)],[(5,.arr 38 tyBlkT),(136,.no),(50000,.box tyParserXX)]⟩
def st_f94_1 (x1:Int)(y5:(List BlkT))(y50000:ParserXX):VS:=sh_f94_1.st ((),x1,(),()) (y5,(),y50000,())
abbrev sh_f94_1_ret:Sh:=⟨[(4,.nl)],[(5,.arr 38 tyBlkT),(136,.no),(50000,.box tyParserXX)]⟩
def st_f94_1_ret (y5:(List BlkT))(y50000:ParserXX):VS:=sh_f94_1_ret.st ((),()) (y5,(),y50000,())
abbrev sh_f94_1_e0:Sh:=⟨[(5,.ms 5)],[(5,.arr 38 tyBlkT),(136,.no),(50000,.box tyParserXX)]⟩
def st_f94_1_e0 (y5:(List BlkT))(y50000:ParserXX):VS:=sh_f94_1_e0.st ((),()) (y5,(),y50000,())
-- loop 1: (x1 : Int) (y5 : (List BlkT)) (y50000 : ParserXX); out: ('ret',) (y5 : (List BlkT)) (y50000 : ParserXX); ('exit', 0) (y5 : (List BlkT)) (y50000 : ParserXX)
def L_f94_0:VS->Option (Bool×List (Bool×Exit×VS)):=mkL sh_f94_0 (fun x y=>(sw0 y.2.2.2.2.1 y.2.2.2.2.2.1)) (fun x y=>[(true,.exit 2,st_f94_0_e2 (x.2.1) (y.1) (y.2.1.2.1) (y.2.1.2.2.2.1) ((wsX y.2.2.2.2.1 y.2.2.2.2.2.1).1) ((wsX y.2.2.2.2.1 y.2.2.2.2.2.1).2))])
def L_f94_1:VS->Option (Bool×List (Bool×Exit×VS)):=mkL sh_f94_1 (fun x y=>(sw1 x.2.1 y.1 y.2.2.1)) (fun x y=>[((stBad x.2.1 y.1 y.2.2.1),.ret,st_f94_1_ret ((stX x.2.1 y.1 y.2.2.1).1) ((stX x.2.1 y.1 y.2.2.1).2)),(true,.exit 0,st_f94_1_e0 ((stX x.2.1 y.1 y.2.2.1).1) ((stX x.2.1 y.1 y.2.2.1).2))])
def g_f94:G:=⟨TYs,[],138,EL [(93,sp_f93),(94,sp_f94R),(95,sp_f95)],keeps,(Ls [L_f94_0,L_f94_1]),IL [],RL []⟩
def b_f94_0 (x1:Int)(y5:(List BlkT))(y6_1:Bool)(y6_3:Int)(y20600:(List ByteArray))(y50000:ParserXX):Option (Exit×VS):=
 br ((ieq y50000.2.1.1 119))
  (br (cApp y20600 ([y50000.2.1.2.1]) 16)
   (br ((lxOk2 y50000))
    (some (.normal,st_f94_0 x1 y5 y6_1 y6_3 (y20600++([y50000.2.1.2.1])) (tkD y50000)))
    (none))
   (none))
  (some (.exit 2,st_f94_0_e2 x1 y5 y6_1 y6_3 y20600 y50000))
noncomputable def lp_f94_0 (x1:Int)(y5:(List BlkT))(y6_1:Bool)(y6_3:Int)(y20600:(List ByteArray))(y50000:ParserXX):Option (Exit×VS):=loopF (roundF g_f94 fg_f94_0 tb_f94_0) (st_f94_0 x1 y5 y6_1 y6_3 y20600 y50000)
noncomputable def n_f94_0 (x1:Int)(y5:(List BlkT))(y6_1:Bool)(y6_3:Int)(y20600:(List ByteArray))(y50000:ParserXX):Option (Exit×VS):=
 br ((ieq y50000.2.1.1 119))
  (br (cApp y20600 ([y50000.2.1.2.1]) 16)
   (br ((lxOk2 y50000))
    (lp_f94_0 x1 y5 y6_1 y6_3 (y20600++([y50000.2.1.2.1])) (tkD y50000))
    (none))
   (none))
  (some (.exit 2,st_f94_0_e2 x1 y5 y6_1 y6_3 y20600 y50000))
def la_f94_0 (x1:Int)(y5:(List BlkT))(y6_1:Bool)(y6_3:Int)(y20600:(List ByteArray))(y50000:ParserXX):Option (Exit×VS):=some (.exit 2,st_f94_0_e2 (x1) (y5) (y6_1) (y6_3) ((wsX y20600 y50000).1) ((wsX y20600 y50000).2))
theorem be_f94_0 (x1:Int)(y5:(List BlkT))(y6_1:Bool)(y6_3:Int)(y20600:(List ByteArray))(y50000:ParserXX):roundF g_f94 fg_f94_0 tb_f94_0 (st_f94_0 x1 y5 y6_1 y6_3 y20600 y50000)=b_f94_0 x1 y5 y6_1 y6_3 y20600 y50000:=by kernel_rfl
theorem ln_f94_0 (x1:Int)(y5:(List BlkT))(y6_1:Bool)(y6_3:Int)(y20600:(List ByteArray))(y50000:ParserXX):lp_f94_0 x1 y5 y6_1 y6_3 y20600 y50000=n_f94_0 x1 y5 y6_1 y6_3 y20600 y50000:=(loopF_nxt _ _).trans (by
 rw [be_f94_0]
 simp only [b_f94_0,n_f94_0,nxt_br,nxt_n,nxt_r,nxt_e,nxt_0]
 rfl)
def b_f94_1_1 (x1:Int)(y5:(List BlkT))(y50000:ParserXX):Option (Exit×VS):=
 br ((flOk y50000))
  (some (.ret,st_f94_1_ret y5 (flD y50000)))
  (none)
def b_f94_1_2 (x1:Int)(y5:(List BlkT))(y50000:ParserXX):Option (Exit×VS):=
 br ((ine ((((stD (tkD (((wsX ([]:List ByteArray) (y50000.1,(y50000.2.1,(y50000.2.2.1,(true,y50000.2.2.2.2))))).2).1,((((wsX ([]:List ByteArray) (y50000.1,(y50000.2.1,(y50000.2.2.1,(true,y50000.2.2.2.2))))).2).2).1,(((((wsX ([]:List ByteArray) (y50000.1,(y50000.2.1,(y50000.2.2.1,(true,y50000.2.2.2.2))))).2).2).2).1,(true,(((((wsX ([]:List ByteArray) (y50000.1,(y50000.2.1,(y50000.2.2.1,(true,y50000.2.2.2.2))))).2).2).2).2).2))))) (iadd .i64 (x1) 1)).2).2).1) 0))
  (some (.ret,st_f94_1_ret (y5) (stD (tkD (((wsX ([]:List ByteArray) (y50000.1,(y50000.2.1,(y50000.2.2.1,(true,y50000.2.2.2.2))))).2).1,((((wsX ([]:List ByteArray) (y50000.1,(y50000.2.1,(y50000.2.2.1,(true,y50000.2.2.2.2))))).2).2).1,(((((wsX ([]:List ByteArray) (y50000.1,(y50000.2.1,(y50000.2.2.1,(true,y50000.2.2.2.2))))).2).2).2).1,(true,(((((wsX ([]:List ByteArray) (y50000.1,(y50000.2.1,(y50000.2.2.1,(true,y50000.2.2.2.2))))).2).2).2).2).2))))) (iadd .i64 (x1) 1))))
  (br ((lxOk2 (stD (tkD (((wsX ([]:List ByteArray) (y50000.1,(y50000.2.1,(y50000.2.2.1,(true,y50000.2.2.2.2))))).2).1,((((wsX ([]:List ByteArray) (y50000.1,(y50000.2.1,(y50000.2.2.1,(true,y50000.2.2.2.2))))).2).2).1,(((((wsX ([]:List ByteArray) (y50000.1,(y50000.2.1,(y50000.2.2.1,(true,y50000.2.2.2.2))))).2).2).2).1,(true,(((((wsX ([]:List ByteArray) (y50000.1,(y50000.2.1,(y50000.2.2.1,(true,y50000.2.2.2.2))))).2).2).2).2).2))))) (iadd .i64 (x1) 1))))
   (br (cApp (y5) ([(((wsX ([]:List ByteArray) (y50000.1,(y50000.2.1,(y50000.2.2.1,(true,y50000.2.2.2.2))))).1),(true,((List.map Blk.of (stF (tkD (((wsX ([]:List ByteArray) (y50000.1,(y50000.2.1,(y50000.2.2.1,(true,y50000.2.2.2.2))))).2).1,((((wsX ([]:List ByteArray) (y50000.1,(y50000.2.1,(y50000.2.2.1,(true,y50000.2.2.2.2))))).2).2).1,(((((wsX ([]:List ByteArray) (y50000.1,(y50000.2.1,(y50000.2.2.1,(true,y50000.2.2.2.2))))).2).2).2).1,(true,(((((wsX ([]:List ByteArray) (y50000.1,(y50000.2.1,(y50000.2.2.1,(true,y50000.2.2.2.2))))).2).2).2).2).2))))) (iadd .i64 (x1) 1))),((y50000.2.1.2.2.2.1),()))))]) 64)
    (some (.normal,st_f94_1 (x1) ((y5)++([(((wsX ([]:List ByteArray) (y50000.1,(y50000.2.1,(y50000.2.2.1,(true,y50000.2.2.2.2))))).1),(true,((List.map Blk.of (stF (tkD (((wsX ([]:List ByteArray) (y50000.1,(y50000.2.1,(y50000.2.2.1,(true,y50000.2.2.2.2))))).2).1,((((wsX ([]:List ByteArray) (y50000.1,(y50000.2.1,(y50000.2.2.1,(true,y50000.2.2.2.2))))).2).2).1,(((((wsX ([]:List ByteArray) (y50000.1,(y50000.2.1,(y50000.2.2.1,(true,y50000.2.2.2.2))))).2).2).2).1,(true,(((((wsX ([]:List ByteArray) (y50000.1,(y50000.2.1,(y50000.2.2.1,(true,y50000.2.2.2.2))))).2).2).2).2).2))))) (iadd .i64 (x1) 1))),((y50000.2.1.2.2.2.1),()))))])) (tkD (stD (tkD (((wsX ([]:List ByteArray) (y50000.1,(y50000.2.1,(y50000.2.2.1,(true,y50000.2.2.2.2))))).2).1,((((wsX ([]:List ByteArray) (y50000.1,(y50000.2.1,(y50000.2.2.1,(true,y50000.2.2.2.2))))).2).2).1,(((((wsX ([]:List ByteArray) (y50000.1,(y50000.2.1,(y50000.2.2.1,(true,y50000.2.2.2.2))))).2).2).2).1,(true,(((((wsX ([]:List ByteArray) (y50000.1,(y50000.2.1,(y50000.2.2.1,(true,y50000.2.2.2.2))))).2).2).2).2).2))))) (iadd .i64 (x1) 1)))))
    (none))
   (none))
def b_f94_1_3 (x1:Int)(y5:(List BlkT))(y50000:ParserXX):Option (Exit×VS):=
 br ((ine ((((stD (tkD (((wsX ([]:List ByteArray) (y50000.1,(y50000.2.1,(y50000.2.2.1,(true,y50000.2.2.2.2))))).2).1,((((wsX ([]:List ByteArray) (y50000.1,(y50000.2.1,(y50000.2.2.1,(true,y50000.2.2.2.2))))).2).2).1,(((((wsX ([]:List ByteArray) (y50000.1,(y50000.2.1,(y50000.2.2.1,(true,y50000.2.2.2.2))))).2).2).2).1,((igt (llen ((wsX ([]:List ByteArray) (y50000.1,(y50000.2.1,(y50000.2.2.1,(true,y50000.2.2.2.2))))).1)) 64),(((((wsX ([]:List ByteArray) (y50000.1,(y50000.2.1,(y50000.2.2.1,(true,y50000.2.2.2.2))))).2).2).2).2).2))))) (iadd .i64 (x1) 1)).2).2).1) 0))
  (some (.ret,st_f94_1_ret (y5) (stD (tkD (((wsX ([]:List ByteArray) (y50000.1,(y50000.2.1,(y50000.2.2.1,(true,y50000.2.2.2.2))))).2).1,((((wsX ([]:List ByteArray) (y50000.1,(y50000.2.1,(y50000.2.2.1,(true,y50000.2.2.2.2))))).2).2).1,(((((wsX ([]:List ByteArray) (y50000.1,(y50000.2.1,(y50000.2.2.1,(true,y50000.2.2.2.2))))).2).2).2).1,((igt (llen ((wsX ([]:List ByteArray) (y50000.1,(y50000.2.1,(y50000.2.2.1,(true,y50000.2.2.2.2))))).1)) 64),(((((wsX ([]:List ByteArray) (y50000.1,(y50000.2.1,(y50000.2.2.1,(true,y50000.2.2.2.2))))).2).2).2).2).2))))) (iadd .i64 (x1) 1))))
  (br ((lxOk2 (stD (tkD (((wsX ([]:List ByteArray) (y50000.1,(y50000.2.1,(y50000.2.2.1,(true,y50000.2.2.2.2))))).2).1,((((wsX ([]:List ByteArray) (y50000.1,(y50000.2.1,(y50000.2.2.1,(true,y50000.2.2.2.2))))).2).2).1,(((((wsX ([]:List ByteArray) (y50000.1,(y50000.2.1,(y50000.2.2.1,(true,y50000.2.2.2.2))))).2).2).2).1,((igt (llen ((wsX ([]:List ByteArray) (y50000.1,(y50000.2.1,(y50000.2.2.1,(true,y50000.2.2.2.2))))).1)) 64),(((((wsX ([]:List ByteArray) (y50000.1,(y50000.2.1,(y50000.2.2.1,(true,y50000.2.2.2.2))))).2).2).2).2).2))))) (iadd .i64 (x1) 1))))
   (br (cApp (y5) ([(((wsX ([]:List ByteArray) (y50000.1,(y50000.2.1,(y50000.2.2.1,(true,y50000.2.2.2.2))))).1),(true,((List.map Blk.of (stF (tkD (((wsX ([]:List ByteArray) (y50000.1,(y50000.2.1,(y50000.2.2.1,(true,y50000.2.2.2.2))))).2).1,((((wsX ([]:List ByteArray) (y50000.1,(y50000.2.1,(y50000.2.2.1,(true,y50000.2.2.2.2))))).2).2).1,(((((wsX ([]:List ByteArray) (y50000.1,(y50000.2.1,(y50000.2.2.1,(true,y50000.2.2.2.2))))).2).2).2).1,((igt (llen ((wsX ([]:List ByteArray) (y50000.1,(y50000.2.1,(y50000.2.2.1,(true,y50000.2.2.2.2))))).1)) 64),(((((wsX ([]:List ByteArray) (y50000.1,(y50000.2.1,(y50000.2.2.1,(true,y50000.2.2.2.2))))).2).2).2).2).2))))) (iadd .i64 (x1) 1))),((y50000.2.1.2.2.2.1),()))))]) 64)
    (some (.normal,st_f94_1 (x1) ((y5)++([(((wsX ([]:List ByteArray) (y50000.1,(y50000.2.1,(y50000.2.2.1,(true,y50000.2.2.2.2))))).1),(true,((List.map Blk.of (stF (tkD (((wsX ([]:List ByteArray) (y50000.1,(y50000.2.1,(y50000.2.2.1,(true,y50000.2.2.2.2))))).2).1,((((wsX ([]:List ByteArray) (y50000.1,(y50000.2.1,(y50000.2.2.1,(true,y50000.2.2.2.2))))).2).2).1,(((((wsX ([]:List ByteArray) (y50000.1,(y50000.2.1,(y50000.2.2.1,(true,y50000.2.2.2.2))))).2).2).2).1,((igt (llen ((wsX ([]:List ByteArray) (y50000.1,(y50000.2.1,(y50000.2.2.1,(true,y50000.2.2.2.2))))).1)) 64),(((((wsX ([]:List ByteArray) (y50000.1,(y50000.2.1,(y50000.2.2.1,(true,y50000.2.2.2.2))))).2).2).2).2).2))))) (iadd .i64 (x1) 1))),((y50000.2.1.2.2.2.1),()))))])) (tkD (stD (tkD (((wsX ([]:List ByteArray) (y50000.1,(y50000.2.1,(y50000.2.2.1,(true,y50000.2.2.2.2))))).2).1,((((wsX ([]:List ByteArray) (y50000.1,(y50000.2.1,(y50000.2.2.1,(true,y50000.2.2.2.2))))).2).2).1,(((((wsX ([]:List ByteArray) (y50000.1,(y50000.2.1,(y50000.2.2.1,(true,y50000.2.2.2.2))))).2).2).2).1,((igt (llen ((wsX ([]:List ByteArray) (y50000.1,(y50000.2.1,(y50000.2.2.1,(true,y50000.2.2.2.2))))).1)) 64),(((((wsX ([]:List ByteArray) (y50000.1,(y50000.2.1,(y50000.2.2.1,(true,y50000.2.2.2.2))))).2).2).2).2).2))))) (iadd .i64 (x1) 1)))))
    (none))
   (none))
def b_f94_1_4 (x1:Int)(y5:(List BlkT))(y50000:ParserXX):Option (Exit×VS):=
 br ((ine ((((stD (tkD (((wsX ([]:List ByteArray) (y50000.1,(y50000.2.1,(y50000.2.2.1,((igt x1 16),y50000.2.2.2.2))))).2).1,((((wsX ([]:List ByteArray) (y50000.1,(y50000.2.1,(y50000.2.2.1,((igt x1 16),y50000.2.2.2.2))))).2).2).1,(((((wsX ([]:List ByteArray) (y50000.1,(y50000.2.1,(y50000.2.2.1,((igt x1 16),y50000.2.2.2.2))))).2).2).2).1,(true,(((((wsX ([]:List ByteArray) (y50000.1,(y50000.2.1,(y50000.2.2.1,((igt x1 16),y50000.2.2.2.2))))).2).2).2).2).2))))) (iadd .i64 (x1) 1)).2).2).1) 0))
  (some (.ret,st_f94_1_ret (y5) (stD (tkD (((wsX ([]:List ByteArray) (y50000.1,(y50000.2.1,(y50000.2.2.1,((igt x1 16),y50000.2.2.2.2))))).2).1,((((wsX ([]:List ByteArray) (y50000.1,(y50000.2.1,(y50000.2.2.1,((igt x1 16),y50000.2.2.2.2))))).2).2).1,(((((wsX ([]:List ByteArray) (y50000.1,(y50000.2.1,(y50000.2.2.1,((igt x1 16),y50000.2.2.2.2))))).2).2).2).1,(true,(((((wsX ([]:List ByteArray) (y50000.1,(y50000.2.1,(y50000.2.2.1,((igt x1 16),y50000.2.2.2.2))))).2).2).2).2).2))))) (iadd .i64 (x1) 1))))
  (br ((lxOk2 (stD (tkD (((wsX ([]:List ByteArray) (y50000.1,(y50000.2.1,(y50000.2.2.1,((igt x1 16),y50000.2.2.2.2))))).2).1,((((wsX ([]:List ByteArray) (y50000.1,(y50000.2.1,(y50000.2.2.1,((igt x1 16),y50000.2.2.2.2))))).2).2).1,(((((wsX ([]:List ByteArray) (y50000.1,(y50000.2.1,(y50000.2.2.1,((igt x1 16),y50000.2.2.2.2))))).2).2).2).1,(true,(((((wsX ([]:List ByteArray) (y50000.1,(y50000.2.1,(y50000.2.2.1,((igt x1 16),y50000.2.2.2.2))))).2).2).2).2).2))))) (iadd .i64 (x1) 1))))
   (br (cApp (y5) ([(((wsX ([]:List ByteArray) (y50000.1,(y50000.2.1,(y50000.2.2.1,((igt x1 16),y50000.2.2.2.2))))).1),(true,((List.map Blk.of (stF (tkD (((wsX ([]:List ByteArray) (y50000.1,(y50000.2.1,(y50000.2.2.1,((igt x1 16),y50000.2.2.2.2))))).2).1,((((wsX ([]:List ByteArray) (y50000.1,(y50000.2.1,(y50000.2.2.1,((igt x1 16),y50000.2.2.2.2))))).2).2).1,(((((wsX ([]:List ByteArray) (y50000.1,(y50000.2.1,(y50000.2.2.1,((igt x1 16),y50000.2.2.2.2))))).2).2).2).1,(true,(((((wsX ([]:List ByteArray) (y50000.1,(y50000.2.1,(y50000.2.2.1,((igt x1 16),y50000.2.2.2.2))))).2).2).2).2).2))))) (iadd .i64 (x1) 1))),((y50000.2.1.2.2.2.1),()))))]) 64)
    (some (.normal,st_f94_1 (x1) ((y5)++([(((wsX ([]:List ByteArray) (y50000.1,(y50000.2.1,(y50000.2.2.1,((igt x1 16),y50000.2.2.2.2))))).1),(true,((List.map Blk.of (stF (tkD (((wsX ([]:List ByteArray) (y50000.1,(y50000.2.1,(y50000.2.2.1,((igt x1 16),y50000.2.2.2.2))))).2).1,((((wsX ([]:List ByteArray) (y50000.1,(y50000.2.1,(y50000.2.2.1,((igt x1 16),y50000.2.2.2.2))))).2).2).1,(((((wsX ([]:List ByteArray) (y50000.1,(y50000.2.1,(y50000.2.2.1,((igt x1 16),y50000.2.2.2.2))))).2).2).2).1,(true,(((((wsX ([]:List ByteArray) (y50000.1,(y50000.2.1,(y50000.2.2.1,((igt x1 16),y50000.2.2.2.2))))).2).2).2).2).2))))) (iadd .i64 (x1) 1))),((y50000.2.1.2.2.2.1),()))))])) (tkD (stD (tkD (((wsX ([]:List ByteArray) (y50000.1,(y50000.2.1,(y50000.2.2.1,((igt x1 16),y50000.2.2.2.2))))).2).1,((((wsX ([]:List ByteArray) (y50000.1,(y50000.2.1,(y50000.2.2.1,((igt x1 16),y50000.2.2.2.2))))).2).2).1,(((((wsX ([]:List ByteArray) (y50000.1,(y50000.2.1,(y50000.2.2.1,((igt x1 16),y50000.2.2.2.2))))).2).2).2).1,(true,(((((wsX ([]:List ByteArray) (y50000.1,(y50000.2.1,(y50000.2.2.1,((igt x1 16),y50000.2.2.2.2))))).2).2).2).2).2))))) (iadd .i64 (x1) 1)))))
    (none))
   (none))
def b_f94_1_5 (x1:Int)(y5:(List BlkT))(y50000:ParserXX):Option (Exit×VS):=
 br ((ine ((((stD (tkD (((wsX ([]:List ByteArray) (y50000.1,(y50000.2.1,(y50000.2.2.1,((igt x1 16),y50000.2.2.2.2))))).2).1,((((wsX ([]:List ByteArray) (y50000.1,(y50000.2.1,(y50000.2.2.1,((igt x1 16),y50000.2.2.2.2))))).2).2).1,(((((wsX ([]:List ByteArray) (y50000.1,(y50000.2.1,(y50000.2.2.1,((igt x1 16),y50000.2.2.2.2))))).2).2).2).1,((igt (llen ((wsX ([]:List ByteArray) (y50000.1,(y50000.2.1,(y50000.2.2.1,((igt x1 16),y50000.2.2.2.2))))).1)) 64),(((((wsX ([]:List ByteArray) (y50000.1,(y50000.2.1,(y50000.2.2.1,((igt x1 16),y50000.2.2.2.2))))).2).2).2).2).2))))) (iadd .i64 (x1) 1)).2).2).1) 0))
  (some (.ret,st_f94_1_ret (y5) (stD (tkD (((wsX ([]:List ByteArray) (y50000.1,(y50000.2.1,(y50000.2.2.1,((igt x1 16),y50000.2.2.2.2))))).2).1,((((wsX ([]:List ByteArray) (y50000.1,(y50000.2.1,(y50000.2.2.1,((igt x1 16),y50000.2.2.2.2))))).2).2).1,(((((wsX ([]:List ByteArray) (y50000.1,(y50000.2.1,(y50000.2.2.1,((igt x1 16),y50000.2.2.2.2))))).2).2).2).1,((igt (llen ((wsX ([]:List ByteArray) (y50000.1,(y50000.2.1,(y50000.2.2.1,((igt x1 16),y50000.2.2.2.2))))).1)) 64),(((((wsX ([]:List ByteArray) (y50000.1,(y50000.2.1,(y50000.2.2.1,((igt x1 16),y50000.2.2.2.2))))).2).2).2).2).2))))) (iadd .i64 (x1) 1))))
  (br ((lxOk2 (stD (tkD (((wsX ([]:List ByteArray) (y50000.1,(y50000.2.1,(y50000.2.2.1,((igt x1 16),y50000.2.2.2.2))))).2).1,((((wsX ([]:List ByteArray) (y50000.1,(y50000.2.1,(y50000.2.2.1,((igt x1 16),y50000.2.2.2.2))))).2).2).1,(((((wsX ([]:List ByteArray) (y50000.1,(y50000.2.1,(y50000.2.2.1,((igt x1 16),y50000.2.2.2.2))))).2).2).2).1,((igt (llen ((wsX ([]:List ByteArray) (y50000.1,(y50000.2.1,(y50000.2.2.1,((igt x1 16),y50000.2.2.2.2))))).1)) 64),(((((wsX ([]:List ByteArray) (y50000.1,(y50000.2.1,(y50000.2.2.1,((igt x1 16),y50000.2.2.2.2))))).2).2).2).2).2))))) (iadd .i64 (x1) 1))))
   (br (cApp (y5) ([(((wsX ([]:List ByteArray) (y50000.1,(y50000.2.1,(y50000.2.2.1,((igt x1 16),y50000.2.2.2.2))))).1),(true,((List.map Blk.of (stF (tkD (((wsX ([]:List ByteArray) (y50000.1,(y50000.2.1,(y50000.2.2.1,((igt x1 16),y50000.2.2.2.2))))).2).1,((((wsX ([]:List ByteArray) (y50000.1,(y50000.2.1,(y50000.2.2.1,((igt x1 16),y50000.2.2.2.2))))).2).2).1,(((((wsX ([]:List ByteArray) (y50000.1,(y50000.2.1,(y50000.2.2.1,((igt x1 16),y50000.2.2.2.2))))).2).2).2).1,((igt (llen ((wsX ([]:List ByteArray) (y50000.1,(y50000.2.1,(y50000.2.2.1,((igt x1 16),y50000.2.2.2.2))))).1)) 64),(((((wsX ([]:List ByteArray) (y50000.1,(y50000.2.1,(y50000.2.2.1,((igt x1 16),y50000.2.2.2.2))))).2).2).2).2).2))))) (iadd .i64 (x1) 1))),((y50000.2.1.2.2.2.1),()))))]) 64)
    (some (.normal,st_f94_1 (x1) ((y5)++([(((wsX ([]:List ByteArray) (y50000.1,(y50000.2.1,(y50000.2.2.1,((igt x1 16),y50000.2.2.2.2))))).1),(true,((List.map Blk.of (stF (tkD (((wsX ([]:List ByteArray) (y50000.1,(y50000.2.1,(y50000.2.2.1,((igt x1 16),y50000.2.2.2.2))))).2).1,((((wsX ([]:List ByteArray) (y50000.1,(y50000.2.1,(y50000.2.2.1,((igt x1 16),y50000.2.2.2.2))))).2).2).1,(((((wsX ([]:List ByteArray) (y50000.1,(y50000.2.1,(y50000.2.2.1,((igt x1 16),y50000.2.2.2.2))))).2).2).2).1,((igt (llen ((wsX ([]:List ByteArray) (y50000.1,(y50000.2.1,(y50000.2.2.1,((igt x1 16),y50000.2.2.2.2))))).1)) 64),(((((wsX ([]:List ByteArray) (y50000.1,(y50000.2.1,(y50000.2.2.1,((igt x1 16),y50000.2.2.2.2))))).2).2).2).2).2))))) (iadd .i64 (x1) 1))),((y50000.2.1.2.2.2.1),()))))])) (tkD (stD (tkD (((wsX ([]:List ByteArray) (y50000.1,(y50000.2.1,(y50000.2.2.1,((igt x1 16),y50000.2.2.2.2))))).2).1,((((wsX ([]:List ByteArray) (y50000.1,(y50000.2.1,(y50000.2.2.1,((igt x1 16),y50000.2.2.2.2))))).2).2).1,(((((wsX ([]:List ByteArray) (y50000.1,(y50000.2.1,(y50000.2.2.1,((igt x1 16),y50000.2.2.2.2))))).2).2).2).1,((igt (llen ((wsX ([]:List ByteArray) (y50000.1,(y50000.2.1,(y50000.2.2.1,((igt x1 16),y50000.2.2.2.2))))).1)) 64),(((((wsX ([]:List ByteArray) (y50000.1,(y50000.2.1,(y50000.2.2.1,((igt x1 16),y50000.2.2.2.2))))).2).2).2).2).2))))) (iadd .i64 (x1) 1)))))
    (none))
   (none))
def b_f94_1 (x1:Int)(y5:(List BlkT))(y50000:ParserXX):Option (Exit×VS):=
 br ((ieq y50000.2.2.1 0))
  (br ((ine y50000.2.1.1 0))
   (br ((ine y50000.2.1.1 125))
    (br ((ine y50000.2.1.1 119))
     (b_f94_1_1 x1 y5 y50000)
     (br ((!y50000.2.1.2.2.1))
      (b_f94_1_1 x1 y5 y50000)
      (br (y50000.2.2.2.1)
       (br ((sw0 ([]:List ByteArray) (y50000.1,(y50000.2.1,(y50000.2.2.1,(true,y50000.2.2.2.2))))))
        (br ((((((wsX ([]:List ByteArray) (y50000.1,(y50000.2.1,(y50000.2.2.1,(true,y50000.2.2.2.2))))).2).2).2).2).1)
         (br ((ieq (((((wsX ([]:List ByteArray) (y50000.1,(y50000.2.1,(y50000.2.2.1,(true,y50000.2.2.2.2))))).2).2).1).1) 59))
          (br ((ine (((((wsX ([]:List ByteArray) (y50000.1,(y50000.2.1,(y50000.2.2.1,(true,y50000.2.2.2.2))))).2).2).2).1) 0))
           (some (.ret,st_f94_1_ret (y5) (((wsX ([]:List ByteArray) (y50000.1,(y50000.2.1,(y50000.2.2.1,(true,y50000.2.2.2.2))))).2).1,((((wsX ([]:List ByteArray) (y50000.1,(y50000.2.1,(y50000.2.2.1,(true,y50000.2.2.2.2))))).2).2).1,(((((wsX ([]:List ByteArray) (y50000.1,(y50000.2.1,(y50000.2.2.1,(true,y50000.2.2.2.2))))).2).2).2).1,(true,(((((wsX ([]:List ByteArray) (y50000.1,(y50000.2.1,(y50000.2.2.1,(true,y50000.2.2.2.2))))).2).2).2).2).2))))))
           (br ((lxOk2 (((wsX ([]:List ByteArray) (y50000.1,(y50000.2.1,(y50000.2.2.1,(true,y50000.2.2.2.2))))).2).1,((((wsX ([]:List ByteArray) (y50000.1,(y50000.2.1,(y50000.2.2.1,(true,y50000.2.2.2.2))))).2).2).1,(((((wsX ([]:List ByteArray) (y50000.1,(y50000.2.1,(y50000.2.2.1,(true,y50000.2.2.2.2))))).2).2).2).1,(true,(((((wsX ([]:List ByteArray) (y50000.1,(y50000.2.1,(y50000.2.2.1,(true,y50000.2.2.2.2))))).2).2).2).2).2))))))
            (br (cApp (y5) ([(((wsX ([]:List ByteArray) (y50000.1,(y50000.2.1,(y50000.2.2.1,(true,y50000.2.2.2.2))))).1),((false),(([]:List Blk),((y50000.2.1.2.2.2.1),()))))]) 64)
             (some (.normal,st_f94_1 (x1) ((y5)++([(((wsX ([]:List ByteArray) (y50000.1,(y50000.2.1,(y50000.2.2.1,(true,y50000.2.2.2.2))))).1),((false),(([]:List Blk),((y50000.2.1.2.2.2.1),()))))])) (tkD (((wsX ([]:List ByteArray) (y50000.1,(y50000.2.1,(y50000.2.2.1,(true,y50000.2.2.2.2))))).2).1,((((wsX ([]:List ByteArray) (y50000.1,(y50000.2.1,(y50000.2.2.1,(true,y50000.2.2.2.2))))).2).2).1,(((((wsX ([]:List ByteArray) (y50000.1,(y50000.2.1,(y50000.2.2.1,(true,y50000.2.2.2.2))))).2).2).2).1,(true,(((((wsX ([]:List ByteArray) (y50000.1,(y50000.2.1,(y50000.2.2.1,(true,y50000.2.2.2.2))))).2).2).2).2).2)))))))
             (none))
            (none)))
          (br ((ieq (((((wsX ([]:List ByteArray) (y50000.1,(y50000.2.1,(y50000.2.2.1,(true,y50000.2.2.2.2))))).2).2).1).1) 123))
           (br ((lxOk2 (((wsX ([]:List ByteArray) (y50000.1,(y50000.2.1,(y50000.2.2.1,(true,y50000.2.2.2.2))))).2).1,((((wsX ([]:List ByteArray) (y50000.1,(y50000.2.1,(y50000.2.2.1,(true,y50000.2.2.2.2))))).2).2).1,(((((wsX ([]:List ByteArray) (y50000.1,(y50000.2.1,(y50000.2.2.1,(true,y50000.2.2.2.2))))).2).2).2).1,(true,(((((wsX ([]:List ByteArray) (y50000.1,(y50000.2.1,(y50000.2.2.1,(true,y50000.2.2.2.2))))).2).2).2).2).2))))))
            (br ((stS fuel (tkD (((wsX ([]:List ByteArray) (y50000.1,(y50000.2.1,(y50000.2.2.1,(true,y50000.2.2.2.2))))).2).1,((((wsX ([]:List ByteArray) (y50000.1,(y50000.2.1,(y50000.2.2.1,(true,y50000.2.2.2.2))))).2).2).1,(((((wsX ([]:List ByteArray) (y50000.1,(y50000.2.1,(y50000.2.2.1,(true,y50000.2.2.2.2))))).2).2).2).1,(true,(((((wsX ([]:List ByteArray) (y50000.1,(y50000.2.1,(y50000.2.2.1,(true,y50000.2.2.2.2))))).2).2).2).2).2))))) (iadd .i64 (x1) 1)))
             (br ((ieq ((((stD (tkD (((wsX ([]:List ByteArray) (y50000.1,(y50000.2.1,(y50000.2.2.1,(true,y50000.2.2.2.2))))).2).1,((((wsX ([]:List ByteArray) (y50000.1,(y50000.2.1,(y50000.2.2.1,(true,y50000.2.2.2.2))))).2).2).1,(((((wsX ([]:List ByteArray) (y50000.1,(y50000.2.1,(y50000.2.2.1,(true,y50000.2.2.2.2))))).2).2).2).1,(true,(((((wsX ([]:List ByteArray) (y50000.1,(y50000.2.1,(y50000.2.2.1,(true,y50000.2.2.2.2))))).2).2).2).2).2))))) (iadd .i64 (x1) 1)).2).2).1) 0))
              (br ((ine ((((stD (tkD (((wsX ([]:List ByteArray) (y50000.1,(y50000.2.1,(y50000.2.2.1,(true,y50000.2.2.2.2))))).2).1,((((wsX ([]:List ByteArray) (y50000.1,(y50000.2.1,(y50000.2.2.1,(true,y50000.2.2.2.2))))).2).2).1,(((((wsX ([]:List ByteArray) (y50000.1,(y50000.2.1,(y50000.2.2.1,(true,y50000.2.2.2.2))))).2).2).2).1,(true,(((((wsX ([]:List ByteArray) (y50000.1,(y50000.2.1,(y50000.2.2.1,(true,y50000.2.2.2.2))))).2).2).2).2).2))))) (iadd .i64 (x1) 1)).2).1).1) 125))
               (br ((flOk (stD (tkD (((wsX ([]:List ByteArray) (y50000.1,(y50000.2.1,(y50000.2.2.1,(true,y50000.2.2.2.2))))).2).1,((((wsX ([]:List ByteArray) (y50000.1,(y50000.2.1,(y50000.2.2.1,(true,y50000.2.2.2.2))))).2).2).1,(((((wsX ([]:List ByteArray) (y50000.1,(y50000.2.1,(y50000.2.2.1,(true,y50000.2.2.2.2))))).2).2).2).1,(true,(((((wsX ([]:List ByteArray) (y50000.1,(y50000.2.1,(y50000.2.2.1,(true,y50000.2.2.2.2))))).2).2).2).2).2))))) (iadd .i64 (x1) 1))))
                (br ((ine ((((flD (stD (tkD (((wsX ([]:List ByteArray) (y50000.1,(y50000.2.1,(y50000.2.2.1,(true,y50000.2.2.2.2))))).2).1,((((wsX ([]:List ByteArray) (y50000.1,(y50000.2.1,(y50000.2.2.1,(true,y50000.2.2.2.2))))).2).2).1,(((((wsX ([]:List ByteArray) (y50000.1,(y50000.2.1,(y50000.2.2.1,(true,y50000.2.2.2.2))))).2).2).2).1,(true,(((((wsX ([]:List ByteArray) (y50000.1,(y50000.2.1,(y50000.2.2.1,(true,y50000.2.2.2.2))))).2).2).2).2).2))))) (iadd .i64 (x1) 1))).2).2).1) 0))
                 (some (.ret,st_f94_1_ret (y5) (flD (stD (tkD (((wsX ([]:List ByteArray) (y50000.1,(y50000.2.1,(y50000.2.2.1,(true,y50000.2.2.2.2))))).2).1,((((wsX ([]:List ByteArray) (y50000.1,(y50000.2.1,(y50000.2.2.1,(true,y50000.2.2.2.2))))).2).2).1,(((((wsX ([]:List ByteArray) (y50000.1,(y50000.2.1,(y50000.2.2.1,(true,y50000.2.2.2.2))))).2).2).2).1,(true,(((((wsX ([]:List ByteArray) (y50000.1,(y50000.2.1,(y50000.2.2.1,(true,y50000.2.2.2.2))))).2).2).2).2).2))))) (iadd .i64 (x1) 1)))))
                 (br ((lxOk2 (flD (stD (tkD (((wsX ([]:List ByteArray) (y50000.1,(y50000.2.1,(y50000.2.2.1,(true,y50000.2.2.2.2))))).2).1,((((wsX ([]:List ByteArray) (y50000.1,(y50000.2.1,(y50000.2.2.1,(true,y50000.2.2.2.2))))).2).2).1,(((((wsX ([]:List ByteArray) (y50000.1,(y50000.2.1,(y50000.2.2.1,(true,y50000.2.2.2.2))))).2).2).2).1,(true,(((((wsX ([]:List ByteArray) (y50000.1,(y50000.2.1,(y50000.2.2.1,(true,y50000.2.2.2.2))))).2).2).2).2).2))))) (iadd .i64 (x1) 1)))))
                  (br (cApp (y5) ([(((wsX ([]:List ByteArray) (y50000.1,(y50000.2.1,(y50000.2.2.1,(true,y50000.2.2.2.2))))).1),(true,((List.map Blk.of (stF (tkD (((wsX ([]:List ByteArray) (y50000.1,(y50000.2.1,(y50000.2.2.1,(true,y50000.2.2.2.2))))).2).1,((((wsX ([]:List ByteArray) (y50000.1,(y50000.2.1,(y50000.2.2.1,(true,y50000.2.2.2.2))))).2).2).1,(((((wsX ([]:List ByteArray) (y50000.1,(y50000.2.1,(y50000.2.2.1,(true,y50000.2.2.2.2))))).2).2).2).1,(true,(((((wsX ([]:List ByteArray) (y50000.1,(y50000.2.1,(y50000.2.2.1,(true,y50000.2.2.2.2))))).2).2).2).2).2))))) (iadd .i64 (x1) 1))),((y50000.2.1.2.2.2.1),()))))]) 64)
                   (some (.normal,st_f94_1 (x1) ((y5)++([(((wsX ([]:List ByteArray) (y50000.1,(y50000.2.1,(y50000.2.2.1,(true,y50000.2.2.2.2))))).1),(true,((List.map Blk.of (stF (tkD (((wsX ([]:List ByteArray) (y50000.1,(y50000.2.1,(y50000.2.2.1,(true,y50000.2.2.2.2))))).2).1,((((wsX ([]:List ByteArray) (y50000.1,(y50000.2.1,(y50000.2.2.1,(true,y50000.2.2.2.2))))).2).2).1,(((((wsX ([]:List ByteArray) (y50000.1,(y50000.2.1,(y50000.2.2.1,(true,y50000.2.2.2.2))))).2).2).2).1,(true,(((((wsX ([]:List ByteArray) (y50000.1,(y50000.2.1,(y50000.2.2.1,(true,y50000.2.2.2.2))))).2).2).2).2).2))))) (iadd .i64 (x1) 1))),((y50000.2.1.2.2.2.1),()))))])) (tkD (flD (stD (tkD (((wsX ([]:List ByteArray) (y50000.1,(y50000.2.1,(y50000.2.2.1,(true,y50000.2.2.2.2))))).2).1,((((wsX ([]:List ByteArray) (y50000.1,(y50000.2.1,(y50000.2.2.1,(true,y50000.2.2.2.2))))).2).2).1,(((((wsX ([]:List ByteArray) (y50000.1,(y50000.2.1,(y50000.2.2.1,(true,y50000.2.2.2.2))))).2).2).2).1,(true,(((((wsX ([]:List ByteArray) (y50000.1,(y50000.2.1,(y50000.2.2.1,(true,y50000.2.2.2.2))))).2).2).2).2).2))))) (iadd .i64 (x1) 1))))))
                   (none))
                  (none)))
                (none))
               (b_f94_1_2 x1 y5 y50000))
              (b_f94_1_2 x1 y5 y50000))
             (none))
            (none))
           (br ((flOk (((wsX ([]:List ByteArray) (y50000.1,(y50000.2.1,(y50000.2.2.1,(true,y50000.2.2.2.2))))).2).1,((((wsX ([]:List ByteArray) (y50000.1,(y50000.2.1,(y50000.2.2.1,(true,y50000.2.2.2.2))))).2).2).1,(((((wsX ([]:List ByteArray) (y50000.1,(y50000.2.1,(y50000.2.2.1,(true,y50000.2.2.2.2))))).2).2).2).1,(true,(((((wsX ([]:List ByteArray) (y50000.1,(y50000.2.1,(y50000.2.2.1,(true,y50000.2.2.2.2))))).2).2).2).2).2))))))
            (br ((ine ((((flD (((wsX ([]:List ByteArray) (y50000.1,(y50000.2.1,(y50000.2.2.1,(true,y50000.2.2.2.2))))).2).1,((((wsX ([]:List ByteArray) (y50000.1,(y50000.2.1,(y50000.2.2.1,(true,y50000.2.2.2.2))))).2).2).1,(((((wsX ([]:List ByteArray) (y50000.1,(y50000.2.1,(y50000.2.2.1,(true,y50000.2.2.2.2))))).2).2).2).1,(true,(((((wsX ([]:List ByteArray) (y50000.1,(y50000.2.1,(y50000.2.2.1,(true,y50000.2.2.2.2))))).2).2).2).2).2))))).2).2).1) 0))
             (some (.ret,st_f94_1_ret (y5) (flD (((wsX ([]:List ByteArray) (y50000.1,(y50000.2.1,(y50000.2.2.1,(true,y50000.2.2.2.2))))).2).1,((((wsX ([]:List ByteArray) (y50000.1,(y50000.2.1,(y50000.2.2.1,(true,y50000.2.2.2.2))))).2).2).1,(((((wsX ([]:List ByteArray) (y50000.1,(y50000.2.1,(y50000.2.2.1,(true,y50000.2.2.2.2))))).2).2).2).1,(true,(((((wsX ([]:List ByteArray) (y50000.1,(y50000.2.1,(y50000.2.2.1,(true,y50000.2.2.2.2))))).2).2).2).2).2)))))))
             (br ((lxOk2 (flD (((wsX ([]:List ByteArray) (y50000.1,(y50000.2.1,(y50000.2.2.1,(true,y50000.2.2.2.2))))).2).1,((((wsX ([]:List ByteArray) (y50000.1,(y50000.2.1,(y50000.2.2.1,(true,y50000.2.2.2.2))))).2).2).1,(((((wsX ([]:List ByteArray) (y50000.1,(y50000.2.1,(y50000.2.2.1,(true,y50000.2.2.2.2))))).2).2).2).1,(true,(((((wsX ([]:List ByteArray) (y50000.1,(y50000.2.1,(y50000.2.2.1,(true,y50000.2.2.2.2))))).2).2).2).2).2)))))))
              (br (cApp (y5) ([(((wsX ([]:List ByteArray) (y50000.1,(y50000.2.1,(y50000.2.2.1,(true,y50000.2.2.2.2))))).1),((false),(([]:List Blk),((y50000.2.1.2.2.2.1),()))))]) 64)
               (some (.normal,st_f94_1 (x1) ((y5)++([(((wsX ([]:List ByteArray) (y50000.1,(y50000.2.1,(y50000.2.2.1,(true,y50000.2.2.2.2))))).1),((false),(([]:List Blk),((y50000.2.1.2.2.2.1),()))))])) (tkD (flD (((wsX ([]:List ByteArray) (y50000.1,(y50000.2.1,(y50000.2.2.1,(true,y50000.2.2.2.2))))).2).1,((((wsX ([]:List ByteArray) (y50000.1,(y50000.2.1,(y50000.2.2.1,(true,y50000.2.2.2.2))))).2).2).1,(((((wsX ([]:List ByteArray) (y50000.1,(y50000.2.1,(y50000.2.2.1,(true,y50000.2.2.2.2))))).2).2).2).1,(true,(((((wsX ([]:List ByteArray) (y50000.1,(y50000.2.1,(y50000.2.2.1,(true,y50000.2.2.2.2))))).2).2).2).2).2))))))))
               (none))
              (none)))
            (none))))
         (br ((ieq (((((wsX ([]:List ByteArray) (y50000.1,(y50000.2.1,(y50000.2.2.1,(true,y50000.2.2.2.2))))).2).2).1).1) 59))
          (br ((ine (((((wsX ([]:List ByteArray) (y50000.1,(y50000.2.1,(y50000.2.2.1,(true,y50000.2.2.2.2))))).2).2).2).1) 0))
           (some (.ret,st_f94_1_ret (y5) (((wsX ([]:List ByteArray) (y50000.1,(y50000.2.1,(y50000.2.2.1,(true,y50000.2.2.2.2))))).2).1,((((wsX ([]:List ByteArray) (y50000.1,(y50000.2.1,(y50000.2.2.1,(true,y50000.2.2.2.2))))).2).2).1,(((((wsX ([]:List ByteArray) (y50000.1,(y50000.2.1,(y50000.2.2.1,(true,y50000.2.2.2.2))))).2).2).2).1,((igt (llen ((wsX ([]:List ByteArray) (y50000.1,(y50000.2.1,(y50000.2.2.1,(true,y50000.2.2.2.2))))).1)) 64),(((((wsX ([]:List ByteArray) (y50000.1,(y50000.2.1,(y50000.2.2.1,(true,y50000.2.2.2.2))))).2).2).2).2).2))))))
           (br ((lxOk2 (((wsX ([]:List ByteArray) (y50000.1,(y50000.2.1,(y50000.2.2.1,(true,y50000.2.2.2.2))))).2).1,((((wsX ([]:List ByteArray) (y50000.1,(y50000.2.1,(y50000.2.2.1,(true,y50000.2.2.2.2))))).2).2).1,(((((wsX ([]:List ByteArray) (y50000.1,(y50000.2.1,(y50000.2.2.1,(true,y50000.2.2.2.2))))).2).2).2).1,((igt (llen ((wsX ([]:List ByteArray) (y50000.1,(y50000.2.1,(y50000.2.2.1,(true,y50000.2.2.2.2))))).1)) 64),(((((wsX ([]:List ByteArray) (y50000.1,(y50000.2.1,(y50000.2.2.1,(true,y50000.2.2.2.2))))).2).2).2).2).2))))))
            (br (cApp (y5) ([(((wsX ([]:List ByteArray) (y50000.1,(y50000.2.1,(y50000.2.2.1,(true,y50000.2.2.2.2))))).1),((false),(([]:List Blk),((y50000.2.1.2.2.2.1),()))))]) 64)
             (some (.normal,st_f94_1 (x1) ((y5)++([(((wsX ([]:List ByteArray) (y50000.1,(y50000.2.1,(y50000.2.2.1,(true,y50000.2.2.2.2))))).1),((false),(([]:List Blk),((y50000.2.1.2.2.2.1),()))))])) (tkD (((wsX ([]:List ByteArray) (y50000.1,(y50000.2.1,(y50000.2.2.1,(true,y50000.2.2.2.2))))).2).1,((((wsX ([]:List ByteArray) (y50000.1,(y50000.2.1,(y50000.2.2.1,(true,y50000.2.2.2.2))))).2).2).1,(((((wsX ([]:List ByteArray) (y50000.1,(y50000.2.1,(y50000.2.2.1,(true,y50000.2.2.2.2))))).2).2).2).1,((igt (llen ((wsX ([]:List ByteArray) (y50000.1,(y50000.2.1,(y50000.2.2.1,(true,y50000.2.2.2.2))))).1)) 64),(((((wsX ([]:List ByteArray) (y50000.1,(y50000.2.1,(y50000.2.2.1,(true,y50000.2.2.2.2))))).2).2).2).2).2)))))))
             (none))
            (none)))
          (br ((ieq (((((wsX ([]:List ByteArray) (y50000.1,(y50000.2.1,(y50000.2.2.1,(true,y50000.2.2.2.2))))).2).2).1).1) 123))
           (br ((lxOk2 (((wsX ([]:List ByteArray) (y50000.1,(y50000.2.1,(y50000.2.2.1,(true,y50000.2.2.2.2))))).2).1,((((wsX ([]:List ByteArray) (y50000.1,(y50000.2.1,(y50000.2.2.1,(true,y50000.2.2.2.2))))).2).2).1,(((((wsX ([]:List ByteArray) (y50000.1,(y50000.2.1,(y50000.2.2.1,(true,y50000.2.2.2.2))))).2).2).2).1,((igt (llen ((wsX ([]:List ByteArray) (y50000.1,(y50000.2.1,(y50000.2.2.1,(true,y50000.2.2.2.2))))).1)) 64),(((((wsX ([]:List ByteArray) (y50000.1,(y50000.2.1,(y50000.2.2.1,(true,y50000.2.2.2.2))))).2).2).2).2).2))))))
            (br ((stS fuel (tkD (((wsX ([]:List ByteArray) (y50000.1,(y50000.2.1,(y50000.2.2.1,(true,y50000.2.2.2.2))))).2).1,((((wsX ([]:List ByteArray) (y50000.1,(y50000.2.1,(y50000.2.2.1,(true,y50000.2.2.2.2))))).2).2).1,(((((wsX ([]:List ByteArray) (y50000.1,(y50000.2.1,(y50000.2.2.1,(true,y50000.2.2.2.2))))).2).2).2).1,((igt (llen ((wsX ([]:List ByteArray) (y50000.1,(y50000.2.1,(y50000.2.2.1,(true,y50000.2.2.2.2))))).1)) 64),(((((wsX ([]:List ByteArray) (y50000.1,(y50000.2.1,(y50000.2.2.1,(true,y50000.2.2.2.2))))).2).2).2).2).2))))) (iadd .i64 (x1) 1)))
             (br ((ieq ((((stD (tkD (((wsX ([]:List ByteArray) (y50000.1,(y50000.2.1,(y50000.2.2.1,(true,y50000.2.2.2.2))))).2).1,((((wsX ([]:List ByteArray) (y50000.1,(y50000.2.1,(y50000.2.2.1,(true,y50000.2.2.2.2))))).2).2).1,(((((wsX ([]:List ByteArray) (y50000.1,(y50000.2.1,(y50000.2.2.1,(true,y50000.2.2.2.2))))).2).2).2).1,((igt (llen ((wsX ([]:List ByteArray) (y50000.1,(y50000.2.1,(y50000.2.2.1,(true,y50000.2.2.2.2))))).1)) 64),(((((wsX ([]:List ByteArray) (y50000.1,(y50000.2.1,(y50000.2.2.1,(true,y50000.2.2.2.2))))).2).2).2).2).2))))) (iadd .i64 (x1) 1)).2).2).1) 0))
              (br ((ine ((((stD (tkD (((wsX ([]:List ByteArray) (y50000.1,(y50000.2.1,(y50000.2.2.1,(true,y50000.2.2.2.2))))).2).1,((((wsX ([]:List ByteArray) (y50000.1,(y50000.2.1,(y50000.2.2.1,(true,y50000.2.2.2.2))))).2).2).1,(((((wsX ([]:List ByteArray) (y50000.1,(y50000.2.1,(y50000.2.2.1,(true,y50000.2.2.2.2))))).2).2).2).1,((igt (llen ((wsX ([]:List ByteArray) (y50000.1,(y50000.2.1,(y50000.2.2.1,(true,y50000.2.2.2.2))))).1)) 64),(((((wsX ([]:List ByteArray) (y50000.1,(y50000.2.1,(y50000.2.2.1,(true,y50000.2.2.2.2))))).2).2).2).2).2))))) (iadd .i64 (x1) 1)).2).1).1) 125))
               (br ((flOk (stD (tkD (((wsX ([]:List ByteArray) (y50000.1,(y50000.2.1,(y50000.2.2.1,(true,y50000.2.2.2.2))))).2).1,((((wsX ([]:List ByteArray) (y50000.1,(y50000.2.1,(y50000.2.2.1,(true,y50000.2.2.2.2))))).2).2).1,(((((wsX ([]:List ByteArray) (y50000.1,(y50000.2.1,(y50000.2.2.1,(true,y50000.2.2.2.2))))).2).2).2).1,((igt (llen ((wsX ([]:List ByteArray) (y50000.1,(y50000.2.1,(y50000.2.2.1,(true,y50000.2.2.2.2))))).1)) 64),(((((wsX ([]:List ByteArray) (y50000.1,(y50000.2.1,(y50000.2.2.1,(true,y50000.2.2.2.2))))).2).2).2).2).2))))) (iadd .i64 (x1) 1))))
                (br ((ine ((((flD (stD (tkD (((wsX ([]:List ByteArray) (y50000.1,(y50000.2.1,(y50000.2.2.1,(true,y50000.2.2.2.2))))).2).1,((((wsX ([]:List ByteArray) (y50000.1,(y50000.2.1,(y50000.2.2.1,(true,y50000.2.2.2.2))))).2).2).1,(((((wsX ([]:List ByteArray) (y50000.1,(y50000.2.1,(y50000.2.2.1,(true,y50000.2.2.2.2))))).2).2).2).1,((igt (llen ((wsX ([]:List ByteArray) (y50000.1,(y50000.2.1,(y50000.2.2.1,(true,y50000.2.2.2.2))))).1)) 64),(((((wsX ([]:List ByteArray) (y50000.1,(y50000.2.1,(y50000.2.2.1,(true,y50000.2.2.2.2))))).2).2).2).2).2))))) (iadd .i64 (x1) 1))).2).2).1) 0))
                 (some (.ret,st_f94_1_ret (y5) (flD (stD (tkD (((wsX ([]:List ByteArray) (y50000.1,(y50000.2.1,(y50000.2.2.1,(true,y50000.2.2.2.2))))).2).1,((((wsX ([]:List ByteArray) (y50000.1,(y50000.2.1,(y50000.2.2.1,(true,y50000.2.2.2.2))))).2).2).1,(((((wsX ([]:List ByteArray) (y50000.1,(y50000.2.1,(y50000.2.2.1,(true,y50000.2.2.2.2))))).2).2).2).1,((igt (llen ((wsX ([]:List ByteArray) (y50000.1,(y50000.2.1,(y50000.2.2.1,(true,y50000.2.2.2.2))))).1)) 64),(((((wsX ([]:List ByteArray) (y50000.1,(y50000.2.1,(y50000.2.2.1,(true,y50000.2.2.2.2))))).2).2).2).2).2))))) (iadd .i64 (x1) 1)))))
                 (br ((lxOk2 (flD (stD (tkD (((wsX ([]:List ByteArray) (y50000.1,(y50000.2.1,(y50000.2.2.1,(true,y50000.2.2.2.2))))).2).1,((((wsX ([]:List ByteArray) (y50000.1,(y50000.2.1,(y50000.2.2.1,(true,y50000.2.2.2.2))))).2).2).1,(((((wsX ([]:List ByteArray) (y50000.1,(y50000.2.1,(y50000.2.2.1,(true,y50000.2.2.2.2))))).2).2).2).1,((igt (llen ((wsX ([]:List ByteArray) (y50000.1,(y50000.2.1,(y50000.2.2.1,(true,y50000.2.2.2.2))))).1)) 64),(((((wsX ([]:List ByteArray) (y50000.1,(y50000.2.1,(y50000.2.2.1,(true,y50000.2.2.2.2))))).2).2).2).2).2))))) (iadd .i64 (x1) 1)))))
                  (br (cApp (y5) ([(((wsX ([]:List ByteArray) (y50000.1,(y50000.2.1,(y50000.2.2.1,(true,y50000.2.2.2.2))))).1),(true,((List.map Blk.of (stF (tkD (((wsX ([]:List ByteArray) (y50000.1,(y50000.2.1,(y50000.2.2.1,(true,y50000.2.2.2.2))))).2).1,((((wsX ([]:List ByteArray) (y50000.1,(y50000.2.1,(y50000.2.2.1,(true,y50000.2.2.2.2))))).2).2).1,(((((wsX ([]:List ByteArray) (y50000.1,(y50000.2.1,(y50000.2.2.1,(true,y50000.2.2.2.2))))).2).2).2).1,((igt (llen ((wsX ([]:List ByteArray) (y50000.1,(y50000.2.1,(y50000.2.2.1,(true,y50000.2.2.2.2))))).1)) 64),(((((wsX ([]:List ByteArray) (y50000.1,(y50000.2.1,(y50000.2.2.1,(true,y50000.2.2.2.2))))).2).2).2).2).2))))) (iadd .i64 (x1) 1))),((y50000.2.1.2.2.2.1),()))))]) 64)
                   (some (.normal,st_f94_1 (x1) ((y5)++([(((wsX ([]:List ByteArray) (y50000.1,(y50000.2.1,(y50000.2.2.1,(true,y50000.2.2.2.2))))).1),(true,((List.map Blk.of (stF (tkD (((wsX ([]:List ByteArray) (y50000.1,(y50000.2.1,(y50000.2.2.1,(true,y50000.2.2.2.2))))).2).1,((((wsX ([]:List ByteArray) (y50000.1,(y50000.2.1,(y50000.2.2.1,(true,y50000.2.2.2.2))))).2).2).1,(((((wsX ([]:List ByteArray) (y50000.1,(y50000.2.1,(y50000.2.2.1,(true,y50000.2.2.2.2))))).2).2).2).1,((igt (llen ((wsX ([]:List ByteArray) (y50000.1,(y50000.2.1,(y50000.2.2.1,(true,y50000.2.2.2.2))))).1)) 64),(((((wsX ([]:List ByteArray) (y50000.1,(y50000.2.1,(y50000.2.2.1,(true,y50000.2.2.2.2))))).2).2).2).2).2))))) (iadd .i64 (x1) 1))),((y50000.2.1.2.2.2.1),()))))])) (tkD (flD (stD (tkD (((wsX ([]:List ByteArray) (y50000.1,(y50000.2.1,(y50000.2.2.1,(true,y50000.2.2.2.2))))).2).1,((((wsX ([]:List ByteArray) (y50000.1,(y50000.2.1,(y50000.2.2.1,(true,y50000.2.2.2.2))))).2).2).1,(((((wsX ([]:List ByteArray) (y50000.1,(y50000.2.1,(y50000.2.2.1,(true,y50000.2.2.2.2))))).2).2).2).1,((igt (llen ((wsX ([]:List ByteArray) (y50000.1,(y50000.2.1,(y50000.2.2.1,(true,y50000.2.2.2.2))))).1)) 64),(((((wsX ([]:List ByteArray) (y50000.1,(y50000.2.1,(y50000.2.2.1,(true,y50000.2.2.2.2))))).2).2).2).2).2))))) (iadd .i64 (x1) 1))))))
                   (none))
                  (none)))
                (none))
               (b_f94_1_3 x1 y5 y50000))
              (b_f94_1_3 x1 y5 y50000))
             (none))
            (none))
           (br ((flOk (((wsX ([]:List ByteArray) (y50000.1,(y50000.2.1,(y50000.2.2.1,(true,y50000.2.2.2.2))))).2).1,((((wsX ([]:List ByteArray) (y50000.1,(y50000.2.1,(y50000.2.2.1,(true,y50000.2.2.2.2))))).2).2).1,(((((wsX ([]:List ByteArray) (y50000.1,(y50000.2.1,(y50000.2.2.1,(true,y50000.2.2.2.2))))).2).2).2).1,((igt (llen ((wsX ([]:List ByteArray) (y50000.1,(y50000.2.1,(y50000.2.2.1,(true,y50000.2.2.2.2))))).1)) 64),(((((wsX ([]:List ByteArray) (y50000.1,(y50000.2.1,(y50000.2.2.1,(true,y50000.2.2.2.2))))).2).2).2).2).2))))))
            (br ((ine ((((flD (((wsX ([]:List ByteArray) (y50000.1,(y50000.2.1,(y50000.2.2.1,(true,y50000.2.2.2.2))))).2).1,((((wsX ([]:List ByteArray) (y50000.1,(y50000.2.1,(y50000.2.2.1,(true,y50000.2.2.2.2))))).2).2).1,(((((wsX ([]:List ByteArray) (y50000.1,(y50000.2.1,(y50000.2.2.1,(true,y50000.2.2.2.2))))).2).2).2).1,((igt (llen ((wsX ([]:List ByteArray) (y50000.1,(y50000.2.1,(y50000.2.2.1,(true,y50000.2.2.2.2))))).1)) 64),(((((wsX ([]:List ByteArray) (y50000.1,(y50000.2.1,(y50000.2.2.1,(true,y50000.2.2.2.2))))).2).2).2).2).2))))).2).2).1) 0))
             (some (.ret,st_f94_1_ret (y5) (flD (((wsX ([]:List ByteArray) (y50000.1,(y50000.2.1,(y50000.2.2.1,(true,y50000.2.2.2.2))))).2).1,((((wsX ([]:List ByteArray) (y50000.1,(y50000.2.1,(y50000.2.2.1,(true,y50000.2.2.2.2))))).2).2).1,(((((wsX ([]:List ByteArray) (y50000.1,(y50000.2.1,(y50000.2.2.1,(true,y50000.2.2.2.2))))).2).2).2).1,((igt (llen ((wsX ([]:List ByteArray) (y50000.1,(y50000.2.1,(y50000.2.2.1,(true,y50000.2.2.2.2))))).1)) 64),(((((wsX ([]:List ByteArray) (y50000.1,(y50000.2.1,(y50000.2.2.1,(true,y50000.2.2.2.2))))).2).2).2).2).2)))))))
             (br ((lxOk2 (flD (((wsX ([]:List ByteArray) (y50000.1,(y50000.2.1,(y50000.2.2.1,(true,y50000.2.2.2.2))))).2).1,((((wsX ([]:List ByteArray) (y50000.1,(y50000.2.1,(y50000.2.2.1,(true,y50000.2.2.2.2))))).2).2).1,(((((wsX ([]:List ByteArray) (y50000.1,(y50000.2.1,(y50000.2.2.1,(true,y50000.2.2.2.2))))).2).2).2).1,((igt (llen ((wsX ([]:List ByteArray) (y50000.1,(y50000.2.1,(y50000.2.2.1,(true,y50000.2.2.2.2))))).1)) 64),(((((wsX ([]:List ByteArray) (y50000.1,(y50000.2.1,(y50000.2.2.1,(true,y50000.2.2.2.2))))).2).2).2).2).2)))))))
              (br (cApp (y5) ([(((wsX ([]:List ByteArray) (y50000.1,(y50000.2.1,(y50000.2.2.1,(true,y50000.2.2.2.2))))).1),((false),(([]:List Blk),((y50000.2.1.2.2.2.1),()))))]) 64)
               (some (.normal,st_f94_1 (x1) ((y5)++([(((wsX ([]:List ByteArray) (y50000.1,(y50000.2.1,(y50000.2.2.1,(true,y50000.2.2.2.2))))).1),((false),(([]:List Blk),((y50000.2.1.2.2.2.1),()))))])) (tkD (flD (((wsX ([]:List ByteArray) (y50000.1,(y50000.2.1,(y50000.2.2.1,(true,y50000.2.2.2.2))))).2).1,((((wsX ([]:List ByteArray) (y50000.1,(y50000.2.1,(y50000.2.2.1,(true,y50000.2.2.2.2))))).2).2).1,(((((wsX ([]:List ByteArray) (y50000.1,(y50000.2.1,(y50000.2.2.1,(true,y50000.2.2.2.2))))).2).2).2).1,((igt (llen ((wsX ([]:List ByteArray) (y50000.1,(y50000.2.1,(y50000.2.2.1,(true,y50000.2.2.2.2))))).1)) 64),(((((wsX ([]:List ByteArray) (y50000.1,(y50000.2.1,(y50000.2.2.1,(true,y50000.2.2.2.2))))).2).2).2).2).2))))))))
               (none))
              (none)))
            (none)))))
        (none))
       (br ((sw0 ([]:List ByteArray) (y50000.1,(y50000.2.1,(y50000.2.2.1,((igt x1 16),y50000.2.2.2.2))))))
        (br ((((((wsX ([]:List ByteArray) (y50000.1,(y50000.2.1,(y50000.2.2.1,((igt x1 16),y50000.2.2.2.2))))).2).2).2).2).1)
         (br ((ieq (((((wsX ([]:List ByteArray) (y50000.1,(y50000.2.1,(y50000.2.2.1,((igt x1 16),y50000.2.2.2.2))))).2).2).1).1) 59))
          (br ((ine (((((wsX ([]:List ByteArray) (y50000.1,(y50000.2.1,(y50000.2.2.1,((igt x1 16),y50000.2.2.2.2))))).2).2).2).1) 0))
           (some (.ret,st_f94_1_ret (y5) (((wsX ([]:List ByteArray) (y50000.1,(y50000.2.1,(y50000.2.2.1,((igt x1 16),y50000.2.2.2.2))))).2).1,((((wsX ([]:List ByteArray) (y50000.1,(y50000.2.1,(y50000.2.2.1,((igt x1 16),y50000.2.2.2.2))))).2).2).1,(((((wsX ([]:List ByteArray) (y50000.1,(y50000.2.1,(y50000.2.2.1,((igt x1 16),y50000.2.2.2.2))))).2).2).2).1,(true,(((((wsX ([]:List ByteArray) (y50000.1,(y50000.2.1,(y50000.2.2.1,((igt x1 16),y50000.2.2.2.2))))).2).2).2).2).2))))))
           (br ((lxOk2 (((wsX ([]:List ByteArray) (y50000.1,(y50000.2.1,(y50000.2.2.1,((igt x1 16),y50000.2.2.2.2))))).2).1,((((wsX ([]:List ByteArray) (y50000.1,(y50000.2.1,(y50000.2.2.1,((igt x1 16),y50000.2.2.2.2))))).2).2).1,(((((wsX ([]:List ByteArray) (y50000.1,(y50000.2.1,(y50000.2.2.1,((igt x1 16),y50000.2.2.2.2))))).2).2).2).1,(true,(((((wsX ([]:List ByteArray) (y50000.1,(y50000.2.1,(y50000.2.2.1,((igt x1 16),y50000.2.2.2.2))))).2).2).2).2).2))))))
            (br (cApp (y5) ([(((wsX ([]:List ByteArray) (y50000.1,(y50000.2.1,(y50000.2.2.1,((igt x1 16),y50000.2.2.2.2))))).1),((false),(([]:List Blk),((y50000.2.1.2.2.2.1),()))))]) 64)
             (some (.normal,st_f94_1 (x1) ((y5)++([(((wsX ([]:List ByteArray) (y50000.1,(y50000.2.1,(y50000.2.2.1,((igt x1 16),y50000.2.2.2.2))))).1),((false),(([]:List Blk),((y50000.2.1.2.2.2.1),()))))])) (tkD (((wsX ([]:List ByteArray) (y50000.1,(y50000.2.1,(y50000.2.2.1,((igt x1 16),y50000.2.2.2.2))))).2).1,((((wsX ([]:List ByteArray) (y50000.1,(y50000.2.1,(y50000.2.2.1,((igt x1 16),y50000.2.2.2.2))))).2).2).1,(((((wsX ([]:List ByteArray) (y50000.1,(y50000.2.1,(y50000.2.2.1,((igt x1 16),y50000.2.2.2.2))))).2).2).2).1,(true,(((((wsX ([]:List ByteArray) (y50000.1,(y50000.2.1,(y50000.2.2.1,((igt x1 16),y50000.2.2.2.2))))).2).2).2).2).2)))))))
             (none))
            (none)))
          (br ((ieq (((((wsX ([]:List ByteArray) (y50000.1,(y50000.2.1,(y50000.2.2.1,((igt x1 16),y50000.2.2.2.2))))).2).2).1).1) 123))
           (br ((lxOk2 (((wsX ([]:List ByteArray) (y50000.1,(y50000.2.1,(y50000.2.2.1,((igt x1 16),y50000.2.2.2.2))))).2).1,((((wsX ([]:List ByteArray) (y50000.1,(y50000.2.1,(y50000.2.2.1,((igt x1 16),y50000.2.2.2.2))))).2).2).1,(((((wsX ([]:List ByteArray) (y50000.1,(y50000.2.1,(y50000.2.2.1,((igt x1 16),y50000.2.2.2.2))))).2).2).2).1,(true,(((((wsX ([]:List ByteArray) (y50000.1,(y50000.2.1,(y50000.2.2.1,((igt x1 16),y50000.2.2.2.2))))).2).2).2).2).2))))))
            (br ((stS fuel (tkD (((wsX ([]:List ByteArray) (y50000.1,(y50000.2.1,(y50000.2.2.1,((igt x1 16),y50000.2.2.2.2))))).2).1,((((wsX ([]:List ByteArray) (y50000.1,(y50000.2.1,(y50000.2.2.1,((igt x1 16),y50000.2.2.2.2))))).2).2).1,(((((wsX ([]:List ByteArray) (y50000.1,(y50000.2.1,(y50000.2.2.1,((igt x1 16),y50000.2.2.2.2))))).2).2).2).1,(true,(((((wsX ([]:List ByteArray) (y50000.1,(y50000.2.1,(y50000.2.2.1,((igt x1 16),y50000.2.2.2.2))))).2).2).2).2).2))))) (iadd .i64 (x1) 1)))
             (br ((ieq ((((stD (tkD (((wsX ([]:List ByteArray) (y50000.1,(y50000.2.1,(y50000.2.2.1,((igt x1 16),y50000.2.2.2.2))))).2).1,((((wsX ([]:List ByteArray) (y50000.1,(y50000.2.1,(y50000.2.2.1,((igt x1 16),y50000.2.2.2.2))))).2).2).1,(((((wsX ([]:List ByteArray) (y50000.1,(y50000.2.1,(y50000.2.2.1,((igt x1 16),y50000.2.2.2.2))))).2).2).2).1,(true,(((((wsX ([]:List ByteArray) (y50000.1,(y50000.2.1,(y50000.2.2.1,((igt x1 16),y50000.2.2.2.2))))).2).2).2).2).2))))) (iadd .i64 (x1) 1)).2).2).1) 0))
              (br ((ine ((((stD (tkD (((wsX ([]:List ByteArray) (y50000.1,(y50000.2.1,(y50000.2.2.1,((igt x1 16),y50000.2.2.2.2))))).2).1,((((wsX ([]:List ByteArray) (y50000.1,(y50000.2.1,(y50000.2.2.1,((igt x1 16),y50000.2.2.2.2))))).2).2).1,(((((wsX ([]:List ByteArray) (y50000.1,(y50000.2.1,(y50000.2.2.1,((igt x1 16),y50000.2.2.2.2))))).2).2).2).1,(true,(((((wsX ([]:List ByteArray) (y50000.1,(y50000.2.1,(y50000.2.2.1,((igt x1 16),y50000.2.2.2.2))))).2).2).2).2).2))))) (iadd .i64 (x1) 1)).2).1).1) 125))
               (br ((flOk (stD (tkD (((wsX ([]:List ByteArray) (y50000.1,(y50000.2.1,(y50000.2.2.1,((igt x1 16),y50000.2.2.2.2))))).2).1,((((wsX ([]:List ByteArray) (y50000.1,(y50000.2.1,(y50000.2.2.1,((igt x1 16),y50000.2.2.2.2))))).2).2).1,(((((wsX ([]:List ByteArray) (y50000.1,(y50000.2.1,(y50000.2.2.1,((igt x1 16),y50000.2.2.2.2))))).2).2).2).1,(true,(((((wsX ([]:List ByteArray) (y50000.1,(y50000.2.1,(y50000.2.2.1,((igt x1 16),y50000.2.2.2.2))))).2).2).2).2).2))))) (iadd .i64 (x1) 1))))
                (br ((ine ((((flD (stD (tkD (((wsX ([]:List ByteArray) (y50000.1,(y50000.2.1,(y50000.2.2.1,((igt x1 16),y50000.2.2.2.2))))).2).1,((((wsX ([]:List ByteArray) (y50000.1,(y50000.2.1,(y50000.2.2.1,((igt x1 16),y50000.2.2.2.2))))).2).2).1,(((((wsX ([]:List ByteArray) (y50000.1,(y50000.2.1,(y50000.2.2.1,((igt x1 16),y50000.2.2.2.2))))).2).2).2).1,(true,(((((wsX ([]:List ByteArray) (y50000.1,(y50000.2.1,(y50000.2.2.1,((igt x1 16),y50000.2.2.2.2))))).2).2).2).2).2))))) (iadd .i64 (x1) 1))).2).2).1) 0))
                 (some (.ret,st_f94_1_ret (y5) (flD (stD (tkD (((wsX ([]:List ByteArray) (y50000.1,(y50000.2.1,(y50000.2.2.1,((igt x1 16),y50000.2.2.2.2))))).2).1,((((wsX ([]:List ByteArray) (y50000.1,(y50000.2.1,(y50000.2.2.1,((igt x1 16),y50000.2.2.2.2))))).2).2).1,(((((wsX ([]:List ByteArray) (y50000.1,(y50000.2.1,(y50000.2.2.1,((igt x1 16),y50000.2.2.2.2))))).2).2).2).1,(true,(((((wsX ([]:List ByteArray) (y50000.1,(y50000.2.1,(y50000.2.2.1,((igt x1 16),y50000.2.2.2.2))))).2).2).2).2).2))))) (iadd .i64 (x1) 1)))))
                 (br ((lxOk2 (flD (stD (tkD (((wsX ([]:List ByteArray) (y50000.1,(y50000.2.1,(y50000.2.2.1,((igt x1 16),y50000.2.2.2.2))))).2).1,((((wsX ([]:List ByteArray) (y50000.1,(y50000.2.1,(y50000.2.2.1,((igt x1 16),y50000.2.2.2.2))))).2).2).1,(((((wsX ([]:List ByteArray) (y50000.1,(y50000.2.1,(y50000.2.2.1,((igt x1 16),y50000.2.2.2.2))))).2).2).2).1,(true,(((((wsX ([]:List ByteArray) (y50000.1,(y50000.2.1,(y50000.2.2.1,((igt x1 16),y50000.2.2.2.2))))).2).2).2).2).2))))) (iadd .i64 (x1) 1)))))
                  (br (cApp (y5) ([(((wsX ([]:List ByteArray) (y50000.1,(y50000.2.1,(y50000.2.2.1,((igt x1 16),y50000.2.2.2.2))))).1),(true,((List.map Blk.of (stF (tkD (((wsX ([]:List ByteArray) (y50000.1,(y50000.2.1,(y50000.2.2.1,((igt x1 16),y50000.2.2.2.2))))).2).1,((((wsX ([]:List ByteArray) (y50000.1,(y50000.2.1,(y50000.2.2.1,((igt x1 16),y50000.2.2.2.2))))).2).2).1,(((((wsX ([]:List ByteArray) (y50000.1,(y50000.2.1,(y50000.2.2.1,((igt x1 16),y50000.2.2.2.2))))).2).2).2).1,(true,(((((wsX ([]:List ByteArray) (y50000.1,(y50000.2.1,(y50000.2.2.1,((igt x1 16),y50000.2.2.2.2))))).2).2).2).2).2))))) (iadd .i64 (x1) 1))),((y50000.2.1.2.2.2.1),()))))]) 64)
                   (some (.normal,st_f94_1 (x1) ((y5)++([(((wsX ([]:List ByteArray) (y50000.1,(y50000.2.1,(y50000.2.2.1,((igt x1 16),y50000.2.2.2.2))))).1),(true,((List.map Blk.of (stF (tkD (((wsX ([]:List ByteArray) (y50000.1,(y50000.2.1,(y50000.2.2.1,((igt x1 16),y50000.2.2.2.2))))).2).1,((((wsX ([]:List ByteArray) (y50000.1,(y50000.2.1,(y50000.2.2.1,((igt x1 16),y50000.2.2.2.2))))).2).2).1,(((((wsX ([]:List ByteArray) (y50000.1,(y50000.2.1,(y50000.2.2.1,((igt x1 16),y50000.2.2.2.2))))).2).2).2).1,(true,(((((wsX ([]:List ByteArray) (y50000.1,(y50000.2.1,(y50000.2.2.1,((igt x1 16),y50000.2.2.2.2))))).2).2).2).2).2))))) (iadd .i64 (x1) 1))),((y50000.2.1.2.2.2.1),()))))])) (tkD (flD (stD (tkD (((wsX ([]:List ByteArray) (y50000.1,(y50000.2.1,(y50000.2.2.1,((igt x1 16),y50000.2.2.2.2))))).2).1,((((wsX ([]:List ByteArray) (y50000.1,(y50000.2.1,(y50000.2.2.1,((igt x1 16),y50000.2.2.2.2))))).2).2).1,(((((wsX ([]:List ByteArray) (y50000.1,(y50000.2.1,(y50000.2.2.1,((igt x1 16),y50000.2.2.2.2))))).2).2).2).1,(true,(((((wsX ([]:List ByteArray) (y50000.1,(y50000.2.1,(y50000.2.2.1,((igt x1 16),y50000.2.2.2.2))))).2).2).2).2).2))))) (iadd .i64 (x1) 1))))))
                   (none))
                  (none)))
                (none))
               (b_f94_1_4 x1 y5 y50000))
              (b_f94_1_4 x1 y5 y50000))
             (none))
            (none))
           (br ((flOk (((wsX ([]:List ByteArray) (y50000.1,(y50000.2.1,(y50000.2.2.1,((igt x1 16),y50000.2.2.2.2))))).2).1,((((wsX ([]:List ByteArray) (y50000.1,(y50000.2.1,(y50000.2.2.1,((igt x1 16),y50000.2.2.2.2))))).2).2).1,(((((wsX ([]:List ByteArray) (y50000.1,(y50000.2.1,(y50000.2.2.1,((igt x1 16),y50000.2.2.2.2))))).2).2).2).1,(true,(((((wsX ([]:List ByteArray) (y50000.1,(y50000.2.1,(y50000.2.2.1,((igt x1 16),y50000.2.2.2.2))))).2).2).2).2).2))))))
            (br ((ine ((((flD (((wsX ([]:List ByteArray) (y50000.1,(y50000.2.1,(y50000.2.2.1,((igt x1 16),y50000.2.2.2.2))))).2).1,((((wsX ([]:List ByteArray) (y50000.1,(y50000.2.1,(y50000.2.2.1,((igt x1 16),y50000.2.2.2.2))))).2).2).1,(((((wsX ([]:List ByteArray) (y50000.1,(y50000.2.1,(y50000.2.2.1,((igt x1 16),y50000.2.2.2.2))))).2).2).2).1,(true,(((((wsX ([]:List ByteArray) (y50000.1,(y50000.2.1,(y50000.2.2.1,((igt x1 16),y50000.2.2.2.2))))).2).2).2).2).2))))).2).2).1) 0))
             (some (.ret,st_f94_1_ret (y5) (flD (((wsX ([]:List ByteArray) (y50000.1,(y50000.2.1,(y50000.2.2.1,((igt x1 16),y50000.2.2.2.2))))).2).1,((((wsX ([]:List ByteArray) (y50000.1,(y50000.2.1,(y50000.2.2.1,((igt x1 16),y50000.2.2.2.2))))).2).2).1,(((((wsX ([]:List ByteArray) (y50000.1,(y50000.2.1,(y50000.2.2.1,((igt x1 16),y50000.2.2.2.2))))).2).2).2).1,(true,(((((wsX ([]:List ByteArray) (y50000.1,(y50000.2.1,(y50000.2.2.1,((igt x1 16),y50000.2.2.2.2))))).2).2).2).2).2)))))))
             (br ((lxOk2 (flD (((wsX ([]:List ByteArray) (y50000.1,(y50000.2.1,(y50000.2.2.1,((igt x1 16),y50000.2.2.2.2))))).2).1,((((wsX ([]:List ByteArray) (y50000.1,(y50000.2.1,(y50000.2.2.1,((igt x1 16),y50000.2.2.2.2))))).2).2).1,(((((wsX ([]:List ByteArray) (y50000.1,(y50000.2.1,(y50000.2.2.1,((igt x1 16),y50000.2.2.2.2))))).2).2).2).1,(true,(((((wsX ([]:List ByteArray) (y50000.1,(y50000.2.1,(y50000.2.2.1,((igt x1 16),y50000.2.2.2.2))))).2).2).2).2).2)))))))
              (br (cApp (y5) ([(((wsX ([]:List ByteArray) (y50000.1,(y50000.2.1,(y50000.2.2.1,((igt x1 16),y50000.2.2.2.2))))).1),((false),(([]:List Blk),((y50000.2.1.2.2.2.1),()))))]) 64)
               (some (.normal,st_f94_1 (x1) ((y5)++([(((wsX ([]:List ByteArray) (y50000.1,(y50000.2.1,(y50000.2.2.1,((igt x1 16),y50000.2.2.2.2))))).1),((false),(([]:List Blk),((y50000.2.1.2.2.2.1),()))))])) (tkD (flD (((wsX ([]:List ByteArray) (y50000.1,(y50000.2.1,(y50000.2.2.1,((igt x1 16),y50000.2.2.2.2))))).2).1,((((wsX ([]:List ByteArray) (y50000.1,(y50000.2.1,(y50000.2.2.1,((igt x1 16),y50000.2.2.2.2))))).2).2).1,(((((wsX ([]:List ByteArray) (y50000.1,(y50000.2.1,(y50000.2.2.1,((igt x1 16),y50000.2.2.2.2))))).2).2).2).1,(true,(((((wsX ([]:List ByteArray) (y50000.1,(y50000.2.1,(y50000.2.2.1,((igt x1 16),y50000.2.2.2.2))))).2).2).2).2).2))))))))
               (none))
              (none)))
            (none))))
         (br ((ieq (((((wsX ([]:List ByteArray) (y50000.1,(y50000.2.1,(y50000.2.2.1,((igt x1 16),y50000.2.2.2.2))))).2).2).1).1) 59))
          (br ((ine (((((wsX ([]:List ByteArray) (y50000.1,(y50000.2.1,(y50000.2.2.1,((igt x1 16),y50000.2.2.2.2))))).2).2).2).1) 0))
           (some (.ret,st_f94_1_ret (y5) (((wsX ([]:List ByteArray) (y50000.1,(y50000.2.1,(y50000.2.2.1,((igt x1 16),y50000.2.2.2.2))))).2).1,((((wsX ([]:List ByteArray) (y50000.1,(y50000.2.1,(y50000.2.2.1,((igt x1 16),y50000.2.2.2.2))))).2).2).1,(((((wsX ([]:List ByteArray) (y50000.1,(y50000.2.1,(y50000.2.2.1,((igt x1 16),y50000.2.2.2.2))))).2).2).2).1,((igt (llen ((wsX ([]:List ByteArray) (y50000.1,(y50000.2.1,(y50000.2.2.1,((igt x1 16),y50000.2.2.2.2))))).1)) 64),(((((wsX ([]:List ByteArray) (y50000.1,(y50000.2.1,(y50000.2.2.1,((igt x1 16),y50000.2.2.2.2))))).2).2).2).2).2))))))
           (br ((lxOk2 (((wsX ([]:List ByteArray) (y50000.1,(y50000.2.1,(y50000.2.2.1,((igt x1 16),y50000.2.2.2.2))))).2).1,((((wsX ([]:List ByteArray) (y50000.1,(y50000.2.1,(y50000.2.2.1,((igt x1 16),y50000.2.2.2.2))))).2).2).1,(((((wsX ([]:List ByteArray) (y50000.1,(y50000.2.1,(y50000.2.2.1,((igt x1 16),y50000.2.2.2.2))))).2).2).2).1,((igt (llen ((wsX ([]:List ByteArray) (y50000.1,(y50000.2.1,(y50000.2.2.1,((igt x1 16),y50000.2.2.2.2))))).1)) 64),(((((wsX ([]:List ByteArray) (y50000.1,(y50000.2.1,(y50000.2.2.1,((igt x1 16),y50000.2.2.2.2))))).2).2).2).2).2))))))
            (br (cApp (y5) ([(((wsX ([]:List ByteArray) (y50000.1,(y50000.2.1,(y50000.2.2.1,((igt x1 16),y50000.2.2.2.2))))).1),((false),(([]:List Blk),((y50000.2.1.2.2.2.1),()))))]) 64)
             (some (.normal,st_f94_1 (x1) ((y5)++([(((wsX ([]:List ByteArray) (y50000.1,(y50000.2.1,(y50000.2.2.1,((igt x1 16),y50000.2.2.2.2))))).1),((false),(([]:List Blk),((y50000.2.1.2.2.2.1),()))))])) (tkD (((wsX ([]:List ByteArray) (y50000.1,(y50000.2.1,(y50000.2.2.1,((igt x1 16),y50000.2.2.2.2))))).2).1,((((wsX ([]:List ByteArray) (y50000.1,(y50000.2.1,(y50000.2.2.1,((igt x1 16),y50000.2.2.2.2))))).2).2).1,(((((wsX ([]:List ByteArray) (y50000.1,(y50000.2.1,(y50000.2.2.1,((igt x1 16),y50000.2.2.2.2))))).2).2).2).1,((igt (llen ((wsX ([]:List ByteArray) (y50000.1,(y50000.2.1,(y50000.2.2.1,((igt x1 16),y50000.2.2.2.2))))).1)) 64),(((((wsX ([]:List ByteArray) (y50000.1,(y50000.2.1,(y50000.2.2.1,((igt x1 16),y50000.2.2.2.2))))).2).2).2).2).2)))))))
             (none))
            (none)))
          (br ((ieq (((((wsX ([]:List ByteArray) (y50000.1,(y50000.2.1,(y50000.2.2.1,((igt x1 16),y50000.2.2.2.2))))).2).2).1).1) 123))
           (br ((lxOk2 (((wsX ([]:List ByteArray) (y50000.1,(y50000.2.1,(y50000.2.2.1,((igt x1 16),y50000.2.2.2.2))))).2).1,((((wsX ([]:List ByteArray) (y50000.1,(y50000.2.1,(y50000.2.2.1,((igt x1 16),y50000.2.2.2.2))))).2).2).1,(((((wsX ([]:List ByteArray) (y50000.1,(y50000.2.1,(y50000.2.2.1,((igt x1 16),y50000.2.2.2.2))))).2).2).2).1,((igt (llen ((wsX ([]:List ByteArray) (y50000.1,(y50000.2.1,(y50000.2.2.1,((igt x1 16),y50000.2.2.2.2))))).1)) 64),(((((wsX ([]:List ByteArray) (y50000.1,(y50000.2.1,(y50000.2.2.1,((igt x1 16),y50000.2.2.2.2))))).2).2).2).2).2))))))
            (br ((stS fuel (tkD (((wsX ([]:List ByteArray) (y50000.1,(y50000.2.1,(y50000.2.2.1,((igt x1 16),y50000.2.2.2.2))))).2).1,((((wsX ([]:List ByteArray) (y50000.1,(y50000.2.1,(y50000.2.2.1,((igt x1 16),y50000.2.2.2.2))))).2).2).1,(((((wsX ([]:List ByteArray) (y50000.1,(y50000.2.1,(y50000.2.2.1,((igt x1 16),y50000.2.2.2.2))))).2).2).2).1,((igt (llen ((wsX ([]:List ByteArray) (y50000.1,(y50000.2.1,(y50000.2.2.1,((igt x1 16),y50000.2.2.2.2))))).1)) 64),(((((wsX ([]:List ByteArray) (y50000.1,(y50000.2.1,(y50000.2.2.1,((igt x1 16),y50000.2.2.2.2))))).2).2).2).2).2))))) (iadd .i64 (x1) 1)))
             (br ((ieq ((((stD (tkD (((wsX ([]:List ByteArray) (y50000.1,(y50000.2.1,(y50000.2.2.1,((igt x1 16),y50000.2.2.2.2))))).2).1,((((wsX ([]:List ByteArray) (y50000.1,(y50000.2.1,(y50000.2.2.1,((igt x1 16),y50000.2.2.2.2))))).2).2).1,(((((wsX ([]:List ByteArray) (y50000.1,(y50000.2.1,(y50000.2.2.1,((igt x1 16),y50000.2.2.2.2))))).2).2).2).1,((igt (llen ((wsX ([]:List ByteArray) (y50000.1,(y50000.2.1,(y50000.2.2.1,((igt x1 16),y50000.2.2.2.2))))).1)) 64),(((((wsX ([]:List ByteArray) (y50000.1,(y50000.2.1,(y50000.2.2.1,((igt x1 16),y50000.2.2.2.2))))).2).2).2).2).2))))) (iadd .i64 (x1) 1)).2).2).1) 0))
              (br ((ine ((((stD (tkD (((wsX ([]:List ByteArray) (y50000.1,(y50000.2.1,(y50000.2.2.1,((igt x1 16),y50000.2.2.2.2))))).2).1,((((wsX ([]:List ByteArray) (y50000.1,(y50000.2.1,(y50000.2.2.1,((igt x1 16),y50000.2.2.2.2))))).2).2).1,(((((wsX ([]:List ByteArray) (y50000.1,(y50000.2.1,(y50000.2.2.1,((igt x1 16),y50000.2.2.2.2))))).2).2).2).1,((igt (llen ((wsX ([]:List ByteArray) (y50000.1,(y50000.2.1,(y50000.2.2.1,((igt x1 16),y50000.2.2.2.2))))).1)) 64),(((((wsX ([]:List ByteArray) (y50000.1,(y50000.2.1,(y50000.2.2.1,((igt x1 16),y50000.2.2.2.2))))).2).2).2).2).2))))) (iadd .i64 (x1) 1)).2).1).1) 125))
               (br ((flOk (stD (tkD (((wsX ([]:List ByteArray) (y50000.1,(y50000.2.1,(y50000.2.2.1,((igt x1 16),y50000.2.2.2.2))))).2).1,((((wsX ([]:List ByteArray) (y50000.1,(y50000.2.1,(y50000.2.2.1,((igt x1 16),y50000.2.2.2.2))))).2).2).1,(((((wsX ([]:List ByteArray) (y50000.1,(y50000.2.1,(y50000.2.2.1,((igt x1 16),y50000.2.2.2.2))))).2).2).2).1,((igt (llen ((wsX ([]:List ByteArray) (y50000.1,(y50000.2.1,(y50000.2.2.1,((igt x1 16),y50000.2.2.2.2))))).1)) 64),(((((wsX ([]:List ByteArray) (y50000.1,(y50000.2.1,(y50000.2.2.1,((igt x1 16),y50000.2.2.2.2))))).2).2).2).2).2))))) (iadd .i64 (x1) 1))))
                (br ((ine ((((flD (stD (tkD (((wsX ([]:List ByteArray) (y50000.1,(y50000.2.1,(y50000.2.2.1,((igt x1 16),y50000.2.2.2.2))))).2).1,((((wsX ([]:List ByteArray) (y50000.1,(y50000.2.1,(y50000.2.2.1,((igt x1 16),y50000.2.2.2.2))))).2).2).1,(((((wsX ([]:List ByteArray) (y50000.1,(y50000.2.1,(y50000.2.2.1,((igt x1 16),y50000.2.2.2.2))))).2).2).2).1,((igt (llen ((wsX ([]:List ByteArray) (y50000.1,(y50000.2.1,(y50000.2.2.1,((igt x1 16),y50000.2.2.2.2))))).1)) 64),(((((wsX ([]:List ByteArray) (y50000.1,(y50000.2.1,(y50000.2.2.1,((igt x1 16),y50000.2.2.2.2))))).2).2).2).2).2))))) (iadd .i64 (x1) 1))).2).2).1) 0))
                 (some (.ret,st_f94_1_ret (y5) (flD (stD (tkD (((wsX ([]:List ByteArray) (y50000.1,(y50000.2.1,(y50000.2.2.1,((igt x1 16),y50000.2.2.2.2))))).2).1,((((wsX ([]:List ByteArray) (y50000.1,(y50000.2.1,(y50000.2.2.1,((igt x1 16),y50000.2.2.2.2))))).2).2).1,(((((wsX ([]:List ByteArray) (y50000.1,(y50000.2.1,(y50000.2.2.1,((igt x1 16),y50000.2.2.2.2))))).2).2).2).1,((igt (llen ((wsX ([]:List ByteArray) (y50000.1,(y50000.2.1,(y50000.2.2.1,((igt x1 16),y50000.2.2.2.2))))).1)) 64),(((((wsX ([]:List ByteArray) (y50000.1,(y50000.2.1,(y50000.2.2.1,((igt x1 16),y50000.2.2.2.2))))).2).2).2).2).2))))) (iadd .i64 (x1) 1)))))
                 (br ((lxOk2 (flD (stD (tkD (((wsX ([]:List ByteArray) (y50000.1,(y50000.2.1,(y50000.2.2.1,((igt x1 16),y50000.2.2.2.2))))).2).1,((((wsX ([]:List ByteArray) (y50000.1,(y50000.2.1,(y50000.2.2.1,((igt x1 16),y50000.2.2.2.2))))).2).2).1,(((((wsX ([]:List ByteArray) (y50000.1,(y50000.2.1,(y50000.2.2.1,((igt x1 16),y50000.2.2.2.2))))).2).2).2).1,((igt (llen ((wsX ([]:List ByteArray) (y50000.1,(y50000.2.1,(y50000.2.2.1,((igt x1 16),y50000.2.2.2.2))))).1)) 64),(((((wsX ([]:List ByteArray) (y50000.1,(y50000.2.1,(y50000.2.2.1,((igt x1 16),y50000.2.2.2.2))))).2).2).2).2).2))))) (iadd .i64 (x1) 1)))))
                  (br (cApp (y5) ([(((wsX ([]:List ByteArray) (y50000.1,(y50000.2.1,(y50000.2.2.1,((igt x1 16),y50000.2.2.2.2))))).1),(true,((List.map Blk.of (stF (tkD (((wsX ([]:List ByteArray) (y50000.1,(y50000.2.1,(y50000.2.2.1,((igt x1 16),y50000.2.2.2.2))))).2).1,((((wsX ([]:List ByteArray) (y50000.1,(y50000.2.1,(y50000.2.2.1,((igt x1 16),y50000.2.2.2.2))))).2).2).1,(((((wsX ([]:List ByteArray) (y50000.1,(y50000.2.1,(y50000.2.2.1,((igt x1 16),y50000.2.2.2.2))))).2).2).2).1,((igt (llen ((wsX ([]:List ByteArray) (y50000.1,(y50000.2.1,(y50000.2.2.1,((igt x1 16),y50000.2.2.2.2))))).1)) 64),(((((wsX ([]:List ByteArray) (y50000.1,(y50000.2.1,(y50000.2.2.1,((igt x1 16),y50000.2.2.2.2))))).2).2).2).2).2))))) (iadd .i64 (x1) 1))),((y50000.2.1.2.2.2.1),()))))]) 64)
                   (some (.normal,st_f94_1 (x1) ((y5)++([(((wsX ([]:List ByteArray) (y50000.1,(y50000.2.1,(y50000.2.2.1,((igt x1 16),y50000.2.2.2.2))))).1),(true,((List.map Blk.of (stF (tkD (((wsX ([]:List ByteArray) (y50000.1,(y50000.2.1,(y50000.2.2.1,((igt x1 16),y50000.2.2.2.2))))).2).1,((((wsX ([]:List ByteArray) (y50000.1,(y50000.2.1,(y50000.2.2.1,((igt x1 16),y50000.2.2.2.2))))).2).2).1,(((((wsX ([]:List ByteArray) (y50000.1,(y50000.2.1,(y50000.2.2.1,((igt x1 16),y50000.2.2.2.2))))).2).2).2).1,((igt (llen ((wsX ([]:List ByteArray) (y50000.1,(y50000.2.1,(y50000.2.2.1,((igt x1 16),y50000.2.2.2.2))))).1)) 64),(((((wsX ([]:List ByteArray) (y50000.1,(y50000.2.1,(y50000.2.2.1,((igt x1 16),y50000.2.2.2.2))))).2).2).2).2).2))))) (iadd .i64 (x1) 1))),((y50000.2.1.2.2.2.1),()))))])) (tkD (flD (stD (tkD (((wsX ([]:List ByteArray) (y50000.1,(y50000.2.1,(y50000.2.2.1,((igt x1 16),y50000.2.2.2.2))))).2).1,((((wsX ([]:List ByteArray) (y50000.1,(y50000.2.1,(y50000.2.2.1,((igt x1 16),y50000.2.2.2.2))))).2).2).1,(((((wsX ([]:List ByteArray) (y50000.1,(y50000.2.1,(y50000.2.2.1,((igt x1 16),y50000.2.2.2.2))))).2).2).2).1,((igt (llen ((wsX ([]:List ByteArray) (y50000.1,(y50000.2.1,(y50000.2.2.1,((igt x1 16),y50000.2.2.2.2))))).1)) 64),(((((wsX ([]:List ByteArray) (y50000.1,(y50000.2.1,(y50000.2.2.1,((igt x1 16),y50000.2.2.2.2))))).2).2).2).2).2))))) (iadd .i64 (x1) 1))))))
                   (none))
                  (none)))
                (none))
               (b_f94_1_5 x1 y5 y50000))
              (b_f94_1_5 x1 y5 y50000))
             (none))
            (none))
           (br ((flOk (((wsX ([]:List ByteArray) (y50000.1,(y50000.2.1,(y50000.2.2.1,((igt x1 16),y50000.2.2.2.2))))).2).1,((((wsX ([]:List ByteArray) (y50000.1,(y50000.2.1,(y50000.2.2.1,((igt x1 16),y50000.2.2.2.2))))).2).2).1,(((((wsX ([]:List ByteArray) (y50000.1,(y50000.2.1,(y50000.2.2.1,((igt x1 16),y50000.2.2.2.2))))).2).2).2).1,((igt (llen ((wsX ([]:List ByteArray) (y50000.1,(y50000.2.1,(y50000.2.2.1,((igt x1 16),y50000.2.2.2.2))))).1)) 64),(((((wsX ([]:List ByteArray) (y50000.1,(y50000.2.1,(y50000.2.2.1,((igt x1 16),y50000.2.2.2.2))))).2).2).2).2).2))))))
            (br ((ine ((((flD (((wsX ([]:List ByteArray) (y50000.1,(y50000.2.1,(y50000.2.2.1,((igt x1 16),y50000.2.2.2.2))))).2).1,((((wsX ([]:List ByteArray) (y50000.1,(y50000.2.1,(y50000.2.2.1,((igt x1 16),y50000.2.2.2.2))))).2).2).1,(((((wsX ([]:List ByteArray) (y50000.1,(y50000.2.1,(y50000.2.2.1,((igt x1 16),y50000.2.2.2.2))))).2).2).2).1,((igt (llen ((wsX ([]:List ByteArray) (y50000.1,(y50000.2.1,(y50000.2.2.1,((igt x1 16),y50000.2.2.2.2))))).1)) 64),(((((wsX ([]:List ByteArray) (y50000.1,(y50000.2.1,(y50000.2.2.1,((igt x1 16),y50000.2.2.2.2))))).2).2).2).2).2))))).2).2).1) 0))
             (some (.ret,st_f94_1_ret (y5) (flD (((wsX ([]:List ByteArray) (y50000.1,(y50000.2.1,(y50000.2.2.1,((igt x1 16),y50000.2.2.2.2))))).2).1,((((wsX ([]:List ByteArray) (y50000.1,(y50000.2.1,(y50000.2.2.1,((igt x1 16),y50000.2.2.2.2))))).2).2).1,(((((wsX ([]:List ByteArray) (y50000.1,(y50000.2.1,(y50000.2.2.1,((igt x1 16),y50000.2.2.2.2))))).2).2).2).1,((igt (llen ((wsX ([]:List ByteArray) (y50000.1,(y50000.2.1,(y50000.2.2.1,((igt x1 16),y50000.2.2.2.2))))).1)) 64),(((((wsX ([]:List ByteArray) (y50000.1,(y50000.2.1,(y50000.2.2.1,((igt x1 16),y50000.2.2.2.2))))).2).2).2).2).2)))))))
             (br ((lxOk2 (flD (((wsX ([]:List ByteArray) (y50000.1,(y50000.2.1,(y50000.2.2.1,((igt x1 16),y50000.2.2.2.2))))).2).1,((((wsX ([]:List ByteArray) (y50000.1,(y50000.2.1,(y50000.2.2.1,((igt x1 16),y50000.2.2.2.2))))).2).2).1,(((((wsX ([]:List ByteArray) (y50000.1,(y50000.2.1,(y50000.2.2.1,((igt x1 16),y50000.2.2.2.2))))).2).2).2).1,((igt (llen ((wsX ([]:List ByteArray) (y50000.1,(y50000.2.1,(y50000.2.2.1,((igt x1 16),y50000.2.2.2.2))))).1)) 64),(((((wsX ([]:List ByteArray) (y50000.1,(y50000.2.1,(y50000.2.2.1,((igt x1 16),y50000.2.2.2.2))))).2).2).2).2).2)))))))
              (br (cApp (y5) ([(((wsX ([]:List ByteArray) (y50000.1,(y50000.2.1,(y50000.2.2.1,((igt x1 16),y50000.2.2.2.2))))).1),((false),(([]:List Blk),((y50000.2.1.2.2.2.1),()))))]) 64)
               (some (.normal,st_f94_1 (x1) ((y5)++([(((wsX ([]:List ByteArray) (y50000.1,(y50000.2.1,(y50000.2.2.1,((igt x1 16),y50000.2.2.2.2))))).1),((false),(([]:List Blk),((y50000.2.1.2.2.2.1),()))))])) (tkD (flD (((wsX ([]:List ByteArray) (y50000.1,(y50000.2.1,(y50000.2.2.1,((igt x1 16),y50000.2.2.2.2))))).2).1,((((wsX ([]:List ByteArray) (y50000.1,(y50000.2.1,(y50000.2.2.1,((igt x1 16),y50000.2.2.2.2))))).2).2).1,(((((wsX ([]:List ByteArray) (y50000.1,(y50000.2.1,(y50000.2.2.1,((igt x1 16),y50000.2.2.2.2))))).2).2).2).1,((igt (llen ((wsX ([]:List ByteArray) (y50000.1,(y50000.2.1,(y50000.2.2.1,((igt x1 16),y50000.2.2.2.2))))).1)) 64),(((((wsX ([]:List ByteArray) (y50000.1,(y50000.2.1,(y50000.2.2.1,((igt x1 16),y50000.2.2.2.2))))).2).2).2).2).2))))))))
               (none))
              (none)))
            (none)))))
        (none)))))
    (some (.exit 0,st_f94_1_e0 y5 y50000)))
   (some (.exit 0,st_f94_1_e0 y5 y50000)))
  (some (.exit 0,st_f94_1_e0 y5 y50000))
noncomputable def lp_f94_1 (x1:Int)(y5:(List BlkT))(y50000:ParserXX):Option (Exit×VS):=loopF (roundF g_f94 fg_f94_1 tb_f94_1) (st_f94_1 x1 y5 y50000)
noncomputable def n_f94_1_1 (x1:Int)(y5:(List BlkT))(y50000:ParserXX):Option (Exit×VS):=
 br ((flOk y50000))
  (some (.ret,st_f94_1_ret y5 (flD y50000)))
  (none)
noncomputable def n_f94_1_2 (x1:Int)(y5:(List BlkT))(y50000:ParserXX):Option (Exit×VS):=
 br ((ine ((((stD (tkD (((wsX ([]:List ByteArray) (y50000.1,(y50000.2.1,(y50000.2.2.1,(true,y50000.2.2.2.2))))).2).1,((((wsX ([]:List ByteArray) (y50000.1,(y50000.2.1,(y50000.2.2.1,(true,y50000.2.2.2.2))))).2).2).1,(((((wsX ([]:List ByteArray) (y50000.1,(y50000.2.1,(y50000.2.2.1,(true,y50000.2.2.2.2))))).2).2).2).1,(true,(((((wsX ([]:List ByteArray) (y50000.1,(y50000.2.1,(y50000.2.2.1,(true,y50000.2.2.2.2))))).2).2).2).2).2))))) (iadd .i64 (x1) 1)).2).2).1) 0))
  (some (.ret,st_f94_1_ret (y5) (stD (tkD (((wsX ([]:List ByteArray) (y50000.1,(y50000.2.1,(y50000.2.2.1,(true,y50000.2.2.2.2))))).2).1,((((wsX ([]:List ByteArray) (y50000.1,(y50000.2.1,(y50000.2.2.1,(true,y50000.2.2.2.2))))).2).2).1,(((((wsX ([]:List ByteArray) (y50000.1,(y50000.2.1,(y50000.2.2.1,(true,y50000.2.2.2.2))))).2).2).2).1,(true,(((((wsX ([]:List ByteArray) (y50000.1,(y50000.2.1,(y50000.2.2.1,(true,y50000.2.2.2.2))))).2).2).2).2).2))))) (iadd .i64 (x1) 1))))
  (br ((lxOk2 (stD (tkD (((wsX ([]:List ByteArray) (y50000.1,(y50000.2.1,(y50000.2.2.1,(true,y50000.2.2.2.2))))).2).1,((((wsX ([]:List ByteArray) (y50000.1,(y50000.2.1,(y50000.2.2.1,(true,y50000.2.2.2.2))))).2).2).1,(((((wsX ([]:List ByteArray) (y50000.1,(y50000.2.1,(y50000.2.2.1,(true,y50000.2.2.2.2))))).2).2).2).1,(true,(((((wsX ([]:List ByteArray) (y50000.1,(y50000.2.1,(y50000.2.2.1,(true,y50000.2.2.2.2))))).2).2).2).2).2))))) (iadd .i64 (x1) 1))))
   (br (cApp (y5) ([(((wsX ([]:List ByteArray) (y50000.1,(y50000.2.1,(y50000.2.2.1,(true,y50000.2.2.2.2))))).1),(true,((List.map Blk.of (stF (tkD (((wsX ([]:List ByteArray) (y50000.1,(y50000.2.1,(y50000.2.2.1,(true,y50000.2.2.2.2))))).2).1,((((wsX ([]:List ByteArray) (y50000.1,(y50000.2.1,(y50000.2.2.1,(true,y50000.2.2.2.2))))).2).2).1,(((((wsX ([]:List ByteArray) (y50000.1,(y50000.2.1,(y50000.2.2.1,(true,y50000.2.2.2.2))))).2).2).2).1,(true,(((((wsX ([]:List ByteArray) (y50000.1,(y50000.2.1,(y50000.2.2.1,(true,y50000.2.2.2.2))))).2).2).2).2).2))))) (iadd .i64 (x1) 1))),((y50000.2.1.2.2.2.1),()))))]) 64)
    (lp_f94_1 (x1) ((y5)++([(((wsX ([]:List ByteArray) (y50000.1,(y50000.2.1,(y50000.2.2.1,(true,y50000.2.2.2.2))))).1),(true,((List.map Blk.of (stF (tkD (((wsX ([]:List ByteArray) (y50000.1,(y50000.2.1,(y50000.2.2.1,(true,y50000.2.2.2.2))))).2).1,((((wsX ([]:List ByteArray) (y50000.1,(y50000.2.1,(y50000.2.2.1,(true,y50000.2.2.2.2))))).2).2).1,(((((wsX ([]:List ByteArray) (y50000.1,(y50000.2.1,(y50000.2.2.1,(true,y50000.2.2.2.2))))).2).2).2).1,(true,(((((wsX ([]:List ByteArray) (y50000.1,(y50000.2.1,(y50000.2.2.1,(true,y50000.2.2.2.2))))).2).2).2).2).2))))) (iadd .i64 (x1) 1))),((y50000.2.1.2.2.2.1),()))))])) (tkD (stD (tkD (((wsX ([]:List ByteArray) (y50000.1,(y50000.2.1,(y50000.2.2.1,(true,y50000.2.2.2.2))))).2).1,((((wsX ([]:List ByteArray) (y50000.1,(y50000.2.1,(y50000.2.2.1,(true,y50000.2.2.2.2))))).2).2).1,(((((wsX ([]:List ByteArray) (y50000.1,(y50000.2.1,(y50000.2.2.1,(true,y50000.2.2.2.2))))).2).2).2).1,(true,(((((wsX ([]:List ByteArray) (y50000.1,(y50000.2.1,(y50000.2.2.1,(true,y50000.2.2.2.2))))).2).2).2).2).2))))) (iadd .i64 (x1) 1))))
    (none))
   (none))
noncomputable def n_f94_1_3 (x1:Int)(y5:(List BlkT))(y50000:ParserXX):Option (Exit×VS):=
 br ((ine ((((stD (tkD (((wsX ([]:List ByteArray) (y50000.1,(y50000.2.1,(y50000.2.2.1,(true,y50000.2.2.2.2))))).2).1,((((wsX ([]:List ByteArray) (y50000.1,(y50000.2.1,(y50000.2.2.1,(true,y50000.2.2.2.2))))).2).2).1,(((((wsX ([]:List ByteArray) (y50000.1,(y50000.2.1,(y50000.2.2.1,(true,y50000.2.2.2.2))))).2).2).2).1,((igt (llen ((wsX ([]:List ByteArray) (y50000.1,(y50000.2.1,(y50000.2.2.1,(true,y50000.2.2.2.2))))).1)) 64),(((((wsX ([]:List ByteArray) (y50000.1,(y50000.2.1,(y50000.2.2.1,(true,y50000.2.2.2.2))))).2).2).2).2).2))))) (iadd .i64 (x1) 1)).2).2).1) 0))
  (some (.ret,st_f94_1_ret (y5) (stD (tkD (((wsX ([]:List ByteArray) (y50000.1,(y50000.2.1,(y50000.2.2.1,(true,y50000.2.2.2.2))))).2).1,((((wsX ([]:List ByteArray) (y50000.1,(y50000.2.1,(y50000.2.2.1,(true,y50000.2.2.2.2))))).2).2).1,(((((wsX ([]:List ByteArray) (y50000.1,(y50000.2.1,(y50000.2.2.1,(true,y50000.2.2.2.2))))).2).2).2).1,((igt (llen ((wsX ([]:List ByteArray) (y50000.1,(y50000.2.1,(y50000.2.2.1,(true,y50000.2.2.2.2))))).1)) 64),(((((wsX ([]:List ByteArray) (y50000.1,(y50000.2.1,(y50000.2.2.1,(true,y50000.2.2.2.2))))).2).2).2).2).2))))) (iadd .i64 (x1) 1))))
  (br ((lxOk2 (stD (tkD (((wsX ([]:List ByteArray) (y50000.1,(y50000.2.1,(y50000.2.2.1,(true,y50000.2.2.2.2))))).2).1,((((wsX ([]:List ByteArray) (y50000.1,(y50000.2.1,(y50000.2.2.1,(true,y50000.2.2.2.2))))).2).2).1,(((((wsX ([]:List ByteArray) (y50000.1,(y50000.2.1,(y50000.2.2.1,(true,y50000.2.2.2.2))))).2).2).2).1,((igt (llen ((wsX ([]:List ByteArray) (y50000.1,(y50000.2.1,(y50000.2.2.1,(true,y50000.2.2.2.2))))).1)) 64),(((((wsX ([]:List ByteArray) (y50000.1,(y50000.2.1,(y50000.2.2.1,(true,y50000.2.2.2.2))))).2).2).2).2).2))))) (iadd .i64 (x1) 1))))
   (br (cApp (y5) ([(((wsX ([]:List ByteArray) (y50000.1,(y50000.2.1,(y50000.2.2.1,(true,y50000.2.2.2.2))))).1),(true,((List.map Blk.of (stF (tkD (((wsX ([]:List ByteArray) (y50000.1,(y50000.2.1,(y50000.2.2.1,(true,y50000.2.2.2.2))))).2).1,((((wsX ([]:List ByteArray) (y50000.1,(y50000.2.1,(y50000.2.2.1,(true,y50000.2.2.2.2))))).2).2).1,(((((wsX ([]:List ByteArray) (y50000.1,(y50000.2.1,(y50000.2.2.1,(true,y50000.2.2.2.2))))).2).2).2).1,((igt (llen ((wsX ([]:List ByteArray) (y50000.1,(y50000.2.1,(y50000.2.2.1,(true,y50000.2.2.2.2))))).1)) 64),(((((wsX ([]:List ByteArray) (y50000.1,(y50000.2.1,(y50000.2.2.1,(true,y50000.2.2.2.2))))).2).2).2).2).2))))) (iadd .i64 (x1) 1))),((y50000.2.1.2.2.2.1),()))))]) 64)
    (lp_f94_1 (x1) ((y5)++([(((wsX ([]:List ByteArray) (y50000.1,(y50000.2.1,(y50000.2.2.1,(true,y50000.2.2.2.2))))).1),(true,((List.map Blk.of (stF (tkD (((wsX ([]:List ByteArray) (y50000.1,(y50000.2.1,(y50000.2.2.1,(true,y50000.2.2.2.2))))).2).1,((((wsX ([]:List ByteArray) (y50000.1,(y50000.2.1,(y50000.2.2.1,(true,y50000.2.2.2.2))))).2).2).1,(((((wsX ([]:List ByteArray) (y50000.1,(y50000.2.1,(y50000.2.2.1,(true,y50000.2.2.2.2))))).2).2).2).1,((igt (llen ((wsX ([]:List ByteArray) (y50000.1,(y50000.2.1,(y50000.2.2.1,(true,y50000.2.2.2.2))))).1)) 64),(((((wsX ([]:List ByteArray) (y50000.1,(y50000.2.1,(y50000.2.2.1,(true,y50000.2.2.2.2))))).2).2).2).2).2))))) (iadd .i64 (x1) 1))),((y50000.2.1.2.2.2.1),()))))])) (tkD (stD (tkD (((wsX ([]:List ByteArray) (y50000.1,(y50000.2.1,(y50000.2.2.1,(true,y50000.2.2.2.2))))).2).1,((((wsX ([]:List ByteArray) (y50000.1,(y50000.2.1,(y50000.2.2.1,(true,y50000.2.2.2.2))))).2).2).1,(((((wsX ([]:List ByteArray) (y50000.1,(y50000.2.1,(y50000.2.2.1,(true,y50000.2.2.2.2))))).2).2).2).1,((igt (llen ((wsX ([]:List ByteArray) (y50000.1,(y50000.2.1,(y50000.2.2.1,(true,y50000.2.2.2.2))))).1)) 64),(((((wsX ([]:List ByteArray) (y50000.1,(y50000.2.1,(y50000.2.2.1,(true,y50000.2.2.2.2))))).2).2).2).2).2))))) (iadd .i64 (x1) 1))))
    (none))
   (none))
noncomputable def n_f94_1_4 (x1:Int)(y5:(List BlkT))(y50000:ParserXX):Option (Exit×VS):=
 br ((ine ((((stD (tkD (((wsX ([]:List ByteArray) (y50000.1,(y50000.2.1,(y50000.2.2.1,((igt x1 16),y50000.2.2.2.2))))).2).1,((((wsX ([]:List ByteArray) (y50000.1,(y50000.2.1,(y50000.2.2.1,((igt x1 16),y50000.2.2.2.2))))).2).2).1,(((((wsX ([]:List ByteArray) (y50000.1,(y50000.2.1,(y50000.2.2.1,((igt x1 16),y50000.2.2.2.2))))).2).2).2).1,(true,(((((wsX ([]:List ByteArray) (y50000.1,(y50000.2.1,(y50000.2.2.1,((igt x1 16),y50000.2.2.2.2))))).2).2).2).2).2))))) (iadd .i64 (x1) 1)).2).2).1) 0))
  (some (.ret,st_f94_1_ret (y5) (stD (tkD (((wsX ([]:List ByteArray) (y50000.1,(y50000.2.1,(y50000.2.2.1,((igt x1 16),y50000.2.2.2.2))))).2).1,((((wsX ([]:List ByteArray) (y50000.1,(y50000.2.1,(y50000.2.2.1,((igt x1 16),y50000.2.2.2.2))))).2).2).1,(((((wsX ([]:List ByteArray) (y50000.1,(y50000.2.1,(y50000.2.2.1,((igt x1 16),y50000.2.2.2.2))))).2).2).2).1,(true,(((((wsX ([]:List ByteArray) (y50000.1,(y50000.2.1,(y50000.2.2.1,((igt x1 16),y50000.2.2.2.2))))).2).2).2).2).2))))) (iadd .i64 (x1) 1))))
  (br ((lxOk2 (stD (tkD (((wsX ([]:List ByteArray) (y50000.1,(y50000.2.1,(y50000.2.2.1,((igt x1 16),y50000.2.2.2.2))))).2).1,((((wsX ([]:List ByteArray) (y50000.1,(y50000.2.1,(y50000.2.2.1,((igt x1 16),y50000.2.2.2.2))))).2).2).1,(((((wsX ([]:List ByteArray) (y50000.1,(y50000.2.1,(y50000.2.2.1,((igt x1 16),y50000.2.2.2.2))))).2).2).2).1,(true,(((((wsX ([]:List ByteArray) (y50000.1,(y50000.2.1,(y50000.2.2.1,((igt x1 16),y50000.2.2.2.2))))).2).2).2).2).2))))) (iadd .i64 (x1) 1))))
   (br (cApp (y5) ([(((wsX ([]:List ByteArray) (y50000.1,(y50000.2.1,(y50000.2.2.1,((igt x1 16),y50000.2.2.2.2))))).1),(true,((List.map Blk.of (stF (tkD (((wsX ([]:List ByteArray) (y50000.1,(y50000.2.1,(y50000.2.2.1,((igt x1 16),y50000.2.2.2.2))))).2).1,((((wsX ([]:List ByteArray) (y50000.1,(y50000.2.1,(y50000.2.2.1,((igt x1 16),y50000.2.2.2.2))))).2).2).1,(((((wsX ([]:List ByteArray) (y50000.1,(y50000.2.1,(y50000.2.2.1,((igt x1 16),y50000.2.2.2.2))))).2).2).2).1,(true,(((((wsX ([]:List ByteArray) (y50000.1,(y50000.2.1,(y50000.2.2.1,((igt x1 16),y50000.2.2.2.2))))).2).2).2).2).2))))) (iadd .i64 (x1) 1))),((y50000.2.1.2.2.2.1),()))))]) 64)
    (lp_f94_1 (x1) ((y5)++([(((wsX ([]:List ByteArray) (y50000.1,(y50000.2.1,(y50000.2.2.1,((igt x1 16),y50000.2.2.2.2))))).1),(true,((List.map Blk.of (stF (tkD (((wsX ([]:List ByteArray) (y50000.1,(y50000.2.1,(y50000.2.2.1,((igt x1 16),y50000.2.2.2.2))))).2).1,((((wsX ([]:List ByteArray) (y50000.1,(y50000.2.1,(y50000.2.2.1,((igt x1 16),y50000.2.2.2.2))))).2).2).1,(((((wsX ([]:List ByteArray) (y50000.1,(y50000.2.1,(y50000.2.2.1,((igt x1 16),y50000.2.2.2.2))))).2).2).2).1,(true,(((((wsX ([]:List ByteArray) (y50000.1,(y50000.2.1,(y50000.2.2.1,((igt x1 16),y50000.2.2.2.2))))).2).2).2).2).2))))) (iadd .i64 (x1) 1))),((y50000.2.1.2.2.2.1),()))))])) (tkD (stD (tkD (((wsX ([]:List ByteArray) (y50000.1,(y50000.2.1,(y50000.2.2.1,((igt x1 16),y50000.2.2.2.2))))).2).1,((((wsX ([]:List ByteArray) (y50000.1,(y50000.2.1,(y50000.2.2.1,((igt x1 16),y50000.2.2.2.2))))).2).2).1,(((((wsX ([]:List ByteArray) (y50000.1,(y50000.2.1,(y50000.2.2.1,((igt x1 16),y50000.2.2.2.2))))).2).2).2).1,(true,(((((wsX ([]:List ByteArray) (y50000.1,(y50000.2.1,(y50000.2.2.1,((igt x1 16),y50000.2.2.2.2))))).2).2).2).2).2))))) (iadd .i64 (x1) 1))))
    (none))
   (none))
noncomputable def n_f94_1_5 (x1:Int)(y5:(List BlkT))(y50000:ParserXX):Option (Exit×VS):=
 br ((ine ((((stD (tkD (((wsX ([]:List ByteArray) (y50000.1,(y50000.2.1,(y50000.2.2.1,((igt x1 16),y50000.2.2.2.2))))).2).1,((((wsX ([]:List ByteArray) (y50000.1,(y50000.2.1,(y50000.2.2.1,((igt x1 16),y50000.2.2.2.2))))).2).2).1,(((((wsX ([]:List ByteArray) (y50000.1,(y50000.2.1,(y50000.2.2.1,((igt x1 16),y50000.2.2.2.2))))).2).2).2).1,((igt (llen ((wsX ([]:List ByteArray) (y50000.1,(y50000.2.1,(y50000.2.2.1,((igt x1 16),y50000.2.2.2.2))))).1)) 64),(((((wsX ([]:List ByteArray) (y50000.1,(y50000.2.1,(y50000.2.2.1,((igt x1 16),y50000.2.2.2.2))))).2).2).2).2).2))))) (iadd .i64 (x1) 1)).2).2).1) 0))
  (some (.ret,st_f94_1_ret (y5) (stD (tkD (((wsX ([]:List ByteArray) (y50000.1,(y50000.2.1,(y50000.2.2.1,((igt x1 16),y50000.2.2.2.2))))).2).1,((((wsX ([]:List ByteArray) (y50000.1,(y50000.2.1,(y50000.2.2.1,((igt x1 16),y50000.2.2.2.2))))).2).2).1,(((((wsX ([]:List ByteArray) (y50000.1,(y50000.2.1,(y50000.2.2.1,((igt x1 16),y50000.2.2.2.2))))).2).2).2).1,((igt (llen ((wsX ([]:List ByteArray) (y50000.1,(y50000.2.1,(y50000.2.2.1,((igt x1 16),y50000.2.2.2.2))))).1)) 64),(((((wsX ([]:List ByteArray) (y50000.1,(y50000.2.1,(y50000.2.2.1,((igt x1 16),y50000.2.2.2.2))))).2).2).2).2).2))))) (iadd .i64 (x1) 1))))
  (br ((lxOk2 (stD (tkD (((wsX ([]:List ByteArray) (y50000.1,(y50000.2.1,(y50000.2.2.1,((igt x1 16),y50000.2.2.2.2))))).2).1,((((wsX ([]:List ByteArray) (y50000.1,(y50000.2.1,(y50000.2.2.1,((igt x1 16),y50000.2.2.2.2))))).2).2).1,(((((wsX ([]:List ByteArray) (y50000.1,(y50000.2.1,(y50000.2.2.1,((igt x1 16),y50000.2.2.2.2))))).2).2).2).1,((igt (llen ((wsX ([]:List ByteArray) (y50000.1,(y50000.2.1,(y50000.2.2.1,((igt x1 16),y50000.2.2.2.2))))).1)) 64),(((((wsX ([]:List ByteArray) (y50000.1,(y50000.2.1,(y50000.2.2.1,((igt x1 16),y50000.2.2.2.2))))).2).2).2).2).2))))) (iadd .i64 (x1) 1))))
   (br (cApp (y5) ([(((wsX ([]:List ByteArray) (y50000.1,(y50000.2.1,(y50000.2.2.1,((igt x1 16),y50000.2.2.2.2))))).1),(true,((List.map Blk.of (stF (tkD (((wsX ([]:List ByteArray) (y50000.1,(y50000.2.1,(y50000.2.2.1,((igt x1 16),y50000.2.2.2.2))))).2).1,((((wsX ([]:List ByteArray) (y50000.1,(y50000.2.1,(y50000.2.2.1,((igt x1 16),y50000.2.2.2.2))))).2).2).1,(((((wsX ([]:List ByteArray) (y50000.1,(y50000.2.1,(y50000.2.2.1,((igt x1 16),y50000.2.2.2.2))))).2).2).2).1,((igt (llen ((wsX ([]:List ByteArray) (y50000.1,(y50000.2.1,(y50000.2.2.1,((igt x1 16),y50000.2.2.2.2))))).1)) 64),(((((wsX ([]:List ByteArray) (y50000.1,(y50000.2.1,(y50000.2.2.1,((igt x1 16),y50000.2.2.2.2))))).2).2).2).2).2))))) (iadd .i64 (x1) 1))),((y50000.2.1.2.2.2.1),()))))]) 64)
    (lp_f94_1 (x1) ((y5)++([(((wsX ([]:List ByteArray) (y50000.1,(y50000.2.1,(y50000.2.2.1,((igt x1 16),y50000.2.2.2.2))))).1),(true,((List.map Blk.of (stF (tkD (((wsX ([]:List ByteArray) (y50000.1,(y50000.2.1,(y50000.2.2.1,((igt x1 16),y50000.2.2.2.2))))).2).1,((((wsX ([]:List ByteArray) (y50000.1,(y50000.2.1,(y50000.2.2.1,((igt x1 16),y50000.2.2.2.2))))).2).2).1,(((((wsX ([]:List ByteArray) (y50000.1,(y50000.2.1,(y50000.2.2.1,((igt x1 16),y50000.2.2.2.2))))).2).2).2).1,((igt (llen ((wsX ([]:List ByteArray) (y50000.1,(y50000.2.1,(y50000.2.2.1,((igt x1 16),y50000.2.2.2.2))))).1)) 64),(((((wsX ([]:List ByteArray) (y50000.1,(y50000.2.1,(y50000.2.2.1,((igt x1 16),y50000.2.2.2.2))))).2).2).2).2).2))))) (iadd .i64 (x1) 1))),((y50000.2.1.2.2.2.1),()))))])) (tkD (stD (tkD (((wsX ([]:List ByteArray) (y50000.1,(y50000.2.1,(y50000.2.2.1,((igt x1 16),y50000.2.2.2.2))))).2).1,((((wsX ([]:List ByteArray) (y50000.1,(y50000.2.1,(y50000.2.2.1,((igt x1 16),y50000.2.2.2.2))))).2).2).1,(((((wsX ([]:List ByteArray) (y50000.1,(y50000.2.1,(y50000.2.2.1,((igt x1 16),y50000.2.2.2.2))))).2).2).2).1,((igt (llen ((wsX ([]:List ByteArray) (y50000.1,(y50000.2.1,(y50000.2.2.1,((igt x1 16),y50000.2.2.2.2))))).1)) 64),(((((wsX ([]:List ByteArray) (y50000.1,(y50000.2.1,(y50000.2.2.1,((igt x1 16),y50000.2.2.2.2))))).2).2).2).2).2))))) (iadd .i64 (x1) 1))))
    (none))
   (none))
noncomputable def n_f94_1 (x1:Int)(y5:(List BlkT))(y50000:ParserXX):Option (Exit×VS):=
 br ((ieq y50000.2.2.1 0))
  (br ((ine y50000.2.1.1 0))
   (br ((ine y50000.2.1.1 125))
    (br ((ine y50000.2.1.1 119))
     (n_f94_1_1 x1 y5 y50000)
     (br ((!y50000.2.1.2.2.1))
      (n_f94_1_1 x1 y5 y50000)
      (br (y50000.2.2.2.1)
       (br ((sw0 ([]:List ByteArray) (y50000.1,(y50000.2.1,(y50000.2.2.1,(true,y50000.2.2.2.2))))))
        (br ((((((wsX ([]:List ByteArray) (y50000.1,(y50000.2.1,(y50000.2.2.1,(true,y50000.2.2.2.2))))).2).2).2).2).1)
         (br ((ieq (((((wsX ([]:List ByteArray) (y50000.1,(y50000.2.1,(y50000.2.2.1,(true,y50000.2.2.2.2))))).2).2).1).1) 59))
          (br ((ine (((((wsX ([]:List ByteArray) (y50000.1,(y50000.2.1,(y50000.2.2.1,(true,y50000.2.2.2.2))))).2).2).2).1) 0))
           (some (.ret,st_f94_1_ret (y5) (((wsX ([]:List ByteArray) (y50000.1,(y50000.2.1,(y50000.2.2.1,(true,y50000.2.2.2.2))))).2).1,((((wsX ([]:List ByteArray) (y50000.1,(y50000.2.1,(y50000.2.2.1,(true,y50000.2.2.2.2))))).2).2).1,(((((wsX ([]:List ByteArray) (y50000.1,(y50000.2.1,(y50000.2.2.1,(true,y50000.2.2.2.2))))).2).2).2).1,(true,(((((wsX ([]:List ByteArray) (y50000.1,(y50000.2.1,(y50000.2.2.1,(true,y50000.2.2.2.2))))).2).2).2).2).2))))))
           (br ((lxOk2 (((wsX ([]:List ByteArray) (y50000.1,(y50000.2.1,(y50000.2.2.1,(true,y50000.2.2.2.2))))).2).1,((((wsX ([]:List ByteArray) (y50000.1,(y50000.2.1,(y50000.2.2.1,(true,y50000.2.2.2.2))))).2).2).1,(((((wsX ([]:List ByteArray) (y50000.1,(y50000.2.1,(y50000.2.2.1,(true,y50000.2.2.2.2))))).2).2).2).1,(true,(((((wsX ([]:List ByteArray) (y50000.1,(y50000.2.1,(y50000.2.2.1,(true,y50000.2.2.2.2))))).2).2).2).2).2))))))
            (br (cApp (y5) ([(((wsX ([]:List ByteArray) (y50000.1,(y50000.2.1,(y50000.2.2.1,(true,y50000.2.2.2.2))))).1),((false),(([]:List Blk),((y50000.2.1.2.2.2.1),()))))]) 64)
             (lp_f94_1 (x1) ((y5)++([(((wsX ([]:List ByteArray) (y50000.1,(y50000.2.1,(y50000.2.2.1,(true,y50000.2.2.2.2))))).1),((false),(([]:List Blk),((y50000.2.1.2.2.2.1),()))))])) (tkD (((wsX ([]:List ByteArray) (y50000.1,(y50000.2.1,(y50000.2.2.1,(true,y50000.2.2.2.2))))).2).1,((((wsX ([]:List ByteArray) (y50000.1,(y50000.2.1,(y50000.2.2.1,(true,y50000.2.2.2.2))))).2).2).1,(((((wsX ([]:List ByteArray) (y50000.1,(y50000.2.1,(y50000.2.2.1,(true,y50000.2.2.2.2))))).2).2).2).1,(true,(((((wsX ([]:List ByteArray) (y50000.1,(y50000.2.1,(y50000.2.2.1,(true,y50000.2.2.2.2))))).2).2).2).2).2))))))
             (none))
            (none)))
          (br ((ieq (((((wsX ([]:List ByteArray) (y50000.1,(y50000.2.1,(y50000.2.2.1,(true,y50000.2.2.2.2))))).2).2).1).1) 123))
           (br ((lxOk2 (((wsX ([]:List ByteArray) (y50000.1,(y50000.2.1,(y50000.2.2.1,(true,y50000.2.2.2.2))))).2).1,((((wsX ([]:List ByteArray) (y50000.1,(y50000.2.1,(y50000.2.2.1,(true,y50000.2.2.2.2))))).2).2).1,(((((wsX ([]:List ByteArray) (y50000.1,(y50000.2.1,(y50000.2.2.1,(true,y50000.2.2.2.2))))).2).2).2).1,(true,(((((wsX ([]:List ByteArray) (y50000.1,(y50000.2.1,(y50000.2.2.1,(true,y50000.2.2.2.2))))).2).2).2).2).2))))))
            (br ((stS fuel (tkD (((wsX ([]:List ByteArray) (y50000.1,(y50000.2.1,(y50000.2.2.1,(true,y50000.2.2.2.2))))).2).1,((((wsX ([]:List ByteArray) (y50000.1,(y50000.2.1,(y50000.2.2.1,(true,y50000.2.2.2.2))))).2).2).1,(((((wsX ([]:List ByteArray) (y50000.1,(y50000.2.1,(y50000.2.2.1,(true,y50000.2.2.2.2))))).2).2).2).1,(true,(((((wsX ([]:List ByteArray) (y50000.1,(y50000.2.1,(y50000.2.2.1,(true,y50000.2.2.2.2))))).2).2).2).2).2))))) (iadd .i64 (x1) 1)))
             (br ((ieq ((((stD (tkD (((wsX ([]:List ByteArray) (y50000.1,(y50000.2.1,(y50000.2.2.1,(true,y50000.2.2.2.2))))).2).1,((((wsX ([]:List ByteArray) (y50000.1,(y50000.2.1,(y50000.2.2.1,(true,y50000.2.2.2.2))))).2).2).1,(((((wsX ([]:List ByteArray) (y50000.1,(y50000.2.1,(y50000.2.2.1,(true,y50000.2.2.2.2))))).2).2).2).1,(true,(((((wsX ([]:List ByteArray) (y50000.1,(y50000.2.1,(y50000.2.2.1,(true,y50000.2.2.2.2))))).2).2).2).2).2))))) (iadd .i64 (x1) 1)).2).2).1) 0))
              (br ((ine ((((stD (tkD (((wsX ([]:List ByteArray) (y50000.1,(y50000.2.1,(y50000.2.2.1,(true,y50000.2.2.2.2))))).2).1,((((wsX ([]:List ByteArray) (y50000.1,(y50000.2.1,(y50000.2.2.1,(true,y50000.2.2.2.2))))).2).2).1,(((((wsX ([]:List ByteArray) (y50000.1,(y50000.2.1,(y50000.2.2.1,(true,y50000.2.2.2.2))))).2).2).2).1,(true,(((((wsX ([]:List ByteArray) (y50000.1,(y50000.2.1,(y50000.2.2.1,(true,y50000.2.2.2.2))))).2).2).2).2).2))))) (iadd .i64 (x1) 1)).2).1).1) 125))
               (br ((flOk (stD (tkD (((wsX ([]:List ByteArray) (y50000.1,(y50000.2.1,(y50000.2.2.1,(true,y50000.2.2.2.2))))).2).1,((((wsX ([]:List ByteArray) (y50000.1,(y50000.2.1,(y50000.2.2.1,(true,y50000.2.2.2.2))))).2).2).1,(((((wsX ([]:List ByteArray) (y50000.1,(y50000.2.1,(y50000.2.2.1,(true,y50000.2.2.2.2))))).2).2).2).1,(true,(((((wsX ([]:List ByteArray) (y50000.1,(y50000.2.1,(y50000.2.2.1,(true,y50000.2.2.2.2))))).2).2).2).2).2))))) (iadd .i64 (x1) 1))))
                (br ((ine ((((flD (stD (tkD (((wsX ([]:List ByteArray) (y50000.1,(y50000.2.1,(y50000.2.2.1,(true,y50000.2.2.2.2))))).2).1,((((wsX ([]:List ByteArray) (y50000.1,(y50000.2.1,(y50000.2.2.1,(true,y50000.2.2.2.2))))).2).2).1,(((((wsX ([]:List ByteArray) (y50000.1,(y50000.2.1,(y50000.2.2.1,(true,y50000.2.2.2.2))))).2).2).2).1,(true,(((((wsX ([]:List ByteArray) (y50000.1,(y50000.2.1,(y50000.2.2.1,(true,y50000.2.2.2.2))))).2).2).2).2).2))))) (iadd .i64 (x1) 1))).2).2).1) 0))
                 (some (.ret,st_f94_1_ret (y5) (flD (stD (tkD (((wsX ([]:List ByteArray) (y50000.1,(y50000.2.1,(y50000.2.2.1,(true,y50000.2.2.2.2))))).2).1,((((wsX ([]:List ByteArray) (y50000.1,(y50000.2.1,(y50000.2.2.1,(true,y50000.2.2.2.2))))).2).2).1,(((((wsX ([]:List ByteArray) (y50000.1,(y50000.2.1,(y50000.2.2.1,(true,y50000.2.2.2.2))))).2).2).2).1,(true,(((((wsX ([]:List ByteArray) (y50000.1,(y50000.2.1,(y50000.2.2.1,(true,y50000.2.2.2.2))))).2).2).2).2).2))))) (iadd .i64 (x1) 1)))))
                 (br ((lxOk2 (flD (stD (tkD (((wsX ([]:List ByteArray) (y50000.1,(y50000.2.1,(y50000.2.2.1,(true,y50000.2.2.2.2))))).2).1,((((wsX ([]:List ByteArray) (y50000.1,(y50000.2.1,(y50000.2.2.1,(true,y50000.2.2.2.2))))).2).2).1,(((((wsX ([]:List ByteArray) (y50000.1,(y50000.2.1,(y50000.2.2.1,(true,y50000.2.2.2.2))))).2).2).2).1,(true,(((((wsX ([]:List ByteArray) (y50000.1,(y50000.2.1,(y50000.2.2.1,(true,y50000.2.2.2.2))))).2).2).2).2).2))))) (iadd .i64 (x1) 1)))))
                  (br (cApp (y5) ([(((wsX ([]:List ByteArray) (y50000.1,(y50000.2.1,(y50000.2.2.1,(true,y50000.2.2.2.2))))).1),(true,((List.map Blk.of (stF (tkD (((wsX ([]:List ByteArray) (y50000.1,(y50000.2.1,(y50000.2.2.1,(true,y50000.2.2.2.2))))).2).1,((((wsX ([]:List ByteArray) (y50000.1,(y50000.2.1,(y50000.2.2.1,(true,y50000.2.2.2.2))))).2).2).1,(((((wsX ([]:List ByteArray) (y50000.1,(y50000.2.1,(y50000.2.2.1,(true,y50000.2.2.2.2))))).2).2).2).1,(true,(((((wsX ([]:List ByteArray) (y50000.1,(y50000.2.1,(y50000.2.2.1,(true,y50000.2.2.2.2))))).2).2).2).2).2))))) (iadd .i64 (x1) 1))),((y50000.2.1.2.2.2.1),()))))]) 64)
                   (lp_f94_1 (x1) ((y5)++([(((wsX ([]:List ByteArray) (y50000.1,(y50000.2.1,(y50000.2.2.1,(true,y50000.2.2.2.2))))).1),(true,((List.map Blk.of (stF (tkD (((wsX ([]:List ByteArray) (y50000.1,(y50000.2.1,(y50000.2.2.1,(true,y50000.2.2.2.2))))).2).1,((((wsX ([]:List ByteArray) (y50000.1,(y50000.2.1,(y50000.2.2.1,(true,y50000.2.2.2.2))))).2).2).1,(((((wsX ([]:List ByteArray) (y50000.1,(y50000.2.1,(y50000.2.2.1,(true,y50000.2.2.2.2))))).2).2).2).1,(true,(((((wsX ([]:List ByteArray) (y50000.1,(y50000.2.1,(y50000.2.2.1,(true,y50000.2.2.2.2))))).2).2).2).2).2))))) (iadd .i64 (x1) 1))),((y50000.2.1.2.2.2.1),()))))])) (tkD (flD (stD (tkD (((wsX ([]:List ByteArray) (y50000.1,(y50000.2.1,(y50000.2.2.1,(true,y50000.2.2.2.2))))).2).1,((((wsX ([]:List ByteArray) (y50000.1,(y50000.2.1,(y50000.2.2.1,(true,y50000.2.2.2.2))))).2).2).1,(((((wsX ([]:List ByteArray) (y50000.1,(y50000.2.1,(y50000.2.2.1,(true,y50000.2.2.2.2))))).2).2).2).1,(true,(((((wsX ([]:List ByteArray) (y50000.1,(y50000.2.1,(y50000.2.2.1,(true,y50000.2.2.2.2))))).2).2).2).2).2))))) (iadd .i64 (x1) 1)))))
                   (none))
                  (none)))
                (none))
               (n_f94_1_2 x1 y5 y50000))
              (n_f94_1_2 x1 y5 y50000))
             (none))
            (none))
           (br ((flOk (((wsX ([]:List ByteArray) (y50000.1,(y50000.2.1,(y50000.2.2.1,(true,y50000.2.2.2.2))))).2).1,((((wsX ([]:List ByteArray) (y50000.1,(y50000.2.1,(y50000.2.2.1,(true,y50000.2.2.2.2))))).2).2).1,(((((wsX ([]:List ByteArray) (y50000.1,(y50000.2.1,(y50000.2.2.1,(true,y50000.2.2.2.2))))).2).2).2).1,(true,(((((wsX ([]:List ByteArray) (y50000.1,(y50000.2.1,(y50000.2.2.1,(true,y50000.2.2.2.2))))).2).2).2).2).2))))))
            (br ((ine ((((flD (((wsX ([]:List ByteArray) (y50000.1,(y50000.2.1,(y50000.2.2.1,(true,y50000.2.2.2.2))))).2).1,((((wsX ([]:List ByteArray) (y50000.1,(y50000.2.1,(y50000.2.2.1,(true,y50000.2.2.2.2))))).2).2).1,(((((wsX ([]:List ByteArray) (y50000.1,(y50000.2.1,(y50000.2.2.1,(true,y50000.2.2.2.2))))).2).2).2).1,(true,(((((wsX ([]:List ByteArray) (y50000.1,(y50000.2.1,(y50000.2.2.1,(true,y50000.2.2.2.2))))).2).2).2).2).2))))).2).2).1) 0))
             (some (.ret,st_f94_1_ret (y5) (flD (((wsX ([]:List ByteArray) (y50000.1,(y50000.2.1,(y50000.2.2.1,(true,y50000.2.2.2.2))))).2).1,((((wsX ([]:List ByteArray) (y50000.1,(y50000.2.1,(y50000.2.2.1,(true,y50000.2.2.2.2))))).2).2).1,(((((wsX ([]:List ByteArray) (y50000.1,(y50000.2.1,(y50000.2.2.1,(true,y50000.2.2.2.2))))).2).2).2).1,(true,(((((wsX ([]:List ByteArray) (y50000.1,(y50000.2.1,(y50000.2.2.1,(true,y50000.2.2.2.2))))).2).2).2).2).2)))))))
             (br ((lxOk2 (flD (((wsX ([]:List ByteArray) (y50000.1,(y50000.2.1,(y50000.2.2.1,(true,y50000.2.2.2.2))))).2).1,((((wsX ([]:List ByteArray) (y50000.1,(y50000.2.1,(y50000.2.2.1,(true,y50000.2.2.2.2))))).2).2).1,(((((wsX ([]:List ByteArray) (y50000.1,(y50000.2.1,(y50000.2.2.1,(true,y50000.2.2.2.2))))).2).2).2).1,(true,(((((wsX ([]:List ByteArray) (y50000.1,(y50000.2.1,(y50000.2.2.1,(true,y50000.2.2.2.2))))).2).2).2).2).2)))))))
              (br (cApp (y5) ([(((wsX ([]:List ByteArray) (y50000.1,(y50000.2.1,(y50000.2.2.1,(true,y50000.2.2.2.2))))).1),((false),(([]:List Blk),((y50000.2.1.2.2.2.1),()))))]) 64)
               (lp_f94_1 (x1) ((y5)++([(((wsX ([]:List ByteArray) (y50000.1,(y50000.2.1,(y50000.2.2.1,(true,y50000.2.2.2.2))))).1),((false),(([]:List Blk),((y50000.2.1.2.2.2.1),()))))])) (tkD (flD (((wsX ([]:List ByteArray) (y50000.1,(y50000.2.1,(y50000.2.2.1,(true,y50000.2.2.2.2))))).2).1,((((wsX ([]:List ByteArray) (y50000.1,(y50000.2.1,(y50000.2.2.1,(true,y50000.2.2.2.2))))).2).2).1,(((((wsX ([]:List ByteArray) (y50000.1,(y50000.2.1,(y50000.2.2.1,(true,y50000.2.2.2.2))))).2).2).2).1,(true,(((((wsX ([]:List ByteArray) (y50000.1,(y50000.2.1,(y50000.2.2.1,(true,y50000.2.2.2.2))))).2).2).2).2).2)))))))
               (none))
              (none)))
            (none))))
         (br ((ieq (((((wsX ([]:List ByteArray) (y50000.1,(y50000.2.1,(y50000.2.2.1,(true,y50000.2.2.2.2))))).2).2).1).1) 59))
          (br ((ine (((((wsX ([]:List ByteArray) (y50000.1,(y50000.2.1,(y50000.2.2.1,(true,y50000.2.2.2.2))))).2).2).2).1) 0))
           (some (.ret,st_f94_1_ret (y5) (((wsX ([]:List ByteArray) (y50000.1,(y50000.2.1,(y50000.2.2.1,(true,y50000.2.2.2.2))))).2).1,((((wsX ([]:List ByteArray) (y50000.1,(y50000.2.1,(y50000.2.2.1,(true,y50000.2.2.2.2))))).2).2).1,(((((wsX ([]:List ByteArray) (y50000.1,(y50000.2.1,(y50000.2.2.1,(true,y50000.2.2.2.2))))).2).2).2).1,((igt (llen ((wsX ([]:List ByteArray) (y50000.1,(y50000.2.1,(y50000.2.2.1,(true,y50000.2.2.2.2))))).1)) 64),(((((wsX ([]:List ByteArray) (y50000.1,(y50000.2.1,(y50000.2.2.1,(true,y50000.2.2.2.2))))).2).2).2).2).2))))))
           (br ((lxOk2 (((wsX ([]:List ByteArray) (y50000.1,(y50000.2.1,(y50000.2.2.1,(true,y50000.2.2.2.2))))).2).1,((((wsX ([]:List ByteArray) (y50000.1,(y50000.2.1,(y50000.2.2.1,(true,y50000.2.2.2.2))))).2).2).1,(((((wsX ([]:List ByteArray) (y50000.1,(y50000.2.1,(y50000.2.2.1,(true,y50000.2.2.2.2))))).2).2).2).1,((igt (llen ((wsX ([]:List ByteArray) (y50000.1,(y50000.2.1,(y50000.2.2.1,(true,y50000.2.2.2.2))))).1)) 64),(((((wsX ([]:List ByteArray) (y50000.1,(y50000.2.1,(y50000.2.2.1,(true,y50000.2.2.2.2))))).2).2).2).2).2))))))
            (br (cApp (y5) ([(((wsX ([]:List ByteArray) (y50000.1,(y50000.2.1,(y50000.2.2.1,(true,y50000.2.2.2.2))))).1),((false),(([]:List Blk),((y50000.2.1.2.2.2.1),()))))]) 64)
             (lp_f94_1 (x1) ((y5)++([(((wsX ([]:List ByteArray) (y50000.1,(y50000.2.1,(y50000.2.2.1,(true,y50000.2.2.2.2))))).1),((false),(([]:List Blk),((y50000.2.1.2.2.2.1),()))))])) (tkD (((wsX ([]:List ByteArray) (y50000.1,(y50000.2.1,(y50000.2.2.1,(true,y50000.2.2.2.2))))).2).1,((((wsX ([]:List ByteArray) (y50000.1,(y50000.2.1,(y50000.2.2.1,(true,y50000.2.2.2.2))))).2).2).1,(((((wsX ([]:List ByteArray) (y50000.1,(y50000.2.1,(y50000.2.2.1,(true,y50000.2.2.2.2))))).2).2).2).1,((igt (llen ((wsX ([]:List ByteArray) (y50000.1,(y50000.2.1,(y50000.2.2.1,(true,y50000.2.2.2.2))))).1)) 64),(((((wsX ([]:List ByteArray) (y50000.1,(y50000.2.1,(y50000.2.2.1,(true,y50000.2.2.2.2))))).2).2).2).2).2))))))
             (none))
            (none)))
          (br ((ieq (((((wsX ([]:List ByteArray) (y50000.1,(y50000.2.1,(y50000.2.2.1,(true,y50000.2.2.2.2))))).2).2).1).1) 123))
           (br ((lxOk2 (((wsX ([]:List ByteArray) (y50000.1,(y50000.2.1,(y50000.2.2.1,(true,y50000.2.2.2.2))))).2).1,((((wsX ([]:List ByteArray) (y50000.1,(y50000.2.1,(y50000.2.2.1,(true,y50000.2.2.2.2))))).2).2).1,(((((wsX ([]:List ByteArray) (y50000.1,(y50000.2.1,(y50000.2.2.1,(true,y50000.2.2.2.2))))).2).2).2).1,((igt (llen ((wsX ([]:List ByteArray) (y50000.1,(y50000.2.1,(y50000.2.2.1,(true,y50000.2.2.2.2))))).1)) 64),(((((wsX ([]:List ByteArray) (y50000.1,(y50000.2.1,(y50000.2.2.1,(true,y50000.2.2.2.2))))).2).2).2).2).2))))))
            (br ((stS fuel (tkD (((wsX ([]:List ByteArray) (y50000.1,(y50000.2.1,(y50000.2.2.1,(true,y50000.2.2.2.2))))).2).1,((((wsX ([]:List ByteArray) (y50000.1,(y50000.2.1,(y50000.2.2.1,(true,y50000.2.2.2.2))))).2).2).1,(((((wsX ([]:List ByteArray) (y50000.1,(y50000.2.1,(y50000.2.2.1,(true,y50000.2.2.2.2))))).2).2).2).1,((igt (llen ((wsX ([]:List ByteArray) (y50000.1,(y50000.2.1,(y50000.2.2.1,(true,y50000.2.2.2.2))))).1)) 64),(((((wsX ([]:List ByteArray) (y50000.1,(y50000.2.1,(y50000.2.2.1,(true,y50000.2.2.2.2))))).2).2).2).2).2))))) (iadd .i64 (x1) 1)))
             (br ((ieq ((((stD (tkD (((wsX ([]:List ByteArray) (y50000.1,(y50000.2.1,(y50000.2.2.1,(true,y50000.2.2.2.2))))).2).1,((((wsX ([]:List ByteArray) (y50000.1,(y50000.2.1,(y50000.2.2.1,(true,y50000.2.2.2.2))))).2).2).1,(((((wsX ([]:List ByteArray) (y50000.1,(y50000.2.1,(y50000.2.2.1,(true,y50000.2.2.2.2))))).2).2).2).1,((igt (llen ((wsX ([]:List ByteArray) (y50000.1,(y50000.2.1,(y50000.2.2.1,(true,y50000.2.2.2.2))))).1)) 64),(((((wsX ([]:List ByteArray) (y50000.1,(y50000.2.1,(y50000.2.2.1,(true,y50000.2.2.2.2))))).2).2).2).2).2))))) (iadd .i64 (x1) 1)).2).2).1) 0))
              (br ((ine ((((stD (tkD (((wsX ([]:List ByteArray) (y50000.1,(y50000.2.1,(y50000.2.2.1,(true,y50000.2.2.2.2))))).2).1,((((wsX ([]:List ByteArray) (y50000.1,(y50000.2.1,(y50000.2.2.1,(true,y50000.2.2.2.2))))).2).2).1,(((((wsX ([]:List ByteArray) (y50000.1,(y50000.2.1,(y50000.2.2.1,(true,y50000.2.2.2.2))))).2).2).2).1,((igt (llen ((wsX ([]:List ByteArray) (y50000.1,(y50000.2.1,(y50000.2.2.1,(true,y50000.2.2.2.2))))).1)) 64),(((((wsX ([]:List ByteArray) (y50000.1,(y50000.2.1,(y50000.2.2.1,(true,y50000.2.2.2.2))))).2).2).2).2).2))))) (iadd .i64 (x1) 1)).2).1).1) 125))
               (br ((flOk (stD (tkD (((wsX ([]:List ByteArray) (y50000.1,(y50000.2.1,(y50000.2.2.1,(true,y50000.2.2.2.2))))).2).1,((((wsX ([]:List ByteArray) (y50000.1,(y50000.2.1,(y50000.2.2.1,(true,y50000.2.2.2.2))))).2).2).1,(((((wsX ([]:List ByteArray) (y50000.1,(y50000.2.1,(y50000.2.2.1,(true,y50000.2.2.2.2))))).2).2).2).1,((igt (llen ((wsX ([]:List ByteArray) (y50000.1,(y50000.2.1,(y50000.2.2.1,(true,y50000.2.2.2.2))))).1)) 64),(((((wsX ([]:List ByteArray) (y50000.1,(y50000.2.1,(y50000.2.2.1,(true,y50000.2.2.2.2))))).2).2).2).2).2))))) (iadd .i64 (x1) 1))))
                (br ((ine ((((flD (stD (tkD (((wsX ([]:List ByteArray) (y50000.1,(y50000.2.1,(y50000.2.2.1,(true,y50000.2.2.2.2))))).2).1,((((wsX ([]:List ByteArray) (y50000.1,(y50000.2.1,(y50000.2.2.1,(true,y50000.2.2.2.2))))).2).2).1,(((((wsX ([]:List ByteArray) (y50000.1,(y50000.2.1,(y50000.2.2.1,(true,y50000.2.2.2.2))))).2).2).2).1,((igt (llen ((wsX ([]:List ByteArray) (y50000.1,(y50000.2.1,(y50000.2.2.1,(true,y50000.2.2.2.2))))).1)) 64),(((((wsX ([]:List ByteArray) (y50000.1,(y50000.2.1,(y50000.2.2.1,(true,y50000.2.2.2.2))))).2).2).2).2).2))))) (iadd .i64 (x1) 1))).2).2).1) 0))
                 (some (.ret,st_f94_1_ret (y5) (flD (stD (tkD (((wsX ([]:List ByteArray) (y50000.1,(y50000.2.1,(y50000.2.2.1,(true,y50000.2.2.2.2))))).2).1,((((wsX ([]:List ByteArray) (y50000.1,(y50000.2.1,(y50000.2.2.1,(true,y50000.2.2.2.2))))).2).2).1,(((((wsX ([]:List ByteArray) (y50000.1,(y50000.2.1,(y50000.2.2.1,(true,y50000.2.2.2.2))))).2).2).2).1,((igt (llen ((wsX ([]:List ByteArray) (y50000.1,(y50000.2.1,(y50000.2.2.1,(true,y50000.2.2.2.2))))).1)) 64),(((((wsX ([]:List ByteArray) (y50000.1,(y50000.2.1,(y50000.2.2.1,(true,y50000.2.2.2.2))))).2).2).2).2).2))))) (iadd .i64 (x1) 1)))))
                 (br ((lxOk2 (flD (stD (tkD (((wsX ([]:List ByteArray) (y50000.1,(y50000.2.1,(y50000.2.2.1,(true,y50000.2.2.2.2))))).2).1,((((wsX ([]:List ByteArray) (y50000.1,(y50000.2.1,(y50000.2.2.1,(true,y50000.2.2.2.2))))).2).2).1,(((((wsX ([]:List ByteArray) (y50000.1,(y50000.2.1,(y50000.2.2.1,(true,y50000.2.2.2.2))))).2).2).2).1,((igt (llen ((wsX ([]:List ByteArray) (y50000.1,(y50000.2.1,(y50000.2.2.1,(true,y50000.2.2.2.2))))).1)) 64),(((((wsX ([]:List ByteArray) (y50000.1,(y50000.2.1,(y50000.2.2.1,(true,y50000.2.2.2.2))))).2).2).2).2).2))))) (iadd .i64 (x1) 1)))))
                  (br (cApp (y5) ([(((wsX ([]:List ByteArray) (y50000.1,(y50000.2.1,(y50000.2.2.1,(true,y50000.2.2.2.2))))).1),(true,((List.map Blk.of (stF (tkD (((wsX ([]:List ByteArray) (y50000.1,(y50000.2.1,(y50000.2.2.1,(true,y50000.2.2.2.2))))).2).1,((((wsX ([]:List ByteArray) (y50000.1,(y50000.2.1,(y50000.2.2.1,(true,y50000.2.2.2.2))))).2).2).1,(((((wsX ([]:List ByteArray) (y50000.1,(y50000.2.1,(y50000.2.2.1,(true,y50000.2.2.2.2))))).2).2).2).1,((igt (llen ((wsX ([]:List ByteArray) (y50000.1,(y50000.2.1,(y50000.2.2.1,(true,y50000.2.2.2.2))))).1)) 64),(((((wsX ([]:List ByteArray) (y50000.1,(y50000.2.1,(y50000.2.2.1,(true,y50000.2.2.2.2))))).2).2).2).2).2))))) (iadd .i64 (x1) 1))),((y50000.2.1.2.2.2.1),()))))]) 64)
                   (lp_f94_1 (x1) ((y5)++([(((wsX ([]:List ByteArray) (y50000.1,(y50000.2.1,(y50000.2.2.1,(true,y50000.2.2.2.2))))).1),(true,((List.map Blk.of (stF (tkD (((wsX ([]:List ByteArray) (y50000.1,(y50000.2.1,(y50000.2.2.1,(true,y50000.2.2.2.2))))).2).1,((((wsX ([]:List ByteArray) (y50000.1,(y50000.2.1,(y50000.2.2.1,(true,y50000.2.2.2.2))))).2).2).1,(((((wsX ([]:List ByteArray) (y50000.1,(y50000.2.1,(y50000.2.2.1,(true,y50000.2.2.2.2))))).2).2).2).1,((igt (llen ((wsX ([]:List ByteArray) (y50000.1,(y50000.2.1,(y50000.2.2.1,(true,y50000.2.2.2.2))))).1)) 64),(((((wsX ([]:List ByteArray) (y50000.1,(y50000.2.1,(y50000.2.2.1,(true,y50000.2.2.2.2))))).2).2).2).2).2))))) (iadd .i64 (x1) 1))),((y50000.2.1.2.2.2.1),()))))])) (tkD (flD (stD (tkD (((wsX ([]:List ByteArray) (y50000.1,(y50000.2.1,(y50000.2.2.1,(true,y50000.2.2.2.2))))).2).1,((((wsX ([]:List ByteArray) (y50000.1,(y50000.2.1,(y50000.2.2.1,(true,y50000.2.2.2.2))))).2).2).1,(((((wsX ([]:List ByteArray) (y50000.1,(y50000.2.1,(y50000.2.2.1,(true,y50000.2.2.2.2))))).2).2).2).1,((igt (llen ((wsX ([]:List ByteArray) (y50000.1,(y50000.2.1,(y50000.2.2.1,(true,y50000.2.2.2.2))))).1)) 64),(((((wsX ([]:List ByteArray) (y50000.1,(y50000.2.1,(y50000.2.2.1,(true,y50000.2.2.2.2))))).2).2).2).2).2))))) (iadd .i64 (x1) 1)))))
                   (none))
                  (none)))
                (none))
               (n_f94_1_3 x1 y5 y50000))
              (n_f94_1_3 x1 y5 y50000))
             (none))
            (none))
           (br ((flOk (((wsX ([]:List ByteArray) (y50000.1,(y50000.2.1,(y50000.2.2.1,(true,y50000.2.2.2.2))))).2).1,((((wsX ([]:List ByteArray) (y50000.1,(y50000.2.1,(y50000.2.2.1,(true,y50000.2.2.2.2))))).2).2).1,(((((wsX ([]:List ByteArray) (y50000.1,(y50000.2.1,(y50000.2.2.1,(true,y50000.2.2.2.2))))).2).2).2).1,((igt (llen ((wsX ([]:List ByteArray) (y50000.1,(y50000.2.1,(y50000.2.2.1,(true,y50000.2.2.2.2))))).1)) 64),(((((wsX ([]:List ByteArray) (y50000.1,(y50000.2.1,(y50000.2.2.1,(true,y50000.2.2.2.2))))).2).2).2).2).2))))))
            (br ((ine ((((flD (((wsX ([]:List ByteArray) (y50000.1,(y50000.2.1,(y50000.2.2.1,(true,y50000.2.2.2.2))))).2).1,((((wsX ([]:List ByteArray) (y50000.1,(y50000.2.1,(y50000.2.2.1,(true,y50000.2.2.2.2))))).2).2).1,(((((wsX ([]:List ByteArray) (y50000.1,(y50000.2.1,(y50000.2.2.1,(true,y50000.2.2.2.2))))).2).2).2).1,((igt (llen ((wsX ([]:List ByteArray) (y50000.1,(y50000.2.1,(y50000.2.2.1,(true,y50000.2.2.2.2))))).1)) 64),(((((wsX ([]:List ByteArray) (y50000.1,(y50000.2.1,(y50000.2.2.1,(true,y50000.2.2.2.2))))).2).2).2).2).2))))).2).2).1) 0))
             (some (.ret,st_f94_1_ret (y5) (flD (((wsX ([]:List ByteArray) (y50000.1,(y50000.2.1,(y50000.2.2.1,(true,y50000.2.2.2.2))))).2).1,((((wsX ([]:List ByteArray) (y50000.1,(y50000.2.1,(y50000.2.2.1,(true,y50000.2.2.2.2))))).2).2).1,(((((wsX ([]:List ByteArray) (y50000.1,(y50000.2.1,(y50000.2.2.1,(true,y50000.2.2.2.2))))).2).2).2).1,((igt (llen ((wsX ([]:List ByteArray) (y50000.1,(y50000.2.1,(y50000.2.2.1,(true,y50000.2.2.2.2))))).1)) 64),(((((wsX ([]:List ByteArray) (y50000.1,(y50000.2.1,(y50000.2.2.1,(true,y50000.2.2.2.2))))).2).2).2).2).2)))))))
             (br ((lxOk2 (flD (((wsX ([]:List ByteArray) (y50000.1,(y50000.2.1,(y50000.2.2.1,(true,y50000.2.2.2.2))))).2).1,((((wsX ([]:List ByteArray) (y50000.1,(y50000.2.1,(y50000.2.2.1,(true,y50000.2.2.2.2))))).2).2).1,(((((wsX ([]:List ByteArray) (y50000.1,(y50000.2.1,(y50000.2.2.1,(true,y50000.2.2.2.2))))).2).2).2).1,((igt (llen ((wsX ([]:List ByteArray) (y50000.1,(y50000.2.1,(y50000.2.2.1,(true,y50000.2.2.2.2))))).1)) 64),(((((wsX ([]:List ByteArray) (y50000.1,(y50000.2.1,(y50000.2.2.1,(true,y50000.2.2.2.2))))).2).2).2).2).2)))))))
              (br (cApp (y5) ([(((wsX ([]:List ByteArray) (y50000.1,(y50000.2.1,(y50000.2.2.1,(true,y50000.2.2.2.2))))).1),((false),(([]:List Blk),((y50000.2.1.2.2.2.1),()))))]) 64)
               (lp_f94_1 (x1) ((y5)++([(((wsX ([]:List ByteArray) (y50000.1,(y50000.2.1,(y50000.2.2.1,(true,y50000.2.2.2.2))))).1),((false),(([]:List Blk),((y50000.2.1.2.2.2.1),()))))])) (tkD (flD (((wsX ([]:List ByteArray) (y50000.1,(y50000.2.1,(y50000.2.2.1,(true,y50000.2.2.2.2))))).2).1,((((wsX ([]:List ByteArray) (y50000.1,(y50000.2.1,(y50000.2.2.1,(true,y50000.2.2.2.2))))).2).2).1,(((((wsX ([]:List ByteArray) (y50000.1,(y50000.2.1,(y50000.2.2.1,(true,y50000.2.2.2.2))))).2).2).2).1,((igt (llen ((wsX ([]:List ByteArray) (y50000.1,(y50000.2.1,(y50000.2.2.1,(true,y50000.2.2.2.2))))).1)) 64),(((((wsX ([]:List ByteArray) (y50000.1,(y50000.2.1,(y50000.2.2.1,(true,y50000.2.2.2.2))))).2).2).2).2).2)))))))
               (none))
              (none)))
            (none)))))
        (none))
       (br ((sw0 ([]:List ByteArray) (y50000.1,(y50000.2.1,(y50000.2.2.1,((igt x1 16),y50000.2.2.2.2))))))
        (br ((((((wsX ([]:List ByteArray) (y50000.1,(y50000.2.1,(y50000.2.2.1,((igt x1 16),y50000.2.2.2.2))))).2).2).2).2).1)
         (br ((ieq (((((wsX ([]:List ByteArray) (y50000.1,(y50000.2.1,(y50000.2.2.1,((igt x1 16),y50000.2.2.2.2))))).2).2).1).1) 59))
          (br ((ine (((((wsX ([]:List ByteArray) (y50000.1,(y50000.2.1,(y50000.2.2.1,((igt x1 16),y50000.2.2.2.2))))).2).2).2).1) 0))
           (some (.ret,st_f94_1_ret (y5) (((wsX ([]:List ByteArray) (y50000.1,(y50000.2.1,(y50000.2.2.1,((igt x1 16),y50000.2.2.2.2))))).2).1,((((wsX ([]:List ByteArray) (y50000.1,(y50000.2.1,(y50000.2.2.1,((igt x1 16),y50000.2.2.2.2))))).2).2).1,(((((wsX ([]:List ByteArray) (y50000.1,(y50000.2.1,(y50000.2.2.1,((igt x1 16),y50000.2.2.2.2))))).2).2).2).1,(true,(((((wsX ([]:List ByteArray) (y50000.1,(y50000.2.1,(y50000.2.2.1,((igt x1 16),y50000.2.2.2.2))))).2).2).2).2).2))))))
           (br ((lxOk2 (((wsX ([]:List ByteArray) (y50000.1,(y50000.2.1,(y50000.2.2.1,((igt x1 16),y50000.2.2.2.2))))).2).1,((((wsX ([]:List ByteArray) (y50000.1,(y50000.2.1,(y50000.2.2.1,((igt x1 16),y50000.2.2.2.2))))).2).2).1,(((((wsX ([]:List ByteArray) (y50000.1,(y50000.2.1,(y50000.2.2.1,((igt x1 16),y50000.2.2.2.2))))).2).2).2).1,(true,(((((wsX ([]:List ByteArray) (y50000.1,(y50000.2.1,(y50000.2.2.1,((igt x1 16),y50000.2.2.2.2))))).2).2).2).2).2))))))
            (br (cApp (y5) ([(((wsX ([]:List ByteArray) (y50000.1,(y50000.2.1,(y50000.2.2.1,((igt x1 16),y50000.2.2.2.2))))).1),((false),(([]:List Blk),((y50000.2.1.2.2.2.1),()))))]) 64)
             (lp_f94_1 (x1) ((y5)++([(((wsX ([]:List ByteArray) (y50000.1,(y50000.2.1,(y50000.2.2.1,((igt x1 16),y50000.2.2.2.2))))).1),((false),(([]:List Blk),((y50000.2.1.2.2.2.1),()))))])) (tkD (((wsX ([]:List ByteArray) (y50000.1,(y50000.2.1,(y50000.2.2.1,((igt x1 16),y50000.2.2.2.2))))).2).1,((((wsX ([]:List ByteArray) (y50000.1,(y50000.2.1,(y50000.2.2.1,((igt x1 16),y50000.2.2.2.2))))).2).2).1,(((((wsX ([]:List ByteArray) (y50000.1,(y50000.2.1,(y50000.2.2.1,((igt x1 16),y50000.2.2.2.2))))).2).2).2).1,(true,(((((wsX ([]:List ByteArray) (y50000.1,(y50000.2.1,(y50000.2.2.1,((igt x1 16),y50000.2.2.2.2))))).2).2).2).2).2))))))
             (none))
            (none)))
          (br ((ieq (((((wsX ([]:List ByteArray) (y50000.1,(y50000.2.1,(y50000.2.2.1,((igt x1 16),y50000.2.2.2.2))))).2).2).1).1) 123))
           (br ((lxOk2 (((wsX ([]:List ByteArray) (y50000.1,(y50000.2.1,(y50000.2.2.1,((igt x1 16),y50000.2.2.2.2))))).2).1,((((wsX ([]:List ByteArray) (y50000.1,(y50000.2.1,(y50000.2.2.1,((igt x1 16),y50000.2.2.2.2))))).2).2).1,(((((wsX ([]:List ByteArray) (y50000.1,(y50000.2.1,(y50000.2.2.1,((igt x1 16),y50000.2.2.2.2))))).2).2).2).1,(true,(((((wsX ([]:List ByteArray) (y50000.1,(y50000.2.1,(y50000.2.2.1,((igt x1 16),y50000.2.2.2.2))))).2).2).2).2).2))))))
            (br ((stS fuel (tkD (((wsX ([]:List ByteArray) (y50000.1,(y50000.2.1,(y50000.2.2.1,((igt x1 16),y50000.2.2.2.2))))).2).1,((((wsX ([]:List ByteArray) (y50000.1,(y50000.2.1,(y50000.2.2.1,((igt x1 16),y50000.2.2.2.2))))).2).2).1,(((((wsX ([]:List ByteArray) (y50000.1,(y50000.2.1,(y50000.2.2.1,((igt x1 16),y50000.2.2.2.2))))).2).2).2).1,(true,(((((wsX ([]:List ByteArray) (y50000.1,(y50000.2.1,(y50000.2.2.1,((igt x1 16),y50000.2.2.2.2))))).2).2).2).2).2))))) (iadd .i64 (x1) 1)))
             (br ((ieq ((((stD (tkD (((wsX ([]:List ByteArray) (y50000.1,(y50000.2.1,(y50000.2.2.1,((igt x1 16),y50000.2.2.2.2))))).2).1,((((wsX ([]:List ByteArray) (y50000.1,(y50000.2.1,(y50000.2.2.1,((igt x1 16),y50000.2.2.2.2))))).2).2).1,(((((wsX ([]:List ByteArray) (y50000.1,(y50000.2.1,(y50000.2.2.1,((igt x1 16),y50000.2.2.2.2))))).2).2).2).1,(true,(((((wsX ([]:List ByteArray) (y50000.1,(y50000.2.1,(y50000.2.2.1,((igt x1 16),y50000.2.2.2.2))))).2).2).2).2).2))))) (iadd .i64 (x1) 1)).2).2).1) 0))
              (br ((ine ((((stD (tkD (((wsX ([]:List ByteArray) (y50000.1,(y50000.2.1,(y50000.2.2.1,((igt x1 16),y50000.2.2.2.2))))).2).1,((((wsX ([]:List ByteArray) (y50000.1,(y50000.2.1,(y50000.2.2.1,((igt x1 16),y50000.2.2.2.2))))).2).2).1,(((((wsX ([]:List ByteArray) (y50000.1,(y50000.2.1,(y50000.2.2.1,((igt x1 16),y50000.2.2.2.2))))).2).2).2).1,(true,(((((wsX ([]:List ByteArray) (y50000.1,(y50000.2.1,(y50000.2.2.1,((igt x1 16),y50000.2.2.2.2))))).2).2).2).2).2))))) (iadd .i64 (x1) 1)).2).1).1) 125))
               (br ((flOk (stD (tkD (((wsX ([]:List ByteArray) (y50000.1,(y50000.2.1,(y50000.2.2.1,((igt x1 16),y50000.2.2.2.2))))).2).1,((((wsX ([]:List ByteArray) (y50000.1,(y50000.2.1,(y50000.2.2.1,((igt x1 16),y50000.2.2.2.2))))).2).2).1,(((((wsX ([]:List ByteArray) (y50000.1,(y50000.2.1,(y50000.2.2.1,((igt x1 16),y50000.2.2.2.2))))).2).2).2).1,(true,(((((wsX ([]:List ByteArray) (y50000.1,(y50000.2.1,(y50000.2.2.1,((igt x1 16),y50000.2.2.2.2))))).2).2).2).2).2))))) (iadd .i64 (x1) 1))))
                (br ((ine ((((flD (stD (tkD (((wsX ([]:List ByteArray) (y50000.1,(y50000.2.1,(y50000.2.2.1,((igt x1 16),y50000.2.2.2.2))))).2).1,((((wsX ([]:List ByteArray) (y50000.1,(y50000.2.1,(y50000.2.2.1,((igt x1 16),y50000.2.2.2.2))))).2).2).1,(((((wsX ([]:List ByteArray) (y50000.1,(y50000.2.1,(y50000.2.2.1,((igt x1 16),y50000.2.2.2.2))))).2).2).2).1,(true,(((((wsX ([]:List ByteArray) (y50000.1,(y50000.2.1,(y50000.2.2.1,((igt x1 16),y50000.2.2.2.2))))).2).2).2).2).2))))) (iadd .i64 (x1) 1))).2).2).1) 0))
                 (some (.ret,st_f94_1_ret (y5) (flD (stD (tkD (((wsX ([]:List ByteArray) (y50000.1,(y50000.2.1,(y50000.2.2.1,((igt x1 16),y50000.2.2.2.2))))).2).1,((((wsX ([]:List ByteArray) (y50000.1,(y50000.2.1,(y50000.2.2.1,((igt x1 16),y50000.2.2.2.2))))).2).2).1,(((((wsX ([]:List ByteArray) (y50000.1,(y50000.2.1,(y50000.2.2.1,((igt x1 16),y50000.2.2.2.2))))).2).2).2).1,(true,(((((wsX ([]:List ByteArray) (y50000.1,(y50000.2.1,(y50000.2.2.1,((igt x1 16),y50000.2.2.2.2))))).2).2).2).2).2))))) (iadd .i64 (x1) 1)))))
                 (br ((lxOk2 (flD (stD (tkD (((wsX ([]:List ByteArray) (y50000.1,(y50000.2.1,(y50000.2.2.1,((igt x1 16),y50000.2.2.2.2))))).2).1,((((wsX ([]:List ByteArray) (y50000.1,(y50000.2.1,(y50000.2.2.1,((igt x1 16),y50000.2.2.2.2))))).2).2).1,(((((wsX ([]:List ByteArray) (y50000.1,(y50000.2.1,(y50000.2.2.1,((igt x1 16),y50000.2.2.2.2))))).2).2).2).1,(true,(((((wsX ([]:List ByteArray) (y50000.1,(y50000.2.1,(y50000.2.2.1,((igt x1 16),y50000.2.2.2.2))))).2).2).2).2).2))))) (iadd .i64 (x1) 1)))))
                  (br (cApp (y5) ([(((wsX ([]:List ByteArray) (y50000.1,(y50000.2.1,(y50000.2.2.1,((igt x1 16),y50000.2.2.2.2))))).1),(true,((List.map Blk.of (stF (tkD (((wsX ([]:List ByteArray) (y50000.1,(y50000.2.1,(y50000.2.2.1,((igt x1 16),y50000.2.2.2.2))))).2).1,((((wsX ([]:List ByteArray) (y50000.1,(y50000.2.1,(y50000.2.2.1,((igt x1 16),y50000.2.2.2.2))))).2).2).1,(((((wsX ([]:List ByteArray) (y50000.1,(y50000.2.1,(y50000.2.2.1,((igt x1 16),y50000.2.2.2.2))))).2).2).2).1,(true,(((((wsX ([]:List ByteArray) (y50000.1,(y50000.2.1,(y50000.2.2.1,((igt x1 16),y50000.2.2.2.2))))).2).2).2).2).2))))) (iadd .i64 (x1) 1))),((y50000.2.1.2.2.2.1),()))))]) 64)
                   (lp_f94_1 (x1) ((y5)++([(((wsX ([]:List ByteArray) (y50000.1,(y50000.2.1,(y50000.2.2.1,((igt x1 16),y50000.2.2.2.2))))).1),(true,((List.map Blk.of (stF (tkD (((wsX ([]:List ByteArray) (y50000.1,(y50000.2.1,(y50000.2.2.1,((igt x1 16),y50000.2.2.2.2))))).2).1,((((wsX ([]:List ByteArray) (y50000.1,(y50000.2.1,(y50000.2.2.1,((igt x1 16),y50000.2.2.2.2))))).2).2).1,(((((wsX ([]:List ByteArray) (y50000.1,(y50000.2.1,(y50000.2.2.1,((igt x1 16),y50000.2.2.2.2))))).2).2).2).1,(true,(((((wsX ([]:List ByteArray) (y50000.1,(y50000.2.1,(y50000.2.2.1,((igt x1 16),y50000.2.2.2.2))))).2).2).2).2).2))))) (iadd .i64 (x1) 1))),((y50000.2.1.2.2.2.1),()))))])) (tkD (flD (stD (tkD (((wsX ([]:List ByteArray) (y50000.1,(y50000.2.1,(y50000.2.2.1,((igt x1 16),y50000.2.2.2.2))))).2).1,((((wsX ([]:List ByteArray) (y50000.1,(y50000.2.1,(y50000.2.2.1,((igt x1 16),y50000.2.2.2.2))))).2).2).1,(((((wsX ([]:List ByteArray) (y50000.1,(y50000.2.1,(y50000.2.2.1,((igt x1 16),y50000.2.2.2.2))))).2).2).2).1,(true,(((((wsX ([]:List ByteArray) (y50000.1,(y50000.2.1,(y50000.2.2.1,((igt x1 16),y50000.2.2.2.2))))).2).2).2).2).2))))) (iadd .i64 (x1) 1)))))
                   (none))
                  (none)))
                (none))
               (n_f94_1_4 x1 y5 y50000))
              (n_f94_1_4 x1 y5 y50000))
             (none))
            (none))
           (br ((flOk (((wsX ([]:List ByteArray) (y50000.1,(y50000.2.1,(y50000.2.2.1,((igt x1 16),y50000.2.2.2.2))))).2).1,((((wsX ([]:List ByteArray) (y50000.1,(y50000.2.1,(y50000.2.2.1,((igt x1 16),y50000.2.2.2.2))))).2).2).1,(((((wsX ([]:List ByteArray) (y50000.1,(y50000.2.1,(y50000.2.2.1,((igt x1 16),y50000.2.2.2.2))))).2).2).2).1,(true,(((((wsX ([]:List ByteArray) (y50000.1,(y50000.2.1,(y50000.2.2.1,((igt x1 16),y50000.2.2.2.2))))).2).2).2).2).2))))))
            (br ((ine ((((flD (((wsX ([]:List ByteArray) (y50000.1,(y50000.2.1,(y50000.2.2.1,((igt x1 16),y50000.2.2.2.2))))).2).1,((((wsX ([]:List ByteArray) (y50000.1,(y50000.2.1,(y50000.2.2.1,((igt x1 16),y50000.2.2.2.2))))).2).2).1,(((((wsX ([]:List ByteArray) (y50000.1,(y50000.2.1,(y50000.2.2.1,((igt x1 16),y50000.2.2.2.2))))).2).2).2).1,(true,(((((wsX ([]:List ByteArray) (y50000.1,(y50000.2.1,(y50000.2.2.1,((igt x1 16),y50000.2.2.2.2))))).2).2).2).2).2))))).2).2).1) 0))
             (some (.ret,st_f94_1_ret (y5) (flD (((wsX ([]:List ByteArray) (y50000.1,(y50000.2.1,(y50000.2.2.1,((igt x1 16),y50000.2.2.2.2))))).2).1,((((wsX ([]:List ByteArray) (y50000.1,(y50000.2.1,(y50000.2.2.1,((igt x1 16),y50000.2.2.2.2))))).2).2).1,(((((wsX ([]:List ByteArray) (y50000.1,(y50000.2.1,(y50000.2.2.1,((igt x1 16),y50000.2.2.2.2))))).2).2).2).1,(true,(((((wsX ([]:List ByteArray) (y50000.1,(y50000.2.1,(y50000.2.2.1,((igt x1 16),y50000.2.2.2.2))))).2).2).2).2).2)))))))
             (br ((lxOk2 (flD (((wsX ([]:List ByteArray) (y50000.1,(y50000.2.1,(y50000.2.2.1,((igt x1 16),y50000.2.2.2.2))))).2).1,((((wsX ([]:List ByteArray) (y50000.1,(y50000.2.1,(y50000.2.2.1,((igt x1 16),y50000.2.2.2.2))))).2).2).1,(((((wsX ([]:List ByteArray) (y50000.1,(y50000.2.1,(y50000.2.2.1,((igt x1 16),y50000.2.2.2.2))))).2).2).2).1,(true,(((((wsX ([]:List ByteArray) (y50000.1,(y50000.2.1,(y50000.2.2.1,((igt x1 16),y50000.2.2.2.2))))).2).2).2).2).2)))))))
              (br (cApp (y5) ([(((wsX ([]:List ByteArray) (y50000.1,(y50000.2.1,(y50000.2.2.1,((igt x1 16),y50000.2.2.2.2))))).1),((false),(([]:List Blk),((y50000.2.1.2.2.2.1),()))))]) 64)
               (lp_f94_1 (x1) ((y5)++([(((wsX ([]:List ByteArray) (y50000.1,(y50000.2.1,(y50000.2.2.1,((igt x1 16),y50000.2.2.2.2))))).1),((false),(([]:List Blk),((y50000.2.1.2.2.2.1),()))))])) (tkD (flD (((wsX ([]:List ByteArray) (y50000.1,(y50000.2.1,(y50000.2.2.1,((igt x1 16),y50000.2.2.2.2))))).2).1,((((wsX ([]:List ByteArray) (y50000.1,(y50000.2.1,(y50000.2.2.1,((igt x1 16),y50000.2.2.2.2))))).2).2).1,(((((wsX ([]:List ByteArray) (y50000.1,(y50000.2.1,(y50000.2.2.1,((igt x1 16),y50000.2.2.2.2))))).2).2).2).1,(true,(((((wsX ([]:List ByteArray) (y50000.1,(y50000.2.1,(y50000.2.2.1,((igt x1 16),y50000.2.2.2.2))))).2).2).2).2).2)))))))
               (none))
              (none)))
            (none))))
         (br ((ieq (((((wsX ([]:List ByteArray) (y50000.1,(y50000.2.1,(y50000.2.2.1,((igt x1 16),y50000.2.2.2.2))))).2).2).1).1) 59))
          (br ((ine (((((wsX ([]:List ByteArray) (y50000.1,(y50000.2.1,(y50000.2.2.1,((igt x1 16),y50000.2.2.2.2))))).2).2).2).1) 0))
           (some (.ret,st_f94_1_ret (y5) (((wsX ([]:List ByteArray) (y50000.1,(y50000.2.1,(y50000.2.2.1,((igt x1 16),y50000.2.2.2.2))))).2).1,((((wsX ([]:List ByteArray) (y50000.1,(y50000.2.1,(y50000.2.2.1,((igt x1 16),y50000.2.2.2.2))))).2).2).1,(((((wsX ([]:List ByteArray) (y50000.1,(y50000.2.1,(y50000.2.2.1,((igt x1 16),y50000.2.2.2.2))))).2).2).2).1,((igt (llen ((wsX ([]:List ByteArray) (y50000.1,(y50000.2.1,(y50000.2.2.1,((igt x1 16),y50000.2.2.2.2))))).1)) 64),(((((wsX ([]:List ByteArray) (y50000.1,(y50000.2.1,(y50000.2.2.1,((igt x1 16),y50000.2.2.2.2))))).2).2).2).2).2))))))
           (br ((lxOk2 (((wsX ([]:List ByteArray) (y50000.1,(y50000.2.1,(y50000.2.2.1,((igt x1 16),y50000.2.2.2.2))))).2).1,((((wsX ([]:List ByteArray) (y50000.1,(y50000.2.1,(y50000.2.2.1,((igt x1 16),y50000.2.2.2.2))))).2).2).1,(((((wsX ([]:List ByteArray) (y50000.1,(y50000.2.1,(y50000.2.2.1,((igt x1 16),y50000.2.2.2.2))))).2).2).2).1,((igt (llen ((wsX ([]:List ByteArray) (y50000.1,(y50000.2.1,(y50000.2.2.1,((igt x1 16),y50000.2.2.2.2))))).1)) 64),(((((wsX ([]:List ByteArray) (y50000.1,(y50000.2.1,(y50000.2.2.1,((igt x1 16),y50000.2.2.2.2))))).2).2).2).2).2))))))
            (br (cApp (y5) ([(((wsX ([]:List ByteArray) (y50000.1,(y50000.2.1,(y50000.2.2.1,((igt x1 16),y50000.2.2.2.2))))).1),((false),(([]:List Blk),((y50000.2.1.2.2.2.1),()))))]) 64)
             (lp_f94_1 (x1) ((y5)++([(((wsX ([]:List ByteArray) (y50000.1,(y50000.2.1,(y50000.2.2.1,((igt x1 16),y50000.2.2.2.2))))).1),((false),(([]:List Blk),((y50000.2.1.2.2.2.1),()))))])) (tkD (((wsX ([]:List ByteArray) (y50000.1,(y50000.2.1,(y50000.2.2.1,((igt x1 16),y50000.2.2.2.2))))).2).1,((((wsX ([]:List ByteArray) (y50000.1,(y50000.2.1,(y50000.2.2.1,((igt x1 16),y50000.2.2.2.2))))).2).2).1,(((((wsX ([]:List ByteArray) (y50000.1,(y50000.2.1,(y50000.2.2.1,((igt x1 16),y50000.2.2.2.2))))).2).2).2).1,((igt (llen ((wsX ([]:List ByteArray) (y50000.1,(y50000.2.1,(y50000.2.2.1,((igt x1 16),y50000.2.2.2.2))))).1)) 64),(((((wsX ([]:List ByteArray) (y50000.1,(y50000.2.1,(y50000.2.2.1,((igt x1 16),y50000.2.2.2.2))))).2).2).2).2).2))))))
             (none))
            (none)))
          (br ((ieq (((((wsX ([]:List ByteArray) (y50000.1,(y50000.2.1,(y50000.2.2.1,((igt x1 16),y50000.2.2.2.2))))).2).2).1).1) 123))
           (br ((lxOk2 (((wsX ([]:List ByteArray) (y50000.1,(y50000.2.1,(y50000.2.2.1,((igt x1 16),y50000.2.2.2.2))))).2).1,((((wsX ([]:List ByteArray) (y50000.1,(y50000.2.1,(y50000.2.2.1,((igt x1 16),y50000.2.2.2.2))))).2).2).1,(((((wsX ([]:List ByteArray) (y50000.1,(y50000.2.1,(y50000.2.2.1,((igt x1 16),y50000.2.2.2.2))))).2).2).2).1,((igt (llen ((wsX ([]:List ByteArray) (y50000.1,(y50000.2.1,(y50000.2.2.1,((igt x1 16),y50000.2.2.2.2))))).1)) 64),(((((wsX ([]:List ByteArray) (y50000.1,(y50000.2.1,(y50000.2.2.1,((igt x1 16),y50000.2.2.2.2))))).2).2).2).2).2))))))
            (br ((stS fuel (tkD (((wsX ([]:List ByteArray) (y50000.1,(y50000.2.1,(y50000.2.2.1,((igt x1 16),y50000.2.2.2.2))))).2).1,((((wsX ([]:List ByteArray) (y50000.1,(y50000.2.1,(y50000.2.2.1,((igt x1 16),y50000.2.2.2.2))))).2).2).1,(((((wsX ([]:List ByteArray) (y50000.1,(y50000.2.1,(y50000.2.2.1,((igt x1 16),y50000.2.2.2.2))))).2).2).2).1,((igt (llen ((wsX ([]:List ByteArray) (y50000.1,(y50000.2.1,(y50000.2.2.1,((igt x1 16),y50000.2.2.2.2))))).1)) 64),(((((wsX ([]:List ByteArray) (y50000.1,(y50000.2.1,(y50000.2.2.1,((igt x1 16),y50000.2.2.2.2))))).2).2).2).2).2))))) (iadd .i64 (x1) 1)))
             (br ((ieq ((((stD (tkD (((wsX ([]:List ByteArray) (y50000.1,(y50000.2.1,(y50000.2.2.1,((igt x1 16),y50000.2.2.2.2))))).2).1,((((wsX ([]:List ByteArray) (y50000.1,(y50000.2.1,(y50000.2.2.1,((igt x1 16),y50000.2.2.2.2))))).2).2).1,(((((wsX ([]:List ByteArray) (y50000.1,(y50000.2.1,(y50000.2.2.1,((igt x1 16),y50000.2.2.2.2))))).2).2).2).1,((igt (llen ((wsX ([]:List ByteArray) (y50000.1,(y50000.2.1,(y50000.2.2.1,((igt x1 16),y50000.2.2.2.2))))).1)) 64),(((((wsX ([]:List ByteArray) (y50000.1,(y50000.2.1,(y50000.2.2.1,((igt x1 16),y50000.2.2.2.2))))).2).2).2).2).2))))) (iadd .i64 (x1) 1)).2).2).1) 0))
              (br ((ine ((((stD (tkD (((wsX ([]:List ByteArray) (y50000.1,(y50000.2.1,(y50000.2.2.1,((igt x1 16),y50000.2.2.2.2))))).2).1,((((wsX ([]:List ByteArray) (y50000.1,(y50000.2.1,(y50000.2.2.1,((igt x1 16),y50000.2.2.2.2))))).2).2).1,(((((wsX ([]:List ByteArray) (y50000.1,(y50000.2.1,(y50000.2.2.1,((igt x1 16),y50000.2.2.2.2))))).2).2).2).1,((igt (llen ((wsX ([]:List ByteArray) (y50000.1,(y50000.2.1,(y50000.2.2.1,((igt x1 16),y50000.2.2.2.2))))).1)) 64),(((((wsX ([]:List ByteArray) (y50000.1,(y50000.2.1,(y50000.2.2.1,((igt x1 16),y50000.2.2.2.2))))).2).2).2).2).2))))) (iadd .i64 (x1) 1)).2).1).1) 125))
               (br ((flOk (stD (tkD (((wsX ([]:List ByteArray) (y50000.1,(y50000.2.1,(y50000.2.2.1,((igt x1 16),y50000.2.2.2.2))))).2).1,((((wsX ([]:List ByteArray) (y50000.1,(y50000.2.1,(y50000.2.2.1,((igt x1 16),y50000.2.2.2.2))))).2).2).1,(((((wsX ([]:List ByteArray) (y50000.1,(y50000.2.1,(y50000.2.2.1,((igt x1 16),y50000.2.2.2.2))))).2).2).2).1,((igt (llen ((wsX ([]:List ByteArray) (y50000.1,(y50000.2.1,(y50000.2.2.1,((igt x1 16),y50000.2.2.2.2))))).1)) 64),(((((wsX ([]:List ByteArray) (y50000.1,(y50000.2.1,(y50000.2.2.1,((igt x1 16),y50000.2.2.2.2))))).2).2).2).2).2))))) (iadd .i64 (x1) 1))))
                (br ((ine ((((flD (stD (tkD (((wsX ([]:List ByteArray) (y50000.1,(y50000.2.1,(y50000.2.2.1,((igt x1 16),y50000.2.2.2.2))))).2).1,((((wsX ([]:List ByteArray) (y50000.1,(y50000.2.1,(y50000.2.2.1,((igt x1 16),y50000.2.2.2.2))))).2).2).1,(((((wsX ([]:List ByteArray) (y50000.1,(y50000.2.1,(y50000.2.2.1,((igt x1 16),y50000.2.2.2.2))))).2).2).2).1,((igt (llen ((wsX ([]:List ByteArray) (y50000.1,(y50000.2.1,(y50000.2.2.1,((igt x1 16),y50000.2.2.2.2))))).1)) 64),(((((wsX ([]:List ByteArray) (y50000.1,(y50000.2.1,(y50000.2.2.1,((igt x1 16),y50000.2.2.2.2))))).2).2).2).2).2))))) (iadd .i64 (x1) 1))).2).2).1) 0))
                 (some (.ret,st_f94_1_ret (y5) (flD (stD (tkD (((wsX ([]:List ByteArray) (y50000.1,(y50000.2.1,(y50000.2.2.1,((igt x1 16),y50000.2.2.2.2))))).2).1,((((wsX ([]:List ByteArray) (y50000.1,(y50000.2.1,(y50000.2.2.1,((igt x1 16),y50000.2.2.2.2))))).2).2).1,(((((wsX ([]:List ByteArray) (y50000.1,(y50000.2.1,(y50000.2.2.1,((igt x1 16),y50000.2.2.2.2))))).2).2).2).1,((igt (llen ((wsX ([]:List ByteArray) (y50000.1,(y50000.2.1,(y50000.2.2.1,((igt x1 16),y50000.2.2.2.2))))).1)) 64),(((((wsX ([]:List ByteArray) (y50000.1,(y50000.2.1,(y50000.2.2.1,((igt x1 16),y50000.2.2.2.2))))).2).2).2).2).2))))) (iadd .i64 (x1) 1)))))
                 (br ((lxOk2 (flD (stD (tkD (((wsX ([]:List ByteArray) (y50000.1,(y50000.2.1,(y50000.2.2.1,((igt x1 16),y50000.2.2.2.2))))).2).1,((((wsX ([]:List ByteArray) (y50000.1,(y50000.2.1,(y50000.2.2.1,((igt x1 16),y50000.2.2.2.2))))).2).2).1,(((((wsX ([]:List ByteArray) (y50000.1,(y50000.2.1,(y50000.2.2.1,((igt x1 16),y50000.2.2.2.2))))).2).2).2).1,((igt (llen ((wsX ([]:List ByteArray) (y50000.1,(y50000.2.1,(y50000.2.2.1,((igt x1 16),y50000.2.2.2.2))))).1)) 64),(((((wsX ([]:List ByteArray) (y50000.1,(y50000.2.1,(y50000.2.2.1,((igt x1 16),y50000.2.2.2.2))))).2).2).2).2).2))))) (iadd .i64 (x1) 1)))))
                  (br (cApp (y5) ([(((wsX ([]:List ByteArray) (y50000.1,(y50000.2.1,(y50000.2.2.1,((igt x1 16),y50000.2.2.2.2))))).1),(true,((List.map Blk.of (stF (tkD (((wsX ([]:List ByteArray) (y50000.1,(y50000.2.1,(y50000.2.2.1,((igt x1 16),y50000.2.2.2.2))))).2).1,((((wsX ([]:List ByteArray) (y50000.1,(y50000.2.1,(y50000.2.2.1,((igt x1 16),y50000.2.2.2.2))))).2).2).1,(((((wsX ([]:List ByteArray) (y50000.1,(y50000.2.1,(y50000.2.2.1,((igt x1 16),y50000.2.2.2.2))))).2).2).2).1,((igt (llen ((wsX ([]:List ByteArray) (y50000.1,(y50000.2.1,(y50000.2.2.1,((igt x1 16),y50000.2.2.2.2))))).1)) 64),(((((wsX ([]:List ByteArray) (y50000.1,(y50000.2.1,(y50000.2.2.1,((igt x1 16),y50000.2.2.2.2))))).2).2).2).2).2))))) (iadd .i64 (x1) 1))),((y50000.2.1.2.2.2.1),()))))]) 64)
                   (lp_f94_1 (x1) ((y5)++([(((wsX ([]:List ByteArray) (y50000.1,(y50000.2.1,(y50000.2.2.1,((igt x1 16),y50000.2.2.2.2))))).1),(true,((List.map Blk.of (stF (tkD (((wsX ([]:List ByteArray) (y50000.1,(y50000.2.1,(y50000.2.2.1,((igt x1 16),y50000.2.2.2.2))))).2).1,((((wsX ([]:List ByteArray) (y50000.1,(y50000.2.1,(y50000.2.2.1,((igt x1 16),y50000.2.2.2.2))))).2).2).1,(((((wsX ([]:List ByteArray) (y50000.1,(y50000.2.1,(y50000.2.2.1,((igt x1 16),y50000.2.2.2.2))))).2).2).2).1,((igt (llen ((wsX ([]:List ByteArray) (y50000.1,(y50000.2.1,(y50000.2.2.1,((igt x1 16),y50000.2.2.2.2))))).1)) 64),(((((wsX ([]:List ByteArray) (y50000.1,(y50000.2.1,(y50000.2.2.1,((igt x1 16),y50000.2.2.2.2))))).2).2).2).2).2))))) (iadd .i64 (x1) 1))),((y50000.2.1.2.2.2.1),()))))])) (tkD (flD (stD (tkD (((wsX ([]:List ByteArray) (y50000.1,(y50000.2.1,(y50000.2.2.1,((igt x1 16),y50000.2.2.2.2))))).2).1,((((wsX ([]:List ByteArray) (y50000.1,(y50000.2.1,(y50000.2.2.1,((igt x1 16),y50000.2.2.2.2))))).2).2).1,(((((wsX ([]:List ByteArray) (y50000.1,(y50000.2.1,(y50000.2.2.1,((igt x1 16),y50000.2.2.2.2))))).2).2).2).1,((igt (llen ((wsX ([]:List ByteArray) (y50000.1,(y50000.2.1,(y50000.2.2.1,((igt x1 16),y50000.2.2.2.2))))).1)) 64),(((((wsX ([]:List ByteArray) (y50000.1,(y50000.2.1,(y50000.2.2.1,((igt x1 16),y50000.2.2.2.2))))).2).2).2).2).2))))) (iadd .i64 (x1) 1)))))
                   (none))
                  (none)))
                (none))
               (n_f94_1_5 x1 y5 y50000))
              (n_f94_1_5 x1 y5 y50000))
             (none))
            (none))
           (br ((flOk (((wsX ([]:List ByteArray) (y50000.1,(y50000.2.1,(y50000.2.2.1,((igt x1 16),y50000.2.2.2.2))))).2).1,((((wsX ([]:List ByteArray) (y50000.1,(y50000.2.1,(y50000.2.2.1,((igt x1 16),y50000.2.2.2.2))))).2).2).1,(((((wsX ([]:List ByteArray) (y50000.1,(y50000.2.1,(y50000.2.2.1,((igt x1 16),y50000.2.2.2.2))))).2).2).2).1,((igt (llen ((wsX ([]:List ByteArray) (y50000.1,(y50000.2.1,(y50000.2.2.1,((igt x1 16),y50000.2.2.2.2))))).1)) 64),(((((wsX ([]:List ByteArray) (y50000.1,(y50000.2.1,(y50000.2.2.1,((igt x1 16),y50000.2.2.2.2))))).2).2).2).2).2))))))
            (br ((ine ((((flD (((wsX ([]:List ByteArray) (y50000.1,(y50000.2.1,(y50000.2.2.1,((igt x1 16),y50000.2.2.2.2))))).2).1,((((wsX ([]:List ByteArray) (y50000.1,(y50000.2.1,(y50000.2.2.1,((igt x1 16),y50000.2.2.2.2))))).2).2).1,(((((wsX ([]:List ByteArray) (y50000.1,(y50000.2.1,(y50000.2.2.1,((igt x1 16),y50000.2.2.2.2))))).2).2).2).1,((igt (llen ((wsX ([]:List ByteArray) (y50000.1,(y50000.2.1,(y50000.2.2.1,((igt x1 16),y50000.2.2.2.2))))).1)) 64),(((((wsX ([]:List ByteArray) (y50000.1,(y50000.2.1,(y50000.2.2.1,((igt x1 16),y50000.2.2.2.2))))).2).2).2).2).2))))).2).2).1) 0))
             (some (.ret,st_f94_1_ret (y5) (flD (((wsX ([]:List ByteArray) (y50000.1,(y50000.2.1,(y50000.2.2.1,((igt x1 16),y50000.2.2.2.2))))).2).1,((((wsX ([]:List ByteArray) (y50000.1,(y50000.2.1,(y50000.2.2.1,((igt x1 16),y50000.2.2.2.2))))).2).2).1,(((((wsX ([]:List ByteArray) (y50000.1,(y50000.2.1,(y50000.2.2.1,((igt x1 16),y50000.2.2.2.2))))).2).2).2).1,((igt (llen ((wsX ([]:List ByteArray) (y50000.1,(y50000.2.1,(y50000.2.2.1,((igt x1 16),y50000.2.2.2.2))))).1)) 64),(((((wsX ([]:List ByteArray) (y50000.1,(y50000.2.1,(y50000.2.2.1,((igt x1 16),y50000.2.2.2.2))))).2).2).2).2).2)))))))
             (br ((lxOk2 (flD (((wsX ([]:List ByteArray) (y50000.1,(y50000.2.1,(y50000.2.2.1,((igt x1 16),y50000.2.2.2.2))))).2).1,((((wsX ([]:List ByteArray) (y50000.1,(y50000.2.1,(y50000.2.2.1,((igt x1 16),y50000.2.2.2.2))))).2).2).1,(((((wsX ([]:List ByteArray) (y50000.1,(y50000.2.1,(y50000.2.2.1,((igt x1 16),y50000.2.2.2.2))))).2).2).2).1,((igt (llen ((wsX ([]:List ByteArray) (y50000.1,(y50000.2.1,(y50000.2.2.1,((igt x1 16),y50000.2.2.2.2))))).1)) 64),(((((wsX ([]:List ByteArray) (y50000.1,(y50000.2.1,(y50000.2.2.1,((igt x1 16),y50000.2.2.2.2))))).2).2).2).2).2)))))))
              (br (cApp (y5) ([(((wsX ([]:List ByteArray) (y50000.1,(y50000.2.1,(y50000.2.2.1,((igt x1 16),y50000.2.2.2.2))))).1),((false),(([]:List Blk),((y50000.2.1.2.2.2.1),()))))]) 64)
               (lp_f94_1 (x1) ((y5)++([(((wsX ([]:List ByteArray) (y50000.1,(y50000.2.1,(y50000.2.2.1,((igt x1 16),y50000.2.2.2.2))))).1),((false),(([]:List Blk),((y50000.2.1.2.2.2.1),()))))])) (tkD (flD (((wsX ([]:List ByteArray) (y50000.1,(y50000.2.1,(y50000.2.2.1,((igt x1 16),y50000.2.2.2.2))))).2).1,((((wsX ([]:List ByteArray) (y50000.1,(y50000.2.1,(y50000.2.2.1,((igt x1 16),y50000.2.2.2.2))))).2).2).1,(((((wsX ([]:List ByteArray) (y50000.1,(y50000.2.1,(y50000.2.2.1,((igt x1 16),y50000.2.2.2.2))))).2).2).2).1,((igt (llen ((wsX ([]:List ByteArray) (y50000.1,(y50000.2.1,(y50000.2.2.1,((igt x1 16),y50000.2.2.2.2))))).1)) 64),(((((wsX ([]:List ByteArray) (y50000.1,(y50000.2.1,(y50000.2.2.1,((igt x1 16),y50000.2.2.2.2))))).2).2).2).2).2)))))))
               (none))
              (none)))
            (none)))))
        (none)))))
    (some (.exit 0,st_f94_1_e0 y5 y50000)))
   (some (.exit 0,st_f94_1_e0 y5 y50000)))
  (some (.exit 0,st_f94_1_e0 y5 y50000))
def la_f94_1 (x1:Int)(y5:(List BlkT))(y50000:ParserXX):Option (Exit×VS):=br (stBad x1 y5 y50000) (some (.ret,st_f94_1_ret ((stX x1 y5 y50000).1) ((stX x1 y5 y50000).2)))<|some (.exit 0,st_f94_1_e0 ((stX x1 y5 y50000).1) ((stX x1 y5 y50000).2))
theorem be_f94_1 (x1:Int)(y5:(List BlkT))(y50000:ParserXX):roundF g_f94 fg_f94_1 tb_f94_1 (st_f94_1 x1 y5 y50000)=b_f94_1 x1 y5 y50000:=by kernel_rfl
theorem ln_f94_1 (x1:Int)(y5:(List BlkT))(y50000:ParserXX):lp_f94_1 x1 y5 y50000=n_f94_1 x1 y5 y50000:=(loopF_nxt _ _).trans (by
 rw [be_f94_1]
 simp only [b_f94_1,b_f94_1_1,b_f94_1_2,b_f94_1_3,b_f94_1_4,b_f94_1_5,n_f94_1,n_f94_1_1,n_f94_1_2,n_f94_1_3,n_f94_1_4,n_f94_1_5,nxt_br,nxt_n,nxt_r,nxt_e,nxt_0]
 rfl)
def r_f94 (d0:ParserXX)(p1:Int):Option (V×List VO):=
 br ((sw1 p1 ([]:List BlkT) d0))
  (br ((stBad p1 ([]:List BlkT) d0))
   (some (.t (.sl tyBlkT) ([]:List BlkT),[.box (.t tyParserXX ((stX p1 ([]:List BlkT) d0).2))]))
   (some (.t (.sl tyBlkT) ((stX p1 ([]:List BlkT) d0).1),[.box (.t tyParserXX ((stX p1 ([]:List BlkT) d0).2))])))
  (none)
theorem e_f94 (d0:ParserXX)(p1:Int):runF g_f94 tc_f94 rv_f94 false [.ptr 50000 0,.t tI p1] [.box (.t tyParserXX d0)]=r_f94 d0 p1:=by kernel_rfl
theorem ok_f94:Option.map (trC Tryd.prog) Tryd.f94.body=some tc_f94.er:=by kernel_rfl
theorem rok_f94:trVs Tryd.prog Tryd.f94.results.toList=some (rv_f94.map Prod.fst):=by kernel_rfl
theorem gk_f94:GOk Tryd.prog g_f94:=gok_of _ (by
 intro p hp
 simp only [List.mem_cons,List.not_mem_nil,or_false] at hp
 rcases hp with rfl|rfl|rfl
 ·exact ⟨en_f93,ms_f93⟩
 ·exact ⟨en_f94R,ms_f94R⟩
 ·exact ⟨en_f95,ms_f95⟩)
theorem l_f94_0 (x1:Int)(y5:(List BlkT))(y6_1:Bool)(y6_3:Int)(y20600:(List ByteArray))(y50000:ParserXX)(h:(sw0 y20600 y50000)=true):lp_f94_0 x1 y5 y6_1 y6_3 y20600 y50000=la_f94_0 x1 y5 y6_1 y6_3 y20600 y50000:=by
 obtain ⟨h1,h2⟩:=Bool.and_eq_true_iff.1 h
 have h2:=cP_of h2
 clear h
 obtain ⟨k1,k2,k3,_⟩:=cP_of h1
 have hr:rmX y50000<=1000000:=by unfold rmX;omega
 have key: ∀ (m:Nat) (ws:List ByteArray) (x:ParserXX),lxOk2 x=true->rmX x<=m->ws.length+rmX x<=2000001->lp_f94_0 x1 y5 y6_1 y6_3 ws x=some (.exit 2,st_f94_0_e2 x1 y5 y6_1 y6_3 (wsX ws x).1 (wsX ws x).2):=by
  intro m
  induction m with
  |zero=>
   intro ws x hx hm hl
   rw [ln_f94_0]
   unfold n_f94_0
   cases hq:ieq x.2.1.1 119 with
   |false=>
    rw [br_false,wsX_not hq]
   |true=>
    have ht:=tk_ok hx
    rw [br_true,cAppN (by omega) (by simp only [List.length_singleton];omega),br_true,hx,br_true,wsX_word hx hq]
    have hn:ieq (tkD x).2.1.1 119=false:=by
     cases hn:ieq (tkD x).2.1.1 119 with
     |false=>rfl
     |true=>have:=ht.adv (.inl (eq_of_beq hn));omega
    rw [wsX_not hn,ln_f94_0]
    unfold n_f94_0
    rw [hn,br_false]
  |succ m ih=>
   intro ws x hx hm hl
   rw [ln_f94_0]
   unfold n_f94_0
   cases hq:ieq x.2.1.1 119 with
   |false=>
    rw [br_false,wsX_not hq]
   |true=>
    have ht:=tk_ok hx
    rw [br_true,cAppN (by omega) (by simp only [List.length_singleton];omega),br_true,hx,br_true,wsX_word hx hq]
    cases hn:ieq (tkD x).2.1.1 119 with
    |false=>
     rw [wsX_not hn,ln_f94_0]
     unfold n_f94_0
     rw [hn,br_false]
    |true=>
     have:=ht.adv (.inl (eq_of_beq hn))
     exact ih _ _ ht.ok (by omega) (by rw [List.length_append,List.length_singleton];omega)
 exact key _ y20600 y50000 h1 (Nat.le_refl _) (by omega)
theorem l_f94_1 (x1:Int)(y5:(List BlkT))(y50000:ParserXX)(h:(sw1 x1 y5 y50000)=true):lp_f94_1 x1 y5 y50000=la_f94_1 x1 y5 y50000:=by
 obtain ⟨h1,h2⟩:=Bool.and_eq_true_iff.1 h
 obtain ⟨h2,h3,h4,h5⟩:=cP_of h2
 clear h
 have key: ∀ (m:Nat) (acc:List BlkT) (x:ParserXX),okR x=true->rmX x<=m->rmX x<=fuel->x1+rmX x<=2000000->acc.length+rmX x<=2000000->lp_f94_1 x1 acc x=la_f94_1 x1 acc x:=by
  intro m
  induction m using Nat.strongRecOn with
  |ind m ih=>
   intro acc x hx hm hf hlv hac
   rw [ln_f94_1]
   unfold la_f94_1 stBad
   rw [stX_eq hx]
   simp only [n_f94_1,n_f94_1_1,n_f94_1_2,n_f94_1_3,n_f94_1_4,n_f94_1_5]
   cases h0:ieq x.2.2.1 0 with
   |false=>rfl
   |true=>
    rw [br_true]
    cases hs0:ine x.2.1.1 0 with
    |false=>
     rw [br_false]
     simp only [Bool.false_and,Bool.and_false,Bool.not_false,cond_true]
     rw [show ine x.2.2.1 0= !ieq x.2.2.1 0 from rfl,h0]
     rfl
    |true=>
     rw [br_true]
     cases hs1:ine x.2.1.1 125 with
     |false=>
      rw [br_false]
      simp only [Bool.false_and,Bool.and_false,Bool.not_false,cond_true]
      rw [show ine x.2.2.1 0= !ieq x.2.2.1 0 from rfl,h0]
      rfl
     |true=>
      rw [br_true]
      simp only [Bool.and_self,Bool.not_true,cond_false]
      cases hs2:ine x.2.1.1 119 with
      |true=>
       simp only [Bool.true_or,cond_true,br_true,flOk_of hx,fl_err hx]
       rfl
      |false=>
       cases hp:x.2.1.2.2.1 with
       |false=>
        simp only [Bool.not_false,Bool.or_true,cond_true,br_true,br_false,flOk_of hx,fl_err hx]
        rfl
       |true=>
        simp only [Bool.not_true,Bool.or_false,cond_false,br_false]
        have hq:ieq x.2.1.1 119=true:=by
         cases hz:ieq x.2.1.1 119 with
         |true=>rfl
         |false=>
          rw [show ine x.2.1.1 119= !ieq x.2.1.1 119 from rfl,hz] at hs2
          cases hs2
        obtain ⟨y1,y2⟩:=hd_ok (lv:=x1) hx
        have ya:=hd_adv (lv:=x1) hx hq
        have hsw:sw0 [] (dS (igt x1 16) x)=true:=Bool.and_eq_true_iff.2 ⟨okR_lx (okR_dS hx),cP_in (Nat.zero_le _)⟩
        have d1:x.2.2.2.1=true->((x.1,(x.2.1,(x.2.2.1,(true,x.2.2.2.2)))):ParserXX)=dS (igt x1 16) x:=fun h=>by unfold dS;rw [h];rfl
        have d2:x.2.2.2.1=false->((x.1,(x.2.1,(x.2.2.1,((igt x1 16),x.2.2.2.2)))):ParserXX)=dS (igt x1 16) x:=fun h=>by unfold dS;rw [h];rfl
        have ye:ieq (hdX x1 x).2.2.1 0=true:=by
         have:(hdX x1 x).2.2.1=x.2.2.1:=congrArg (fun q=>q.1) (wsX_ok _ [] (dS (igt x1 16) x) (okR_lx (okR_dS hx)) (Nat.le_refl _)).2.2.1
         rw [this]
         exact h0
        have e1:(wsX [] (dS (igt x1 16) x)).2.2.2.2.1=true->(((wsX [] (dS (igt x1 16) x)).2.1,((wsX [] (dS (igt x1 16) x)).2.2.1,((wsX [] (dS (igt x1 16) x)).2.2.2.1,(true,(wsX [] (dS (igt x1 16) x)).2.2.2.2.2)))):ParserXX)=hdX x1 x:=fun h=>by unfold hdX;rw [dS.eq_def (igt (llen _) 64),h];rfl
        have e2:(wsX [] (dS (igt x1 16) x)).2.2.2.2.1=false->(((wsX [] (dS (igt x1 16) x)).2.1,((wsX [] (dS (igt x1 16) x)).2.2.1,((wsX [] (dS (igt x1 16) x)).2.2.2.1,((igt (llen (wsX [] (dS (igt x1 16) x)).1) 64),(wsX [] (dS (igt x1 16) x)).2.2.2.2.2)))):ParserXX)=hdX x1 x:=fun h=>by unfold hdX;rw [dS.eq_def (igt (llen _) 64),h];rfl
        cases hdeep:x.2.2.2.1<;>cases hd2:(wsX [] (dS (igt x1 16) x)).2.2.2.2.1
        all_goals first
         |rw [d1 hdeep,hsw,br_true,br_true,hd2,br_true,e1 hd2]
         |rw [d1 hdeep,hsw,br_true,br_true,hd2,br_false,e2 hd2]
         |rw [d2 hdeep,hsw,br_false,br_true,hd2,br_true,e1 hd2]
         |rw [d2 hdeep,hsw,br_false,br_true,hd2,br_false,e2 hd2]
        all_goals rw [show (wsX [] (dS (igt x1 16) x)).2.2.1.1=(hdX x1 x).2.1.1 from rfl,show (wsX [] (dS (igt x1 16) x)).2.2.2.1=(hdX x1 x).2.2.1 from rfl]
        all_goals clear e1 e2 d1 d2 hsw hd2
        all_goals generalize (wsX [] (dS (igt x1 16) x)).1=ws
        all_goals generalize hdX x1 x=y at y1 y2 ya ye ⊢
        all_goals (
         have yl:=okR_lx y1
         have tk:=rm_tk y1
         have tke:ieq (tkD y).2.2.1 0=true:=by rw [(tk_ok yl).rest];exact ye
         have yn:ine y.2.2.1 0=false:=by rw [show ine y.2.2.1 0= !ieq y.2.2.1 0 from rfl,ye];rfl
         have ca: ∀ e:BlkT,cApp acc [e] 64=true:=fun e=>cAppN (by omega) (by simp only [List.length_singleton];omega)
         have ex:iadd .i64 x1 1=x1+1:=iadd_in (by omega)
         unfold stB
         cases h59:ieq y.2.1.1 59 with
         |true=>
          have hr:=ya (.inl (eq_of_beq h59))
          simp only [br_true,cond_true,yn,br_false,yl,ca,Bool.true_and]
          rw [ih (rmX (tkD y)) (by omega) _ _ (okR_tk y1) (Nat.le_refl _) (by omega) (by omega) (by rw [List.length_append,List.length_singleton];omega)]
          unfold la_f94_1 stBad
          rw [tke,Bool.true_and]
         |false=>
          simp only [br_false,cond_false]
          cases h123:ieq y.2.1.1 123 with
          |false=>
           simp only [br_false,cond_false,flOk_of y1,fl_err y1,br_true,Bool.true_and]
          |true=>
           have hr:=ya (.inr (eq_of_beq h123))
           have hs:stS fuel (tkD y) (x1+1)=true:=by
            cases hfu:fuel with
            |zero=>omega
            |succ n=>exact Bool.and_eq_true_iff.2 ⟨okR_tk y1,cP_in ⟨by omega,by omega,by omega⟩⟩
           obtain ⟨g1,g2⟩:=stG_ok (rmX (tkD y)+1) (x1+1) [] (tkD y) (okR_tk y1)
           have g1:okR (stD (tkD y) (x1+1))=true:=g1
           have g2:rmX (stD (tkD y) (x1+1))<=rmX (tkD y):=g2
           have ei:stX (x1+1) [] (tkD y)=((stX (x1+1) [] (tkD y)).1,stD (tkD y) (x1+1)):=rfl
           have ef:stF (tkD y) (x1+1)=bif ine (stD (tkD y) (x1+1)).2.2.1 0 then [] else (stX (x1+1) [] (tkD y)).1:=by
            unfold stF stBad
            rw [tke]
            rfl
           rw [ex,ei,ef]
           unfold stC
           generalize (stX (x1+1) [] (tkD y)).1=il
           generalize stD (tkD y) (x1+1)=z at g1 g2 ⊢
           have zt:=rm_tk g1
           simp only [br_true,cond_true,yl,hs]
           cases hz:ieq z.2.2.1 0 with
           |false=>
            have hz2:ine z.2.2.1 0=true:=by rw [show ine z.2.2.1 0= !ieq z.2.2.1 0 from rfl,hz];rfl
            simp only [br_false,hz2,br_true,cond_true,Bool.true_and]
           |true=>
            have hz2:ine z.2.2.1 0=false:=by rw [show ine z.2.2.1 0= !ieq z.2.2.1 0 from rfl,hz];rfl
            have zke:ieq (tkD z).2.2.1 0=true:=by rw [(tk_ok (okR_lx g1)).rest];exact hz
            simp only [hz2,br_true,br_false,cond_false]
            cases ine z.2.1.1 125 with
            |true=>
             simp only [br_true,cond_true,flOk_of g1,fl_err g1,Bool.true_and]
            |false=>
             simp only [br_false,cond_false,okR_lx g1,ca,br_true,Bool.true_and]
             rw [ih (rmX (tkD z)) (by omega) _ _ (okR_tk g1) (Nat.le_refl _) (by omega) (by omega) (by rw [List.length_append,List.length_singleton];omega)]
             unfold la_f94_1 stBad
             rw [zke,Bool.true_and])
 exact key _ y5 y50000 h1 (Nat.le_refl _) h2 h4 (by obtain ⟨k1,k2,k3,_⟩:=cP_of (okR_lx h1);unfold rmX;omega)
theorem lo_f94_0: ∀ S l p,g_f94.L 0 (fgt fg_f94_0 S)=some (true,l)->pickA l=some p->loopF (roundF g_f94 fg_f94_0 tb_f94_0) S=some p:=
 lok_of (s:=sh_f94_0) ⟨by decide,by decide⟩ (by kernel_rfl) fun x y hok p hp=>by
 simp only [pickA_br,pickA_one] at hp
 exact (l_f94_0 x.2.1 y.1 y.2.1.2.1 y.2.1.2.2.2.1 y.2.2.2.2.1 y.2.2.2.2.2.1 (by simpa using hok)).trans hp
theorem lo_f94_1: ∀ S l p,g_f94.L 1 (fgt fg_f94_1 S)=some (true,l)->pickA l=some p->loopF (roundF g_f94 fg_f94_1 tb_f94_1) S=some p:=
 lok_of (s:=sh_f94_1) ⟨by decide,by decide⟩ (by kernel_rfl) fun x y hok p hp=>by
 simp only [pickA_br,pickA_one] at hp
 exact (l_f94_1 x.2.1 y.1 y.2.2.1 (by simpa using hok)).trans hp
theorem lk_f94:tc_f94.lok g_f94:=by
 repeat (first|exact trivial|exact lo_f94_0|exact lo_f94_1|refine ⟨?_, ?_⟩)
theorem s_f94 (x:ParserXX)(lv:Int)(h:stS (fuel+1) x lv=true):r_f94 x lv=some (.t (.sl tyBlkT) (stF x lv),[.box (.t tyParserXX (stD x lv))]):=by
 obtain ⟨h1,h2⟩:=Bool.and_eq_true_iff.1 h
 obtain ⟨h2,h3,h4⟩:=cP_of h2
 unfold r_f94 stF stD
 refine brY (Bool.and_eq_true_iff.2 ⟨h1,cP_in ⟨h2,h3,h4,Nat.zero_le _⟩⟩) ?_
 cases stBad lv [] x<;>rfl
theorem mr_f94:Meets Tryd.prog 94 (runF g_f94 tc_f94 rv_f94 false):=by
 obtain ⟨c,hc,hi⟩:=Option.map_eq_some_iff.1 ok_f94
 exact meets_of (by decide) Tryd.func94 hc hi Tryd.ntmps94 rok_f94 gk_f94 lk_f94 mixed
end
theorem ma_ref07_parser_statements: ∀ N:Nat,Meets Tryd.prog 94 (strip (@sp_f94R ⟨N⟩))
 |0=>meets_zeroP fun d x=>by first|rfl|simp [stS]
 |N+1=>by
  letI:Fuel:=⟨N⟩
  haveI:Nonempty (PLift (Meets Tryd.prog 94 (strip sp_f94R))):=⟨⟨ma_ref07_parser_statements N⟩⟩
  exact meets_specP mr_f94 rfl fun d x hok=>(e_f94 d x.1).trans (s_f94 d x.1 hok)
def sp_f94:Ent:=specP tyParserXX (.pr tI .nil) (fun d x=>(stOk d x.1)) (fun d x=>(.t (.sl tyBlkT) (stF d x.1))) (fun d x=>(stD d x.1))
theorem ms_f94:Meets Tryd.prog 94 (strip sp_f94):=meets_fuelP ma_ref07_parser_statements fun d x hok=>fuel_ref07_parser_statements d x.1 hok
end
end Go.Proofs.YtkkoedniahnneaaDoor.K
namespace Go.Proofs.YtkkoedniahnneaaDoor.K
open Go.RowKit
noncomputable section
set_option linter.unusedSectionVars false
def psX (s:ByteArray):ParserXX:=((s,(0,(1,(false,())))),((0,(ByteArray.mk #[],(false,(0,())))),(0,(false,()))))
def psY (s:ByteArray):ParserXX:=stD (tkD (psX s)) 1
def psZ (s:ByteArray):ParserXX:=bif ieq (psY s).2.2.1 0&&ine (psY s).2.1.1 0 then flD (psY s) else psY s
def paB (s:ByteArray):List BlkT×(Int×Int):=bif igt (slen s) 8192 then ([],(0,3)) else bif igt (endN s) 200 then ([],(0,3)) else
 bif ine (psZ s).2.2.1 0 then ([],((psZ s).2.2.1,1)) else bif (psZ s).2.2.2.1 then ([],(0,3)) else (stF (tkD (psX s)) 1,(0,0))
def paOk (s:ByteArray):Bool:=nameG s
theorem okR_ps {s:ByteArray}(h:s.size<=8192):okR (tkD (psX s))=true/\rmX (tkD (psX s))<=8192/\lxOk2 (psX s)=true:=by
 have h0:lxOk2 (psX s)=true:=cP_in ⟨Int.le_refl 0,by show (0:Int)<=(s.size:Int);omega,by show s.size<=1000000;omega,by show (0:Int)<=1;omega,by show (1:Int)<=0+1;omega⟩
 have hu:=nx_up (x:=psX s)
 have hu:(1:Int)<=(nxD (psX s)).1.2.2.1:=hu
 have hl:=nx_line (psX s)
 have ht:=tk_ok h0
 have hr:rmX (psX s)<=8192:=by
  show ((s.size:Int)-0).toNat<=8192
  omega
 refine ⟨Bool.and_eq_true_iff.2 ⟨ht.ok,cP_in ⟨hu, ?_⟩⟩,by have:=ht.rm;omega,h0⟩
 show 1<=(nxF (psX s)).2.2.2.1
 omega
def dr_f53_0:List DO:=[(.mk (oV 43 5) []),(.mk (oP 44 (.nc (.t 43))) [0]),(.mk (oP 45 (.fa 8 (.t 44))) [1]),(.mk (oL 46 45) [2]),(.mk (oP 2 (.mv (.c (.v (.slice none 0 0))))) []),(.mk (oV 3 46) [3,4,0,1,2,3,4]),(.mk (oP 4 (.mv (cI 1))) [5,0,1,2,3,4,5])]
def tc_f53:TC:=(.sq (.reg [(oP 2 (.mv (.c (.v (.slice none 0 0))))),(oP 3 (.mv (cI 0))),(oP 4 (.mv (cI 0)))]) (.sq (.sq (.reg [(oV 7 0),(oP 8 (.len true (.t 7))),(oP 9 (.bin false .gtr (.t 8) (cI 8192))),(oV 10 9),(oQ 11 10 false (.mv (.t 0))),(oG 12 10 false (.call 58 [(.t 11)])),(oQ 13 10 false (.bin false .gtr (.t 12) (cI 200))),(oP 14 (.pick (.t 10) (cB true) (.t 13)))]) (.cd (.t 14) (.sq (.reg [(oP 2 (.mv (.c (.v (.slice none 0 0))))),(oP 3 (.mv (cI 0))),(oP 4 (.mv (cI 3)))]) .rt) .sk)) (.sq (.reg [(oV 15 0),(oP 16 (.bd [(.v (.string (ByteArray.mk #[]))),(.v (.int .i64 0)),(.v (.int .i64 0)),(.v (.bool false))] [(0,1,(.t 15)),(2,1,(cI 1))])),(oP 17 (.bd [(.v (.string (ByteArray.mk #[]))),(.v (.int .i64 0)),(.v (.int .i64 0)),(.v (.bool false)),(.v (.int .u8 0)),(.v (.string (ByteArray.mk #[]))),(.v (.bool false)),(.v (.int .i64 0)),(.v (.int .i64 0)),(.v (.bool false))] [(0,4,(.t 16))])),(oM 18 (.box (.t 17))),(oV 5 18)]) (.sq (.reg [(oV 19 5),(oC 20 93 [(.t 19)])]) (.sq (.reg [(oV 21 5),(oC 22 94 [(.t 21),(cI 1)]),(oV 6 22)]) (.sq (.sq (.reg [(oV 23 5),(oP 24 (.nc (.t 23))),(oP 25 (.fa 8 (.t 24))),(oL 26 25),(oP 27 (.bin false .eql (.t 26) (cI 0))),(oV 28 27),(oQ 29 28 true (.mv (.t 5))),(oQ 30 28 true (.nc (.t 29))),(oQ 31 28 true (.fa 4 (.t 30))),(oQ 32 28 true (.fa 0 (.t 31))),(oG 33 28 true (.m (.ld false 1 (.t 32)))),(oQ 34 28 true (.bin false .neq (.t 33) (.c (.v (.int .u8 0))))),(oP 35 (.pick (.t 28) (.t 34) (cB false)))]) (.cd (.t 35) (.reg [(oV 36 5),(oC 37 95 [(.t 36)])]) .sk)) (.sq (.sq (.reg [(oV 38 5),(oP 39 (.nc (.t 38))),(oP 40 (.fa 8 (.t 39))),(oL 41 40),(oP 42 (.bin false .neq (.t 41) (cI 0)))]) (.cd (.t 42) (.sq (.dr dr_f53_0 [(0,[18]),(1,[18]),(2,[18]),(3,[18]),(4,[]),(5,[]),(6,[])] (.of [0,1,2,3,4,5,6])) .rt) .sk)) (.sq (.sq (.reg [(oV 47 5),(oP 48 (.nc (.t 47))),(oP 49 (.fa 9 (.t 48))),(oL 50 49)]) (.cd (.t 50) (.sq (.reg [(oP 2 (.mv (.c (.v (.slice none 0 0))))),(oP 3 (.mv (cI 0))),(oP 4 (.mv (cI 3)))]) .rt) .sk)) (.sq (.reg [(oV 51 6),(oV 2 51),(oP 3 (.mv (cI 0))),(oP 4 (.mv (cI 0)))]) .rt)))))))))
def rv_f53:List (RV×Option Ty):=[((.t 2),some (.sl tyBlkT)),((.t 3),some tI),((.t 4),some tI)]
def g_f53:G:=⟨TYs,[],52,EL [(58,sp_f58),(93,sp_f93),(94,sp_f94),(95,sp_f95)],keeps,(fun _ _=>none),IL [],RL []⟩
def r_f53_1 (p0:ByteArray):Option (V×List VO):=
 br ((ine ((((stD (tkD ((p0,(0,(1,(false,())))),((0,((ByteArray.mk #[]),(false,(0,())))),(0,(false,()))))) 1).2).2).1) 0))
  (some (.tu [(.t (.sl tyBlkT) ([]:List BlkT)),(.t tI ((((stD (tkD ((p0,(0,(1,(false,())))),((0,((ByteArray.mk #[]),(false,(0,())))),(0,(false,()))))) 1).2).2).1)),(.t tI 1)],[]))
  (br (((((stD (tkD ((p0,(0,(1,(false,())))),((0,((ByteArray.mk #[]),(false,(0,())))),(0,(false,()))))) 1).2).2).2).1)
   (some (.tu [(.t (.sl tyBlkT) ([]:List BlkT)),(.t tI 0),(.t tI 3)],[]))
   (some (.tu [(.t (.sl tyBlkT) (stF (tkD ((p0,(0,(1,(false,())))),((0,((ByteArray.mk #[]),(false,(0,())))),(0,(false,()))))) 1)),(.t tI 0),(.t tI 0)],[])))
def r_f53 (p0:ByteArray):Option (V×List VO):=
 br ((igt (slen p0) 8192))
  (some (.tu [(.t (.sl tyBlkT) ([]:List BlkT)),(.t tI 0),(.t tI 3)],[]))
  (br ((nameG p0))
   (br ((igt (endN p0) 200))
    (some (.tu [(.t (.sl tyBlkT) ([]:List BlkT)),(.t tI 0),(.t tI 3)],[]))
    (br ((lxOk2 ((p0,(0,(1,(false,())))),((0,((ByteArray.mk #[]),(false,(0,())))),(0,(false,()))))))
     (br ((stOk (tkD ((p0,(0,(1,(false,())))),((0,((ByteArray.mk #[]),(false,(0,())))),(0,(false,()))))) 1))
      (br ((ieq ((((stD (tkD ((p0,(0,(1,(false,())))),((0,((ByteArray.mk #[]),(false,(0,())))),(0,(false,()))))) 1).2).2).1) 0))
       (br ((ine ((((stD (tkD ((p0,(0,(1,(false,())))),((0,((ByteArray.mk #[]),(false,(0,())))),(0,(false,()))))) 1).2).1).1) 0))
        (br ((flOk (stD (tkD ((p0,(0,(1,(false,())))),((0,((ByteArray.mk #[]),(false,(0,())))),(0,(false,()))))) 1)))
         (br ((ine ((((flD (stD (tkD ((p0,(0,(1,(false,())))),((0,((ByteArray.mk #[]),(false,(0,())))),(0,(false,()))))) 1)).2).2).1) 0))
          (some (.tu [(.t (.sl tyBlkT) ([]:List BlkT)),(.t tI ((((flD (stD (tkD ((p0,(0,(1,(false,())))),((0,((ByteArray.mk #[]),(false,(0,())))),(0,(false,()))))) 1)).2).2).1)),(.t tI 1)],[]))
          (br (((((flD (stD (tkD ((p0,(0,(1,(false,())))),((0,((ByteArray.mk #[]),(false,(0,())))),(0,(false,()))))) 1)).2).2).2).1)
           (some (.tu [(.t (.sl tyBlkT) ([]:List BlkT)),(.t tI 0),(.t tI 3)],[]))
           (some (.tu [(.t (.sl tyBlkT) (stF (tkD ((p0,(0,(1,(false,())))),((0,((ByteArray.mk #[]),(false,(0,())))),(0,(false,()))))) 1)),(.t tI 0),(.t tI 0)],[]))))
         (none))
        (r_f53_1 p0))
       (r_f53_1 p0))
      (none))
     (none)))
   (none))
theorem e_f53 (p0:ByteArray):runF g_f53 tc_f53 rv_f53 false [.t .str p0] []=r_f53 p0:=by kernel_rfl
theorem ok_f53:Option.map (trC Tryd.prog) Tryd.f53.body=some tc_f53.er:=by kernel_rfl
theorem rok_f53:trVs Tryd.prog Tryd.f53.results.toList=some (rv_f53.map Prod.fst):=by kernel_rfl
theorem en_f53:Entered Tryd.prog 53:= .inr ⟨by decide,_,Tryd.func53,by kernel_rfl,by kernel_rfl⟩
theorem gk_f53:GOk Tryd.prog g_f53:=gok_of _ (by
 intro p hp
 simp only [List.mem_cons,List.not_mem_nil,or_false] at hp
 rcases hp with rfl|rfl|rfl|rfl
 ·exact ⟨en_f58,ms_f58⟩
 ·exact ⟨en_f93,ms_f93⟩
 ·exact ⟨en_f94,ms_f94⟩
 ·exact ⟨en_f95,ms_f95⟩)
theorem lk_f53:tc_f53.lok g_f53:=by repeat (first|exact trivial|refine ⟨?_, ?_⟩)
theorem s_f53 (s:ByteArray)(h:paOk s=true):r_f53 s=some (.tu [.t (.sl tyBlkT) (paB s).1,.t tI (paB s).2.1,.t tI (paB s).2.2],[]):=by
 unfold r_f53 r_f53_1 paB
 cases h8:igt (slen s) 8192 with
 |true=>rfl
 |false=>
  have hs:s.size<=8192:=by
   have:=of_decide_eq_false h8
   simp only [slen] at this
   omega
  obtain ⟨o1,o2,o3⟩:=okR_ps hs
  rw [br_false,show nameG s=true from h,br_true,cond_false]
  cases igt (endN s) 200 with
  |true=>rfl
  |false=>
   rw [br_false,cond_false]
   have hok:stOk (tkD (psX s)) 1=true:=Bool.and_eq_true_iff.2 ⟨o1,cP_in ⟨by omega,by omega⟩⟩
   obtain ⟨g1,_⟩:=stG_ok (rmX (tkD (psX s))+1) 1 [] (tkD (psX s)) o1
   have g1:okR (psY s)=true:=g1
   have hfl:=fl_err g1
   refine brY o3 (brY hok ?_)
   rw [show ((s,(0,(1,(false,())))),((0,(ByteArray.mk #[],(false,(0,())))),(0,(false,()))))=psX s from rfl,show stD (tkD (psX s)) 1=psY s from rfl]
   unfold psZ
   generalize stF (tkD (psX s)) 1=l
   have hfo:flOk (psY s)=true:=by
    obtain ⟨_,_,h3,_⟩:=cP_of (okR_lx g1)
    exact cP_in h3
   generalize psY s=y at g1 hfl hfo ⊢
   cases ieq y.2.2.1 0 with
   |false=>
    rw [br_false,Bool.false_and,cond_false]
    cases ine y.2.2.1 0<;>cases y.2.2.2.1<;>rfl
   |true=>
    rw [br_true,Bool.true_and]
    cases ine y.2.1.1 0 with
    |false=>
     rw [br_false,cond_false]
     cases ine y.2.2.1 0<;>cases y.2.2.2.1<;>rfl
    |true=>
     rw [br_true,cond_true,hfo,br_true]
     cases ine (flD y).2.2.1 0<;>cases (flD y).2.2.2.1<;>rfl
def sp_f53:Ent:=spec (.pr .str .nil) (fun x=>(paOk x.1)) (fun x=>(.tu [(.t (.sl tyBlkT) ((paB x.1).1)),(.t tI (((paB x.1).2).1)),(.t tI (((paB x.1).2).2))]))
theorem ms_f53:Meets Tryd.prog 53 (strip sp_f53):=by
 obtain ⟨c,hc,hi⟩:=Option.map_eq_some_iff.1 ok_f53
 exact meets_spec (R:=runF g_f53 tc_f53 rv_f53 false) (meets_of (by decide) Tryd.func53 hc hi Tryd.ntmps53 rok_f53 gk_f53 lk_f53 mixed) fun x hok=>(e_f53 x.1).trans (s_f53 x.1 hok)
end
end Go.Proofs.YtkkoedniahnneaaDoor.K
namespace Go.Proofs.YtkkoedniahnneaaDoor.K
open Go.RowKit
noncomputable section
set_option linter.unusedSectionVars false
def pkL:List Int->Bool->Bool->Nat×(Nat×Bool)
 | [],_,w=>(0,(0,w))
 |c::l,com,w=>bif com&&isClI c then ((pkL l true false).1+1,(pkL l true false).2) else
   bif blkI c then ((pkL l false false).1+1,((pkL l false false).2.1+(bif ieq c 10 then 1 else 0),(pkL l false false).2.2)) else
   bif ieq c 35 then ((pkL l true false).1+1,(pkL l true false).2) else (0,(0,w))
theorem cl_10 {c:Int}(h:ieq c 10=true):isClI c=false/\blkI c=true:=by
 obtain rfl:=eq_of_beq h
 exact ⟨rfl,rfl⟩
theorem cl_no {c:Int}(h:isClI c=false)(h2:ieq c 10=false):blkI c=false/\ieq c 35=false/\ieq c 59=false/\ieq c 123=false/\ieq c 125=false/\ieq c 34=false:=by
 have q: ∀ n:Int,isClI n=true->ieq c n=false:=fun n hn=>by
  cases hc:ieq c n with
  |false=>rfl
  |true=>
   obtain rfl:=eq_of_beq hc
   rw [h] at hn
   cases hn
 refine ⟨?_,q 35 rfl,q 59 rfl,q 123 rfl,q 125 rfl,q 34 rfl⟩
 unfold blkI
 rw [q 9 rfl,q 32 rfl,h2]
 rfl
theorem pk_sk: ∀ (l:List Int) (com w w':Bool),(com=false->w'=w)→
  (pkL l com w').1=(skL l com w).2.1/\(pkL l com w').2.1=(skL l com w).2.2.1∧
  ((skL l com w).1=true→ ∃ c r,l.drop (skL l com w).2.1=c::r/\isClI c=false/\ieq c 10=false)∧
  ((skL l com w).1=false->(pkL l com w').2.2=(skL l com w).2.2.2∨l.drop (skL l com w).2.1=[])
 | [],com,w,w',_=>⟨rfl,rfl,(fun h=>absurd h (by simp [skL])),fun _=> .inr rfl⟩
 |c::l,com,w,w',h=>by
  have i1:=pk_sk l true w false (fun h=>by cases h)
  have i2:=pk_sk l false false false (fun _=>rfl)
  rw [pkL.eq_def,skL.eq_def]
  simp only
  cases com with
  |false=>
   simp only [Bool.false_and,cond_false]
   obtain rfl:=h rfl
   cases blkI c with
   |true=>
    simp only [cond_true]
    obtain ⟨a1,a2,a3,a4⟩:=i2
    exact ⟨by rw [a1],by rw [a2],fun hh=>a3 hh,fun hh=>a4 hh⟩
   |false=>
    simp only [cond_false]
    cases ieq c 35 with
    |true=>
     simp only [cond_true]
     obtain ⟨a1,a2,a3,a4⟩:=i1
     exact ⟨by rw [a1],a2,fun hh=>a3 hh,fun hh=>a4 hh⟩
    |false=>
     simp
  |true=>
   simp only [Bool.true_and]
   cases h10:ieq c 10 with
   |true=>
    obtain ⟨c1,c2⟩:=cl_10 h10
    rw [c1,c2]
    simp only [cond_true,cond_false,Bool.not_true]
    obtain ⟨a1,a2,a3,a4⟩:=i2
    exact ⟨by rw [a1],by rw [a2],fun hh=>a3 hh,fun hh=>a4 hh⟩
   |false=>
    simp only [cond_true,Bool.not_false]
    cases hc:isClI c with
    |true=>
     simp only [cond_true]
     obtain ⟨a1,a2,a3,a4⟩:=i1
     exact ⟨by rw [a1],a2,fun hh=>a3 hh,fun hh=>a4 hh⟩
    |false=>
     obtain ⟨b1,b2,_⟩:=cl_no hc h10
     rw [b1,b2]
     simp [hc,h10]
     exact beq_eq_false_iff_ne.1 h10
theorem pkL_le: ∀ (l:List Int) (com w:Bool),(pkL l com w).1<=l.length/\(pkL l com w).2.1<=(pkL l com w).1
 | [],_,_=>⟨Nat.le_refl _,Nat.le_refl _⟩
 |c::l,com,w=>by
  obtain ⟨h1,h2⟩:=pkL_le l true false
  obtain ⟨h3,h4⟩:=pkL_le l false false
  rw [pkL.eq_def]
  simp only [List.length_cons]
  cases com&&isClI c with
  |true=>
   rw [cond_true]
   exact ⟨by show _+1<=_;omega,by show (pkL l true false).2.1<=(pkL l true false).1+1;omega⟩
  |false=>
   rw [cond_false]
   cases blkI c with
   |true=>
    rw [cond_true]
    cases ieq c 10 with
    |true=>exact ⟨by show _+1<=_;omega,by show _+1<=_+1;omega⟩
    |false=>exact ⟨by show _+1<=_;omega,by show _+0<=_+1;omega⟩
   |false=>
    rw [cond_false]
    cases ieq c 35 with
    |true=>exact ⟨by show _+1<=_;omega,by show (pkL l true false).2.1<=(pkL l true false).1+1;omega⟩
    |false=>exact ⟨Nat.zero_le _,Nat.le_refl _⟩
def nlC (l:List Int):Nat:=l.countP fun c=>ieq c 10
theorem sk_cnt: ∀ (l:List Int) (com w:Bool),(skL l com w).2.2.1=nlC (l.take (skL l com w).2.1)
 | [],_,_=>rfl
 |c::l,com,w=>by
  have i1:=sk_cnt l true w
  have i2:=sk_cnt l false false
  have q: ∀ n,nlC ((c::l).take (n+1))=nlC (l.take n)+(bif ieq c 10 then 1 else 0):=fun n=>by
   unfold nlC
   rw [List.take_succ_cons,List.countP_cons]
   cases ieq c 10<;>rfl
  rw [skL.eq_def]
  simp only
  cases h10:ieq c 10 with
  |true=>
   obtain ⟨c1,c2⟩:=cl_10 h10
   rw [c2]
   simp only [Bool.not_true,Bool.and_false,cond_false,cond_true]
   rw [q,h10,i2]
   rfl
  |false=>
   simp only [Bool.not_false,Bool.and_true,cond_false]
   cases com with
   |true=>
    simp only [cond_true]
    cases isClI c with
    |true=>
     simp only [cond_true]
     rw [q,h10,i1]
     rfl
    |false=>rfl
   |false=>
    simp only [cond_false]
    cases blkI c with
    |true=>
     simp only [cond_true]
     rw [q,h10,i2]
     rfl
    |false=>
     simp only [cond_false]
     cases ieq c 35 with
     |true=>
      simp only [cond_true]
      rw [q,h10,i1]
      rfl
     |false=>rfl
theorem qd_nl: ∀ l:List Int,nlC (l.take (qd l).2.2)=0∧ ∀ e r,l=e::r->nlC (r.take (qd r).2.2)=0
 | []=>⟨rfl,fun _ _ h=>by cases h⟩
 |c::l=>by
  obtain ⟨h1,h2⟩:=qd_nl l
  refine ⟨?_,fun e r h=>by cases h;exact h1⟩
  have q: ∀ (c:Int) (l:List Int) (n:Nat),ieq c 10=false->nlC ((c::l).take (n+1))=nlC (l.take n):=fun c l n h=>by
   unfold nlC
   rw [List.take_succ_cons,List.countP_cons,h]
   rfl
  have q2: ∀ n:Int,ieq c n=true->ieq n 10=false->ieq c 10=false:=fun n h h2=>by rw [eq_of_beq h];exact h2
  rw [qd.eq_def]
  simp only
  cases h34:ieq c 34 with
  |true=>
   rw [cond_true]
   exact q c l 0 (q2 34 h34 rfl)
  |false=>
   rw [cond_false]
   cases h92:ieq c 92 with
   |true=>
    rw [cond_true]
    have hc:=q2 92 h92 rfl
    cases l with
    |nil=>exact q c [] 0 hc
    |cons e r=>
     have h3:=h2 e r rfl
     simp only
     cases he:ieq e 34||ieq e 92 with
     |false=>exact q c (e::r) 0 hc
     |true=>
      rw [cond_true]
      have hen:ieq e 10=false:=by
       cases h1:ieq e 34 with
       |true=>rw [eq_of_beq h1];rfl
       |false=>
        rw [h1,Bool.false_or] at he
        rw [eq_of_beq he]
        rfl
      show nlC ((c::e::r).take ((qd r).2.2+1+1))=0
      rw [q c _ _ hc,q e _ _ hen,h3]
   |false=>
    rw [cond_false]
    cases hcl:isClI c with
    |false=>rfl
    |true=>
     rw [cond_true]
     have hc:ieq c 10=false:=by
      cases h:ieq c 10 with
      |false=>rfl
      |true=>rw [(cl_10 h).1] at hcl;cases hcl
     show nlC ((c::l).take ((qd l).2.2+1))=0
     rw [q c _ _ hc,h1]
theorem lt_nl: ∀ l:List Int,nlC (l.take (ltL l))=0
 | []=>rfl
 |c::l=>by
  have ih:=lt_nl l
  unfold ltL
  cases hc:ltrB c with
  |false=>rfl
  |true=>
   rw [cond_true]
   have h10:ieq c 10=false:=by
    cases h:ieq c 10 with
    |false=>rfl
    |true=>
     rw [eq_of_beq h] at hc
     have hz:ltrB 10=false:=by kernel_rfl
     rw [hz] at hc
     cases hc
   unfold nlC at ih ⊢
   rw [List.take_succ_cons,List.countP_cons,h10]
   simpa using ih
end
end Go.Proofs.YtkkoedniahnneaaDoor.K
namespace Go.Proofs.YtkkoedniahnneaaDoor.K
open Go.RowKit
noncomputable section
set_option linter.unusedSectionVars false
abbrev pxR (x:ParserX):List Int:=(bytesL x.1.1).drop x.1.2.1.toNat
abbrev pxW (x:ParserX):Bool:=x.1.2.2.2.1
abbrev pxL (x:ParserX):Int:=x.1.2.2.1
def pxTo (x:ParserX)(n:Int)(w:Bool):ParserX:=((x.1.1,(x.1.2.1+n,(x.1.2.2.1,(w,())))),x.2)
def pqOk (x:ParserX):Bool:=cP (0<=x.1.2.1/\x.1.2.1<x.1.1.size/\x.1.1.size<=1000000)
def qx:List Int->Bool
 | []=>false
 |c::l=>bif ieq c 34 then true else bif ieq c 92 then (match l with
  | []=>true
  |e::r=>bif ieq e 34||ieq e 92 then qx r else true) else bif isClI c then qx l else true
def pqT (l:List Int)(ok:Bool)(x:ParserX):Token:=bif ok then (4,(x.1.2.2.1,(strOf l,()))) else (5,(x.1.2.2.1,(ByteArray.mk #[],())))
def pqN (a:Int)(ok:Bool)(x:ParserX):ParserX:=bif ok then ((x.1.1,(a,(x.1.2.2.1,(true,())))),x.2) else x
def pqF (x:ParserX):Token:=pqT (qd ((bytesL x.1.1).drop (x.1.2.1+1).toNat)).2.1 (qd ((bytesL x.1.1).drop (x.1.2.1+1).toNat)).1 x
def pqD (x:ParserX):ParserX:=pqN (x.1.2.1+1+(qd ((bytesL x.1.1).drop (x.1.2.1+1).toNat)).2.2) (qd ((bytesL x.1.1).drop (x.1.2.1+1).toNat)).1 x
def pq0 (i:Int)(y:List Int)(x:ParserX):Bool:=cP (0<=i/\i<=x.1.1.size/\x.1.1.size<=1000000/\y.length<=i)
def dr_f144_0:List DO:=[(.mk (oV 37 0) []),(.mk (oP 38 (.nc (.t 37))) [0]),(.mk (oP 39 (.fa 2 (.t 38))) [1]),(.mk (oL 40 39) [2]),(.mk (oV 41 3) []),(.mk (oC 42 2440448 [(.t 41)]) [4]),(.mk (oP 43 (.bd [(.v (.int .i64 0)),(.v (.int .i64 0)),(.v (.string (ByteArray.mk #[])))] [(0,1,(cI 4)),(1,1,(.t 40)),(2,1,(.t 42))])) [3,5]),(.mk (.mk none none (.m (.st 3 (.t 2) (.t 43)))) [6,0,1,2,3,4,5,6])]
def fg_f144_0:Fg:=⟨[(0,none),(2,none),(3,none),(4,some tI)],[(2,some tyToken),(3,none),(97,none),(50000,some tyParserX)]⟩
def tb_f144_0:TC:=(.sq (.sq (.reg [(oV 11 4),(oV 12 0),(oP 13 (.nc (.t 12))),(oP 14 (.fa 0 (.t 13))),(oL 15 14),(oP 16 (.len true (.t 15))),(oP 17 (.bin false .lss (.t 11) (.t 16)))]) (.cd (.t 17) .sk (.fg ⟨[(0,none),(2,none)],[(2,some tyToken),(50000,some tyParserX)]⟩ (.ex 0)))) (.sq (.bk 1 (.sq (.reg [(oV 20 0),(oP 21 (.nc (.t 20))),(oP 22 (.fa 0 (.t 21))),(oL 23 22),(oV 24 4),(oP 25 (.sx (.t 23) (.t 24))),(oV 5 25)]) (.sq (.bk 2 (.sq (.reg [(oV 27 5),(oP 28 (.bin false .eql (.t 27) (.c (.v (.int .u8 34))))),(oV 26 28)]) (.cd (.t 26) (.sq (.reg [(oV 29 0),(oV 30 0),(oV 31 4),(oP 32 (.bin false .add (.t 31) (cI 1))),(oP 33 (.nc (.t 29))),(oP 34 (.fa 1 (.t 33))),(.mk none none (.m (.st 1 (.t 34) (.t 32)))),(oP 35 (.nc (.t 30))),(oP 36 (.fa 3 (.t 35))),(.mk none none (.m (.st 1 (.t 36) (cB true))))]) (.sq (.dr dr_f144_0 [(0,[50000]),(1,[50000]),(2,[50000]),(3,[50000]),(4,[3,97]),(5,[3,42,97,5042,10042,15042]),(6,[]),(7,[2])] (.of [0,1,2,3,4,5,6,7])) (.fg ⟨[(2,none)],[(2,some tyToken),(50000,some tyParserX)]⟩ .rt))) (.sq (.reg [(oV 45 5),(oP 46 (.bin false .eql (.t 45) (.c (.v (.int .u8 92))))),(oV 44 46)]) (.cd (.t 44) (.sq (.reg [(oV 47 4),(oP 48 (.bin false .add (.t 47) (cI 1))),(oV 4 48)]) (.sq (.sq (.reg [(oV 49 4),(oV 50 0),(oP 51 (.nc (.t 50))),(oP 52 (.fa 0 (.t 51))),(oL 53 52),(oP 54 (.len true (.t 53))),(oP 55 (.bin false .eql (.t 49) (.t 54))),(oV 56 55),(oQ 57 56 false (.mv (.t 0))),(oQ 58 56 false (.nc (.t 57))),(oQ 59 56 false (.fa 0 (.t 58))),(oG 60 56 false (.m (.ld false 1 (.t 59)))),(oQ 61 56 false (.mv (.t 4))),(oQ 62 56 false (.sx (.t 60) (.t 61))),(oQ 63 56 false (.bin false .neq (.t 62) (.c (.v (.int .u8 34))))),(oQ 64 56 false (.mv (.t 63))),(oQ 65 64 true (.mv (.t 0))),(oQ 66 64 true (.nc (.t 65))),(oQ 67 64 true (.fa 0 (.t 66))),(oG 68 64 true (.m (.ld false 1 (.t 67)))),(oQ 69 64 true (.mv (.t 4))),(oQ 70 64 true (.sx (.t 68) (.t 69))),(oQ 71 64 true (.bin false .neq (.t 70) (.c (.v (.int .u8 92))))),(oQ 72 56 false (.pick (.t 64) (.t 71) (cB false))),(oP 73 (.pick (.t 56) (cB true) (.t 72)))]) (.cd (.t 73) (.sq (.reg [(oV 74 0),(oP 75 (.nc (.t 74))),(oP 76 (.fa 2 (.t 75))),(oL 77 76),(oP 78 (.bd [(.v (.int .i64 0)),(.v (.int .i64 0)),(.v (.string (ByteArray.mk #[])))] [(0,1,(cI 5)),(1,1,(.t 77)),(2,1,(.c (.v (.string (ByteArray.mk #[])))))])),(.mk none none (.m (.st 3 (.t 2) (.t 78))))]) (.fg ⟨[(2,none)],[(2,some tyToken),(50000,some tyParserX)]⟩ .rt)) .sk)) (.reg [(oV 79 0),(oP 80 (.nc (.t 79))),(oP 81 (.fa 0 (.t 80))),(oL 82 81),(oV 83 4),(oP 84 (.sx (.t 82) (.t 83))),(oV 5 84)]))) (.sq (.reg [(oV 86 5),(oC 87 139 [(.t 86)]),(oP 88 (.nt (.t 87))),(oV 85 88)]) (.cd (.t 85) (.sq (.reg [(oV 89 0),(oP 90 (.nc (.t 89))),(oP 91 (.fa 2 (.t 90))),(oL 92 91),(oP 93 (.bd [(.v (.int .i64 0)),(.v (.int .i64 0)),(.v (.string (ByteArray.mk #[])))] [(0,1,(cI 5)),(1,1,(.t 92)),(2,1,(.c (.v (.string (ByteArray.mk #[])))))])),(.mk none none (.m (.st 3 (.t 2) (.t 93))))]) (.fg ⟨[(2,none)],[(2,some tyToken),(50000,some tyParserX)]⟩ .rt)) .sk))))))) (.reg [(oV 94 3),(oV 95 5),(oM 96 (.bs 5 1 1 [(.v (.int .u8 0))] [(0,1,(.t 95))])),(oM 97 (.app 5 1 1 (.t 94) (.t 96))),(oV 3 97)])))) (.reg [(oV 18 4),(oP 19 (.bin false .add (.t 18) (cI 1))),(oV 4 19)])))
def tc_f144:TC:=(.sq (.reg [(oM 2 (.new [(.v (.int .i64 0)),(.v (.int .i64 0)),(.v (.string (ByteArray.mk #[])))]))]) (.sq (.reg [(oP 3 (.mv (.c (.v (.slice none 0 0)))))]) (.sq (.sq (.reg [(oV 6 0),(oP 7 (.nc (.t 6))),(oP 8 (.fa 1 (.t 7))),(oL 9 8),(oP 10 (.bin false .add (.t 9) (cI 1))),(oV 4 10)]) (.bk 0 (.nw 3 5 (.lp 0 fg_f144_0 tb_f144_0)))) (.sq (.reg [(oV 98 0),(oP 99 (.nc (.t 98))),(oP 100 (.fa 2 (.t 99))),(oL 101 100),(oP 102 (.bd [(.v (.int .i64 0)),(.v (.int .i64 0)),(.v (.string (ByteArray.mk #[])))] [(0,1,(cI 5)),(1,1,(.t 101)),(2,1,(.c (.v (.string (ByteArray.mk #[])))))])),(.mk none none (.m (.st 3 (.t 2) (.t 102))))]) .rt))))
def rv_f144:List (RV×Option Ty):=[((.c 2 true 3),some tyToken)]
abbrev sh_f144_0:Sh:=⟨[(0,.ptr 50000 0),(2,.ptr 2 0),(3,.ms 3),(4,.ty tI)],[(2,.box tyToken),(3,.arr 5 (.int .u8)),(97,.no),(50000,.box tyParserX)]⟩
def st_f144_0 (x4:Int)(y2:Token)(y3:(List Int))(y50000:ParserX):VS:=sh_f144_0.st ((),(),(),x4,()) (y2,y3,(),y50000,())
abbrev sh_f144_0_ret:Sh:=⟨[(2,.ptr 2 0)],[(2,.box tyToken),(50000,.box tyParserX)]⟩
def st_f144_0_ret (y2:Token)(y50000:ParserX):VS:=sh_f144_0_ret.st ((),()) (y2,y50000,())
abbrev sh_f144_0_e0:Sh:=⟨[(0,.ptr 50000 0),(2,.ptr 2 0)],[(2,.box tyToken),(50000,.box tyParserX)]⟩
def st_f144_0_e0 (y2:Token)(y50000:ParserX):VS:=sh_f144_0_e0.st ((),(),()) (y2,y50000,())
-- loop 0: (x4 : Int) (y2 : Token) (y3 : (List Int)) (y50000 : ParserX); out: ('ret',) (y2 : Token) (y50000 : ParserX); ('exit', 0) (y2 : Token) (y50000 : ParserX)
def L_f144_0:VS->Option (Bool×List (Bool×Exit×VS)):=mkL sh_f144_0 (fun x y=>(pq0 x.2.2.2.1 y.2.1 y.2.2.2.1)) (fun x y=>[((qx ((bytesL y.2.2.2.1.1.1).drop x.2.2.2.1.toNat)),.ret,st_f144_0_ret (pqT (y.2.1++(qd ((bytesL y.2.2.2.1.1.1).drop x.2.2.2.1.toNat)).2.1) (qd ((bytesL y.2.2.2.1.1.1).drop x.2.2.2.1.toNat)).1 y.2.2.2.1) (pqN (x.2.2.2.1+(qd ((bytesL y.2.2.2.1.1.1).drop x.2.2.2.1.toNat)).2.2) (qd ((bytesL y.2.2.2.1.1.1).drop x.2.2.2.1.toNat)).1 y.2.2.2.1)),(true,.exit 0,st_f144_0_e0 (y.1) (y.2.2.2.1))])
def g_f144:G:=⟨TYs,[],103,EL [(139,sp_f139),(2440448,sp_op_convert_28_9)],keeps,(Ls [L_f144_0]),IL [],RL []⟩
def b_f144_0_1 (x4:Int)(y2:Token)(y3:(List Int))(y50000:ParserX):Option (Exit×VS):=
 br (cSx y50000.1.1 (iadd .i64 x4 1))
  (br (cApp y3 ([(sgt y50000.1.1 (iadd .i64 x4 1))]) 1)
   (some (.normal,st_f144_0 (iadd .i64 (iadd .i64 x4 1) 1) y2 (y3++([(sgt y50000.1.1 (iadd .i64 x4 1))])) y50000))
   (none))
  (none)
def b_f144_0 (x4:Int)(y2:Token)(y3:(List Int))(y50000:ParserX):Option (Exit×VS):=
 br ((ilt x4 (slen y50000.1.1)))
  (br (cSx y50000.1.1 x4)
   (br ((ieq (sgt y50000.1.1 x4) 34))
    (some (.ret,st_f144_0_ret (4,(y50000.1.2.2.1,((strOf y3),()))) ((y50000.1.1,((iadd .i64 x4 1),(y50000.1.2.2.1,(true,y50000.1.2.2.2.2)))),y50000.2)))
    (br ((ieq (sgt y50000.1.1 x4) 92))
     (br ((ieq (iadd .i64 x4 1) (slen y50000.1.1)))
      (some (.ret,st_f144_0_ret (5,(y50000.1.2.2.1,((ByteArray.mk #[]),()))) y50000))
      (br (cSx y50000.1.1 (iadd .i64 x4 1))
       (br ((ine (sgt y50000.1.1 (iadd .i64 x4 1)) 34))
        (br (cSx y50000.1.1 (iadd .i64 x4 1))
         (br ((ine (sgt y50000.1.1 (iadd .i64 x4 1)) 92))
          (some (.ret,st_f144_0_ret (5,(y50000.1.2.2.1,((ByteArray.mk #[]),()))) y50000))
          (b_f144_0_1 x4 y2 y3 y50000))
         (none))
        (b_f144_0_1 x4 y2 y3 y50000))
       (none)))
     (br ((!(isClI (sgt y50000.1.1 x4))))
      (some (.ret,st_f144_0_ret (5,(y50000.1.2.2.1,((ByteArray.mk #[]),()))) y50000))
      (br (cApp y3 ([(sgt y50000.1.1 x4)]) 1)
       (some (.normal,st_f144_0 (iadd .i64 x4 1) y2 (y3++([(sgt y50000.1.1 x4)])) y50000))
       (none)))))
   (none))
  (some (.exit 0,st_f144_0_e0 y2 y50000))
noncomputable def lp_f144_0 (x4:Int)(y2:Token)(y3:(List Int))(y50000:ParserX):Option (Exit×VS):=loopF (roundF g_f144 fg_f144_0 tb_f144_0) (st_f144_0 x4 y2 y3 y50000)
noncomputable def n_f144_0_1 (x4:Int)(y2:Token)(y3:(List Int))(y50000:ParserX):Option (Exit×VS):=
 br (cSx y50000.1.1 (iadd .i64 x4 1))
  (br (cApp y3 ([(sgt y50000.1.1 (iadd .i64 x4 1))]) 1)
   (lp_f144_0 (iadd .i64 (iadd .i64 x4 1) 1) y2 (y3++([(sgt y50000.1.1 (iadd .i64 x4 1))])) y50000)
   (none))
  (none)
noncomputable def n_f144_0 (x4:Int)(y2:Token)(y3:(List Int))(y50000:ParserX):Option (Exit×VS):=
 br ((ilt x4 (slen y50000.1.1)))
  (br (cSx y50000.1.1 x4)
   (br ((ieq (sgt y50000.1.1 x4) 34))
    (some (.ret,st_f144_0_ret (4,(y50000.1.2.2.1,((strOf y3),()))) ((y50000.1.1,((iadd .i64 x4 1),(y50000.1.2.2.1,(true,y50000.1.2.2.2.2)))),y50000.2)))
    (br ((ieq (sgt y50000.1.1 x4) 92))
     (br ((ieq (iadd .i64 x4 1) (slen y50000.1.1)))
      (some (.ret,st_f144_0_ret (5,(y50000.1.2.2.1,((ByteArray.mk #[]),()))) y50000))
      (br (cSx y50000.1.1 (iadd .i64 x4 1))
       (br ((ine (sgt y50000.1.1 (iadd .i64 x4 1)) 34))
        (br (cSx y50000.1.1 (iadd .i64 x4 1))
         (br ((ine (sgt y50000.1.1 (iadd .i64 x4 1)) 92))
          (some (.ret,st_f144_0_ret (5,(y50000.1.2.2.1,((ByteArray.mk #[]),()))) y50000))
          (n_f144_0_1 x4 y2 y3 y50000))
         (none))
        (n_f144_0_1 x4 y2 y3 y50000))
       (none)))
     (br ((!(isClI (sgt y50000.1.1 x4))))
      (some (.ret,st_f144_0_ret (5,(y50000.1.2.2.1,((ByteArray.mk #[]),()))) y50000))
      (br (cApp y3 ([(sgt y50000.1.1 x4)]) 1)
       (lp_f144_0 (iadd .i64 x4 1) y2 (y3++([(sgt y50000.1.1 x4)])) y50000)
       (none)))))
   (none))
  (some (.exit 0,st_f144_0_e0 y2 y50000))
def la_f144_0 (x4:Int)(y2:Token)(y3:(List Int))(y50000:ParserX):Option (Exit×VS):=br (qx ((bytesL y50000.1.1).drop x4.toNat)) (some (.ret,st_f144_0_ret (pqT (y3++(qd ((bytesL y50000.1.1).drop x4.toNat)).2.1) (qd ((bytesL y50000.1.1).drop x4.toNat)).1 y50000) (pqN (x4+(qd ((bytesL y50000.1.1).drop x4.toNat)).2.2) (qd ((bytesL y50000.1.1).drop x4.toNat)).1 y50000)))<|some (.exit 0,st_f144_0_e0 (y2) (y50000))
theorem be_f144_0 (x4:Int)(y2:Token)(y3:(List Int))(y50000:ParserX):roundF g_f144 fg_f144_0 tb_f144_0 (st_f144_0 x4 y2 y3 y50000)=b_f144_0 x4 y2 y3 y50000:=by kernel_rfl
theorem ln_f144_0 (x4:Int)(y2:Token)(y3:(List Int))(y50000:ParserX):lp_f144_0 x4 y2 y3 y50000=n_f144_0 x4 y2 y3 y50000:=(loopF_nxt _ _).trans (by
 rw [be_f144_0]
 simp only [b_f144_0,b_f144_0_1,n_f144_0,n_f144_0_1,nxt_br,nxt_n,nxt_r,nxt_e,nxt_0]
 rfl)
def r_f144 (d0:ParserX):Option (V×List VO):=
 br ((pq0 (iadd .i64 d0.1.2.1 1) ([]:List Int) d0))
  (br ((qx ((bytesL d0.1.1).drop (iadd .i64 d0.1.2.1 1).toNat)))
   (some (.t tyToken (pqT (([]:List Int)++(qd ((bytesL d0.1.1).drop (iadd .i64 d0.1.2.1 1).toNat)).2.1) (qd ((bytesL d0.1.1).drop (iadd .i64 d0.1.2.1 1).toNat)).1 d0),[.box (.t tyParserX (pqN ((iadd .i64 d0.1.2.1 1)+(qd ((bytesL d0.1.1).drop (iadd .i64 d0.1.2.1 1).toNat)).2.2) (qd ((bytesL d0.1.1).drop (iadd .i64 d0.1.2.1 1).toNat)).1 d0))]))
   (some (.t tyToken (5,(((((d0).1).2).2).1,((ByteArray.mk #[]),()))),[.box (.t tyParserX (d0))])))
  (none)
theorem e_f144 (d0:ParserX):runF g_f144 tc_f144 rv_f144 false [.ptr 50000 0] [.box (.t tyParserX d0)]=r_f144 d0:=by kernel_rfl
theorem ok_f144:Option.map (trC Tryd.prog) Tryd.f144.body=some tc_f144.er:=by kernel_rfl
theorem rok_f144:trVs Tryd.prog Tryd.f144.results.toList=some (rv_f144.map Prod.fst):=by kernel_rfl
theorem en_f144:Entered Tryd.prog 144:= .inr ⟨by decide,_,Tryd.func144,by kernel_rfl,by kernel_rfl⟩
theorem gk_f144:GOk Tryd.prog g_f144:=gok_of _ (by
 intro p hp
 simp only [List.mem_cons,List.not_mem_nil,or_false] at hp
 rcases hp with rfl|rfl
 ·exact ⟨en_f139,ms_f139⟩
 ·exact ⟨en_op_convert_28_9,ms_op_convert_28_9⟩)
theorem l_f144_0 (x4:Int)(y2:Token)(y3:(List Int))(y50000:ParserX)(h:(pq0 x4 y3 y50000)=true):lp_f144_0 x4 y2 y3 y50000=la_f144_0 x4 y2 y3 y50000:=by
 obtain ⟨⟨t,a,ln,w,u1⟩,r⟩:=y50000
 obtain ⟨h1,h2,h3,h4⟩:=cP_of h
 clear h
 simp only at h1 h2 h3 h4
 obtain ⟨k,rfl⟩:=Int.eq_ofNat_of_zero_le h1
 have hl:=bytesG_len t
 have key: ∀ (m k:Nat) (y:List Int),t.size-k<=m->k<=t.size->y.length<=k->lp_f144_0 (k:Int) y2 y ((t,(a,(ln,(w,u1)))),r)=la_f144_0 (k:Int) y2 y ((t,(a,(ln,(w,u1)))),r):=by
  intro m
  induction m using Nat.strongRecOn with
  |ind m ih=>
   intro k y hm hk hy
   rw [ln_f144_0]
   unfold n_f144_0 n_f144_0_1
   simp only
   have la: ∀ (k:Nat) (y:List Int),la_f144_0 (k:Int) y2 y ((t,(a,(ln,(w,u1)))),r)=br (qx ((bytesL t).drop k)) (some (.ret,st_f144_0_ret (pqT (y++(qd ((bytesL t).drop k)).2.1) (qd ((bytesL t).drop k)).1 ((t,(a,(ln,(w,u1)))),r)) (pqN ((k:Int)+(qd ((bytesL t).drop k)).2.2) (qd ((bytesL t).drop k)).1 ((t,(a,(ln,(w,u1)))),r)))) (some (.exit 0,st_f144_0_e0 y2 ((t,(a,(ln,(w,u1)))),r))):=fun k y=>rfl
   by_cases hlt:k<t.size
   ·have hkl:k<(bytesL t).length:=by omega
    have e2:ilt (k:Int) (slen t)=true:=decide_eq_true (by simp only [slen];omega)
    have e3:cSx t (k:Int)=true:=by simp only [cSx,decide_eq_true_eq];omega
    have ei: ∀ (j:Nat) (z:List Int),t.size-j<m->j<=t.size->z.length<=j->lp_f144_0 (j:Int) y2 z ((t,(a,(ln,(w,u1)))),r)=br (qx ((bytesL t).drop j)) (some (.ret,st_f144_0_ret (pqT (z++(qd ((bytesL t).drop j)).2.1) (qd ((bytesL t).drop j)).1 ((t,(a,(ln,(w,u1)))),r)) (pqN ((j:Int)+(qd ((bytesL t).drop j)).2.2) (qd ((bytesL t).drop j)).1 ((t,(a,(ln,(w,u1)))),r)))) (some (.exit 0,st_f144_0_e0 y2 ((t,(a,(ln,(w,u1)))),r))):=fun j z h1 h2 h3=>(ih _ h1 j z (Nat.le_refl _) h2 h3).trans (la j z)
    rw [la,e2,br_true,e3,br_true,sgt_get hlt,add1 (k:=k),List.drop_eq_getElem_cons hkl]
    generalize (bytesL t)[k]=c
    have eq:qd (c::(bytesL t).drop (k+1))=bif ieq c 34 then (true,([],1)) else bif ieq c 92 then (match (bytesL t).drop (k+1) with
      | []=>(false,([],1))
      |e::r=>bif ieq e 34||ieq e 92 then ((qd r).1,(e::(qd r).2.1,(qd r).2.2+2)) else (false,([],1))) else bif isClI c then ((qd ((bytesL t).drop (k+1))).1,(c::(qd ((bytesL t).drop (k+1))).2.1,(qd ((bytesL t).drop (k+1))).2.2+1)) else (false,([],0)):=qd.eq_def _
    have eqx:qx (c::(bytesL t).drop (k+1))=bif ieq c 34 then true else bif ieq c 92 then (match (bytesL t).drop (k+1) with
      | []=>true
      |e::r=>bif ieq e 34||ieq e 92 then qx r else true) else bif isClI c then qx ((bytesL t).drop (k+1)) else true:=qx.eq_def _
    rw [eq,eqx]
    cases h34:ieq c 34 with
    |true=>
     rw [br_true,cond_true,cond_true,br_true,List.append_nil]
     rfl
    |false=>
     rw [br_false,cond_false,cond_false]
     cases h92:ieq c 92 with
     |false=>
      rw [br_false,cond_false,cond_false]
      cases isClI c with
      |false=>rfl
      |true=>
       rw [cond_true,cond_true,Bool.not_true,br_false,cAppN (by omega) (by simp only [List.length_singleton];omega),br_true,ei (k+1) _ (by omega) (by omega) (by rw [List.length_append,List.length_singleton];omega),List.append_assoc,List.singleton_append]
       rw [show (((k+1:Nat):Int)+((qd ((bytesL t).drop (k+1))).2.2:Int))=(k:Int)+(((qd ((bytesL t).drop (k+1))).2.2+1:Nat):Int) by omega]
     |true=>
      rw [br_true,cond_true,cond_true]
      by_cases hl2:k+1<t.size
      ·have hkl2:k+1<(bytesL t).length:=by omega
       have f2:ieq ((k+1:Nat):Int) (slen t)=false:=by
        rw [show ieq ((k+1:Nat):Int) (slen t)=(((k+1:Nat):Int)==slen t) from rfl,beq_eq_false_iff_ne]
        simp only [slen]
        omega
       have f3:cSx t ((k+1:Nat):Int)=true:=by simp only [cSx,decide_eq_true_eq];omega
       rw [f2,br_false,f3,br_true,br_true,br_true,sgt_get hl2,add1 (show k+1<4611686018427387904 by omega),List.drop_eq_getElem_cons hkl2,cAppN (by omega) (by simp only [List.length_singleton];omega),br_true,ei (k+1+1) _ (by omega) (by omega) (by rw [List.length_append,List.length_singleton];omega),List.append_assoc,List.singleton_append]
       generalize (bytesL t)[k+1]=d
       simp only
       rw [show (((k+1+1:Nat):Int)+((qd ((bytesL t).drop (k+1+1))).2.2:Int))=(k:Int)+(((qd ((bytesL t).drop (k+1+1))).2.2+2:Nat):Int) by omega]
       show br (!ieq d 34) (br (!ieq d 92) _ _) _=_
       cases ieq d 34<;>cases ieq d 92<;>rfl
      ·have f2:ieq ((k+1:Nat):Int) (slen t)=true:=by
        rw [show ieq ((k+1:Nat):Int) (slen t)=(((k+1:Nat):Int)==slen t) from rfl,beq_iff_eq]
        simp only [slen]
        omega
       rw [f2,br_true,List.drop_eq_nil_of_le (by omega)]
       rfl
   ·obtain rfl:k=t.size:=by omega
    have e2:ilt ((t.size:Nat):Int) (slen t)=false:=decide_eq_false (by simp only [slen];omega)
    rw [la,e2,br_false,List.drop_eq_nil_of_le (by omega)]
    rfl
 exact key _ k y3 (Nat.le_refl _) (by omega) (by omega)
theorem lo_f144_0: ∀ S l p,g_f144.L 0 (fgt fg_f144_0 S)=some (true,l)->pickA l=some p->loopF (roundF g_f144 fg_f144_0 tb_f144_0) S=some p:=
 lok_of (s:=sh_f144_0) ⟨by decide,by decide⟩ (by kernel_rfl) fun x y hok p hp=>by
 simp only [pickA_br,pickA_one] at hp
 exact (l_f144_0 x.2.2.2.1 y.1 y.2.1 y.2.2.2.1 (by simpa using hok)).trans hp
theorem lk_f144:tc_f144.lok g_f144:=by
 repeat (first|exact trivial|exact lo_f144_0|refine ⟨?_, ?_⟩)
theorem qx_no: ∀ l:List Int,(qx l=false->(qd l).1=false)∧ ∀ e r,l=e::r->qx r=false->(qd r).1=false
 | []=>⟨fun _=>rfl,fun _ _ h=>by cases h⟩
 |c::l=>by
  obtain ⟨h1,h2⟩:=qx_no l
  refine ⟨?_,fun e r h=>by cases h;exact h1⟩
  rw [qd.eq_def,qx.eq_def]
  simp only
  cases ieq c 34 with
  |true=>exact fun h=>by cases h
  |false=>
   rw [cond_false,cond_false]
   cases ieq c 92 with
   |false=>
    rw [cond_false,cond_false]
    cases isClI c with
    |true=>exact h1
    |false=>exact fun h=>by cases h
   |true=>
    rw [cond_true,cond_true]
    cases l with
    |nil=>exact fun h=>by cases h
    |cons e r=>
     simp only
     cases ieq e 34||ieq e 92 with
     |true=>exact h2 e r rfl
     |false=>exact fun h=>by cases h
theorem s_f144 (x:ParserX)(h:pqOk x=true):r_f144 x=some (.t tyToken (pqF x),[.box (.t tyParserX (pqD x))]):=by
 obtain ⟨⟨t,a,ln,w,u1⟩,r⟩:=x
 obtain ⟨h1,h2,h3⟩:=cP_of h
 simp only at h1 h2 h3
 obtain ⟨k,rfl⟩:=Int.eq_ofNat_of_zero_le h1
 unfold r_f144
 simp only
 rw [add1 (k:=k)]
 refine brY (cP_in ⟨by omega,by show ((k+1:Nat):Int)<=(t.size:Int);omega,h3,by show ((0:Nat):Int)<=((k+1:Nat):Int);omega⟩) ?_
 unfold pqF pqD
 simp only
 rw [Int.toNat_natCast,show ((k:Int)+1).toNat=k+1 by omega,List.nil_append,show ((k+1:Nat):Int)=(k:Int)+1 by omega]
 cases hq:qx ((bytesL t).drop (k+1)) with
 |true=>rfl
 |false=>
  rw [br_false,(qx_no _).1 hq]
  rfl
def sp_f144:Ent:=specP tyParserX .nil (fun d x=>(pqOk d)) (fun d x=>(.t tyToken (pqF d))) (fun d x=>(pqD d))
theorem ms_f144:Meets Tryd.prog 144 (strip sp_f144):=by
 obtain ⟨c,hc,hi⟩:=Option.map_eq_some_iff.1 ok_f144
 exact meets_specP (R:=runF g_f144 tc_f144 rv_f144 false) (meets_of (by decide) Tryd.func144 hc hi Tryd.ntmps144 rok_f144 gk_f144 lk_f144 mixed) rfl fun d x hok=>(e_f144 d).trans (s_f144 d hok)
end
end Go.Proofs.YtkkoedniahnneaaDoor.K
namespace Go.Proofs.YtkkoedniahnneaaDoor.K
open Go.RowKit
noncomputable section
set_option linter.unusedSectionVars false
def cmN:List Int->Nat
 | []=>0
 |c::l=>bif isClI c then cmN l+1 else 0
theorem cmN_le: ∀ l:List Int,cmN l<=l.length
 | []=>Nat.le_refl _
 |c::l=>by
  have:=cmN_le l
  unfold cmN
  cases isClI c<;>simp<;>omega
theorem pk_cm: ∀ l:List Int,pkL l true false=((pkL (l.drop (cmN l)) false false).1+cmN l,(pkL (l.drop (cmN l)) false false).2)
 | []=>rfl
 |c::l=>by
  have ih:=pk_cm l
  cases h:isClI c with
  |true=>
   have e1:pkL (c::l) true false=((pkL l true false).1+1,(pkL l true false).2):=by rw [pkL.eq_def];simp only [h];rfl
   have e2:cmN (c::l)=cmN l+1:=by rw [cmN.eq_def];simp only [h];rfl
   rw [e1,e2,ih,List.drop_succ_cons]
   rfl
  |false=>
   have e1:pkL (c::l) true false=pkL (c::l) false false:=by rw [pkL.eq_def,pkL.eq_def];simp only [h];rfl
   have e2:cmN (c::l)=0:=by rw [cmN.eq_def];simp only [h];rfl
   rw [e1,e2,List.drop_zero]
   rfl
def pxUp (x:ParserX)(n:Int):ParserX:=((x.1.1,(x.1.2.1+n,x.1.2.2)),x.2)
def pxSk (x:ParserX)(k:Nat×(Nat×Bool)):ParserX:=((x.1.1,(x.1.2.1+k.1,(x.1.2.2.1+k.2.1,(k.2.2,())))),x.2)
def px0 (x:ParserX):Bool:=cP (0<=x.1.2.1/\x.1.2.1<x.1.1.size/\x.1.1.size<=1000000)
def px1 (x:ParserX):Bool:=cP (0<=x.1.2.1/\x.1.2.1<=x.1.1.size/\x.1.1.size<=1000000/\0<=x.1.2.2.1/\x.1.2.2.1<=x.1.2.1+1)
def pkX (x:ParserX):Nat×(Nat×Bool):=pkL (pxR x) false (pxW x)
def pkD (x:ParserX):ParserX:=pxSk x (pkX x)
def dr_f142_0:List DO:=[(.mk (oV 3 0) []),(.mk (oP 4 (.nc (.t 3))) [0]),(.mk (oP 5 (.fa 1 (.t 4))) [1]),(.mk (oL 6 5) [2]),(.mk (oV 7 0) []),(.mk (oP 8 (.nc (.t 7))) [4]),(.mk (oP 9 (.fa 0 (.t 8))) [5]),(.mk (oL 10 9) [6]),(.mk (oP 11 (.len true (.t 10))) [7]),(.mk (oP 12 (.bin false .lss (.t 6) (.t 11))) [3,8])]
def dr_f142_1:List DO:=[(.mk (oV 13 0) []),(.mk (oP 14 (.nc (.t 13))) [0]),(.mk (oP 15 (.fa 0 (.t 14))) [1]),(.mk (oL 16 15) [2]),(.mk (oV 17 0) []),(.mk (oP 18 (.nc (.t 17))) [4]),(.mk (oP 19 (.fa 1 (.t 18))) [5]),(.mk (oL 20 19) [6]),(.mk (oP 21 (.sx (.t 16) (.t 20))) [3,7]),(.mk (oV 2 21) [8,0,1,2,3,4,5,6,7,8])]
def dr_f142_2:List DO:=[(.mk (oV 37 0) []),(.mk (oP 38 (.nc (.t 37))) [0]),(.mk (oP 39 (.fa 1 (.t 38))) [1]),(.mk (oL 40 39) [2]),(.mk (oP 41 (.bin false .add (.t 40) (cI 1))) [3]),(.mk (oV 42 0) []),(.mk (oP 43 (.nc (.t 42))) [5]),(.mk (oP 44 (.fa 0 (.t 43))) [6]),(.mk (oL 45 44) [7]),(.mk (oP 46 (.len true (.t 45))) [8]),(.mk (oP 47 (.bin false .lss (.t 41) (.t 46))) [4,9]),(.mk (oV 48 47) [10]),(.mk (oQ 49 48 true (.mv (.t 0))) [11]),(.mk (oQ 50 48 true (.nc (.t 49))) [12,11]),(.mk (oQ 51 48 true (.fa 0 (.t 50))) [13,11]),(.mk (oG 52 48 true (.m (.ld false 1 (.t 51)))) [14,11]),(.mk (oQ 53 48 true (.mv (.t 0))) [11]),(.mk (oQ 54 48 true (.nc (.t 53))) [16,11]),(.mk (oQ 55 48 true (.fa 1 (.t 54))) [17,11]),(.mk (oG 56 48 true (.m (.ld false 1 (.t 55)))) [18,11]),(.mk (oQ 57 48 true (.bin false .add (.t 56) (cI 1))) [19,11]),(.mk (oQ 58 48 true (.sx (.t 52) (.t 57))) [15,20,11]),(.mk (oQ 59 48 true (.bin false .neq (.t 58) (.c (.v (.int .u8 10))))) [21,11]),(.mk (oP 60 (.pick (.t 48) (.t 59) (cB false))) [11,22]),(.mk (oV 61 60) [23,11]),(.mk (oQ 62 61 true (.mv (.t 0))) [24]),(.mk (oQ 63 61 true (.nc (.t 62))) [25,24]),(.mk (oQ 64 61 true (.fa 0 (.t 63))) [26,24]),(.mk (oG 65 61 true (.m (.ld false 1 (.t 64)))) [27,24]),(.mk (oQ 66 61 true (.mv (.t 0))) [24]),(.mk (oQ 67 61 true (.nc (.t 66))) [29,24]),(.mk (oQ 68 61 true (.fa 1 (.t 67))) [30,24]),(.mk (oG 69 61 true (.m (.ld false 1 (.t 68)))) [31,24]),(.mk (oQ 70 61 true (.bin false .add (.t 69) (cI 1))) [32,24]),(.mk (oQ 71 61 true (.sx (.t 65) (.t 70))) [28,33,24]),(.mk (oG 72 61 true (.call 139 [(.t 71)])) [34,24,24]),(.mk (oP 73 (.pick (.t 61) (.t 72) (cB false))) [24,35])]
def fg_f142_0:Fg:=⟨[(0,none)],[(50000,some tyParserX)]⟩
def tb_f142_0:TC:=(.sq (.sq (.dr dr_f142_2 [(0,[50000]),(1,[50000]),(2,[50000]),(3,[50000]),(4,[]),(5,[50000]),(6,[50000]),(7,[50000]),(8,[50000]),(9,[]),(10,[]),(11,[]),(12,[50000]),(13,[50000]),(14,[50000]),(15,[50000]),(16,[50000]),(17,[50000]),(18,[50000]),(19,[50000]),(20,[]),(21,[]),(22,[]),(23,[]),(24,[]),(25,[50000]),(26,[50000]),(27,[50000]),(28,[50000]),(29,[50000]),(30,[50000]),(31,[50000]),(32,[50000]),(33,[]),(34,[]),(35,[]),(36,[])] (.of [0,1,2,3,4,5,6,7,8,9,10,11,12,13,14,15,16,17,18,19,20,21,22,23,24,25,26,27,28,29,30,31,32,33,34,35,36])) (.cd (.t 73) .sk (.fg ⟨[(0,none)],[(50000,some tyParserX)]⟩ (.ex 3)))) (.bk 4 (.reg [(oV 74 0),(oP 75 (.nc (.t 74))),(oP 76 (.fa 1 (.t 75))),(oL 77 76),(oP 78 (.bin false .add (.t 77) (cI 1))),(oP 79 (.nc (.t 74))),(oP 80 (.fa 1 (.t 79))),(.mk none none (.m (.st 1 (.t 80) (.t 78))))])))
def fg_f142_1:Fg:=⟨[(0,none)],[(50000,some tyParserX)]⟩
def tb_f142_1:TC:=(.sq (.sq (.dr dr_f142_0 [(0,[50000]),(1,[50000]),(2,[50000]),(3,[50000]),(4,[50000]),(5,[50000]),(6,[50000]),(7,[50000]),(8,[]),(9,[])] (.of [0,1,2,3,4,5,6,7,8,9])) (.cd (.t 12) .sk (.fg ⟨[],[(50000,some tyParserX)]⟩ (.ex 0)))) (.bk 1 (.sq (.sq (.dr dr_f142_1 [(0,[50000]),(1,[50000]),(2,[50000]),(3,[50000]),(4,[50000]),(5,[50000]),(6,[50000]),(7,[50000]),(8,[]),(9,[])] (.of [0,1,2,3,4,5,6,7,8,9])) (.sq (.reg [(oV 22 2)]) (.bk 2 (.sq (.reg [(oP 24 (.bin false .eql (.t 22) (.c (.v (.int .u8 10))))),(oV 23 24)]) (.cd (.t 23) (.reg [(oV 25 0),(oP 26 (.nc (.t 25))),(oP 27 (.fa 2 (.t 26))),(oL 28 27),(oP 29 (.bin false .add (.t 28) (cI 1))),(oP 30 (.nc (.t 25))),(oP 31 (.fa 2 (.t 30))),(.mk none none (.m (.st 1 (.t 31) (.t 29))))]) (.sq (.sq (.reg [(oP 33 (.bin false .eql (.t 22) (.c (.v (.int .u8 32))))),(oV 32 33)]) (.cd (.t 32) .sk (.reg [(oP 34 (.bin false .eql (.t 22) (.c (.v (.int .u8 9))))),(oV 32 34)]))) (.cd (.t 32) .sk (.sq (.reg [(oP 36 (.bin false .eql (.t 22) (.c (.v (.int .u8 35))))),(oV 35 36)]) (.cd (.t 35) (.bk 3 (.lp 0 fg_f142_0 tb_f142_0)) (.fg ⟨[],[(50000,some tyParserX)]⟩ .rt)))))))))) (.reg [(oV 81 0),(oV 82 0),(oV 83 0),(oP 84 (.nc (.t 83))),(oP 85 (.fa 1 (.t 84))),(oL 86 85),(oP 87 (.bin false .add (.t 86) (cI 1))),(oP 88 (.nc (.t 81))),(oP 89 (.fa 1 (.t 88))),(.mk none none (.m (.st 1 (.t 89) (.t 87)))),(oP 90 (.nc (.t 82))),(oP 91 (.fa 3 (.t 90))),(.mk none none (.m (.st 1 (.t 91) (cB false))))]))))
def tc_f142:TC:=(.bk 0 (.lp 1 fg_f142_1 tb_f142_1))
def rv_f142:List (RV×Option Ty):=[]
abbrev sh_f142_0:Sh:=⟨[(0,.ptr 50000 0)],[(50000,.box tyParserX)]⟩
def st_f142_0 (y50000:ParserX):VS:=sh_f142_0.st ((),()) (y50000,())
abbrev sh_f142_0_e3:Sh:=⟨[(0,.ptr 50000 0)],[(50000,.box tyParserX)]⟩
def st_f142_0_e3 (y50000:ParserX):VS:=sh_f142_0_e3.st ((),()) (y50000,())
-- loop 0: (y50000 : ParserX); out: ('exit', 3) (y50000 : ParserX)
abbrev sh_f142_1:Sh:=⟨[(0,.ptr 50000 0)],[(50000,.box tyParserX)]⟩
def st_f142_1 (y50000:ParserX):VS:=sh_f142_1.st ((),()) (y50000,())
abbrev sh_f142_1_ret:Sh:=⟨[],[(50000,.box tyParserX)]⟩
def st_f142_1_ret (y50000:ParserX):VS:=sh_f142_1_ret.st () (y50000,())
abbrev sh_f142_1_e0:Sh:=⟨[],[(50000,.box tyParserX)]⟩
def st_f142_1_e0 (y50000:ParserX):VS:=sh_f142_1_e0.st () (y50000,())
-- loop 1: (y50000 : ParserX); out: ('ret',) (y50000 : ParserX); ('exit', 0) (y50000 : ParserX)
def L_f142_0:VS->Option (Bool×List (Bool×Exit×VS)):=mkL sh_f142_0 (fun x y=>(px0 y.1)) (fun x y=>[(true,.exit 3,st_f142_0_e3 (pxUp y.1 (cmN ((bytesL y.1.1.1).drop (y.1.1.2.1+1).toNat))))])
def L_f142_1:VS->Option (Bool×List (Bool×Exit×VS)):=mkL sh_f142_1 (fun x y=>(px1 y.1)) (fun x y=>[((ilt (pkD y.1).1.2.1 (slen y.1.1.1)),.ret,st_f142_1_ret (pkD y.1)),(true,.exit 0,st_f142_1_e0 (pkD y.1))])
def g_f142:G:=⟨TYs,[],92,EL [(139,sp_f139)],keeps,(Ls [L_f142_0,L_f142_1]),IL [],RL []⟩
def b_f142_0 (y50000:ParserX):Option (Exit×VS):=
 br ((ilt (iadd .i64 y50000.1.2.1 1) (slen y50000.1.1)))
  (br (cSx y50000.1.1 (iadd .i64 y50000.1.2.1 1))
   (br ((ine (sgt y50000.1.1 (iadd .i64 y50000.1.2.1 1)) 10))
    (br (cSx y50000.1.1 (iadd .i64 y50000.1.2.1 1))
     (br ((isClI (sgt y50000.1.1 (iadd .i64 y50000.1.2.1 1))))
      (some (.normal,st_f142_0 ((y50000.1.1,((iadd .i64 y50000.1.2.1 1),y50000.1.2.2)),y50000.2)))
      (some (.exit 3,st_f142_0_e3 y50000)))
     (none))
    (some (.exit 3,st_f142_0_e3 y50000)))
   (none))
  (some (.exit 3,st_f142_0_e3 y50000))
noncomputable def lp_f142_0 (y50000:ParserX):Option (Exit×VS):=loopF (roundF g_f142 fg_f142_0 tb_f142_0) (st_f142_0 y50000)
noncomputable def n_f142_0 (y50000:ParserX):Option (Exit×VS):=
 br ((ilt (iadd .i64 y50000.1.2.1 1) (slen y50000.1.1)))
  (br (cSx y50000.1.1 (iadd .i64 y50000.1.2.1 1))
   (br ((ine (sgt y50000.1.1 (iadd .i64 y50000.1.2.1 1)) 10))
    (br (cSx y50000.1.1 (iadd .i64 y50000.1.2.1 1))
     (br ((isClI (sgt y50000.1.1 (iadd .i64 y50000.1.2.1 1))))
      (lp_f142_0 ((y50000.1.1,((iadd .i64 y50000.1.2.1 1),y50000.1.2.2)),y50000.2))
      (some (.exit 3,st_f142_0_e3 y50000)))
     (none))
    (some (.exit 3,st_f142_0_e3 y50000)))
   (none))
  (some (.exit 3,st_f142_0_e3 y50000))
def la_f142_0 (y50000:ParserX):Option (Exit×VS):=some (.exit 3,st_f142_0_e3 (pxUp y50000 (cmN ((bytesL y50000.1.1).drop (y50000.1.2.1+1).toNat))))
theorem be_f142_0 (y50000:ParserX):roundF g_f142 fg_f142_0 tb_f142_0 (st_f142_0 y50000)=b_f142_0 y50000:=by kernel_rfl
theorem ln_f142_0 (y50000:ParserX):lp_f142_0 y50000=n_f142_0 y50000:=(loopF_nxt _ _).trans (by
 rw [be_f142_0]
 simp only [b_f142_0,n_f142_0,nxt_br,nxt_n,nxt_r,nxt_e,nxt_0]
 rfl)
def b_f142_1_1 (y50000:ParserX):Option (Exit×VS):=
 br ((ieq (sgt y50000.1.1 y50000.1.2.1) 35))
  (br ((px0 y50000))
   (some (.normal,st_f142_1 ((((pxUp y50000 (cmN ((bytesL y50000.1.1).drop (y50000.1.2.1+1).toNat))).1).1,((iadd .i64 ((((pxUp y50000 (cmN ((bytesL y50000.1.1).drop (y50000.1.2.1+1).toNat))).1).2).1) 1),(((((pxUp y50000 (cmN ((bytesL y50000.1.1).drop (y50000.1.2.1+1).toNat))).1).2).2).1,(false,(((((pxUp y50000 (cmN ((bytesL y50000.1.1).drop (y50000.1.2.1+1).toNat))).1).2).2).2).2)))),(pxUp y50000 (cmN ((bytesL y50000.1.1).drop (y50000.1.2.1+1).toNat))).2)))
   (none))
  (some (.ret,st_f142_1_ret y50000))
def b_f142_1 (y50000:ParserX):Option (Exit×VS):=
 br ((ilt y50000.1.2.1 (slen y50000.1.1)))
  (br (cSx y50000.1.1 y50000.1.2.1)
   (br ((ieq (sgt y50000.1.1 y50000.1.2.1) 10))
    (some (.normal,st_f142_1 ((y50000.1.1,((iadd .i64 y50000.1.2.1 1),((iadd .i64 y50000.1.2.2.1 1),(false,y50000.1.2.2.2.2)))),y50000.2)))
    (br ((ieq (sgt y50000.1.1 y50000.1.2.1) 32))
     (br ((ieq (sgt y50000.1.1 y50000.1.2.1) 32))
      (some (.normal,st_f142_1 ((y50000.1.1,((iadd .i64 y50000.1.2.1 1),(y50000.1.2.2.1,(false,y50000.1.2.2.2.2)))),y50000.2)))
      (b_f142_1_1 y50000))
     (br ((ieq (sgt y50000.1.1 y50000.1.2.1) 9))
      (some (.normal,st_f142_1 ((y50000.1.1,((iadd .i64 y50000.1.2.1 1),(y50000.1.2.2.1,(false,y50000.1.2.2.2.2)))),y50000.2)))
      (b_f142_1_1 y50000))))
   (none))
  (some (.exit 0,st_f142_1_e0 y50000))
noncomputable def lp_f142_1 (y50000:ParserX):Option (Exit×VS):=loopF (roundF g_f142 fg_f142_1 tb_f142_1) (st_f142_1 y50000)
noncomputable def n_f142_1_1 (y50000:ParserX):Option (Exit×VS):=
 br ((ieq (sgt y50000.1.1 y50000.1.2.1) 35))
  (br ((px0 y50000))
   (lp_f142_1 ((((pxUp y50000 (cmN ((bytesL y50000.1.1).drop (y50000.1.2.1+1).toNat))).1).1,((iadd .i64 ((((pxUp y50000 (cmN ((bytesL y50000.1.1).drop (y50000.1.2.1+1).toNat))).1).2).1) 1),(((((pxUp y50000 (cmN ((bytesL y50000.1.1).drop (y50000.1.2.1+1).toNat))).1).2).2).1,(false,(((((pxUp y50000 (cmN ((bytesL y50000.1.1).drop (y50000.1.2.1+1).toNat))).1).2).2).2).2)))),(pxUp y50000 (cmN ((bytesL y50000.1.1).drop (y50000.1.2.1+1).toNat))).2))
   (none))
  (some (.ret,st_f142_1_ret y50000))
noncomputable def n_f142_1 (y50000:ParserX):Option (Exit×VS):=
 br ((ilt y50000.1.2.1 (slen y50000.1.1)))
  (br (cSx y50000.1.1 y50000.1.2.1)
   (br ((ieq (sgt y50000.1.1 y50000.1.2.1) 10))
    (lp_f142_1 ((y50000.1.1,((iadd .i64 y50000.1.2.1 1),((iadd .i64 y50000.1.2.2.1 1),(false,y50000.1.2.2.2.2)))),y50000.2))
    (br ((ieq (sgt y50000.1.1 y50000.1.2.1) 32))
     (br ((ieq (sgt y50000.1.1 y50000.1.2.1) 32))
      (lp_f142_1 ((y50000.1.1,((iadd .i64 y50000.1.2.1 1),(y50000.1.2.2.1,(false,y50000.1.2.2.2.2)))),y50000.2))
      (n_f142_1_1 y50000))
     (br ((ieq (sgt y50000.1.1 y50000.1.2.1) 9))
      (lp_f142_1 ((y50000.1.1,((iadd .i64 y50000.1.2.1 1),(y50000.1.2.2.1,(false,y50000.1.2.2.2.2)))),y50000.2))
      (n_f142_1_1 y50000))))
   (none))
  (some (.exit 0,st_f142_1_e0 y50000))
def la_f142_1 (y50000:ParserX):Option (Exit×VS):=br (ilt (pkD y50000).1.2.1 (slen y50000.1.1)) (some (.ret,st_f142_1_ret (pkD y50000)))<|some (.exit 0,st_f142_1_e0 (pkD y50000))
theorem be_f142_1 (y50000:ParserX):roundF g_f142 fg_f142_1 tb_f142_1 (st_f142_1 y50000)=b_f142_1 y50000:=by kernel_rfl
theorem ln_f142_1 (y50000:ParserX):lp_f142_1 y50000=n_f142_1 y50000:=(loopF_nxt _ _).trans (by
 rw [be_f142_1]
 simp only [b_f142_1,b_f142_1_1,n_f142_1,n_f142_1_1,nxt_br,nxt_n,nxt_r,nxt_e,nxt_0]
 rfl)
def r_f142 (d0:ParserX):Option (V×List VO):=
 br ((px1 d0))
  (br ((ilt (pkD d0).1.2.1 (slen d0.1.1)))
   (some (.tu [],[.box (.t tyParserX (pkD d0))]))
   (some (.tu [],[.box (.t tyParserX (pkD d0))])))
  (none)
theorem e_f142 (d0:ParserX):runF g_f142 tc_f142 rv_f142 false [.ptr 50000 0] [.box (.t tyParserX d0)]=r_f142 d0:=by kernel_rfl
theorem ok_f142:Option.map (trC Tryd.prog) Tryd.f142.body=some tc_f142.er:=by kernel_rfl
theorem rok_f142:trVs Tryd.prog Tryd.f142.results.toList=some (rv_f142.map Prod.fst):=by kernel_rfl
theorem en_f142:Entered Tryd.prog 142:= .inr ⟨by decide,_,Tryd.func142,by kernel_rfl,by kernel_rfl⟩
theorem gk_f142:GOk Tryd.prog g_f142:=gok_of _ (by
 intro p hp
 simp only [List.mem_cons,List.not_mem_nil,or_false] at hp
 rcases hp with rfl
 ·exact ⟨en_f139,ms_f139⟩)
theorem l_f142_0 (y50000:ParserX)(h:(px0 y50000)=true):lp_f142_0 y50000=la_f142_0 y50000:=by
 obtain ⟨⟨t,a,z⟩,r⟩:=y50000
 obtain ⟨h1,h2,h3⟩:=cP_of h
 clear h
 simp only at h1 h2 h3
 obtain ⟨k,rfl⟩:=Int.eq_ofNat_of_zero_le h1
 have hl:=bytesG_len t
 have la: ∀ k:Nat,la_f142_0 ((t,((k:Int),z)),r)=some (.exit 3,st_f142_0_e3 ((t,((k:Int)+(cmN ((bytesL t).drop (k+1)):Int),z)),r)):=fun k=>by
  show some (_,st_f142_0_e3 ((t,((k:Int)+(cmN ((bytesL t).drop ((k:Int)+1).toNat):Int),z)),r))=_
  rw [show ((k:Int)+1).toNat=k+1 by omega]
 have key: ∀ (m k:Nat),k+1+m=t.size->lp_f142_0 ((t,((k:Int),z)),r)=la_f142_0 ((t,((k:Int),z)),r):=by
  intro m
  induction m with
  |zero=>
   intro k hm
   have e2:ilt ((k+1:Nat):Int) (slen t)=false:=decide_eq_false (by simp only [slen];omega)
   rw [ln_f142_0,la]
   unfold n_f142_0
   simp only
   rw [add1 (k:=k),e2,br_false,List.drop_eq_nil_of_le (by omega)]
   show _=some (_,st_f142_0_e3 ((t,((k:Int)+0,z)),r))
   rw [Int.add_zero]
  |succ m ih=>
   intro k hm
   have hlt:k+1<t.size:=by omega
   have hkl:k+1<(bytesL t).length:=by omega
   have e2:ilt ((k+1:Nat):Int) (slen t)=true:=decide_eq_true (by simp only [slen];omega)
   have e3:cSx t ((k+1:Nat):Int)=true:=by simp only [cSx,decide_eq_true_eq];omega
   rw [ln_f142_0,la]
   unfold n_f142_0
   simp only
   rw [add1 (k:=k),e2,br_true,e3,br_true,br_true,sgt_get hlt,ih (k+1) (by omega),la,List.drop_eq_getElem_cons hkl]
   generalize (bytesL t)[k+1]=c
   have e:cmN (c::(bytesL t).drop (k+1+1))=bif isClI c then cmN ((bytesL t).drop (k+1+1))+1 else 0:=by rw [cmN.eq_def]
   rw [e,show ine c 10= !ieq c 10 from rfl]
   cases h10:ieq c 10 with
   |true=>
    rw [(cl_10 h10).1,Bool.not_true,br_false]
    show _=some (_,st_f142_0_e3 ((t,((k:Int)+0,z)),r))
    rw [Int.add_zero]
   |false=>
    rw [Bool.not_false,br_true]
    cases isClI c with
    |true=>
     rw [br_true,cond_true,show (((k+1:Nat):Int)+(cmN ((bytesL t).drop (k+1+1)):Int))=(k:Int)+((cmN ((bytesL t).drop (k+1+1))+1:Nat):Int) by omega]
    |false=>
     rw [br_false]
     show _=some (_,st_f142_0_e3 ((t,((k:Int)+0,z)),r))
     rw [Int.add_zero]
 exact key (t.size-k-1) k (by omega)
theorem l_f142_1 (y50000:ParserX)(h:(px1 y50000)=true):lp_f142_1 y50000=la_f142_1 y50000:=by
 obtain ⟨⟨t,a,ln,w,u1⟩,r⟩:=y50000
 obtain ⟨h1,h2,h3,h4,h5⟩:=cP_of h
 clear h
 simp only at h1 h2 h3 h4 h5
 obtain ⟨k,rfl⟩:=Int.eq_ofNat_of_zero_le h1
 have hl:=bytesG_len t
 have key: ∀ (m k:Nat) (ln:Int) (w:Bool),t.size-k=m->k<=t.size->0<=ln->ln<=(k:Int)+1->lp_f142_1 ((t,((k:Int),(ln,(w,())))),r)=la_f142_1 ((t,((k:Int),(ln,(w,())))),r):=by
  intro m
  induction m using Nat.strongRecOn with
  |ind m ih=>
   intro k ln w hm hk hl0 hl1
   have la: ∀ (a ln:Int) (w:Bool),la_f142_1 ((t,(a,(ln,(w,())))),r)=br (ilt (pkD ((t,(a,(ln,(w,())))),r)).1.2.1 (slen t)) (some (.ret,st_f142_1_ret (pkD ((t,(a,(ln,(w,())))),r)))) (some (.exit 0,st_f142_1_e0 (pkD ((t,(a,(ln,(w,())))),r)))):=fun a ln w=>rfl
   have pd: ∀ (k:Nat) (ln:Int) (w:Bool),pkD ((t,((k:Int),(ln,(w,())))),r)=((t,((k:Int)+((pkL ((bytesL t).drop k) false w).1:Int),(ln+((pkL ((bytesL t).drop k) false w).2.1:Int),((pkL ((bytesL t).drop k) false w).2.2,())))),r):=fun k ln w=>rfl
   have go: ∀ (k':Nat) (ln':Int) (w':Bool),k<k'->k'<=t.size->0<=ln'->ln'<=(k':Int)+1->pkD ((t,((k:Int),(ln,(w,())))),r)=pkD ((t,((k':Int),(ln',(w',())))),r)->lp_f142_1 ((t,((k':Int),(ln',(w',())))),r)=la_f142_1 ((t,((k:Int),(ln,(w,())))),r):=fun k' ln' w' g1 g2 g3 g4 g5=>by
    rw [ih (t.size-k') (by omega) k' ln' w' rfl g2 g3 g4,la,la,g5]
   rw [ln_f142_1]
   unfold n_f142_1 n_f142_1_1
   simp only
   by_cases hlt:k<t.size
   ·have hkl:k<(bytesL t).length:=by omega
    have e2:ilt (k:Int) (slen t)=true:=decide_eq_true (by simp only [slen];omega)
    have e3:cSx t (k:Int)=true:=by simp only [cSx,decide_eq_true_eq];omega
    have e0:px0 ((t,((k:Int),(ln,(w,())))),r)=true:=cP_in ⟨by show (0:Int)<=(k:Int);omega,by show (k:Int)<(t.size:Int);omega,h3⟩
    have hc:(bytesL t).drop k=(bytesL t)[k]::(bytesL t).drop (k+1):=List.drop_eq_getElem_cons hkl
    have hm:=cmN_le ((bytesL t).drop (k+1))
    rw [List.length_drop] at hm
    have eu:pxUp ((t,((k:Int),(ln,(w,())))),r) (cmN ((bytesL t).drop ((k:Int)+1).toNat):Int)=((t,(((k+cmN ((bytesL t).drop (k+1)):Nat):Int),(ln,(w,())))),r):=by
     unfold pxUp
     rw [show ((k:Int)+1).toNat=k+1 by omega]
     simp only
     rw [show (k:Int)+(cmN ((bytesL t).drop (k+1)):Int)=((k+cmN ((bytesL t).drop (k+1)):Nat):Int) by omega]
    rw [e2,br_true,e3,br_true,sgt_get hlt,e0,br_true,eu]
    simp only
    rw [add1 (k:=k),add1 (show k+cmN ((bytesL t).drop (k+1))<4611686018427387904 by omega),iadd_in (show-9223372036854775808<=ln+1/\ln+1<=9223372036854775807 by omega)]
    generalize hg:(bytesL t)[k]=c at hc
    have ec: ∀ q:Bool,pkL (c::(bytesL t).drop (k+1)) false q=bif blkI c then ((pkL ((bytesL t).drop (k+1)) false false).1+1,((pkL ((bytesL t).drop (k+1)) false false).2.1+(bif ieq c 10 then 1 else 0),(pkL ((bytesL t).drop (k+1)) false false).2.2)) else
      bif ieq c 35 then ((pkL ((bytesL t).drop (k+1)) true false).1+1,(pkL ((bytesL t).drop (k+1)) true false).2) else (0,(0,q)):=fun q=>by rw [pkL.eq_def];rfl
    have blk:blkI c=(ieq c 9||(ieq c 32||ieq c 10)):=rfl
    cases h10:ieq c 10 with
    |true=>
     rw [br_true]
     refine go (k+1) (ln+1) false (by omega) (by omega) (by omega) (by omega) ?_
     rw [pd,pd,hc,ec,blk,h10,Bool.or_true,Bool.or_true,cond_true,cond_true]
     simp only
     rw [show (k:Int)+(((pkL ((bytesL t).drop (k+1)) false false).1+1:Nat):Int)=((k+1:Nat):Int)+((pkL ((bytesL t).drop (k+1)) false false).1:Int) by omega,show ln+(((pkL ((bytesL t).drop (k+1)) false false).2.1+1:Nat):Int)=ln+1+((pkL ((bytesL t).drop (k+1)) false false).2.1:Int) by omega]
    |false=>
     have sp:blkI c=true->pkD ((t,((k:Int),(ln,(w,())))),r)=pkD ((t,(((k+1:Nat):Int),(ln,(false,())))),r):=fun hb=>by
      rw [pd,pd,hc,ec,hb,h10,cond_true,cond_false]
      simp only [Nat.add_zero]
      rw [show (k:Int)+(((pkL ((bytesL t).drop (k+1)) false false).1+1:Nat):Int)=((k+1:Nat):Int)+((pkL ((bytesL t).drop (k+1)) false false).1:Int) by omega]
     have sg:lp_f142_1 ((t,(((k+1:Nat):Int),(ln,(false,())))),r)=lp_f142_1 ((t,(((k+1:Nat):Int),(ln,(false,())))),r):=rfl
     rw [br_false]
     cases h32:ieq c 32 with
     |true=>
      rw [br_true,br_true]
      exact go (k+1) ln false (by omega) (by omega) hl0 (by omega) (sp (by rw [blk,h32,Bool.true_or,Bool.or_true]))
     |false=>
      rw [br_false]
      cases h9:ieq c 9 with
      |true=>
       rw [br_true]
       exact go (k+1) ln false (by omega) (by omega) hl0 (by omega) (sp (by rw [blk,h9,Bool.true_or]))
      |false=>
       rw [br_false]
       have hb:blkI c=false:=by rw [blk,h9,h32,h10];rfl
       cases h35:ieq c 35 with
       |true=>
        rw [br_true]
        refine go (k+cmN ((bytesL t).drop (k+1))+1) ln false (by omega) (by omega) hl0 (by omega) ?_
        rw [pd,pd,hc,ec,hb,h35,cond_false,cond_true,pk_cm,List.drop_drop]
        simp only
        rw [show k+1+cmN ((bytesL t).drop (k+1))=k+cmN ((bytesL t).drop (k+1))+1 by omega]
        generalize (pkL ((bytesL t).drop (k+cmN ((bytesL t).drop (k+1))+1)) false false)=K
        rw [show (k:Int)+((K.1+cmN ((bytesL t).drop (k+1))+1:Nat):Int)=((k+cmN ((bytesL t).drop (k+1))+1:Nat):Int)+(K.1:Int) by omega]
       |false=>
        rw [br_false,la,pd,hc,ec,hb,h35,cond_false,cond_false]
        simp only
        rw [show (k:Int)+((0:Nat):Int)=(k:Int) by omega,show ln+((0:Nat):Int)=ln by omega,e2,br_true]
   ·obtain rfl:k=t.size:=by omega
    have e2:ilt ((t.size:Nat):Int) (slen t)=false:=decide_eq_false (by simp only [slen];omega)
    rw [e2,br_false,la,pd,List.drop_eq_nil_of_le (by omega)]
    simp only [pkL]
    rw [show ((t.size:Nat):Int)+((0:Nat):Int)=((t.size:Nat):Int) by omega,show ln+((0:Nat):Int)=ln by omega,e2,br_false]
 exact key _ k ln w rfl (by omega) h4 h5
theorem lo_f142_0: ∀ S l p,g_f142.L 0 (fgt fg_f142_0 S)=some (true,l)->pickA l=some p->loopF (roundF g_f142 fg_f142_0 tb_f142_0) S=some p:=
 lok_of (s:=sh_f142_0) ⟨by decide,by decide⟩ (by kernel_rfl) fun x y hok p hp=>by
 simp only [pickA_br,pickA_one] at hp
 exact (l_f142_0 y.1 (by simpa using hok)).trans hp
theorem lo_f142_1: ∀ S l p,g_f142.L 1 (fgt fg_f142_1 S)=some (true,l)->pickA l=some p->loopF (roundF g_f142 fg_f142_1 tb_f142_1) S=some p:=
 lok_of (s:=sh_f142_1) ⟨by decide,by decide⟩ (by kernel_rfl) fun x y hok p hp=>by
 simp only [pickA_br,pickA_one] at hp
 exact (l_f142_1 y.1 (by simpa using hok)).trans hp
theorem lk_f142:tc_f142.lok g_f142:=by
 repeat (first|exact trivial|exact lo_f142_0|exact lo_f142_1|refine ⟨?_, ?_⟩)
theorem s_f142 (x:ParserX)(h:px1 x=true):r_f142 x=some (.tu [],[.box (.t tyParserX (pkD x))]):=by
 unfold r_f142
 refine brY h ?_
 cases ilt (pkD x).1.2.1 (slen x.1.1)<;>rfl
def sp_f142:Ent:=specP tyParserX .nil (fun d x=>(px1 d)) (fun d x=>(.tu [])) (fun d x=>(pkD d))
theorem ms_f142:Meets Tryd.prog 142 (strip sp_f142):=by
 obtain ⟨c,hc,hi⟩:=Option.map_eq_some_iff.1 ok_f142
 exact meets_specP (R:=runF g_f142 tc_f142 rv_f142 false) (meets_of (by decide) Tryd.func142 hc hi Tryd.ntmps142 rok_f142 gk_f142 lk_f142 mixed) rfl fun d x hok=>(e_f142 d).trans (s_f142 d hok)
end
end Go.Proofs.YtkkoedniahnneaaDoor.K
namespace Go.Proofs.YtkkoedniahnneaaDoor.K
open Go.RowKit
noncomputable section
set_option linter.unusedSectionVars false
def pxN (x:ParserX)(n:Int):ParserX:=((x.1.1,(x.1.2.1+n,(x.1.2.2.1,(false,())))),x.2)
def tkP (k:Int)(x:ParserX):Token:=(k,(pxL x,(ByteArray.mk #[],())))
def pnQ (x:ParserX):Token×ParserX:=
 bif ieq x.1.2.1 (slen x.1.1) then (tkP 6 x,x) else
 bif ieq (sgt x.1.1 x.1.2.1) 59 then (tkP 0 x,pxN x 1) else
 bif ieq (sgt x.1.1 x.1.2.1) 123 then (tkP 1 x,pxN x 1) else
 bif ieq (sgt x.1.1 x.1.2.1) 125 then (tkP 2 x,pxN x 1) else
 bif pxW x then (tkP 5 x,pxN x 0) else
 bif ltrB (sgt x.1.1 x.1.2.1) then ((3,(pxL x,(ssl x.1.1 x.1.2.1 (x.1.2.1+ltL (pxR x)),()))),pxTo x (ltL (pxR x)) true) else
 bif ieq (sgt x.1.1 x.1.2.1) 34 then (pqF (pxN x 0),pqD (pxN x 0)) else (tkP 5 x,pxN x 0)
def pnF (x:ParserX):Token:=(pnQ (pkD x)).1
def pnD (x:ParserX):ParserX:=(pnQ (pkD x)).2
def ixK (c:Int):Int:=bif ieq c 59 then 0 else bif ieq c 123 then 1 else bif ieq c 125 then 2 else-1
theorem ix_tab:((List.range 256).all fun n=>ixbF (ByteArray.mk #[59,123,125]) (n:Int)==ixK (n:Int))=true:=by kernel_rfl
theorem ix_eq {c:Int}(h:bytI c=true):ixbF (ByteArray.mk #[59,123,125]) c=ixK c:=by
 obtain ⟨h1,h2⟩:=of_decide_eq_true h
 obtain ⟨n,rfl⟩:=Int.eq_ofNat_of_zero_le h1
 exact eq_of_beq (List.all_eq_true.1 ix_tab n (List.mem_range.2 (by omega)))
def pl0 (x:ParserX):Bool:=cP (0<=x.1.2.1/\x.1.2.1<=x.1.1.size/\x.1.1.size<=1000000)
def dr_f117_0:List DO:=[(.mk (oV 8 0) []),(.mk (oP 9 (.nc (.t 8))) [0]),(.mk (oP 10 (.fa 1 (.t 9))) [1]),(.mk (oL 11 10) [2]),(.mk (oV 12 0) []),(.mk (oP 13 (.nc (.t 12))) [4]),(.mk (oP 14 (.fa 0 (.t 13))) [5]),(.mk (oL 15 14) [6]),(.mk (oP 16 (.len true (.t 15))) [7]),(.mk (oP 17 (.bin false .eql (.t 11) (.t 16))) [3,8])]
def dr_f117_1:List DO:=[(.mk (oV 30 0) []),(.mk (oP 31 (.nc (.t 30))) [0]),(.mk (oP 32 (.fa 0 (.t 31))) [1]),(.mk (oL 33 32) [2]),(.mk (oV 34 0) []),(.mk (oP 35 (.nc (.t 34))) [4]),(.mk (oP 36 (.fa 1 (.t 35))) [5]),(.mk (oL 37 36) [6]),(.mk (oP 38 (.sx (.t 33) (.t 37))) [3,7]),(.mk (oV 4 38) [8,0,1,2,3,4,5,6,7,8])]
def dr_f117_2:List DO:=[(.mk (oV 50 4) []),(.mk (oC 51 143 [(.c (.v (.string (ByteArray.mk #[59,123,125])))),(.t 50)]) [0]),(.mk (oV 52 0) []),(.mk (oP 53 (.nc (.t 52))) [2]),(.mk (oP 54 (.fa 2 (.t 53))) [3]),(.mk (oL 55 54) [4]),(.mk (oP 56 (.bd [(.v (.int .i64 0)),(.v (.int .i64 0)),(.v (.string (ByteArray.mk #[])))] [(0,1,(.t 51)),(1,1,(.t 55)),(2,1,(.c (.v (.string (ByteArray.mk #[])))))])) [1,5]),(.mk (.mk none none (.m (.st 3 (.t 2) (.t 56)))) [6,1,0,1,2,3,4,5,6])]
def dr_f117_3:List DO:=[(.mk (oV 71 0) []),(.mk (oP 72 (.nc (.t 71))) [0]),(.mk (oP 73 (.fa 1 (.t 72))) [1]),(.mk (oL 74 73) [2]),(.mk (oV 75 0) []),(.mk (oP 76 (.nc (.t 75))) [4]),(.mk (oP 77 (.fa 0 (.t 76))) [5]),(.mk (oL 78 77) [6]),(.mk (oP 79 (.len true (.t 78))) [7]),(.mk (oP 80 (.bin false .lss (.t 74) (.t 79))) [3,8]),(.mk (oV 81 80) [9]),(.mk (oQ 82 81 true (.mv (.t 0))) [10]),(.mk (oQ 83 81 true (.nc (.t 82))) [11,10]),(.mk (oQ 84 81 true (.fa 0 (.t 83))) [12,10]),(.mk (oG 85 81 true (.m (.ld false 1 (.t 84)))) [13,10]),(.mk (oQ 86 81 true (.mv (.t 0))) [10]),(.mk (oQ 87 81 true (.nc (.t 86))) [15,10]),(.mk (oQ 88 81 true (.fa 1 (.t 87))) [16,10]),(.mk (oG 89 81 true (.m (.ld false 1 (.t 88)))) [17,10]),(.mk (oQ 90 81 true (.sx (.t 85) (.t 89))) [14,18,10]),(.mk (oG 91 81 true (.call 140 [(.t 90)])) [19,10,10]),(.mk (oP 92 (.pick (.t 81) (.t 91) (cB false))) [10,20])]
def dr_f117_4:List DO:=[(.mk (oV 103 0) []),(.mk (oP 104 (.nc (.t 103))) [0]),(.mk (oP 105 (.fa 2 (.t 104))) [1]),(.mk (oL 106 105) [2]),(.mk (oV 107 0) []),(.mk (oP 108 (.nc (.t 107))) [4]),(.mk (oP 109 (.fa 0 (.t 108))) [5]),(.mk (oL 110 109) [6]),(.mk (oV 111 5) []),(.mk (oV 112 0) []),(.mk (oP 113 (.nc (.t 112))) [9]),(.mk (oP 114 (.fa 1 (.t 113))) [10]),(.mk (oL 115 114) [11]),(.mk (oP 116 (.sls (.t 110) (some (.t 111)) (some (.t 115)))) [7,8,12]),(.mk (oP 117 (.bd [(.v (.int .i64 0)),(.v (.int .i64 0)),(.v (.string (ByteArray.mk #[])))] [(0,1,(cI 3)),(1,1,(.t 106)),(2,1,(.t 116))])) [3,13]),(.mk (.mk none none (.m (.st 3 (.t 2) (.t 117)))) [14,0,1,2,3,4,5,6,7,8,9,10,11,12,13,14])]
def fg_f117_0:Fg:=⟨[(0,none),(2,none),(5,some tI)],[(2,some tyToken),(50000,some tyParserX)]⟩
def tb_f117_0:TC:=(.sq (.sq (.dr dr_f117_3 [(0,[50000]),(1,[50000]),(2,[50000]),(3,[50000]),(4,[50000]),(5,[50000]),(6,[50000]),(7,[50000]),(8,[]),(9,[]),(10,[]),(11,[50000]),(12,[50000]),(13,[50000]),(14,[50000]),(15,[50000]),(16,[50000]),(17,[50000]),(18,[50000]),(19,[]),(20,[]),(21,[])] (.of [0,1,2,3,4,5,6,7,8,9,10,11,12,13,14,15,16,17,18,19,20,21])) (.cd (.t 92) .sk (.fg ⟨[(0,none),(2,none),(5,some tI)],[(2,some tyToken),(50000,some tyParserX)]⟩ (.ex 1)))) (.bk 2 (.reg [(oV 93 0),(oP 94 (.nc (.t 93))),(oP 95 (.fa 1 (.t 94))),(oL 96 95),(oP 97 (.bin false .add (.t 96) (cI 1))),(oP 98 (.nc (.t 93))),(oP 99 (.fa 1 (.t 98))),(.mk none none (.m (.st 1 (.t 99) (.t 97))))])))
def tc_f117:TC:=(.sq (.reg [(oM 2 (.new [(.v (.int .i64 0)),(.v (.int .i64 0)),(.v (.string (ByteArray.mk #[])))]))]) (.sq (.reg [(oV 6 0),(oC 7 142 [(.t 6)])]) (.sq (.sq (.dr dr_f117_0 [(0,[50000]),(1,[50000]),(2,[50000]),(3,[50000]),(4,[50000]),(5,[50000]),(6,[50000]),(7,[50000]),(8,[]),(9,[])] (.of [0,1,2,3,4,5,6,7,8,9])) (.cd (.t 17) (.sq (.reg [(oV 18 0),(oP 19 (.nc (.t 18))),(oP 20 (.fa 2 (.t 19))),(oL 21 20),(oP 22 (.bd [(.v (.int .i64 0)),(.v (.int .i64 0)),(.v (.string (ByteArray.mk #[])))] [(0,1,(cI 6)),(1,1,(.t 21)),(2,1,(.c (.v (.string (ByteArray.mk #[])))))])),(.mk none none (.m (.st 3 (.t 2) (.t 22))))]) .rt) .sk)) (.sq (.reg [(oV 23 0),(oP 24 (.nc (.t 23))),(oP 25 (.fa 3 (.t 24))),(oL 26 25),(oV 3 26)]) (.sq (.reg [(oV 27 0),(oP 28 (.nc (.t 27))),(oP 29 (.fa 3 (.t 28))),(.mk none none (.m (.st 1 (.t 29) (cB false))))]) (.sq (.sq (.dr dr_f117_1 [(0,[50000]),(1,[50000]),(2,[50000]),(3,[50000]),(4,[50000]),(5,[50000]),(6,[50000]),(7,[50000]),(8,[]),(9,[])] (.of [0,1,2,3,4,5,6,7,8,9])) (.bk 0 (.sq (.reg [(oV 40 4),(oC 41 143 [(.c (.v (.string (ByteArray.mk #[59,123,125])))),(.t 40)]),(oP 42 (.bin false .geq (.t 41) (cI 0))),(oV 39 42)]) (.cd (.t 39) (.sq (.reg [(oV 43 0),(oP 44 (.nc (.t 43))),(oP 45 (.fa 1 (.t 44))),(oL 46 45),(oP 47 (.bin false .add (.t 46) (cI 1))),(oP 48 (.nc (.t 43))),(oP 49 (.fa 1 (.t 48))),(.mk none none (.m (.st 1 (.t 49) (.t 47))))]) (.sq (.dr dr_f117_2 [(0,[]),(1,[]),(2,[50000]),(3,[50000]),(4,[50000]),(5,[50000]),(6,[]),(7,[2])] (.of [0,1,2,3,4,5,6,7])) .rt)) (.sq (.reg [(oV 58 3),(oV 57 58)]) (.cd (.t 57) (.sq (.reg [(oV 59 0),(oP 60 (.nc (.t 59))),(oP 61 (.fa 2 (.t 60))),(oL 62 61),(oP 63 (.bd [(.v (.int .i64 0)),(.v (.int .i64 0)),(.v (.string (ByteArray.mk #[])))] [(0,1,(cI 5)),(1,1,(.t 62)),(2,1,(.c (.v (.string (ByteArray.mk #[])))))])),(.mk none none (.m (.st 3 (.t 2) (.t 63))))]) .rt) (.sq (.reg [(oV 65 4),(oC 66 140 [(.t 65)]),(oV 64 66)]) (.cd (.t 64) (.sq (.reg [(oV 67 0),(oP 68 (.nc (.t 67))),(oP 69 (.fa 1 (.t 68))),(oL 70 69),(oV 5 70)]) (.sq (.bk 1 (.lp 0 fg_f117_0 tb_f117_0)) (.sq (.reg [(oV 100 0),(oP 101 (.nc (.t 100))),(oP 102 (.fa 3 (.t 101))),(.mk none none (.m (.st 1 (.t 102) (cB true))))]) (.sq (.dr dr_f117_4 [(0,[50000]),(1,[50000]),(2,[50000]),(3,[50000]),(4,[50000]),(5,[50000]),(6,[50000]),(7,[50000]),(8,[]),(9,[50000]),(10,[50000]),(11,[50000]),(12,[50000]),(13,[]),(14,[]),(15,[2])] (.of [0,1,2,3,4,5,6,7,8,9,10,11,12,13,14,15])) .rt)))) (.sq (.reg [(oV 119 4),(oP 120 (.bin false .eql (.t 119) (.c (.v (.int .u8 34))))),(oV 118 120)]) (.cd (.t 118) (.sq (.reg [(oV 121 0),(oC 122 144 [(.t 121)]),(.mk none none (.m (.st 3 (.t 2) (.t 122))))]) .rt) .sk)))))))))) (.sq (.reg [(oV 123 0),(oP 124 (.nc (.t 123))),(oP 125 (.fa 2 (.t 124))),(oL 126 125),(oP 127 (.bd [(.v (.int .i64 0)),(.v (.int .i64 0)),(.v (.string (ByteArray.mk #[])))] [(0,1,(cI 5)),(1,1,(.t 126)),(2,1,(.c (.v (.string (ByteArray.mk #[])))))])),(.mk none none (.m (.st 3 (.t 2) (.t 127))))]) .rt)))))))
def rv_f117:List (RV×Option Ty):=[((.c 2 true 3),some tyToken)]
abbrev sh_f117_0:Sh:=⟨[(0,.ptr 50000 0),(2,.ptr 2 0),(5,.ty tI)],[(2,.box tyToken),(50000,.box tyParserX)]⟩
def st_f117_0 (x5:Int)(y2:Token)(y50000:ParserX):VS:=sh_f117_0.st ((),(),x5,()) (y2,y50000,())
abbrev sh_f117_0_e1:Sh:=⟨[(0,.ptr 50000 0),(2,.ptr 2 0),(5,.ty tI)],[(2,.box tyToken),(50000,.box tyParserX)]⟩
def st_f117_0_e1 (x5:Int)(y2:Token)(y50000:ParserX):VS:=sh_f117_0_e1.st ((),(),x5,()) (y2,y50000,())
-- loop 0: (x5 : Int) (y2 : Token) (y50000 : ParserX); out: ('exit', 1) (x5 : Int) (y2 : Token) (y50000 : ParserX)
def L_f117_0:VS->Option (Bool×List (Bool×Exit×VS)):=mkL sh_f117_0 (fun x y=>(pl0 y.2.1)) (fun x y=>[(true,.exit 1,st_f117_0_e1 (x.2.2.1) (y.1) (pxUp y.2.1 (ltL (pxR y.2.1))))])
def g_f117:G:=⟨TYs,[],128,EL [(140,sp_f140),(142,sp_f142),(143,sp_f143),(144,sp_f144)],keeps,(Ls [L_f117_0]),IL [],RL []⟩
def b_f117_0 (x5:Int)(y2:Token)(y50000:ParserX):Option (Exit×VS):=
 br ((ilt y50000.1.2.1 (slen y50000.1.1)))
  (br (cSx y50000.1.1 y50000.1.2.1)
   (br ((ltrB (sgt y50000.1.1 y50000.1.2.1)))
    (some (.normal,st_f117_0 x5 y2 ((y50000.1.1,((iadd .i64 y50000.1.2.1 1),y50000.1.2.2)),y50000.2)))
    (some (.exit 1,st_f117_0_e1 x5 y2 y50000)))
   (none))
  (some (.exit 1,st_f117_0_e1 x5 y2 y50000))
noncomputable def lp_f117_0 (x5:Int)(y2:Token)(y50000:ParserX):Option (Exit×VS):=loopF (roundF g_f117 fg_f117_0 tb_f117_0) (st_f117_0 x5 y2 y50000)
noncomputable def n_f117_0 (x5:Int)(y2:Token)(y50000:ParserX):Option (Exit×VS):=
 br ((ilt y50000.1.2.1 (slen y50000.1.1)))
  (br (cSx y50000.1.1 y50000.1.2.1)
   (br ((ltrB (sgt y50000.1.1 y50000.1.2.1)))
    (lp_f117_0 x5 y2 ((y50000.1.1,((iadd .i64 y50000.1.2.1 1),y50000.1.2.2)),y50000.2))
    (some (.exit 1,st_f117_0_e1 x5 y2 y50000)))
   (none))
  (some (.exit 1,st_f117_0_e1 x5 y2 y50000))
def la_f117_0 (x5:Int)(y2:Token)(y50000:ParserX):Option (Exit×VS):=some (.exit 1,st_f117_0_e1 (x5) (y2) (pxUp y50000 (ltL (pxR y50000))))
theorem be_f117_0 (x5:Int)(y2:Token)(y50000:ParserX):roundF g_f117 fg_f117_0 tb_f117_0 (st_f117_0 x5 y2 y50000)=b_f117_0 x5 y2 y50000:=by kernel_rfl
theorem ln_f117_0 (x5:Int)(y2:Token)(y50000:ParserX):lp_f117_0 x5 y2 y50000=n_f117_0 x5 y2 y50000:=(loopF_nxt _ _).trans (by
 rw [be_f117_0]
 simp only [b_f117_0,n_f117_0,nxt_br,nxt_n,nxt_r,nxt_e,nxt_0]
 rfl)
def r_f117 (d0:ParserX):Option (V×List VO):=
 br ((px1 d0))
  (br ((ieq ((((pkD d0).1).2).1) (slen (((pkD d0).1).1))))
   (some (.t tyToken (6,(((((pkD d0).1).2).2).1,((ByteArray.mk #[]),()))),[.box (.t tyParserX (pkD d0))]))
   (br (cSx (((pkD d0).1).1) ((((pkD d0).1).2).1))
    (br ((ige (ixbF (ByteArray.mk #[59,123,125]) (sgt (((pkD d0).1).1) ((((pkD d0).1).2).1))) 0))
     (some (.t tyToken ((ixbF (ByteArray.mk #[59,123,125]) (sgt (((pkD d0).1).1) ((((pkD d0).1).2).1))),(((((pkD d0).1).2).2).1,((ByteArray.mk #[]),()))),[.box (.t tyParserX ((((pkD d0).1).1,((iadd .i64 ((((pkD d0).1).2).1) 1),(((((pkD d0).1).2).2).1,(false,(((((pkD d0).1).2).2).2).2)))),(pkD d0).2))]))
     (br ((((((pkD d0).1).2).2).2).1)
      (some (.t tyToken (5,(((((pkD d0).1).2).2).1,((ByteArray.mk #[]),()))),[.box (.t tyParserX ((((pkD d0).1).1,((((pkD d0).1).2).1,(((((pkD d0).1).2).2).1,(false,(((((pkD d0).1).2).2).2).2)))),(pkD d0).2))]))
      (br ((ltrB (sgt (((pkD d0).1).1) ((((pkD d0).1).2).1))))
       (br ((pl0 ((((pkD d0).1).1,((((pkD d0).1).2).1,(((((pkD d0).1).2).2).1,(false,(((((pkD d0).1).2).2).2).2)))),(pkD d0).2)))
        (br (cSs (((pxUp ((((pkD d0).1).1,((((pkD d0).1).2).1,(((((pkD d0).1).2).2).1,(false,(((((pkD d0).1).2).2).2).2)))),(pkD d0).2) (ltL (pxR ((((pkD d0).1).1,((((pkD d0).1).2).1,(((((pkD d0).1).2).2).1,(false,(((((pkD d0).1).2).2).2).2)))),(pkD d0).2)))).1).1) (((((pkD d0).1).2).1)) ((((pxUp ((((pkD d0).1).1,((((pkD d0).1).2).1,(((((pkD d0).1).2).2).1,(false,(((((pkD d0).1).2).2).2).2)))),(pkD d0).2) (ltL (pxR ((((pkD d0).1).1,((((pkD d0).1).2).1,(((((pkD d0).1).2).2).1,(false,(((((pkD d0).1).2).2).2).2)))),(pkD d0).2)))).1).2).1))
         (some (.t tyToken (3,(((((pxUp ((((pkD d0).1).1,((((pkD d0).1).2).1,(((((pkD d0).1).2).2).1,(false,(((((pkD d0).1).2).2).2).2)))),(pkD d0).2) (ltL (pxR ((((pkD d0).1).1,((((pkD d0).1).2).1,(((((pkD d0).1).2).2).1,(false,(((((pkD d0).1).2).2).2).2)))),(pkD d0).2)))).1).2).2).1,((ssl (((pxUp ((((pkD d0).1).1,((((pkD d0).1).2).1,(((((pkD d0).1).2).2).1,(false,(((((pkD d0).1).2).2).2).2)))),(pkD d0).2) (ltL (pxR ((((pkD d0).1).1,((((pkD d0).1).2).1,(((((pkD d0).1).2).2).1,(false,(((((pkD d0).1).2).2).2).2)))),(pkD d0).2)))).1).1) (((((pkD d0).1).2).1)) ((((pxUp ((((pkD d0).1).1,((((pkD d0).1).2).1,(((((pkD d0).1).2).2).1,(false,(((((pkD d0).1).2).2).2).2)))),(pkD d0).2) (ltL (pxR ((((pkD d0).1).1,((((pkD d0).1).2).1,(((((pkD d0).1).2).2).1,(false,(((((pkD d0).1).2).2).2).2)))),(pkD d0).2)))).1).2).1)),()))),[.box (.t tyParserX ((((pxUp ((((pkD d0).1).1,((((pkD d0).1).2).1,(((((pkD d0).1).2).2).1,(false,(((((pkD d0).1).2).2).2).2)))),(pkD d0).2) (ltL (pxR ((((pkD d0).1).1,((((pkD d0).1).2).1,(((((pkD d0).1).2).2).1,(false,(((((pkD d0).1).2).2).2).2)))),(pkD d0).2)))).1).1,((((pxUp ((((pkD d0).1).1,((((pkD d0).1).2).1,(((((pkD d0).1).2).2).1,(false,(((((pkD d0).1).2).2).2).2)))),(pkD d0).2) (ltL (pxR ((((pkD d0).1).1,((((pkD d0).1).2).1,(((((pkD d0).1).2).2).1,(false,(((((pkD d0).1).2).2).2).2)))),(pkD d0).2)))).1).2).1,(((((pxUp ((((pkD d0).1).1,((((pkD d0).1).2).1,(((((pkD d0).1).2).2).1,(false,(((((pkD d0).1).2).2).2).2)))),(pkD d0).2) (ltL (pxR ((((pkD d0).1).1,((((pkD d0).1).2).1,(((((pkD d0).1).2).2).1,(false,(((((pkD d0).1).2).2).2).2)))),(pkD d0).2)))).1).2).2).1,(true,(((((pxUp ((((pkD d0).1).1,((((pkD d0).1).2).1,(((((pkD d0).1).2).2).1,(false,(((((pkD d0).1).2).2).2).2)))),(pkD d0).2) (ltL (pxR ((((pkD d0).1).1,((((pkD d0).1).2).1,(((((pkD d0).1).2).2).1,(false,(((((pkD d0).1).2).2).2).2)))),(pkD d0).2)))).1).2).2).2).2)))),(pxUp ((((pkD d0).1).1,((((pkD d0).1).2).1,(((((pkD d0).1).2).2).1,(false,(((((pkD d0).1).2).2).2).2)))),(pkD d0).2) (ltL (pxR ((((pkD d0).1).1,((((pkD d0).1).2).1,(((((pkD d0).1).2).2).1,(false,(((((pkD d0).1).2).2).2).2)))),(pkD d0).2)))).2))]))
         (none))
        (none))
       (br ((ieq (sgt (((pkD d0).1).1) ((((pkD d0).1).2).1)) 34))
        (br ((pqOk ((((pkD d0).1).1,((((pkD d0).1).2).1,(((((pkD d0).1).2).2).1,(false,(((((pkD d0).1).2).2).2).2)))),(pkD d0).2)))
         (some (.t tyToken (pqF ((((pkD d0).1).1,((((pkD d0).1).2).1,(((((pkD d0).1).2).2).1,(false,(((((pkD d0).1).2).2).2).2)))),(pkD d0).2)),[.box (.t tyParserX (pqD ((((pkD d0).1).1,((((pkD d0).1).2).1,(((((pkD d0).1).2).2).1,(false,(((((pkD d0).1).2).2).2).2)))),(pkD d0).2)))]))
         (none))
        (some (.t tyToken (5,(((((pkD d0).1).2).2).1,((ByteArray.mk #[]),()))),[.box (.t tyParserX ((((pkD d0).1).1,((((pkD d0).1).2).1,(((((pkD d0).1).2).2).1,(false,(((((pkD d0).1).2).2).2).2)))),(pkD d0).2))]))))))
    (none)))
  (none)
theorem e_f117 (d0:ParserX):runF g_f117 tc_f117 rv_f117 false [.ptr 50000 0] [.box (.t tyParserX d0)]=r_f117 d0:=by kernel_rfl
theorem ok_f117:Option.map (trC Tryd.prog) Tryd.f117.body=some tc_f117.er:=by kernel_rfl
theorem rok_f117:trVs Tryd.prog Tryd.f117.results.toList=some (rv_f117.map Prod.fst):=by kernel_rfl
theorem en_f117:Entered Tryd.prog 117:= .inr ⟨by decide,_,Tryd.func117,by kernel_rfl,by kernel_rfl⟩
theorem gk_f117:GOk Tryd.prog g_f117:=gok_of _ (by
 intro p hp
 simp only [List.mem_cons,List.not_mem_nil,or_false] at hp
 rcases hp with rfl|rfl|rfl|rfl
 ·exact ⟨en_f140,ms_f140⟩
 ·exact ⟨en_f142,ms_f142⟩
 ·exact ⟨en_f143,ms_f143⟩
 ·exact ⟨en_f144,ms_f144⟩)
theorem l_f117_0 (x5:Int)(y2:Token)(y50000:ParserX)(h:(pl0 y50000)=true):lp_f117_0 x5 y2 y50000=la_f117_0 x5 y2 y50000:=by
 obtain ⟨⟨t,a,z⟩,r⟩:=y50000
 obtain ⟨h1,h2,h3⟩:=cP_of h
 clear h
 simp only at h1 h2 h3
 obtain ⟨k,rfl⟩:=Int.eq_ofNat_of_zero_le h1
 have hl:=bytesG_len t
 have la: ∀ k:Nat,la_f117_0 x5 y2 ((t,((k:Int),z)),r)=some (.exit 1,st_f117_0_e1 x5 y2 ((t,((k:Int)+(ltL ((bytesL t).drop k):Int),z)),r)):=fun k=>rfl
 have key: ∀ (m k:Nat),k+m=t.size->lp_f117_0 x5 y2 ((t,((k:Int),z)),r)=la_f117_0 x5 y2 ((t,((k:Int),z)),r):=by
  intro m
  induction m with
  |zero=>
   intro k hm
   have e2:ilt (k:Int) (slen t)=false:=decide_eq_false (by simp only [slen];omega)
   rw [ln_f117_0,la]
   unfold n_f117_0
   simp only
   rw [e2,br_false,List.drop_eq_nil_of_le (by omega)]
   show _=some (_,st_f117_0_e1 x5 y2 ((t,((k:Int)+0,z)),r))
   rw [Int.add_zero]
  |succ m ih=>
   intro k hm
   have hlt:k<t.size:=by omega
   have hkl:k<(bytesL t).length:=by omega
   have e2:ilt (k:Int) (slen t)=true:=decide_eq_true (by simp only [slen];omega)
   have e3:cSx t (k:Int)=true:=by simp only [cSx,decide_eq_true_eq];omega
   rw [ln_f117_0,la]
   unfold n_f117_0
   simp only
   rw [e2,br_true,e3,br_true,sgt_get hlt,add1 (k:=k),ih (k+1) (by omega),la,List.drop_eq_getElem_cons hkl]
   generalize (bytesL t)[k]=c
   have e:ltL (c::(bytesL t).drop (k+1))=bif ltrB c then ltL ((bytesL t).drop (k+1))+1 else 0:=by rw [ltL.eq_def]
   rw [e]
   cases ltrB c with
   |true=>rw [br_true,cond_true,show (((k+1:Nat):Int)+(ltL ((bytesL t).drop (k+1)):Int))=(k:Int)+((ltL ((bytesL t).drop (k+1))+1:Nat):Int) by omega]
   |false=>
    rw [br_false]
    show _=some (_,st_f117_0_e1 x5 y2 ((t,((k:Int)+0,z)),r))
    rw [Int.add_zero]
 exact key (t.size-k) k (by omega)
theorem lo_f117_0: ∀ S l p,g_f117.L 0 (fgt fg_f117_0 S)=some (true,l)->pickA l=some p->loopF (roundF g_f117 fg_f117_0 tb_f117_0) S=some p:=
 lok_of (s:=sh_f117_0) ⟨by decide,by decide⟩ (by kernel_rfl) fun x y hok p hp=>by
 simp only [pickA_br,pickA_one] at hp
 exact (l_f117_0 x.2.2.1 y.1 y.2.1 (by simpa using hok)).trans hp
theorem lk_f117:tc_f117.lok g_f117:=by
 repeat (first|exact trivial|exact lo_f117_0|refine ⟨?_, ?_⟩)
theorem pk_at {x:ParserX}(h:px1 x=true):0<=(pkD x).1.2.1/\(pkD x).1.2.1<=(pkD x).1.1.size/\(pkD x).1.1.size<=1000000:=by
 obtain ⟨h1,h2,h3,h4,h5⟩:=cP_of h
 have hb:=bytesG_len x.1.1
 have hk:=(pkL_le (pxR x) false (pxW x)).1
 rw [show (pxR x).length=(bytesL x.1.1).length-x.1.2.1.toNat from List.length_drop] at hk
 show 0<=x.1.2.1+((pkL (pxR x) false (pxW x)).1:Int)/\x.1.2.1+((pkL (pxR x) false (pxW x)).1:Int)<=(x.1.1.size:Int)/\x.1.1.size<=1000000
 omega
theorem s_f117 (x:ParserX)(h:px1 x=true):r_f117 x=some (.t tyToken (pnF x),[.box (.t tyParserX (pnD x))]):=by
 have hy:=pk_at h
 unfold r_f117 pnF pnD
 refine brY h ?_
 generalize pkD x=y at hy ⊢
 obtain ⟨⟨t,a,ln,w,u1⟩,r⟩:=y
 obtain ⟨y1,y2,y3⟩:=hy
 simp only at y1 y2 y3
 obtain ⟨k,rfl⟩:=Int.eq_ofNat_of_zero_le y1
 have hl:=bytesG_len t
 unfold pnQ
 simp only
 by_cases hlt:k<t.size
 ·have hkl:k<(bytesL t).length:=by omega
  have e1:ieq (k:Int) (slen t)=false:=by
   rw [show ieq (k:Int) (slen t)=((k:Int)==slen t) from rfl,beq_eq_false_iff_ne]
   simp only [slen]
   omega
  have e3:cSx t (k:Int)=true:=by simp only [cSx,decide_eq_true_eq];omega
  have e4:pl0 ((t,((k:Int),(ln,(false,u1)))),r)=true:=cP_in ⟨by show (0:Int)<=(k:Int);omega,by show (k:Int)<=(t.size:Int);omega,y3⟩
  have e5:pqOk ((t,((k:Int),(ln,(false,u1)))),r)=true:=cP_in ⟨by show (0:Int)<=(k:Int);omega,by show (k:Int)<(t.size:Int);omega,y3⟩
  have e6: ∀ q:Bool,pxR ((t,((k:Int),(ln,(q,u1)))),r)=(bytesL t).drop k:=fun q=>rfl
  have e7:=ltL_le ((bytesL t).drop k)
  rw [List.length_drop] at e7
  have e8:pxUp ((t,((k:Int),(ln,(false,u1)))),r) (ltL ((bytesL t).drop k):Int)=((t,((k:Int)+(ltL ((bytesL t).drop k):Int),(ln,(false,u1)))),r):=rfl
  have e9:cSs t (k:Int) ((k:Int)+(ltL ((bytesL t).drop k):Int))=true:=decide_eq_true (by omega)
  have n0:pxN ((t,((k:Int),(ln,(w,u1)))),r) 0=((t,((k:Int),(ln,(false,u1)))),r):=by
   show ((t,((k:Int)+0,(ln,(false,())))),r)=_
   rw [Int.add_zero]
  have n1:pxN ((t,((k:Int),(ln,(w,u1)))),r) 1=((t,((k:Int)+1,(ln,(false,u1)))),r):=rfl
  rw [e1,br_false,cond_false,e3,br_true,e4,br_true,e5,br_true,e6,e8,n0,n1]
  simp only
  rw [e9,br_true,add1 (k:=k),sgt_get hlt,ix_eq (bytI_at hkl)]
  generalize (bytesL t)[k]=c
  have f1:((k+1:Nat):Int)=(k:Int)+1:=by omega
  rw [f1]
  unfold ixK
  cases ieq c 59 with
  |true=>rfl
  |false=>
   cases ieq c 123 with
   |true=>rfl
   |false=>
    cases ieq c 125 with
    |true=>rfl
    |false=>
     cases w with
     |true=>rfl
     |false=>cases ltrB c<;>cases ieq c 34<;>rfl
 ·have e1:ieq (k:Int) (slen t)=true:=by
   rw [show ieq (k:Int) (slen t)=((k:Int)==slen t) from rfl,beq_iff_eq]
   simp only [slen]
   omega
  rw [e1]
  rfl
def sp_f117:Ent:=specP tyParserX .nil (fun d x=>(px1 d)) (fun d x=>(.t tyToken (pnF d))) (fun d x=>(pnD d))
theorem ms_f117:Meets Tryd.prog 117 (strip sp_f117):=by
 obtain ⟨c,hc,hi⟩:=Option.map_eq_some_iff.1 ok_f117
 exact meets_specP (R:=runF g_f117 tc_f117 rv_f117 false) (meets_of (by decide) Tryd.func117 hc hi Tryd.ntmps117 rok_f117 gk_f117 lk_f117 mixed) rfl fun d x hok=>(e_f117 d).trans (s_f117 d hok)
def psD (x:ParserX):ParserX:=((pnD x).1,(pnF x,(pnD x).2.2))
def tc_f79:TC:=(.reg [(oV 2 0),(oV 3 0),(oP 4 (.nc (.t 3))),(oP 5 (.fa 0 (.t 4))),(oC 6 117 [(.t 5)]),(oP 7 (.nc (.t 2))),(oP 8 (.fa 4 (.t 7))),(.mk none none (.m (.st 3 (.t 8) (.t 6))))])
def rv_f79:List (RV×Option Ty):=[]
def g_f79:G:=⟨TYs,[],9,EL [(117,sp_f117)],keeps,(fun _ _=>none),IL [],RL []⟩
def r_f79 (d0:ParserX):Option (V×List VO):=
 br ((px1 d0))
  (some (.tu [],[.box (.t tyParserX ((pnD d0).1,((pnF d0),((pnD d0).2).2)))]))
  (none)
theorem e_f79 (d0:ParserX):runF g_f79 tc_f79 rv_f79 false [.ptr 50000 0] [.box (.t tyParserX d0)]=r_f79 d0:=by kernel_rfl
theorem ok_f79:Option.map (trC Tryd.prog) Tryd.f79.body=some tc_f79.er:=by kernel_rfl
theorem rok_f79:trVs Tryd.prog Tryd.f79.results.toList=some (rv_f79.map Prod.fst):=by kernel_rfl
theorem gk_f79:GOk Tryd.prog g_f79:=gok_of _ (by
 intro p hp
 simp only [List.mem_cons,List.not_mem_nil,or_false] at hp
 rcases hp with rfl
 ·exact ⟨en_f117,ms_f117⟩)
theorem lk_f79:tc_f79.lok g_f79:=by repeat (first|exact trivial|refine ⟨?_, ?_⟩)
theorem s_f79 (x:ParserX)(h:px1 x=true):r_f79 x=some (.tu [],[.box (.t tyParserX (psD x))]):=by
 unfold r_f79
 exact brY h rfl
def sp_f79:Ent:=specP tyParserX .nil (fun d x=>(px1 d)) (fun d x=>(.tu [])) (fun d x=>(psD d))
theorem ms_f79:Meets Tryd.prog 79 (strip sp_f79):=by
 obtain ⟨c,hc,hi⟩:=Option.map_eq_some_iff.1 ok_f79
 exact meets_specP (R:=runF g_f79 tc_f79 rv_f79 false) (meets_of (by decide) Tryd.func79 hc hi Tryd.ntmps79 rok_f79 gk_f79 lk_f79 mixed) rfl fun d x hok=>(e_f79 d).trans (s_f79 d hok)
end
end Go.Proofs.YtkkoedniahnneaaDoor.K
namespace Go.Proofs.YtkkoedniahnneaaDoor.K
open Go.RowKit
noncomputable section
set_option linter.unusedSectionVars false
theorem ltr_cl_tab:((List.range 256).all fun n=> !ltrB (n:Int)||isClI (n:Int))=true:=by kernel_rfl
theorem ltr_cl {c:Int}(h:bytI c=true)(h2:isClI c=false):ltrB c=false:=by
 obtain ⟨h1,h3⟩:=of_decide_eq_true h
 obtain ⟨n,rfl⟩:=Int.eq_ofNat_of_zero_le h1
 have:=List.all_eq_true.1 ltr_cl_tab n (List.mem_range.2 (by omega))
 rw [h2,Bool.or_false] at this
 cases hl:ltrB (n:Int) with
 |false=>rfl
 |true=>rw [hl] at this;cases this
theorem ltr_34:ltrB 34=false:=by kernel_rfl
def kindT (t:TokenX):Int:=bif ieq t.1 119 then (bif t.2.2.1 then 3 else 4) else bif ieq t.1 59 then 0 else bif ieq t.1 123 then 1 else bif ieq t.1 125 then 2 else bif ieq t.1 63 then 5 else 6
structure PTok (x:ParserXX) (y:ParserX):Prop where
 kind:y.2.1.1=kindT x.2.1
 line:y.2.1.2.1=x.2.1.2.2.2.1
 text:y.2.1.2.2.1=x.2.1.2.1
 body:y.1.1=x.1.1
 at_:x.2.1.1≠63->x.2.1.1≠0->y.1=x.1
 end_:x.2.1.1=0->x.2.1.2.2.2.1=endN x.1.1+1
 k6:y.2.1.1=6->x.2.1.1=0
def LN (x:ParserXX):Prop:=x.1.2.2.1=1+(nlC ((bytesL x.1.1).take x.1.2.1.toNat):Int)
theorem nlC_add (l:List Int)(a b:Nat):nlC (l.take (a+b))=nlC (l.take a)+nlC ((l.drop a).take b):=by
 unfold nlC
 rw [List.take_add,List.countP_append]
theorem nlC_end (t:ByteArray):(nlC (bytesL t):Int)=endN t:=by
 unfold endN nlC bytesL
 rw [List.countP_map,List.count_eq_countP]
 congr 1
 refine List.countP_congr fun b _=> ?_
 simp only [Function.comp,ieq,beq_iff_eq]
 constructor
 ·intro h
  exact UInt8.toNat_inj.1 (by exact_mod_cast h)
 ·rintro rfl
  rfl
theorem drp_at {t:ByteArray}{k n:Nat}{c:Int}{r:List Int}(h:((bytesL t).drop k).drop n=c::r):k+n<t.size/\sgt t ((k+n:Nat):Int)=c/\bytI c=true:=by
 have hl:=bytesG_len t
 rw [List.drop_drop] at h
 have hlt:k+n<(bytesL t).length:=by
  apply Classical.byContradiction
  intro hc
  rw [List.drop_eq_nil_of_le (by omega)] at h
  cases h
 rw [List.drop_eq_getElem_cons hlt] at h
 obtain ⟨h1,_⟩:=List.cons.inj h
 have hk:k+n<t.size:=by omega
 refine ⟨hk, ?_, ?_⟩
 ·rw [sgt_get hk]
  exact h1
 ·rw [←h1]
  exact bytI_at hlt
theorem ne_ieq {a b:Int}(h:a≠b):ieq a b=false:=beq_eq_false_iff_ne.2 h
theorem ieqs_no {k:Nat}{t:ByteArray}(h:k<t.size):ieq (k:Int) (slen t)=false:=ne_ieq (by simp only [slen];omega)
theorem tok_q {t:ByteArray}{k:Nat}{ln:Int}{w:Bool}{rx:Token×Int×Int×Value×Unit}{ry:TokenX×Int×Bool×Unit}(hk:k<=t.size)(hln:ln=1+(nlC ((bytesL t).take k):Int)):
  ∀ (f:TokenX) (d:ParserXX),nxP.nxQ ((t,((k:Int),(ln,(w,())))),ry)=(f,d)→ ∀ (g:Token) (e:ParserX),pnQ ((t,((k:Int),(ln,(w,())))),rx)=(g,e)→
   (g.1=kindT f/\g.2.1=f.2.2.2.1/\g.2.2.1=f.2.1/\e.1.1=d.1.1/\(f.1≠63->f.1≠0->e.1=d.1)/\(f.1=0->f.2.2.2.1=endN d.1.1+1)/\(g.1=6->f.1=0))/\(f.1≠63->d.1.2.2.1=1+(nlC ((bytesL d.1.1).take d.1.2.1.toNat):Int))/\e.2=rx:=by
 have hl:=bytesG_len t
 intro f d hf g e hg
 unfold nxP.nxQ at hf
 unfold pnQ at hg
 simp only at hf hg
 by_cases hlt:k<t.size
 ·have hkl:k<(bytesL t).length:=by omega
  have e1:ige (k:Int) (slen t)=false:=decide_eq_false (by simp only [slen];omega)
  have one: ∀ n:Nat,(k:Int)+(n:Int)=((k+n:Nat):Int):=fun n=>by omega
  have ec:(bytesL t).drop k=(bytesL t)[k]::(bytesL t).drop (k+1):=List.drop_eq_getElem_cons hkl
  have hb:=bytI_at hkl
  have ln1: ∀ c:Int,(bytesL t)[k]=c->ieq c 10=false->ln=1+(nlC ((bytesL t).take ((k:Int)+1).toNat):Int):=fun c h1 h2=>by
   rw [show ((k:Int)+1).toNat=k+1 by omega,nlC_add,ec,hln]
   unfold nlC
   rw [List.take_succ_cons,List.take_zero,List.countP_cons,List.countP_nil,h1,h2]
   simp
  rw [e1,cond_false,sgt_get hlt] at hf
  rw [ieqs_no hlt,cond_false,sgt_get hlt] at hg
  generalize hc:(bytesL t)[k]=c at hf hg ec hb ln1
  cases h59:ieq c 59 with
  |true=>
   rw [h59] at hf hg
   obtain ⟨rfl,rfl⟩:=Prod.mk.inj hf
   obtain ⟨rfl,rfl⟩:=Prod.mk.inj hg
   obtain rfl:=eq_of_beq h59
   exact ⟨⟨rfl,rfl,rfl,rfl,fun _ _=>rfl,(fun h=>by cases h),(fun h=>by cases h)⟩,fun _=>ln1 _ rfl rfl,rfl⟩
  |false=>
   rw [h59,cond_false] at hg
   rw [h59,Bool.false_or] at hf
   cases h123:ieq c 123 with
   |true=>
    rw [h123] at hf hg
    obtain ⟨rfl,rfl⟩:=Prod.mk.inj hf
    obtain ⟨rfl,rfl⟩:=Prod.mk.inj hg
    obtain rfl:=eq_of_beq h123
    exact ⟨⟨rfl,rfl,rfl,rfl,fun _ _=>rfl,(fun h=>by cases h),(fun h=>by cases h)⟩,fun _=>ln1 _ rfl rfl,rfl⟩
   |false=>
    rw [h123,cond_false] at hg
    rw [h123,Bool.false_or] at hf
    cases h125:ieq c 125 with
    |true=>
     rw [h125] at hf hg
     obtain ⟨rfl,rfl⟩:=Prod.mk.inj hf
     obtain ⟨rfl,rfl⟩:=Prod.mk.inj hg
     obtain rfl:=eq_of_beq h125
     exact ⟨⟨rfl,rfl,rfl,rfl,fun _ _=>rfl,(fun h=>by cases h),(fun h=>by cases h)⟩,fun _=>ln1 _ rfl rfl,rfl⟩
    |false=>
     rw [h125,cond_false] at hg
     rw [h125,cond_false] at hf
     cases w with
     |true=>
      obtain ⟨rfl,rfl⟩:=Prod.mk.inj hf
      obtain ⟨rfl,rfl⟩:=Prod.mk.inj hg
      exact ⟨⟨rfl,rfl,rfl,rfl,fun h=>absurd rfl h,(fun h=>by cases h),(fun h=>by cases h)⟩,fun h=>absurd rfl h,rfl⟩
     |false=>
      rw [show pxW ((t,((k:Int),(ln,(false,())))),rx)=false from rfl,cond_false] at hg
      rw [show lxW ((t,((k:Int),(ln,(false,())))),ry)=false from rfl,Bool.false_or] at hf
      cases h34:ieq c 34 with
      |true=>
       obtain rfl:=eq_of_beq h34
       rw [ltr_34,cond_false,h34,cond_true] at hg
       rw [show ine 34 34=false from rfl,Bool.false_and,cond_false,h34,cond_true] at hf
       have n0:pxN ((t,((k:Int),(ln,(false,())))),rx) 0=((t,((k:Int),(ln,(false,())))),rx):=by
        show ((t,((k:Int)+0,(ln,(false,())))),rx)=_
        rw [Int.add_zero]
       rw [n0] at hg
       obtain ⟨rfl,rfl⟩:=Prod.mk.inj hf
       obtain ⟨rfl,rfl⟩:=Prod.mk.inj hg
       unfold qdF qdD pqF pqD
       have kk:((k:Int)+1).toNat=k+1:=by omega
       simp only [kk]
       have hq:=(qd_nl ((bytesL t).drop (k+1))).1
       cases hqd:(qd ((bytesL t).drop (k+1))).1 with
       |false=>exact ⟨⟨rfl,rfl,rfl,rfl,fun h=>absurd rfl h,(fun h=>by cases h),(fun h=>by cases h)⟩,fun h=>absurd rfl h,rfl⟩
       |true=>
        refine ⟨⟨rfl,rfl,rfl,rfl,fun _ _=> ?_,(fun h=>by cases h),(fun h=>by cases h)⟩,fun _=> ?_,rfl⟩
        ·show (t,((k:Int)+1+((qd ((bytesL t).drop (k+1))).2.2:Int),(ln,(true,()))))=(t,((k:Int)+(1+((qd ((bytesL t).drop (k+1))).2.2:Int)),(ln,(true,()))))
         rw [Int.add_assoc]
        ·show ln=1+(nlC ((bytesL t).take ((k:Int)+(1+((qd ((bytesL t).drop (k+1))).2.2:Int))).toNat):Int)
         rw [show ((k:Int)+(1+((qd ((bytesL t).drop (k+1))).2.2:Int))).toNat=(k+1)+(qd ((bytesL t).drop (k+1))).2.2 by omega,nlC_add,hq,Nat.add_zero]
         have:=ln1 _ rfl rfl
         rw [kk] at this
         exact this
      |false=>
       rw [show ine c 34= !ieq c 34 from rfl,h34,Bool.not_false,Bool.true_and] at hf
       rw [h34] at hg
       cases hlt2:ltrB c with
       |true=>
        rw [hlt2] at hf hg
        obtain ⟨rfl,rfl⟩:=Prod.mk.inj hf
        obtain ⟨rfl,rfl⟩:=Prod.mk.inj hg
        have hq:=lt_nl ((bytesL t).drop k)
        refine ⟨⟨rfl,rfl,rfl,rfl,fun _ _=>rfl,(fun h=>by cases h),(fun h=>by cases h)⟩,fun _=> ?_,rfl⟩
        show ln=1+(nlC ((bytesL t).take ((k:Int)+(ltL ((bytesL t).drop k):Int)).toNat):Int)
        rw [show ((k:Int)+(ltL ((bytesL t).drop k):Int)).toNat=k+ltL ((bytesL t).drop k) by omega,nlC_add,hq,Nat.add_zero]
        exact hln
       |false=>
        rw [hlt2] at hf hg
        obtain ⟨rfl,rfl⟩:=Prod.mk.inj hf
        obtain ⟨rfl,rfl⟩:=Prod.mk.inj hg
        exact ⟨⟨rfl,rfl,rfl,rfl,fun h=>absurd rfl h,(fun h=>by cases h),(fun h=>by cases h)⟩,fun h=>absurd rfl h,rfl⟩
 ·obtain rfl:k=t.size:=by omega
  have e1:ige ((t.size:Nat):Int) (slen t)=true:=decide_eq_true (by simp only [slen];omega)
  have e2:ieq ((t.size:Nat):Int) (slen t)=true:=beq_iff_eq.2 rfl
  rw [e1,cond_true] at hf
  rw [e2,cond_true] at hg
  obtain ⟨rfl,rfl⟩:=Prod.mk.inj hf
  obtain ⟨rfl,rfl⟩:=Prod.mk.inj hg
  refine ⟨⟨rfl,rfl,rfl,rfl,fun _ h=>absurd rfl h,fun _=> ?_,fun _=>rfl⟩,fun _=> ?_,rfl⟩
  ·show ln=endN t+1
   rw [hln, ← nlC_end,List.take_of_length_le (by omega)]
   omega
  ·show ln=1+(nlC ((bytesL t).take ((t.size:Nat):Int).toNat):Int)
   rw [Int.toNat_natCast]
   exact hln
theorem tok_step {x:ParserXX}{y:ParserX}(he:y.1=x.1)(hx:lxOk2 x=true)(hn:LN x):PTok (tkD x) (psD y)/\((tkD x).2.1.1≠63->LN (tkD x))/\(psD y).2.2=y.2.2:=by
 obtain ⟨⟨t,a,ln,w,u1⟩,rx⟩:=x
 obtain ⟨ly,ry⟩:=y
 simp only at he
 subst he
 obtain ⟨h1,h2,h3,h4,h5⟩:=cP_of hx
 simp only at h1 h2 h3 h4 h5
 obtain ⟨k,rfl⟩:=Int.eq_ofNat_of_zero_le h1
 have hl:=bytesG_len t
 have hn:ln=1+(nlC ((bytesL t).take k):Int):=by
  have:=hn
  unfold LN at this
  simp only [Int.toNat_natCast] at this
  exact this
 obtain ⟨p1,p2,p3,p4⟩:=pk_sk ((bytesL t).drop k) false w w (fun _=>rfl)
 have hle:=(skL_le ((bytesL t).drop k) false w).1
 have hcn:=sk_cnt ((bytesL t).drop k) false w
 rw [List.length_drop] at hle
 have ey:pkD ((t,((k:Int),(ln,(w,u1)))),ry)=((t,(((k+(skL ((bytesL t).drop k) false w).2.1:Nat):Int),(ln+((skL ((bytesL t).drop k) false w).2.2.1:Int),((pkL ((bytesL t).drop k) false w).2.2,())))),ry):=by
  show ((t,((k:Int)+((pkL ((bytesL t).drop k) false w).1:Int),(ln+((pkL ((bytesL t).drop k) false w).2.1:Int),((pkL ((bytesL t).drop k) false w).2.2,())))),ry)=_
  rw [p1,p2,show (k:Int)+((skL ((bytesL t).drop k) false w).2.1:Int)=((k+(skL ((bytesL t).drop k) false w).2.1:Nat):Int) by omega]
 have ex:lxSk ((t,((k:Int),(ln,(w,u1)))),rx) (skL ((bytesL t).drop k) false w)=((t,(((k+(skL ((bytesL t).drop k) false w).2.1:Nat):Int),(ln+((skL ((bytesL t).drop k) false w).2.2.1:Int),((skL ((bytesL t).drop k) false w).2.2.2,())))),rx):=by
  show ((t,((k:Int)+((skL ((bytesL t).drop k) false w).2.1:Int),(ln+((skL ((bytesL t).drop k) false w).2.2.1:Int),((skL ((bytesL t).drop k) false w).2.2.2,())))),rx)=_
  rw [show (k:Int)+((skL ((bytesL t).drop k) false w).2.1:Int)=((k+(skL ((bytesL t).drop k) false w).2.1:Nat):Int) by omega]
 have hln2:ln+((skL ((bytesL t).drop k) false w).2.2.1:Int)=1+(nlC ((bytesL t).take (k+(skL ((bytesL t).drop k) false w).2.1)):Int):=by
  rw [nlC_add,hcn,hn]
  omega
 have enx:nxP ((t,((k:Int),(ln,(w,u1)))),rx)=bif (skL ((bytesL t).drop k) false w).1 then ((63,(ByteArray.mk #[],(false,(lxL (lxSk ((t,((k:Int),(ln,(w,u1)))),rx) (skL ((bytesL t).drop k) false w)),())))),lxSk ((t,((k:Int),(ln,(w,u1)))),rx) (skL ((bytesL t).drop k) false w)) else nxP.nxQ (lxSk ((t,((k:Int),(ln,(w,u1)))),rx) (skL ((bytesL t).drop k) false w)):=rfl
 rw [ex] at enx
 generalize skL ((bytesL t).drop k) false w=S at*
 generalize (pkL ((bytesL t).drop k) false w).2.2=pw at*
 have etk:tkD ((t,((k:Int),(ln,(w,u1)))),rx)=((nxP ((t,((k:Int),(ln,(w,u1)))),rx)).2.1,((nxP ((t,((k:Int),(ln,(w,u1)))),rx)).1,(nxP ((t,((k:Int),(ln,(w,u1)))),rx)).2.2.2)):=rfl
 have eps:psD ((t,((k:Int),(ln,(w,u1)))),ry)=((pnQ (pkD ((t,((k:Int),(ln,(w,u1)))),ry))).2.1,((pnQ (pkD ((t,((k:Int),(ln,(w,u1)))),ry))).1,(pnQ (pkD ((t,((k:Int),(ln,(w,u1)))),ry))).2.2.2)):=rfl
 rw [etk,eps,ey,enx]
 cases hS:S.1 with
 |true=>
  obtain ⟨c,r,hd,hc1,hc2⟩:=p3 hS
  obtain ⟨g1,g2,g3⟩:=drp_at hd
  obtain ⟨_,_,c59,c123,c125,c34⟩:=cl_no hc1 hc2
  have hlt:=ltr_cl g3 hc1
  have e:pnQ ((t,(((k+S.2.1:Nat):Int),(ln+(S.2.2.1:Int),(pw,())))),ry)=(tkP 5 ((t,(((k+S.2.1:Nat):Int),(ln+(S.2.2.1:Int),(pw,())))),ry),pxN ((t,(((k+S.2.1:Nat):Int),(ln+(S.2.2.1:Int),(pw,())))),ry) 0):=by
   unfold pnQ
   simp only
   rw [ieqs_no g1,g2,c59,c123,c125,hlt,c34]
   cases pw<;>rfl
  rw [e]
  exact ⟨⟨rfl,rfl,rfl,rfl,fun h=>absurd rfl h,(fun h=>by cases h),(fun h=>by cases h)⟩,fun h=>absurd rfl h,rfl⟩
 |false=>
  rw [cond_false]
  have hpw:pnQ ((t,(((k+S.2.1:Nat):Int),(ln+(S.2.2.1:Int),(pw,())))),ry)=pnQ ((t,(((k+S.2.1:Nat):Int),(ln+(S.2.2.1:Int),(pw,())))),ry):=rfl
  rcases p4 hS with hw|hd
  ·rw [hw]
   obtain ⟨⟨q1,q2,q3,q4,q5,q6,q9⟩,q7,q8⟩:=tok_q (w:=S.2.2.2) (rx:=ry) (ry:=rx) (show k+S.2.1<=t.size by omega) hln2 _ _ rfl _ _ rfl
   exact ⟨⟨q1,q2,q3,q4,q5,q6,q9⟩,q7,congrArg (fun z=>z.2) q8⟩
  ·have hz:k+S.2.1=t.size:=by
    have:=congrArg List.length hd
    rw [List.length_drop,List.length_drop,List.length_nil] at this
    omega
   have e2:ieq ((k+S.2.1:Nat):Int) (slen t)=true:=by rw [hz];exact beq_iff_eq.2 rfl
   have epw:pnQ ((t,(((k+S.2.1:Nat):Int),(ln+(S.2.2.1:Int),(pw,())))),ry)=(tkP 6 ((t,(((k+S.2.1:Nat):Int),(ln+(S.2.2.1:Int),(pw,())))),ry),((t,(((k+S.2.1:Nat):Int),(ln+(S.2.2.1:Int),(pw,())))),ry)):=by
    unfold pnQ
    simp only
    rw [e2]
    rfl
   have esw:nxP.nxQ ((t,(((k+S.2.1:Nat):Int),(ln+(S.2.2.1:Int),(S.2.2.2,())))),rx)=((0,(ByteArray.mk #[],(false,(ln+(S.2.2.1:Int),())))),((t,(((k+S.2.1:Nat):Int),(ln+(S.2.2.1:Int),(S.2.2.2,())))),rx)):=by
    unfold nxP.nxQ
    simp only
    have e1:ige ((k+S.2.1:Nat):Int) (slen t)=true:=decide_eq_true (by simp only [slen];omega)
    rw [e1]
    rfl
   rw [epw,esw]
   refine ⟨⟨rfl,rfl,rfl,rfl,fun _ h=>absurd rfl h,fun _=> ?_,fun _=>rfl⟩,fun _=> ?_,rfl⟩
   ·show ln+(S.2.2.1:Int)=endN t+1
    rw [hln2,hz, ← nlC_end,List.take_of_length_le (by omega)]
    omega
   ·show ln+(S.2.2.1:Int)=1+(nlC ((bytesL t).take ((k+S.2.1:Nat):Int).toNat):Int)
    rw [Int.toNat_natCast]
    exact hln2
end
end Go.Proofs.YtkkoedniahnneaaDoor.K
