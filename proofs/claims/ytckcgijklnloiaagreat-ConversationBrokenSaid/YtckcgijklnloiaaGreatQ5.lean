import Derived.Test.YtckcgijklnloiaaGreatQ4
set_option linter.unusedSimpArgs false
set_option linter.unusedVariables false
namespace Go.Proofs.YtckcgijklnloiaaGreat.K
open Go.RowKit
noncomputable section
def intT (n:Int):ValT:=(2,(intL n,(false,(([]:List Val),()))))
def i64Ok (n:Int):Bool:=decide (-9223372036854775808≤n∧n<9223372036854775808)
def Qha:Fg:=⟨[(0,some tI),(2,none),(3,none),(4,some tI)],[(2,some Qaj),(3,none),(16,none)]⟩
noncomputable def Qjb:TC:=(.sq (.sq (.reg (rT Tryz.f224 3)) (.cd (.t 6) .sk (.fg ⟨[(2,none),(3,none)],[(2,some Qaj),(3,none),(16,none)]⟩ (.ex 0)))) (.sq (.bk 1 (.reg (rT Tryz.f224 4))) (.reg (rT Tryz.f224 5))))
def Qg9:Fg:=⟨[(2,none),(3,some (.sl (.int .u8)))],[(2,some Qaj),(3,none),(16,none)]⟩
noncomputable def Qja:TC:=(.sq (.sq (.reg (rT Tryz.f224 6)) (.cd (.t 43) .sk (.fg ⟨[(2,none),(3,none)],[(2,some Qaj),(3,none),(16,none)]⟩ (.ex 2)))) (.bk 3 (.reg (rT Tryz.f224 7))))
noncomputable def QxG:TC:=(.sq (.reg (rT Tryz.f224 0)) (.sq (.reg (rT Tryz.f224 1)) (.sq (.sq (.reg (rT Tryz.f224 2)) (.bk 0 (.nw 3 5 (.lp 0 Qha Qjb)))) (.sq (.bk 2 (.fz [3] (.lp 1 Qg9 Qja))) (.sq (.reg (rT Tryz.f224 8)) .rt)))))
def QHO:List (RV×Option Ty):=[((.c 2 true 4),some Qaj)]
abbrev Qpl:Sh:=⟨[(0, .ty tI),(2, .ptr 2 0),(3, .ms 3),(4, .ty tI)],[(2, .box Qaj),(3, .arr 5 (.int .u8)),(16, .no)]⟩
def QoC (x0 x4:Int)(y2:ValT)(y3:List Int):VS:=Qpl.st (x0,(),(),x4,()) (y2,y3,(),())
abbrev Qvu:Sh:=⟨[(2, .ptr 2 0),(3, .ms 3)],[(2, .box Qaj),(3, .arr 5 (.int .u8)),(16, .no)]⟩
def Qeg (y2:ValT)(y3:List Int):VS:=Qvu.st ((),(),()) (y2,y3,(),())
abbrev Qpk:Sh:=⟨[(2, .ptr 2 0),(3, .ty (.sl (.int .u8)))],[(2, .box Qaj),(3, .no),(16, .no)]⟩
def QoB (x3:List Int)(y2:ValT):VS:=Qpk.st ((),x3,()) (y2,(),(),())
abbrev Qvt:Sh:=⟨[(2, .ptr 2 0),(3, .ty (.sl (.int .u8)))],[(2, .box Qaj),(3, .no),(16, .no)]⟩
def Qbp (x3:List Int)(y2:ValT):VS:=Qvt.st ((),x3,()) (y2,(),(),())
def QR4:VS→Option (Bool×List (Bool×Exit×VS)):=mkL Qpl (fun x y=>(i64Ok x.1&&decide (y.2.1.length≤100∧ -8≤x.2.2.2.1∧x.2.2.2.1≤56∧x.2.2.2.1 % 8=0))) (fun x y=>[(true, .exit 0,Qeg (y.1) (y.2.1++bytsN x.1 ((x.2.2.2.1+8) / 8).toNat))])
def QR3:VS→Option (Bool×List (Bool×Exit×VS)):=mkL Qpk (fun x y=>(decide (x.2.1.length≤1000))) (fun x y=>[(true, .exit 2,Qbp (trimB x.2.1) (y.1))])
def Qgm:G:=⟨TYs,[],48,EL [],keeps,(Ls [QR4,QR3]),IL [],RL []⟩
def QDm (x0 x4:Int)(y2:ValT)(y3:List Int):Option (Exit×VS):=
 let a1:=icv .u8 (ishr .u64 (icv .u64 x0) x4)
 br (ige x4 0) (br (decide ((0:Int)≤x4)) (br (cApp y3 ([a1]) 1) (some (.normal,QoC x0 (isub .i64 x4 8) y2 (y3++([a1])))) none) none) (some (.exit 0,Qeg y2 y3))
noncomputable def QqC (x0 x4:Int)(y2:ValT)(y3:List Int):Option (Exit×VS):=loopF (Qai Qgm Qha Qjb) (QoC x0 x4 y2 y3)
noncomputable def Qns (x0 x4:Int)(y2:ValT)(y3:List Int):Option (Exit×VS):=
 let a1:=icv .u8 (ishr .u64 (icv .u64 x0) x4)
 br (ige x4 0) (br (decide ((0:Int)≤x4)) (br (cApp y3 ([a1]) 1) (QqC x0 (isub .i64 x4 8) y2 (y3++([a1]))) none) none) (some (.exit 0,Qeg y2 y3))
def QqQ (x0 x4:Int)(y2:ValT)(y3:List Int):Option (Exit×VS):=some (.exit 0,Qeg (y2) (y3++bytsN x0 ((x4+8) / 8).toNat))
theorem QNL (x0 x4:Int)(y2:ValT)(y3:List Int):Qai Qgm Qha Qjb (QoC x0 x4 y2 y3)=QDm x0 x4 y2 y3:=by kernel_rfl
theorem Qwv (x0 x4:Int)(y2:ValT)(y3:List Int):QqC x0 x4 y2 y3=Qns x0 x4 y2 y3:=(Qan _ _).trans (by
 rw [QNL]
 simp only [QDm,Qns,QaA,nxt_n,nxt_r,nxt_e,nxt_0]
 rfl)
def QlZ (x3:List Int)(y2:ValT):Option (Exit×VS):=
 let a1:=(List.length x3:Nat)
 br (cSl x3 1 (a1:Int) (a1:Int)) (some (.normal,QoB (lsl x3 1 (a1:Int)) y2)) none
def QlY (x3:List Int)(y2:ValT):Option (Exit×VS):=br (cIx x3 0) (br (ieq (lgt (.int .u8) x3 (Int.toNat 0)) 255) (br (cIx x3 1) (br (ige (lgt (.int .u8) x3 (Int.toNat 1)) 128) (QlZ x3 y2) (some (.exit 2,Qbp x3 y2))) none) (some (.exit 2,Qbp x3 y2))) none
def QDl (x3:List Int)(y2:ValT):Option (Exit×VS):=br (igt (llen x3) 1) (br (cIx x3 0) (br (ieq (lgt (.int .u8) x3 (Int.toNat 0)) 0) (br (cIx x3 1) (br (ilt (lgt (.int .u8) x3 (Int.toNat 1)) 128) (QlZ x3 y2) (QlY x3 y2)) none) (QlY x3 y2)) none) (some (.exit 2,Qbp x3 y2))
noncomputable def QqB (x3:List Int)(y2:ValT):Option (Exit×VS):=loopF (Qai Qgm Qg9 Qja) (QoB x3 y2)
noncomputable def QdB (x3:List Int)(y2:ValT):Option (Exit×VS):=
 let a1:=(List.length x3:Nat)
 br (cSl x3 1 (a1:Int) (a1:Int)) (QqB (lsl x3 1 (a1:Int)) y2) none
noncomputable def QdA (x3:List Int)(y2:ValT):Option (Exit×VS):=br (cIx x3 0) (br (ieq (lgt (.int .u8) x3 (Int.toNat 0)) 255) (br (cIx x3 1) (br (ige (lgt (.int .u8) x3 (Int.toNat 1)) 128) (QdB x3 y2) (some (.exit 2,Qbp x3 y2))) none) (some (.exit 2,Qbp x3 y2))) none
noncomputable def QjP (x3:List Int)(y2:ValT):Option (Exit×VS):=br (igt (llen x3) 1) (br (cIx x3 0) (br (ieq (lgt (.int .u8) x3 (Int.toNat 0)) 0) (br (cIx x3 1) (br (ilt (lgt (.int .u8) x3 (Int.toNat 1)) 128) (QdB x3 y2) (QdA x3 y2)) none) (QdA x3 y2)) none) (some (.exit 2,Qbp x3 y2))
def Qkx (x3:List Int)(y2:ValT):Option (Exit×VS):=some (.exit 2,Qbp (trimB x3) (y2))
theorem QNK (x3:List Int)(y2:ValT):Qai Qgm Qg9 Qja (QoB x3 y2)=QDl x3 y2:=by kernel_rfl
theorem QqH (x3:List Int)(y2:ValT):QqB x3 y2=QjP x3 y2:=(Qan _ _).trans (by
 rw [QNK]
 simp only [QDl,QlZ,QlY,QjP,QdB,QdA,QaA,nxt_n,nxt_r,nxt_e,nxt_0]
 rfl)
def QJi (p0:Int):Option (V×List VO):=br (i64Ok p0&&decide (([]:List Int).length≤100∧ -8≤(56:Int)∧(56:Int)≤56∧(56:Int) % 8=0)) (br (decide ((([]:List Int)++bytsN p0 (((56:Int)+8) / 8).toNat).length≤1000)) (some (.t Qaj (2,((trimB (([]:List Int)++bytsN p0 (((56:Int)+8) / 8).toNat)),(false,(([]:List Val),())))),[])) none) none
theorem e_f224 (p0:Int):runF Qgm QxG QHO false [.t tI p0] []=QJi p0:=by kernel_rfl
theorem QMF:Qag Tryz.prog 224:= .inr ⟨by decide,_,Tryz.func224,by kernel_rfl,by kernel_rfl⟩
theorem QYa:GOk Tryz.prog Qgm:=Qak _ (fun p hp=>by cases hp)
theorem QP2 (x0 x4:Int)(y2:ValT)(y3:List Int)(h:(i64Ok x0&&decide (y3.length≤100∧ -8≤x4∧x4≤56∧x4 % 8=0))=true):QqC x0 x4 y2 y3=QqQ x0 x4 y2 y3:=by
 simp only [Bool.and_eq_true,decide_eq_true_eq] at h
 obtain ⟨h0,h1,h2,h3,h4⟩:=h
 obtain ⟨k,hk⟩: ∃ k:Nat,x4=8 * (k:Int) - 8:=⟨((x4+8) / 8).toNat,by omega⟩
 subst hk
 have hk8:k≤8:=by omega
 have h9:y3.length+k≤200:=by omega
 clear h1 h2 h3 h4
 induction k generalizing y3 with
 | zero=>
  rw [Qwv]
  simp [Qns,QqQ,ige,Qae,bytsN]
 | succ k ih=>
  rw [Qwv]
  have e0:(8 * ((k+1:Nat):Int) - 8)=((8 * k:Nat):Int):=by omega
  rw [e0]
  simp only [Qns,show ige ((8 * k:Nat):Int) 0=true from decide_eq_true (by omega),Qab,show decide ((0:Int)≤((8 * k:Nat):Int))=true from decide_eq_true (by omega),Q0s x0 k (by omega)]
  have e1:isub .i64 ((8 * k:Nat):Int) 8=8 * (k:Int) - 8:=by rw [Qbg (by omega)]; omega
  rw [cAppN (by omega) (by simp only [List.length_singleton]; omega),Qab,e1,ih (y3++[byt x0 k]) (by omega) (by simp only [List.length_append,List.length_singleton]; omega)]
  simp only [QqQ,show ((8 * (k:Int) - 8+8) / 8).toNat=k by omega,show ((((8 * k:Nat):Int)+8) / 8).toNat=k+1 by omega,bytsN,List.append_assoc,List.singleton_append]
theorem QP1 (x3:List Int)(y2:ValT)(h:(decide (x3.length≤1000))=true):QqB x3 y2=Qkx x3 y2:=by
 simp only [decide_eq_true_eq] at h
 induction x3 with
 | nil=>
  rw [QqH]
  simp [QjP,QdB,QdA,Qkx,igt,llen,Qae,trimB]
 | cons x l ih=>
  cases l with
  | nil=>
   rw [QqH]
   simp [QjP,QdB,QdA,Qkx,igt,llen,Qae,trimB,trimL]
  | cons y r=>
   rw [QqH]
   simp only [List.length_cons] at h
   have e1:igt (llen (x::y::r)) 1=true:=by simp only [igt,llen,List.length_cons,decide_eq_true_eq]; omega
   have e2:cIx (x::y::r) 0=true:=by simp only [cIx,List.length_cons,decide_eq_true_eq]; omega
   have e3:cIx (x::y::r) 1=true:=by simp only [cIx,List.length_cons,decide_eq_true_eq]; omega
   have e4:lgt (.int .u8) (x::y::r) (Int.toNat 0)=x:=rfl
   have e5:lgt (.int .u8) (x::y::r) (Int.toNat 1)=y:=rfl
   have e6:cSl (x::y::r) 1 ((List.length (x::y::r):Nat):Int) ((List.length (x::y::r):Nat):Int)=true:=by simp only [cSl,List.length_cons,decide_eq_true_eq]; omega
   have e7:lsl (x::y::r) 1 ((List.length (x::y::r):Nat):Int)=y::r:=by
    show List.take _ (y::r)=_
    exact List.take_of_length_le (by simp only [List.length_cons]; omega)
   have ih':=ih (by simp only [List.length_cons]; omega)
   have hb:trimB (x::y::r)=bif trimC x y then trimB (y::r) else x::y::r:=rfl
   simp only [QjP,QdB,QdA,e1,e2,e3,e4,e5,e6,e7,ih',Qab]
   simp only [Qkx,hb,trimC,ieq,ilt,ige]
   cases x == 0 <;> cases decide (y<128) <;> cases x == 255 <;> cases decide (y≥128) <;> rfl
theorem QK5: ∀ S l p,Qgm.L 0 (fgt Qha S)=some (true,l)→pickA l=some p→loopF (Qai Qgm Qha Qjb) S=some p:=
 QaB (s:=Qpl) ⟨by decide,by decide⟩ (by kernel_rfl) fun x y hok p hp=>by
 simp only [Qap,Qam] at hp
 exact (QP2 x.1 x.2.2.2.1 y.1 y.2.1 (by simpa using hok)).trans hp
theorem QK4: ∀ S l p,Qgm.L 1 (fgt Qg9 S)=some (true,l)→pickA l=some p→loopF (Qai Qgm Qg9 Qja) S=some p:=
 QaB (s:=Qpk) ⟨by decide,by decide⟩ (by kernel_rfl) fun x y hok p hp=>by
 simp only [Qap,Qam] at hp
 exact (QP1 x.2.1 y.1 (by simpa using hok)).trans hp
theorem QWt:QxG.lok Qgm:=by
 repeat (first | exact trivial | exact QK5 | exact QK4 | refine ⟨?_, ?_⟩)
theorem s_f224 (n:Int)(h:i64Ok n=true):QJi n=some (.t Qaj (intT n),[]):=by
 have h1:=h
 simp only [i64Ok,decide_eq_true_eq] at h1
 simp only [QJi,h,Bool.true_and,show ((56+8:Int) / 8).toNat=8 from rfl,List.nil_append,List.length_nil]
 rw [show (decide ((0:Nat)≤100∧(-8:Int)≤56∧(56:Int)≤56∧(56:Int) % 8=0))=true from rfl,Qab,decide_eq_true (by rw [Qrv]; omega),Qab,QLY h1]
 rfl
def QyT:Ent:=spec (.pr tI .nil) (fun x=>(i64Ok x.1)) (fun x=>(.t Qaj (intT x.1)))
theorem QKH:Meets Tryz.prog 224 (strip QyT):=Qaf (R:=runF Qgm QxG QHO false) (mG Tryz.func224 (by kernel_rfl) Tryz.ntmps224 (by kernel_rfl) QYa QWt) fun x hok=>(e_f224 x.1).trans (s_f224 x.1 hok)
def Qhg:Fg:=⟨[(2,none),(3,none),(4,some tI)],[(2,some Qaj),(3,none),(7,none),(40,none),(42,none)]⟩
noncomputable def Qjh:TC:=(.mv [(40,7)] (.sq (.sq (.reg (rT Tryz.f187 3)) (.cd (.t 35) .sk (.fg ⟨[(2,none),(3,none)],[(2,some Qaj),(3,none),(7,none),(40,none),(42,none)]⟩ (.ex 0)))) (.sq (.bk 1 (.reg (rT Tryz.f187 4))) (.reg (rT Tryz.f187 5)))))
noncomputable def QxW:TC:=(.sq (.reg (rT Tryz.f187 0)) (.sq (.reg (rT Tryz.f187 1)) (.sq (.sq (.reg (rT Tryz.f187 2)) (.bk 0 (.nw 3 5 (.lp 0 Qhg Qjh)))) (.sq (.reg (rT Tryz.f187 6)) .rt))))
def QH4:List (RV×Option Ty):=[((.c 2 true 4),some Qaj)]
abbrev Qps:Sh:=⟨[(2, .ptr 2 0),(3, .ms 7),(4, .ty tI)],[(2, .box Qaj),(3, .no),(7, .arr 5 (.int .u8)),(40, .no),(42, .no)]⟩
def QoI (x4:Int)(y2:ValT)(y7:List Int):VS:=Qps.st ((),(),x4,()) (y2,(),y7,(),(),())
abbrev QvA:Sh:=⟨[(2, .ptr 2 0),(3, .ms 7)],[(2, .box Qaj),(3, .no),(7, .arr 5 (.int .u8)),(40, .no),(42, .no)]⟩
def Qbq (y2:ValT)(y7:List Int):VS:=QvA.st ((),(),()) (y2,(),y7,(),(),())
def QSa:VS→Option (Bool×List (Bool×Exit×VS)):=mkL Qps (fun x y=>(decide (-9223372036854775808≤x.2.2.1∧x.2.2.1<9223372036854775808∧1≤y.2.2.1.length∧y.2.2.1.length≤100))) (fun x y=>[(true, .exit 0,Qbq (y.1) (growB 10 x.2.2.1 y.2.2.1))])
def Qml:G:=⟨TYs,[7,40],45,EL [],keeps,(Ls [QSa]),IL [],RL []⟩
def Qif (x4:Int)(y2:ValT)(y7:List Int):Option (Exit×VS):=br (cApp ([(icv .u8 x4)]) y7 1) (br (decide ((0:Int)≤8)) (some (.normal,QoI (ishr .i64 x4 8) y2 (([(icv .u8 x4)])++y7))) none) none
def Ql0 (x4:Int)(y2:ValT)(y7:List Int):Option (Exit×VS):=br (ieq x4 (-1)) (br (cIx y7 0) (br (cLd y7 (Int.toNat 0)) (br (ilt (lgt (.int .u8) y7 (Int.toNat 0)) 128) (Qif x4 y2 y7) (some (.exit 0,Qbq y2 y7))) none) none) (some (.exit 0,Qbq y2 y7))
def Ql1 (x4:Int)(y2:ValT)(y7:List Int):Option (Exit×VS):=br (ieq x4 0) (br (cIx y7 0) (br (cLd y7 (Int.toNat 0)) (br (ige (lgt (.int .u8) y7 (Int.toNat 0)) 128) (Qif x4 y2 y7) (Ql0 x4 y2 y7)) none) none) (Ql0 x4 y2 y7)
def QDs (x4:Int)(y2:ValT)(y7:List Int):Option (Exit×VS):=br (ine x4 0) (br (ine x4 (-1)) (Qif x4 y2 y7) (Ql1 x4 y2 y7)) (Ql1 x4 y2 y7)
noncomputable def Qfi (x4:Int)(y2:ValT)(y7:List Int):Option (Exit×VS):=loopF (Qai Qml Qhg Qjh) (QoI x4 y2 y7)
noncomputable def Qfh (x4:Int)(y2:ValT)(y7:List Int):Option (Exit×VS):=br (cApp ([(icv .u8 x4)]) y7 1) (br (decide ((0:Int)≤8)) (Qfi (ishr .i64 x4 8) y2 (([(icv .u8 x4)])++y7)) none) none
noncomputable def QhU (x4:Int)(y2:ValT)(y7:List Int):Option (Exit×VS):=br (ieq x4 (-1)) (br (cIx y7 0) (br (cLd y7 (Int.toNat 0)) (br (ilt (lgt (.int .u8) y7 (Int.toNat 0)) 128) (Qfh x4 y2 y7) (some (.exit 0,Qbq y2 y7))) none) none) (some (.exit 0,Qbq y2 y7))
noncomputable def QhV (x4:Int)(y2:ValT)(y7:List Int):Option (Exit×VS):=br (ieq x4 0) (br (cIx y7 0) (br (cLd y7 (Int.toNat 0)) (br (ige (lgt (.int .u8) y7 (Int.toNat 0)) 128) (Qfh x4 y2 y7) (QhU x4 y2 y7)) none) none) (QhU x4 y2 y7)
noncomputable def Qua (x4:Int)(y2:ValT)(y7:List Int):Option (Exit×VS):=br (ine x4 0) (br (ine x4 (-1)) (Qfh x4 y2 y7) (QhV x4 y2 y7)) (QhV x4 y2 y7)
def QqR (x4:Int)(y2:ValT)(y7:List Int):Option (Exit×VS):=some (.exit 0,Qbq (y2) (growB 10 x4 y7))
theorem QNR (x4:Int)(y2:ValT)(y7:List Int):Qai Qml Qhg Qjh (QoI x4 y2 y7)=QDs x4 y2 y7:=by kernel_rfl
theorem QLz (x4:Int)(y2:ValT)(y7:List Int):Qfi x4 y2 y7=Qua x4 y2 y7:=(Qan _ _).trans (by
 rw [QNR]
 simp only [QDs,Qif,Ql1,Ql0,Qua,Qfh,QhV,QhU,QaA,nxt_n,nxt_r,nxt_e,nxt_0]
 rfl)
def QJw (p0:Int):Option (V×List VO):=
 let a1:=ishr .i64 p0 8
 br (decide ((0:Int)≤8)) (br (decide (-9223372036854775808≤a1∧a1<9223372036854775808∧1≤([(icv .u8 p0)]).length∧([(icv .u8 p0)]).length≤100)) (some (.t Qaj (2,((growB 10 a1 ([(icv .u8 p0)])),(false,(([]:List Val),())))),[])) none) none
theorem e_f187 (p0:Int):runF Qml QxW QH4 false [.t tI p0] []=QJw p0:=by kernel_rfl
theorem QMJ:Qag Tryz.prog 187:= .inr ⟨by decide,_,Tryz.func187,by kernel_rfl,by kernel_rfl⟩
theorem QYq:GOk Tryz.prog Qml:=Qak _ (fun p hp=>by cases hp)
theorem ishr8z (n:Int):ishr .i64 n 8=n / 256:=by
 have:=Qoa (kd:= .i64) rfl n 1 (by omega)
 rw [show ((8 * 1:Nat):Int)=8 from rfl] at this
 rw [this]
 rfl
theorem QqY: ∀ (k:Nat) (x:Int) (b:List Int), -(256 ^ k:Int)≤x→x<256 ^ k→ ∀ f,growB (k+2+f) x b=growB (k+2) x b
 | 0,x,b,h1,h2,f=>by
  simp only [Int.pow_zero] at h1 h2
  have hx:x= -1∨x=0:=by omega
  have g: ∀ f,growB (f+2) x b=bif growC x (b.headD 0) then (x % 256::b) else b:=by
   intro f
   rw [show f+2=(f+1)+1 from rfl,growB,growB]
   rcases hx with rfl | rfl
   ·rw [show ((-1:Int) % 256::b).headD 0=255 from rfl,show growC (-1 / 256) 255=false from rfl]; rfl
   ·rw [show ((0:Int) % 256::b).headD 0=0 from rfl,show growC (0 / 256) 0=false from rfl]; rfl
  rw [show 0+2+f=f+2 by omega,g f]
  exact (g 0).symm
 | k+1,x,b,h1,h2,f=>by
  rw [show k+1+2+f=(k+2+f)+1 by omega,growB,show k+1+2=(k+2)+1 from rfl,growB]
  have e:(256:Int) ^ (k+1)=256 ^ k * 256:=by rw [Int.pow_succ]
  rw [e] at h1 h2
  rw [QqY k (x / 256) (x % 256::b) (by omega) (by omega) f]
theorem QAm (x:Int)(b:List Int)(h: -9223372036854775808≤x∧x<9223372036854775808):growB 10 x b=bif growC x (b.headD 0) then growB 10 (x / 256) (x % 256::b) else b:=by
 have:=QqY 8 x b (by omega) (by omega) 1
 rw [← this]
 rfl
theorem QP8 (x4:Int)(y2:ValT)(y7:List Int)(h:(decide (-9223372036854775808≤x4∧x4<9223372036854775808∧1≤y7.length∧y7.length≤100))=true):Qfi x4 y2 y7=QqR x4 y2 y7:=by
 simp only [decide_eq_true_eq] at h
 obtain ⟨h1,h2,h3,h4⟩:=h
 have step: ∀ (x c:Int) (r:List Int),r.length≤300→Qfi x y2 (c::r)=bif growC x c then Qfi (x / 256) y2 (x % 256::c::r) else some (.exit 0,Qbq y2 (c::r)):=by
  intro x c r hr
  rw [QLz]
  have e1:cIx (c::r) 0=true:=by simp only [cIx,List.length_cons,decide_eq_true_eq]; omega
  have e2:cLd (c::r) (Int.toNat 0)=true:=by simp only [cLd,List.length_cons,decide_eq_true_eq,Int.toNat_zero]; omega
  have e3:lgt (.int .u8) (c::r) (Int.toNat 0)=c:=rfl
  have e4:cApp [x % 256] (c::r) 1=true:=cAppN (by omega) (by simp only [List.length_cons,List.length_nil]; omega)
  simp only [Qua,Qfh,QhV,QhU,e1,e2,e3,e4,Qab,show decide ((0:Int)≤8)=true from rfl,ishr8z,icv8,List.singleton_append]
  simp only [growC,ine,ieq,ilt,ige]
  have q1:(x != 0)= !(x == 0):=rfl
  have q2:(x != -1)= !(x == -1):=rfl
  rw [q1,q2]
  by_cases hx:x=0
  ·subst hx
   cases decide (c≥128) <;> rfl
  ·by_cases hy:x= -1
   ·subst hy
    cases decide (c<128) <;> rfl
   ·rw [show (x == 0)=false from beq_false_of_ne hx,show (x == -1)=false from beq_false_of_ne hy]
    rfl
 have lae: ∀ (x:Int) (y:List Int),QqR x y2 y=some (.exit 0,Qbq y2 (growB 10 x y)):=fun _ _=>rfl
 have key: ∀ (k:Nat) (x:Int) (y:List Int), -(256 ^ k:Int)≤x→x<256 ^ k→k≤8→1≤y.length→y.length+k≤200→ -9223372036854775808≤x→x<9223372036854775808→Qfi x y2 y=QqR x y2 y:=by
  intro k
  induction k with
  | zero=>
   intro x y g1 g2 g3 g4 g5 g6 g7
   simp only [Int.pow_zero] at g1 g2
   have hx:x= -1∨x=0:=by omega
   obtain ⟨c,r,rfl⟩: ∃ c r,y=c::r:=by
    cases y with
    | nil=>simp at g4
    | cons c r=>exact ⟨c,r,rfl⟩
   simp only [List.length_cons] at g5
   rw [step x c r (by omega),lae,QAm x (c::r) ⟨g6,g7⟩,List.headD_cons]
   cases growC x c with
   | false=>rfl
   | true=>
    rw [cond_true,cond_true,step (x / 256) (x % 256) (c::r) (by simp only [List.length_cons]; omega),QAm (x / 256) (x % 256::c::r) (by omega),List.headD_cons]
    have:growC (x / 256) (x % 256)=false:=by rcases hx with rfl | rfl <;> rfl
    rw [this]
    rfl
  | succ k ih=>
   intro x y g1 g2 g3 g4 g5 g6 g7
   obtain ⟨c,r,rfl⟩: ∃ c r,y=c::r:=by
    cases y with
    | nil=>simp at g4
    | cons c r=>exact ⟨c,r,rfl⟩
   have e:(256:Int) ^ (k+1)=256 ^ k * 256:=by rw [Int.pow_succ]
   rw [e] at g1 g2
   simp only [List.length_cons] at g5
   rw [step x c r (by omega),lae,QAm x (c::r) ⟨g6,g7⟩,List.headD_cons]
   cases growC x c with
   | false=>rfl
   | true=>
    rw [cond_true,cond_true,ih (x / 256) (x % 256::c::r) (by omega) (by omega) (by omega) (by simp) (by simp only [List.length_cons]; omega) (by omega) (by omega),lae]
 exact key 8 x4 y7 (by omega) (by omega) (by omega) h3 (by omega) (by omega) (by omega)
theorem QLb: ∀ S l p,Qml.L 0 (fgt Qhg S)=some (true,l)→pickA l=some p→loopF (Qai Qml Qhg Qjh) S=some p:=
 QaB (s:=Qps) ⟨by decide,by decide⟩ (by kernel_rfl) fun x y hok p hp=>by
 simp only [Qap,Qam] at hp
 exact (QP8 x.2.2.1 y.1 y.2.2.1 (by simpa using hok)).trans hp
theorem QWJ:QxW.lok Qml:=by
 repeat (first | exact trivial | exact QLb | refine ⟨?_, ?_⟩)
theorem s_f187 (n:Int)(h:i64Ok n=true):QJw n=some (.t Qaj (intT n),[]):=by
 have h1:=h
 simp only [i64Ok,decide_eq_true_eq] at h1
 have e0:icv .u8 n=byt n 0:=by
  rw [icv8]
  simp [byt]
 simp only [QJw,show decide ((0:Int)≤8)=true from rfl,Qab,ishr8z,e0]
 rw [decide_eq_true ⟨by omega,by omega,by simp,by simp⟩,Qab]
 have e1:=QqY 7 (n / 256) [byt n 0] (by omega) (by omega) 1
 rw [show growB 10 (n / 256) [byt n 0]=growB 9 (n / 256) [byt n 0] from e1,QLZ h1]
 rfl
def QyU:Ent:=spec (.pr tI .nil) (fun x=>(i64Ok x.1)) (fun x=>(.t Qaj (intT x.1)))
theorem QKI:Meets Tryz.prog 187 (strip QyU):=Qaf (R:=runF Qml QxW QH4 false) (mG Tryz.func187 (by kernel_rfl) Tryz.ntmps187 (by kernel_rfl) QYq QWJ) fun x hok=>(e_f187 x.1).trans (s_f187 x.1 hok)
def txtT (s:ByteArray):ValT:=(12,(QaI s,(false,(([]:List Val),()))))
noncomputable def QxI:TC:=(.sq (.reg (rT Tryz.f222 0)) (.sq (.reg (rT Tryz.f222 1)) .rt))
def QHQ:List (RV×Option Ty):=[((.c 2 true 4),some Qaj)]
def QCa:G:=⟨TYs,[],6,EL [(30120144,Qa6)],keeps,(fun _ _=>none),IL [],RL []⟩
def QJk (p0:ByteArray):Option (V×List VO):=br (Qbi p0) (some (.t Qaj (12,((QaI p0),(false,(([]:List Val),())))),[])) none
theorem e_f222 (p0:ByteArray):runF QCa QxI QHQ false [.t .str p0] []=QJk p0:=by kernel_rfl
theorem QZs:Qag Tryz.prog 222:= .inr ⟨by decide,_,Tryz.func222,by kernel_rfl,by kernel_rfl⟩
theorem QYc:GOk Tryz.prog QCa:=Qak _ (gA (gC Qbw Qbu gN))
theorem QWv:QxI.lok QCa:=by repeat (first | exact trivial | refine ⟨?_, ?_⟩)
theorem s_f222 (s:ByteArray)(h:Qbi s=true):QJk s=some (.t Qaj (txtT s),[]):=by
 simp only [QJk,h,Qab]
 rfl
def QGu:Ent:=spec (.pr .str .nil) (fun x=>(Qbi x.1)) (fun x=>(.t Qaj (txtT x.1)))
theorem QVg:Meets Tryz.prog 222 (strip QGu):=Qaf (R:=runF QCa QxI QHQ false) (mG Tryz.func222 (by kernel_rfl) Tryz.ntmps222 (by kernel_rfl) QYc QWv) fun x hok=>(e_f222 x.1).trans (s_f222 x.1 hok)
noncomputable def QxY:TC:=(.sq (.reg (rT Tryz.f185 0)) (.sq (.reg (rT Tryz.f185 1)) .rt))
def QH6:List (RV×Option Ty):=[((.c 2 true 4),some Qaj)]
def QCk:G:=⟨TYs,[],6,EL [(30120144,Qa6)],keeps,(fun _ _=>none),IL [],RL []⟩
def QJy (p0:ByteArray):Option (V×List VO):=br (Qbi p0) (some (.t Qaj (12,((QaI p0),(false,(([]:List Val),())))),[])) none
theorem e_f185 (p0:ByteArray):runF QCk QxY QH6 false [.t .str p0] []=QJy p0:=by kernel_rfl
theorem QZD:Qag Tryz.prog 185:= .inr ⟨by decide,_,Tryz.func185,by kernel_rfl,by kernel_rfl⟩
theorem QYs:GOk Tryz.prog QCk:=Qak _ (gA (gC Qbw Qbu gN))
theorem QWL:QxY.lok QCk:=by repeat (first | exact trivial | refine ⟨?_, ?_⟩)
theorem s_f185 (s:ByteArray)(h:Qbi s=true):QJy s=some (.t Qaj (txtT s),[]):=by
 simp only [QJy,h,Qab]
 rfl
def QGI:Ent:=spec (.pr .str .nil) (fun x=>(Qbi x.1)) (fun x=>(.t Qaj (txtT x.1)))
theorem QVu:Meets Tryz.prog 185 (strip QGI):=Qaf (R:=runF QCk QxY QH6 false) (mG Tryz.func185 (by kernel_rfl) Tryz.ntmps185 (by kernel_rfl) QYs QWL) fun x hok=>(e_f185 x.1).trans (s_f185 x.1 hok)
def boolT (b:Bool):ValT:=(1,([bif b then 255 else 0],(false,(([]:List Val),()))))
noncomputable def QxE:TC:=(.sq (.reg (rT Tryz.f226 0)) (.sq (.sq (.reg (rT Tryz.f226 1)) (.cd (.t 3) (.sq (.reg (rT Tryz.f226 2)) .rt) .sk)) (.sq (.reg (rT Tryz.f226 3)) .rt)))
def QHM:List (RV×Option Ty):=[((.c 2 true 4),some Qaj)]
def QB7:G:=⟨TYs,[],8,EL [],keeps,(fun _ _=>none),IL [],RL []⟩
def QTO (p0:Bool):Option (V×List VO):=br (p0) (some (.t Qaj (1,([255],(false,(([]:List Val),())))),[])) (some (.t Qaj (1,([0],(false,(([]:List Val),())))),[]))
theorem e_f226 (p0:Bool):runF QB7 QxE QHM false [.t .bool p0] []=QTO p0:=by kernel_rfl
theorem QZq:Qag Tryz.prog 226:= .inr ⟨by decide,_,Tryz.func226,by kernel_rfl,by kernel_rfl⟩
theorem QX8:GOk Tryz.prog QB7:=Qak _ (fun p hp=>by cases hp)
theorem QWr:QxE.lok QB7:=by repeat (first | exact trivial | refine ⟨?_, ?_⟩)
theorem s_f226 (b:Bool):QTO b=some (.t Qaj (boolT b),[]):=by cases b <;> rfl
def QGs:Ent:=spec (.pr .bool .nil) (fun x=>true) (fun x=>(.t Qaj (boolT x.1)))
theorem QVe:Meets Tryz.prog 226 (strip QGs):=Qaf (R:=runF QB7 QxE QHM false) (mG Tryz.func226 (by kernel_rfl) Tryz.ntmps226 (by kernel_rfl) QX8 QWr) fun x _=>(e_f226 x.1).trans (s_f226 x.1)
noncomputable def QxU:TC:=(.sq (.reg (rT Tryz.f189 0)) (.sq (.sq (.reg (rT Tryz.f189 1)) (.cd (.t 3) (.sq (.reg (rT Tryz.f189 2)) .rt) .sk)) (.sq (.reg (rT Tryz.f189 3)) .rt)))
def QH2:List (RV×Option Ty):=[((.c 2 true 4),some Qaj)]
def QCh:G:=⟨TYs,[],8,EL [],keeps,(fun _ _=>none),IL [],RL []⟩
def QTQ (p0:Bool):Option (V×List VO):=br (p0) (some (.t Qaj (1,([255],(false,(([]:List Val),())))),[])) (some (.t Qaj (1,([0],(false,(([]:List Val),())))),[]))
theorem e_f189 (p0:Bool):runF QCh QxU QH2 false [.t .bool p0] []=QTQ p0:=by kernel_rfl
theorem QZB:Qag Tryz.prog 189:= .inr ⟨by decide,_,Tryz.func189,by kernel_rfl,by kernel_rfl⟩
theorem QYo:GOk Tryz.prog QCh:=Qak _ (fun p hp=>by cases hp)
theorem QWH:QxU.lok QCh:=by repeat (first | exact trivial | refine ⟨?_, ?_⟩)
theorem s_f189 (b:Bool):QTQ b=some (.t Qaj (boolT b),[]):=by cases b <;> rfl
def QGG:Ent:=spec (.pr .bool .nil) (fun x=>true) (fun x=>(.t Qaj (boolT x.1)))
theorem QVs:Meets Tryz.prog 189 (strip QGG):=Qaf (R:=runF QCh QxU QH2 false) (mG Tryz.func189 (by kernel_rfl) Tryz.ntmps189 (by kernel_rfl) QYo QWH) fun x _=>(e_f189 x.1).trans (s_f189 x.1)
end
end Go.Proofs.YtckcgijklnloiaaGreat.K
set_option linter.unusedSectionVars false
namespace Go.Proofs.YtckcgijklnloiaaGreat.K
open Go.RowKit
noncomputable section
def okT (n:Nat)(x:ValT):Bool:=okV n (Val.of x)
theorem Qwf {n:Nat}{v:Val}:okT n v.un=okV n v:=by rw [okT,Val.of_un]
theorem QcR {n:Nat}{x:ValT}(h:okT (n+1) x=true):
  (x.1=1∨x.1=2∨x.1=12∨x.1=48)∧x.2.2.1=(x.1 == 48)∧(x.2.2.1=true→x.2.1=[])∧(x.2.2.1=false→x.2.2.2.1=[])∧x.2.1.length≤100000∧x.2.2.2.1.length≤100000∧ ∀ v ∈ x.2.2.2.1,okV n v=true:=by
 obtain ⟨t,b,q,es,_⟩:=x
 exact QBw h
def copLF:Nat→List ValT→Bool
 | 0,_=>false
 | n+1,l=>decide (l.length≤100000)&&l.all (okT n)
theorem QRz {n:Nat}{es:List Val}(hl:es.length≤100000)(h: ∀ v ∈ es,okV n v=true):copLF (n+1) (es.map Val.un)=true:=by
 simp only [copLF,Bool.and_eq_true,decide_eq_true_eq,List.length_map,List.all_eq_true,List.mem_map]
 refine ⟨hl, ?_⟩
 rintro x ⟨v,hv,rfl⟩
 rw [Qwf]
 exact h v hv
theorem QDb {n:Nat}{x:ValT}(h:okT n x=true):copLF n (x.2.2.2.1.map Val.un)=true:=by
 cases n with
 | zero=>obtain ⟨t,b,q,es,_⟩:=x; cases h
 | succ n=>
  obtain ⟨_,_,_,_,_,h6,h7⟩:=QcR h
  exact QRz h6 h7
theorem QcZ (es:List Val):List.map Val.of (List.map Val.un es)=es:=by
 rw [List.map_map]
 have:(Val.of ∘ Val.un)=id:=funext Val.of_un
 rw [this,List.map_id]
def copV (l:List ValT):List ValT:=l
def copOk (l:List ValT):Bool:=copLF 12 l
theorem Qwh {n:Nat}{x:ValT}(h:okT n x=true):x.2.1.length≤100000:=by
 cases n with
 | zero=>obtain ⟨t,b,q,es,_⟩:=x; cases h
 | succ n=>exact (QcR h).2.2.2.2.1
theorem Qq4 (l:List ValT)(h:copOk l=true): ∃ N,copLF N l=true:=⟨12,h⟩
theorem QMC:Qag Tryz.prog 236:= .inr ⟨by decide,_,Tryz.func236,by kernel_rfl,by kernel_rfl⟩
def QhI [Fuel]:Ent:=spec (.pr (.sl Qaj) .nil) (fun x=>(copLF fuel x.1)) (fun x=>(.t (.sl Qaj) (copV x.1)))
theorem QQT:Qag Tryz.prog 236:=QMC
section
variable [Fuel][Nonempty (PLift (Meets Tryz.prog 236 (strip QhI)))]
theorem QPj:Meets Tryz.prog 236 (strip QhI):=(Classical.choice (inferInstance:Nonempty (PLift (Meets Tryz.prog 236 (strip QhI))))).down
def copIn [Fuel](l:List ValT):Bool:=copLF (fuel+1) l
noncomputable def QM1:List DO:=dT Tryz.f236 5
def Qg5:Fg:=⟨[(3,none),(6,some (.sl Qaj)),(7,some tI),(8,some tI)],[(3,none),(23,none)]⟩
noncomputable def Qi6:TC:=(.sq (.reg (rT Tryz.f236 3)) (.sq (.cd (.t 9) .sk (.fg ⟨[(3,none)],[(3,none),(23,none)]⟩ (.ex 0))) (.sq (.bk 1 (.sq (.reg (rT Tryz.f236 4)) (.sq (.dr QM1 [(0,[5]),(1,[5]),(2,[]),(3,[5]),(4,[5]),(5,[]),(6,[5]),(7,[5]),(8,[5]),(9,[5])] (.of [0,1,2,3,4,5,6,7,8,9])) (.reg (rT Tryz.f236 6))))) (.reg (rT Tryz.f236 7)))))
noncomputable def Qxy:TC:=(.sq (.reg (rT Tryz.f236 0)) (.sq (.reg (rT Tryz.f236 1)) (.sq (.sq (.reg (rT Tryz.f236 2)) (.bk 0 (.nw 3 202 (.lp 0 Qg5 Qi6)))) (.sq (.reg (rT Tryz.f236 8)) .rt))))
def QHG:List (RV×Option Ty):=[((.t 2),some (.sl Qaj))]
abbrev Qpg:Sh:=⟨[(3, .ms 3),(6, .ty (.sl Qaj)),(7, .ty tI),(8, .ty tI)],[(3, .arr 202 Qaj),(23, .no)]⟩
def Qox (x6:List ValT)(x7 x8:Int)(y3:List ValT):VS:=Qpg.st ((),x6,x7,x8,()) (y3,(),())
abbrev Qvo:Sh:=⟨[(3, .ms 3)],[(3, .arr 202 Qaj),(23, .no)]⟩
def Qeb (y3:List ValT):VS:=Qvo.st ((),()) (y3,(),())
def QRZ:VS→Option (Bool×List (Bool×Exit×VS)):=mkL Qpg (fun x y=>(rngOk x.2.1 x.2.2.1 x.2.2.2.1&&copIn x.2.1&&decide (y.1.length+x.2.1.length≤200000+x.2.2.2.1.toNat))) (fun x y=>[(true, .exit 0,Qeb (y.1++x.2.1.drop x.2.2.2.1.toNat))])
def Qme:G:=⟨TYs,[],26,EL [(236,QhI),(238,QGm)],keeps,(Ls [QRZ]),IL [],RL []⟩
def QDh (x6:List ValT)(x7 x8:Int)(y3:List ValT):Option (Exit×VS):=
 let a2:=((lgt Qaj x6 (Int.toNat x8)).2)
 let a1:=((lgt Qaj x6 (Int.toNat x8)).1,((clonB (a2.1)),((a2.2).1,((List.map Val.of (List.map Val.un (List.map Val.of (copV (List.map Val.un (((a2.2).2).1)))))),()))))
 br (ilt x8 x7) (br (cIx x6 x8) (br (QDf (a2.1)) (br (copLF fuel (List.map Val.un (((a2.2).2).1))) (br (cApp y3 ([a1]) 64) (some (.normal,Qox x6 x7 (iadd .i64 x8 1) (y3++([a1])))) none) none) none) none) (some (.exit 0,Qeb y3))
noncomputable def QjY (x6:List ValT)(x7 x8:Int)(y3:List ValT):Option (Exit×VS):=loopF (Qai Qme Qg5 Qi6) (Qox x6 x7 x8 y3)
noncomputable def Qnp (x6:List ValT)(x7 x8:Int)(y3:List ValT):Option (Exit×VS):=
 let a2:=((lgt Qaj x6 (Int.toNat x8)).2)
 let a1:=((lgt Qaj x6 (Int.toNat x8)).1,((clonB (a2.1)),((a2.2).1,((List.map Val.of (List.map Val.un (List.map Val.of (copV (List.map Val.un (((a2.2).2).1)))))),()))))
 br (ilt x8 x7) (br (cIx x6 x8) (br (QDf (a2.1)) (br (copLF fuel (List.map Val.un (((a2.2).2).1))) (br (cApp y3 ([a1]) 64) (QjY x6 x7 (iadd .i64 x8 1) (y3++([a1]))) none) none) none) none) (some (.exit 0,Qeb y3))
def Qkv (x6:List ValT)(x7 x8:Int)(y3:List ValT):Option (Exit×VS):=some (.exit 0,Qeb (y3++x6.drop x8.toNat))
theorem QNG (x6:List ValT)(x7 x8:Int)(y3:List ValT):Qai Qme Qg5 Qi6 (Qox x6 x7 x8 y3)=QDh x6 x7 x8 y3:=by kernel_rfl
theorem Qwr (x6:List ValT)(x7 x8:Int)(y3:List ValT):QjY x6 x7 x8 y3=Qnp x6 x7 x8 y3:=(Qan _ _).trans (by
 rw [QNG]
 simp only [QDh,Qnp,QaA,nxt_n,nxt_r,nxt_e,nxt_0]
 rfl)
def QJb (p0:List ValT):Option (V×List VO):=br (rngOk p0 (llen p0) (0:Int)&&copIn p0&&decide (([]:List ValT).length+p0.length≤200000+(0:Int).toNat)) (some (.t (.sl Qaj) (([]:List ValT)++p0.drop (0:Int).toNat),[])) none
theorem e_f236 (p0:List ValT):runF Qme Qxy QHG false [.t (.sl Qaj) p0] []=QJb p0:=by kernel_rfl
theorem QX2:GOk Tryz.prog Qme:=Qak _ (gA (gC QQT QPj (gC QZm QU8 gN)))
theorem QPX (x6:List ValT)(x7 x8:Int)(y3:List ValT)(h:(rngOk x6 x7 x8&&copIn x6&&decide (y3.length+x6.length≤200000+x8.toNat))=true):QjY x6 x7 x8 y3=Qkv x6 x7 x8 y3:=by
 simp only [Bool.and_eq_true,decide_eq_true_eq] at h
 obtain ⟨⟨h0,hc⟩,h2⟩:=h
 obtain ⟨rfl,h3,k,rfl,hk⟩:=rng_k h0
 clear h0
 rw [Int.toNat_natCast] at h2
 simp only [copIn,copLF,Bool.and_eq_true,List.all_eq_true] at hc
 revert y3
 refine Qat x6 (fun k=> ∀ y3:List ValT,y3.length+x6.length≤200000+k→QjY x6 (x6.length:Int) (k:Int) y3=Qkv x6 (x6.length:Int) (k:Int) y3) ?_ ?_ k hk
 ·intro y3 _
  rw [Qwr]
  simp [Qnp,Qkv,Qar,Qae]
 ·intro k hk ih y3 hy
  rw [Qwr]
  have hx:=hc.2 x6[k] (List.getElem_mem hk)
  have e1:QDf x6[k].2.1=true:=decide_eq_true (by have:=Qwh hx; omega)
  have e2:copLF fuel (List.map Val.un x6[k].2.2.2.1)=true:=QDb hx
  simp only [Qnp,Qar,Qax,hk,decide_true,Qab,Int.toNat_natCast,add1 (show k<4611686018427387904 by omega),QaC (y:=Qaj) hk,e1,e2,clonB,copV,QcZ]
  rw [cAppN (by omega) (by simp only [List.length_singleton]; omega),Qab,ih _ (by simp only [List.length_append,List.length_singleton]; omega)]
  simp only [Qkv,Int.toNat_natCast,List.drop_eq_getElem_cons hk,List.append_assoc,List.singleton_append]
theorem QK0: ∀ S l p,Qme.L 0 (fgt Qg5 S)=some (true,l)→pickA l=some p→loopF (Qai Qme Qg5 Qi6) S=some p:=
 QaB (s:=Qpg) ⟨by decide,by decide⟩ (by kernel_rfl) fun x y hok p hp=>by
 simp only [Qap,Qam] at hp
 exact (QPX x.2.1 x.2.2.1 x.2.2.2.1 y.1 (by simpa using hok)).trans hp
theorem QWl:Qxy.lok Qme:=by
 repeat (first | exact trivial | exact QK0 | refine ⟨?_, ?_⟩)
theorem s_f236 (l:List ValT)(h:copLF (fuel+1) l=true):QJb l=some (.t (.sl Qaj) (copV l),[]):=by
 have hl:l.length≤100000:=by simp only [copLF,Bool.and_eq_true,decide_eq_true_eq] at h; exact h.1
 simp only [QJb,rng_0 hl,show copIn l=true from h,Bool.true_and,List.length_nil,Int.toNat_zero,List.drop_zero,List.nil_append]
 rw [decide_eq_true (by omega),Qab]
 rfl
theorem QWc:Meets Tryz.prog 236 (runF Qme Qxy QHG false):=mG Tryz.func236 (by kernel_rfl) Tryz.ntmps236 (by kernel_rfl) QX2 QWl
end
theorem QjU: ∀ N:Nat,Meets Tryz.prog 236 (strip (@QhI ⟨N⟩))
 | 0=>Qcb fun x=>by first | rfl | simp [copLF]
 | N+1=>by
  letI:Fuel:=⟨N⟩
  haveI:Nonempty (PLift (Meets Tryz.prog 236 (strip QhI))):=⟨⟨QjU N⟩⟩
  exact Qaf QWc fun x hok=>(e_f236 x.1).trans (s_f236 x.1 hok)
def QGn:Ent:=spec (.pr (.sl Qaj) .nil) (fun x=>(copOk x.1)) (fun x=>(.t (.sl Qaj) (copV x.1)))
theorem QU9:Meets Tryz.prog 236 (strip QGn):=Qcc QjU fun x hok=>Qq4 x.1 hok
theorem QlR (l:List ValT)(h:copOk l=true): ∃ N,copLF N l=true:=⟨12,h⟩
theorem QMI:Qag Tryz.prog 212:= .inr ⟨by decide,_,Tryz.func212,by kernel_rfl,by kernel_rfl⟩
def QhM [Fuel]:Ent:=spec (.pr (.sl Qaj) .nil) (fun x=>(copLF fuel x.1)) (fun x=>(.t (.sl Qaj) (copV x.1)))
theorem QQZ:Qag Tryz.prog 212:=QMI
section
variable [Fuel][Nonempty (PLift (Meets Tryz.prog 212 (strip QhM)))]
theorem QPp:Meets Tryz.prog 212 (strip QhM):=(Classical.choice (inferInstance:Nonempty (PLift (Meets Tryz.prog 212 (strip QhM))))).down
def Qxf [Fuel](l:List ValT):Bool:=copLF (fuel+1) l
def Qhc:Fg:=⟨[(0,some (.sl Qaj)),(3,none),(4,some tI)],[(3,none),(28,none)]⟩
noncomputable def Qjd:TC:=(.sq (.sq (.reg (rT Tryz.f212 3)) (.cd (.t 9) .sk (.fg ⟨[(3,none)],[(3,none),(28,none)]⟩ (.ex 0)))) (.sq (.bk 1 (.sq (.reg (rT Tryz.f212 4)) (.sq (.reg (rT Tryz.f212 5)) (.sq (.reg (rT Tryz.f212 6)) (.reg (rT Tryz.f212 7)))))) (.reg (rT Tryz.f212 8))))
noncomputable def QxL:TC:=(.sq (.reg (rT Tryz.f212 0)) (.sq (.reg (rT Tryz.f212 1)) (.sq (.sq (.reg (rT Tryz.f212 2)) (.bk 0 (.nf 5 1 5 20501 (.nw 3 202 (.lp 0 Qhc Qjd))))) (.sq (.reg (rT Tryz.f212 9)) .rt))))
def QHT:List (RV×Option Ty):=[((.t 2),some (.sl Qaj))]
abbrev Qpn:Sh:=⟨[(0, .ty (.sl Qaj)),(3, .ms 3),(4, .ty tI)],[(3, .arr 202 Qaj),(28, .no)]⟩
def QoE (x0:List ValT)(x4:Int)(y3:List ValT):VS:=Qpn.st (x0,(),x4,()) (y3,(),())
abbrev Qvw:Sh:=⟨[(3, .ms 3)],[(3, .arr 202 Qaj),(28, .no)]⟩
def Qei (y3:List ValT):VS:=Qvw.st ((),()) (y3,(),())
def QR6:VS→Option (Bool×List (Bool×Exit×VS)):=mkL Qpn (fun x y=>(idxOk x.1 x.2.2.1&&Qxf x.1&&decide (y.1.length+x.1.length≤200000+x.2.2.1.toNat))) (fun x y=>[(true, .exit 0,Qei (y.1++x.1.drop x.2.2.1.toNat))])
def Qmh:G:=⟨TYs,[16],30,EL [(212,QhM)],keeps,(Ls [QR6]),IL [],RL []⟩
def QDo (x0:List ValT)(x4:Int)(y3:List ValT):Option (Exit×VS):=
 let a1:=lgt Qaj x0 (Int.toNat x4)
 let a2:=(((a1.2).2).1,((List.map Val.of (copV (List.map Val.un ((((a1.2).2).2).1)))),()))
 br (ilt x4 (llen x0)) (br (cIx x0 x4) (br (cApp ([]:List Int) ((a1.2).1) 1) (br (copLF fuel (List.map Val.un ((((a1.2).2).2).1))) (br (cApp y3 ([(a1.1,((([]:List Int)++((a1.2).1)),a2))]) 64) (some (.normal,QoE x0 (iadd .i64 x4 1) (y3++([(a1.1,((([]:List Int)++((a1.2).1)),a2))])))) none) none) none) none) (some (.exit 0,Qei y3))
noncomputable def Qj2 (x0:List ValT)(x4:Int)(y3:List ValT):Option (Exit×VS):=loopF (Qai Qmh Qhc Qjd) (QoE x0 x4 y3)
noncomputable def Qnu (x0:List ValT)(x4:Int)(y3:List ValT):Option (Exit×VS):=
 let a1:=lgt Qaj x0 (Int.toNat x4)
 let a2:=(((a1.2).2).1,((List.map Val.of (copV (List.map Val.un ((((a1.2).2).2).1)))),()))
 br (ilt x4 (llen x0)) (br (cIx x0 x4) (br (cApp ([]:List Int) ((a1.2).1) 1) (br (copLF fuel (List.map Val.un ((((a1.2).2).2).1))) (br (cApp y3 ([(a1.1,((([]:List Int)++((a1.2).1)),a2))]) 64) (Qj2 x0 (iadd .i64 x4 1) (y3++([(a1.1,((([]:List Int)++((a1.2).1)),a2))]))) none) none) none) none) (some (.exit 0,Qei y3))
def Qkz (x0:List ValT)(x4:Int)(y3:List ValT):Option (Exit×VS):=some (.exit 0,Qei (y3++x0.drop x4.toNat))
theorem QNN (x0:List ValT)(x4:Int)(y3:List ValT):Qai Qmh Qhc Qjd (QoE x0 x4 y3)=QDo x0 x4 y3:=by kernel_rfl
theorem Qwx (x0:List ValT)(x4:Int)(y3:List ValT):Qj2 x0 x4 y3=Qnu x0 x4 y3:=(Qan _ _).trans (by
 rw [QNN]
 simp only [QDo,Qnu,QaA,nxt_n,nxt_r,nxt_e,nxt_0]
 rfl)
def QJn (p0:List ValT):Option (V×List VO):=br (idxOk p0 (0:Int)&&Qxf p0&&decide (([]:List ValT).length+p0.length≤200000+(0:Int).toNat)) (some (.t (.sl Qaj) (([]:List ValT)++p0.drop (0:Int).toNat),[])) none
theorem e_f212 (p0:List ValT):runF Qmh QxL QHT false [.t (.sl Qaj) p0] []=QJn p0:=by kernel_rfl
theorem QYf:GOk Tryz.prog Qmh:=Qak _ (gA (gC QQZ QPp gN))
theorem QP4 (x0:List ValT)(x4:Int)(y3:List ValT)(h:(idxOk x0 x4&&Qxf x0&&decide (y3.length+x0.length≤200000+x4.toNat))=true):Qj2 x0 x4 y3=Qkz x0 x4 y3:=by
 simp only [Bool.and_eq_true,decide_eq_true_eq,idxOk] at h
 obtain ⟨⟨⟨h0,h1,h3⟩,hc⟩,h2⟩:=h
 obtain ⟨k,rfl⟩:=Int.eq_ofNat_of_zero_le h0
 rw [Int.toNat_natCast] at h2
 simp only [Qxf,copLF,Bool.and_eq_true,List.all_eq_true] at hc
 revert y3
 refine Qat x0 (fun k=> ∀ y3:List ValT,y3.length+x0.length≤200000+k→Qj2 x0 (k:Int) y3=Qkz x0 (k:Int) y3) ?_ ?_ k (by omega)
 ·intro y3 _
  rw [Qwx]
  simp [Qnu,Qkz,ilt,llen,Qae]
 ·intro k hk ih y3 hy
  rw [Qwx]
  have hx:=hc.2 x0[k] (List.getElem_mem hk)
  have e2:copLF fuel (List.map Val.un x0[k].2.2.2.1)=true:=QDb hx
  simp only [Qnu,show ilt (k:Int) (llen x0)=true from decide_eq_true (by simp only [llen]; omega),Qax,hk,decide_true,Qab,Int.toNat_natCast,add1 (show k<4611686018427387904 by omega),QaC (y:=Qaj) hk,e2,copV,QcZ]
  rw [cAppN (by omega) (by have:=Qwh hx; simp only [List.length_nil]; omega),Qab,cAppN (by omega) (by simp only [List.length_singleton]; omega),Qab,ih _ (by simp only [List.length_append,List.length_singleton]; omega)]
  simp only [Qkz,Int.toNat_natCast,List.drop_eq_getElem_cons hk,List.append_assoc,List.singleton_append,List.nil_append]
theorem QK7: ∀ S l p,Qmh.L 0 (fgt Qhc S)=some (true,l)→pickA l=some p→loopF (Qai Qmh Qhc Qjd) S=some p:=
 QaB (s:=Qpn) ⟨by decide,by decide⟩ (by kernel_rfl) fun x y hok p hp=>by
 simp only [Qap,Qam] at hp
 exact (QP4 x.1 x.2.2.1 y.1 (by simpa using hok)).trans hp
theorem QWy:QxL.lok Qmh:=by
 repeat (first | exact trivial | exact QK7 | refine ⟨?_, ?_⟩)
theorem s_f212 (l:List ValT)(h:copLF (fuel+1) l=true):QJn l=some (.t (.sl Qaj) (copV l),[]):=by
 have hl:l.length≤100000:=by simp only [copLF,Bool.and_eq_true,decide_eq_true_eq] at h; exact h.1
 simp only [QJn,show idxOk l 0=true from decide_eq_true (by omega),show Qxf l=true from h,Bool.true_and,List.length_nil,Int.toNat_zero,List.drop_zero,List.nil_append]
 rw [decide_eq_true (by omega),Qab]
 rfl
theorem QWg:Meets Tryz.prog 212 (runF Qmh QxL QHT false):=mG Tryz.func212 (by kernel_rfl) Tryz.ntmps212 (by kernel_rfl) QYf QWy
end
theorem QgX: ∀ N:Nat,Meets Tryz.prog 212 (strip (@QhM ⟨N⟩))
 | 0=>Qcb fun x=>by first | rfl | simp [copLF]
 | N+1=>by
  letI:Fuel:=⟨N⟩
  haveI:Nonempty (PLift (Meets Tryz.prog 212 (strip QhM))):=⟨⟨QgX N⟩⟩
  exact Qaf QWg fun x hok=>(e_f212 x.1).trans (s_f212 x.1 hok)
def QGx:Ent:=spec (.pr (.sl Qaj) .nil) (fun x=>(copOk x.1)) (fun x=>(.t (.sl Qaj) (copV x.1)))
theorem QVj:Meets Tryz.prog 212 (strip QGx):=Qcc QgX fun x hok=>QlR x.1 hok
end
end Go.Proofs.YtckcgijklnloiaaGreat.K
set_option linter.unusedSectionVars false
namespace Go.Proofs.YtckcgijklnloiaaGreat.K
open Go.RowKit
noncomputable section
theorem QzA {n:Nat}{x:ValT}(h:okT (n+1) x=true): ∀ k (hk:k<(List.map Val.un x.2.2.2.1).length),okT n (List.map Val.un x.2.2.2.1)[k]=true:=by
 intro k hk
 rw [List.getElem_map,Qwf]
 exact (QcR h).2.2.2.2.2.2 _ (List.getElem_mem _)
def frmV (_x:ValT):Bool:=true
def frmOk (x:ValT):Bool:=okT 12 x
theorem Qq3 (x:ValT)(h:frmOk x=true): ∃ N,okT N x=true:=⟨12,h⟩
theorem QlQ (x:ValT)(h:frmOk x=true): ∃ N,okT N x=true:=⟨12,h⟩
theorem QMH:Qag Tryz.prog 219:= .inr ⟨by decide,_,Tryz.func219,by kernel_rfl,by kernel_rfl⟩
def QhL [Fuel]:Ent:=spec (.pr Qaj .nil) (fun x=>(okT fuel x.1)) (fun x=>(.t .bool (frmV x.1)))
theorem QQY:Qag Tryz.prog 219:=QMH
section
variable [Fuel][Nonempty (PLift (Meets Tryz.prog 219 (strip QhL)))]
theorem QPo:Meets Tryz.prog 219 (strip QhL):=(Classical.choice (inferInstance:Nonempty (PLift (Meets Tryz.prog 219 (strip QhL))))).down
def unfV (_x:ValT):Bool:=false
def unfOk [Fuel](x:ValT):Bool:=okT fuel x
def Qfd [Fuel](l:List ValT):Bool:=decide (l.length≤100000)&&l.all (okT fuel)
noncomputable def QxB:TC:=(.sq (.reg (rT Tryz.f233 0)) (.sq (.reg (rT Tryz.f233 1)) .rt))
def QHJ:List (RV×Option Ty):=[((.t 2),some .bool)]
def QB4:G:=⟨TYs,[],6,EL [(219,QhL)],keeps,(fun _ _=>none),IL [],RL []⟩
def QJe (p0:ValT):Option (V×List VO):=br (okT fuel p0) (some (.t .bool (!(frmV p0)),[])) none
theorem e_f233 (p0:ValT):runF QB4 QxB QHJ false [.t Qaj p0] []=QJe p0:=by kernel_rfl
theorem QZn:Qag Tryz.prog 233:= .inr ⟨by decide,_,Tryz.func233,by kernel_rfl,by kernel_rfl⟩
theorem QX5:GOk Tryz.prog QB4:=Qak _ (gA (gC QQY QPo gN))
theorem QWo:QxB.lok QB4:=by repeat (first | exact trivial | refine ⟨?_, ?_⟩)
theorem s_f233 (x:ValT)(h:unfOk x=true):QJe x=some (.t .bool (unfV x),[]):=by
 simp only [QJe,show okT fuel x=true from h,Qab]
 rfl
def QGp:Ent:=spec (.pr Qaj .nil) (fun x=>(unfOk x.1)) (fun x=>(.t .bool (unfV x.1)))
theorem QVb:Meets Tryz.prog 233 (strip QGp):=Qaf (R:=runF QB4 QxB QHJ false) (mG Tryz.func233 (by kernel_rfl) Tryz.ntmps233 (by kernel_rfl) QX5 QWo) fun x hok=>(e_f233 x.1).trans (s_f233 x.1 hok)
def QMh (_l:List ValT):Int:= -1
def Qcv:Fg:=⟨[(0,some (.sl Qaj)),(1,none),(7,some tI),(8,some tI)],[]⟩
noncomputable def Qdm:TC:=(.sq (.reg (rT Tryz.f237 2)) (.sq (.cd (.t 9) .sk (.fg ⟨[],[]⟩ (.ex 0))) (.sq (.bk 1 (.sq (.reg (rT Tryz.f237 3)) (.sq (.reg (rT Tryz.f237 4)) (.cd (.t 16) (.sq (.reg (rT Tryz.f237 5)) (.fg ⟨[(4,some tI)],[]⟩ .rt)) .sk)))) (.reg (rT Tryz.f237 6)))))
noncomputable def QiA:TC:=(.sq (.reg (rT Tryz.f237 0)) (.sq (.sq (.reg (rT Tryz.f237 1)) (.bk 0 (.lp 0 Qcv Qdm))) (.sq (.reg (rT Tryz.f237 7)) .rt)))
def QpZ:List (RV×Option Ty):=[((.t 4),some tI)]
abbrev QfK:Sh:=⟨[(0, .ty (.sl Qaj)),(1, .cf 233),(7, .ty tI),(8, .ty tI)],[]⟩
def QfA (x0:List ValT)(x7 x8:Int):VS:=QfK.st (x0,(),x7,x8,()) ()
abbrev Qlw:Sh:=⟨[(4, .ty tI)],[]⟩
def QbK (x4:Int):VS:=Qlw.st (x4,()) ()
abbrev QmM:Sh:=⟨[],[]⟩
def QbZ  : VS:=QmM.st () ()
def Qxu:VS→Option (Bool×List (Bool×Exit×VS)):=mkL QfK (fun x y=>(rngOk x.1 x.2.2.1 x.2.2.2.1&&Qfd x.1)) (fun x y=>[((false), .ret,QbK (x.2.2.2.1)),(true, .exit 0,QbZ)])
def Qcf:G:=⟨TYs,[],19,EL [(233,QGp)],keeps,(Ls [Qxu]),IL [],RL []⟩
def QmI (x0:List ValT)(x7 x8:Int):Option (Exit×VS):=
 let a1:=lgt Qaj x0 (Int.toNat x8)
 br (ilt x8 x7) (br (cIx x0 x8) (br (unfOk a1) (br (unfV a1) (some (.ret,QbK x8)) (some (.normal,QfA x0 x7 (iadd .i64 x8 1)))) none) none) (some (.exit 0,QbZ))
noncomputable def Qdy (x0:List ValT)(x7 x8:Int):Option (Exit×VS):=loopF (Qai Qcf Qcv Qdm) (QfA x0 x7 x8)
noncomputable def QeM (x0:List ValT)(x7 x8:Int):Option (Exit×VS):=
 let a1:=lgt Qaj x0 (Int.toNat x8)
 br (ilt x8 x7) (br (cIx x0 x8) (br (unfOk a1) (br (unfV a1) (some (.ret,QbK x8)) (Qdy x0 x7 (iadd .i64 x8 1))) none) none) (some (.exit 0,QbZ))
def Qf4 (x0:List ValT)(x7 x8:Int):Option (Exit×VS):=br (false) (some (.ret,QbK (x8)))<|some (.exit 0,QbZ)
theorem QuQ (x0:List ValT)(x7 x8:Int):Qai Qcf Qcv Qdm (QfA x0 x7 x8)=QmI x0 x7 x8:=by kernel_rfl
theorem Qkr (x0:List ValT)(x7 x8:Int):Qdy x0 x7 x8=QeM x0 x7 x8:=(Qan _ _).trans (by
 rw [QuQ]
 simp only [QmI,QeM,QaA,nxt_n,nxt_r,nxt_e,nxt_0]
 rfl)
def QlB (p0:List ValT):Option (V×List VO):=br (rngOk p0 (llen p0) (0:Int)&&Qfd p0) (br (false) (some (.t tI (0:Int),[])) (some (.t tI (-1),[]))) none
theorem QER (p0:List ValT):runF Qcf QiA QpZ false [.t (.sl Qaj) p0, .c (.func (.func 233) ⟨[]⟩ ⟨[]⟩)] []=QlB p0:=by kernel_rfl
theorem QAA:Qag Tryz.prog 237:= .inr ⟨by decide,_,Tryz.func237,by kernel_rfl,by kernel_rfl⟩
theorem QAn:GOk Tryz.prog Qcf:=Qak _ (gA (gC QZn QVb gN))
theorem QwY (x0:List ValT)(x7 x8:Int)(h:(rngOk x0 x7 x8&&Qfd x0)=true):Qdy x0 x7 x8=Qf4 x0 x7 x8:=by
 simp only [Bool.and_eq_true] at h
 obtain ⟨h0,hc⟩:=h
 obtain ⟨rfl,h3,k,rfl,hk⟩:=rng_k h0
 clear h0
 simp only [Qfd,Bool.and_eq_true,List.all_eq_true] at hc
 refine Qat x0 (fun k=>Qdy x0 (x0.length:Int) (k:Int)=Qf4 x0 (x0.length:Int) (k:Int)) ?_ ?_ k hk
 ·rw [Qkr]
  simp [QeM,Qf4,Qar,Qae]
 ·intro k hk ih
  rw [Qkr]
  have hx:=hc.2 x0[k] (List.getElem_mem hk)
  simp only [QeM,Qar,Qax,hk,decide_true,Qab,Int.toNat_natCast,add1 (show k<4611686018427387904 by omega),QaC (y:=Qaj) hk,show unfOk x0[k]=true from hx,unfV,Qae,ih]
  rfl
theorem Qum: ∀ S l p,Qcf.L 0 (fgt Qcv S)=some (true,l)→pickA l=some p→loopF (Qai Qcf Qcv Qdm) S=some p:=
 QaB (s:=QfK) ⟨by decide,by decide⟩ (by kernel_rfl) fun x y hok p hp=>by
 simp only [Qap,Qam] at hp
 exact (QwY x.1 x.2.2.1 x.2.2.2.1 (by simpa using hok)).trans hp
theorem Qz4:QiA.lok Qcf:=by
 repeat (first | exact trivial | exact Qum | refine ⟨?_, ?_⟩)
theorem QD9 (l:List ValT)(h:Qfd l=true):QlB l=some (.t tI (QMh l),[]):=by
 have hl:l.length≤100000:=by simp only [Qfd,Bool.and_eq_true,decide_eq_true_eq] at h; exact h.1
 simp only [QlB,rng_0 hl,h,Bool.true_and,Qab,Qae]
 rfl
def Qo1:Ent:=specH [.ty (.sl Qaj), .cf 233] [] (fun x d=>(Qfd x.1)) (fun x d=>(.t tI (QMh x.1)))
theorem QzG:Meets Tryz.prog 237 (strip Qo1):=(QaO (R:=runF Qcf QiA QpZ false) (mG Tryz.func237 (by kernel_rfl) Tryz.ntmps237 (by kernel_rfl) QAn Qz4) fun x d hok=>(QER x.1).trans (QD9 x.1 hok))
def QOB (_l:List ValT):Bool:=false
noncomputable def QiB:TC:=(.sq (.reg (rT Tryz.f232 0)) (.sq (.reg (rT Tryz.f232 1)) .rt))
def Qp0:List (RV×Option Ty):=[((.t 4),some .bool)]
def Qh4:G:=⟨TYs,[],9,EL [(237,Qo1)],keeps,(fun _ _=>none),IL [],RL []⟩
def QlC (p0:List ValT):Option (V×List VO):=br (Qfd p0) (some (.t .bool (ige (QMh p0) 0),[])) none
theorem QES (p0:List ValT):runF Qh4 QiB Qp0 false [.t (.sl Qaj) p0, .c (.func (.func 233) ⟨[]⟩ ⟨[]⟩)] []=QlC p0:=by kernel_rfl
theorem QAB:Qag Tryz.prog 232:= .inr ⟨by decide,_,Tryz.func232,by kernel_rfl,by kernel_rfl⟩
theorem QAo:GOk Tryz.prog Qh4:=Qak _ (gA (gC QAA QzG gN))
theorem Qz5:QiB.lok Qh4:=by repeat (first | exact trivial | refine ⟨?_, ?_⟩)
theorem QEa (l:List ValT)(h:Qfd l=true):QlC l=some (.t .bool (QOB l),[]):=by
 simp only [QlC,h,Qab]
 rfl
def Qo2:Ent:=specH [.ty (.sl Qaj), .cf 233] [] (fun x d=>(Qfd x.1)) (fun x d=>(.t .bool (QOB x.1)))
theorem QzH:Meets Tryz.prog 232 (strip Qo2):=(QaO (R:=runF Qh4 QiB Qp0 false) (mG Tryz.func232 (by kernel_rfl) Tryz.ntmps232 (by kernel_rfl) QAo Qz5) fun x d hok=>(QES x.1).trans (QEa x.1 hok))
noncomputable def QxK:TC:=(.sq (.reg (rT Tryz.f219 0)) (.sq (.sq (.reg (rT Tryz.f219 1)) (.cd (.t 36) (.sq (.reg (rT Tryz.f219 2)) .rt) .sk)) (.sq (.reg (rT Tryz.f219 3)) .rt)))
def QHS:List (RV×Option Ty):=[((.t 2),some .bool)]
def QCb:G:=⟨TYs,[],41,EL [(231,QGq),(232,Qo2)],keeps,(fun _ _=>none),IL [],RL []⟩
def QtL (p0:ValT):Option (V×List VO):=
 let a1:=List.map Val.un p0.2.2.2.1
 br (Qfd a1) (some (.t .bool (!(QOB a1)),[])) none
def Qqd (p0:ValT):Option (V×List VO):=br (!p0.2.2.1) (br (igt (llen (List.map Val.un p0.2.2.2.1)) 0) (some (.t .bool false,[])) (QtL p0)) (QtL p0)
def QJm (p0:ValT):Option (V×List VO):=br (!(tagB p0.1)) (some (.t .bool false,[])) (br (bneq p0.2.2.1 (ine (iband .i64 p0.1 32) 0)) (some (.t .bool false,[])) (br (p0.2.2.1) (br (igt (llen p0.2.1) 0) (some (.t .bool false,[])) (Qqd p0)) (Qqd p0)))
theorem e_f219 (p0:ValT):runF QCb QxK QHS false [.t Qaj p0] []=QJm p0:=by kernel_rfl
theorem QYe:GOk Tryz.prog QCb:=Qak _ (gA (gC QZo QVc (gC QAB QzH gN)))
theorem QWx:QxK.lok QCb:=by repeat (first | exact trivial | refine ⟨?_, ?_⟩)
theorem s_f219 (x:ValT)(h:okT (fuel+1) x=true):QJm x=some (.t .bool (frmV x),[]):=by
 obtain ⟨h1,h2,h3,h4,h5,h6,h7⟩:=QcR h
 have hu:Qfd (List.map Val.un x.2.2.2.1)=true:=by
  simp only [Qfd,Bool.and_eq_true,decide_eq_true_eq,List.length_map,List.all_eq_true,List.mem_map]
  refine ⟨h6, ?_⟩
  rintro y ⟨v,hv,rfl⟩
  rw [Qwf]
  exact h7 v hv
 have ht:tagB x.1=true:=by rcases h1 with e | e | e | e <;> rw [e] <;> rfl
 have hn:bneq x.2.2.1 (ine (iband .i64 x.1 32) 0)=false:=by rw [h2]; rcases h1 with e | e | e | e <;> rw [e] <;> rfl
 simp only [QJm,Qqd,QtL,ht,hn,hu,Bool.not_true,Qab,Qae]
 cases hq:x.2.2.1 with
 | true=>
  rw [h3 hq]
  rfl
 | false=>
  rw [h4 hq]
  rfl
theorem QWf:Meets Tryz.prog 219 (runF QCb QxK QHS false):=mG Tryz.func219 (by kernel_rfl) Tryz.ntmps219 (by kernel_rfl) QYe QWx
end
theorem QjT: ∀ N:Nat,Meets Tryz.prog 219 (strip (@QhL ⟨N⟩))
 | 0=>Qcb fun x=>by first | rfl | simp [okT]
 | N+1=>by
  letI:Fuel:=⟨N⟩
  haveI:Nonempty (PLift (Meets Tryz.prog 219 (strip QhL))):=⟨⟨QjT N⟩⟩
  exact Qaf QWf fun x hok=>(e_f219 x.1).trans (s_f219 x.1 hok)
def QGw:Ent:=spec (.pr Qaj .nil) (fun x=>(frmOk x.1)) (fun x=>(.t .bool (frmV x.1)))
theorem QVi:Meets Tryz.prog 219 (strip QGw):=Qcc QjT fun x hok=>Qq3 x.1 hok
theorem QMN:Qag Tryz.prog 182:= .inr ⟨by decide,_,Tryz.func182,by kernel_rfl,by kernel_rfl⟩
def QhP [Fuel]:Ent:=spec (.pr Qaj .nil) (fun x=>(okT fuel x.1)) (fun x=>(.t .bool (frmV x.1)))
theorem QQ2:Qag Tryz.prog 182:=QMN
section
variable [Fuel][Nonempty (PLift (Meets Tryz.prog 182 (strip QhP)))]
theorem QPs:Meets Tryz.prog 182 (strip QhP):=(Classical.choice (inferInstance:Nonempty (PLift (Meets Tryz.prog 182 (strip QhP))))).down
def frmIn [Fuel](x:ValT):Bool:=okT (fuel+1) x
def Qhj:Fg:=⟨[(1,none),(3,some tI)],[(1,some Qaj)]⟩
noncomputable def Qjk:TC:=(.sq (.sq (.reg (rT Tryz.f182 4)) (.cd (.t 43) .sk (.fg ⟨[],[]⟩ (.ex 0)))) (.sq (.bk 1 (.sq (.reg (rT Tryz.f182 5)) (.cd (.t 52) (.sq (.reg (rT Tryz.f182 6)) (.fg ⟨[(2,some .bool)],[]⟩ .rt)) .sk))) (.reg (rT Tryz.f182 7))))
noncomputable def Qx1:TC:=(.sq (.reg (rT Tryz.f182 0)) (.sq (.sq (.reg (rT Tryz.f182 1)) (.cd (.t 38) (.sq (.reg (rT Tryz.f182 2)) .rt) .sk)) (.sq (.sq (.reg (rT Tryz.f182 3)) (.bk 0 (.lp 0 Qhj Qjk))) (.sq (.reg (rT Tryz.f182 8)) .rt))))
def QH9:List (RV×Option Ty):=[((.t 2),some .bool)]
abbrev Qpv:Sh:=⟨[(1, .ptr 1 0),(3, .ty tI)],[(1, .box Qaj)]⟩
def QoL (x3:Int)(y1:ValT):VS:=Qpv.st ((),x3,()) (y1,())
abbrev Qtd:Sh:=⟨[(2, .ty .bool)],[]⟩
def Qdq (x2:Bool):VS:=Qtd.st (x2,()) ()
abbrev QvD:Sh:=⟨[],[]⟩
def Qeo  : VS:=QvD.st () ()
def QSd:VS→Option (Bool×List (Bool×Exit×VS)):=mkL Qpv (fun x y=>(decide (0≤x.2.1∧x.2.1≤y.1.2.2.2.1.length)&&frmIn y.1)) (fun x y=>[((false), .ret,Qdq (false)),(true, .exit 0,Qeo)])
def Qmo:G:=⟨TYs,[],53,EL [(182,QhP),(210,QGz)],keeps,(Ls [QSd]),IL [],RL []⟩
def QDv (x3:Int)(y1:ValT):Option (Exit×VS):=
 let a1:=List.map Val.un y1.2.2.2.1
 let a2:=lgt Qaj a1 (Int.toNat x3)
 br (ilt x3 (llen a1)) (br (cIx a1 x3) (br (okT fuel a2) (br (!(frmV a2)) (some (.ret,Qdq false)) (some (.normal,QoL (iadd .i64 x3 1) y1))) none) none) (some (.exit 0,Qeo))
noncomputable def Qj9 (x3:Int)(y1:ValT):Option (Exit×VS):=loopF (Qai Qmo Qhj Qjk) (QoL x3 y1)
noncomputable def Qnz (x3:Int)(y1:ValT):Option (Exit×VS):=
 let a1:=List.map Val.un y1.2.2.2.1
 let a2:=lgt Qaj a1 (Int.toNat x3)
 br (ilt x3 (llen a1)) (br (cIx a1 x3) (br (okT fuel a2) (br (!(frmV a2)) (some (.ret,Qdq false)) (Qj9 (iadd .i64 x3 1) y1)) none) none) (some (.exit 0,Qeo))
def QqS (x3:Int)(y1:ValT):Option (Exit×VS):=br (false) (some (.ret,Qdq (false)))<|some (.exit 0,Qeo)
theorem QNU (x3:Int)(y1:ValT):Qai Qmo Qhj Qjk (QoL x3 y1)=QDv x3 y1:=by kernel_rfl
theorem QwD (x3:Int)(y1:ValT):Qj9 x3 y1=Qnz x3 y1:=(Qan _ _).trans (by
 rw [QNU]
 simp only [QDv,Qnz,QaA,nxt_n,nxt_r,nxt_e,nxt_0]
 rfl)
def QtN (p0:ValT):Option (V×List VO):=br (decide (0≤(0:Int)∧(0:Int)≤p0.2.2.2.1.length)&&frmIn p0) (br (false) (some (.t .bool (false),[])) (some (.t .bool true,[]))) none
def QtO (p0:ValT):Option (V×List VO):=br (!p0.2.2.1) (br (igt (llen (List.map Val.un p0.2.2.2.1)) 0) (some (.t .bool false,[])) (QtN p0)) (QtN p0)
def QJB (p0:ValT):Option (V×List VO):=br (!(tagR p0.1)) (some (.t .bool false,[])) (br (cNz 32) (br (cNz 2) (br (bneq p0.2.2.1 (ieq (irem (iquo .i64 p0.1 32) 2) 1)) (some (.t .bool false,[])) (br (p0.2.2.1) (br (igt (llen p0.2.1) 0) (some (.t .bool false,[])) (QtO p0)) (QtO p0))) none) none)
theorem e_f182 (p0:ValT):runF Qmo Qx1 QH9 false [.t Qaj p0] []=QJB p0:=by kernel_rfl
theorem QYv:GOk Tryz.prog Qmo:=Qak _ (gA (gC QQ2 QPs (gC QZu QVl gN)))
theorem QQb (x3:Int)(y1:ValT)(h:(decide (0≤x3∧x3≤y1.2.2.2.1.length)&&frmIn y1)=true):Qj9 x3 y1=QqS x3 y1:=by
 simp only [Bool.and_eq_true,decide_eq_true_eq] at h
 obtain ⟨⟨h0,h1⟩,hc⟩:=h
 obtain ⟨k,rfl⟩:=Int.eq_ofNat_of_zero_le h0
 have hm:=QzA hc
 have hl:=(QcR hc).2.2.2.2.2.1
 refine Qat (List.map Val.un y1.2.2.2.1) (fun k=>Qj9 (k:Int) y1=QqS (k:Int) y1) ?_ ?_ k (by rw [List.length_map]; omega)
 ·rw [QwD]
  simp [Qnz,QqS,ilt,llen,Qae]
 ·intro k hk ih
  rw [QwD]
  have hk2:k<y1.2.2.2.1.length:=by rw [List.length_map] at hk; exact hk
  simp only [Qnz,show ilt (k:Int) (llen (List.map Val.un y1.2.2.2.1))=true from decide_eq_true (by simp only [llen]; omega),Qax,hk,decide_true,Qab,Int.toNat_natCast,add1 (show k<4611686018427387904 by omega),QaC (y:=Qaj) hk,hm k hk,frmV,Bool.not_true,Qae,ih]
  rfl
theorem QLe: ∀ S l p,Qmo.L 0 (fgt Qhj S)=some (true,l)→pickA l=some p→loopF (Qai Qmo Qhj Qjk) S=some p:=
 QaB (s:=Qpv) ⟨by decide,by decide⟩ (by kernel_rfl) fun x y hok p hp=>by
 simp only [Qap,Qam] at hp
 exact (QQb x.2.1 y.1 (by simpa using hok)).trans hp
theorem QWO:Qx1.lok Qmo:=by
 repeat (first | exact trivial | exact QLe | refine ⟨?_, ?_⟩)
theorem s_f182 (x:ValT)(h:okT (fuel+1) x=true):QJB x=some (.t .bool (frmV x),[]):=by
 obtain ⟨h1,h2,h3,h4,h5,h6,h7⟩:=QcR h
 have ht:tagR x.1=true:=by rcases h1 with e | e | e | e <;> rw [e] <;> rfl
 have hn:bneq x.2.2.1 (ieq (irem (iquo .i64 x.1 32) 2) 1)=false:=by rw [h2]; rcases h1 with e | e | e | e <;> rw [e] <;> rfl
 have hd:decide ((0:Int)≤0∧(0:Int)≤x.2.2.2.1.length)=true:=decide_eq_true (by omega)
 simp only [QJB,QtO,QtN,ht,hn,hd,show frmIn x=true from h,Bool.and_self,show cNz 32=true from rfl,show cNz 2=true from rfl,Bool.not_true,Qab,Qae]
 cases hq:x.2.2.1 with
 | true=>
  rw [h3 hq]
  rfl
 | false=>
  rw [h4 hq]
  rfl
theorem QWj:Meets Tryz.prog 182 (runF Qmo Qx1 QH9 false):=mG Tryz.func182 (by kernel_rfl) Tryz.ntmps182 (by kernel_rfl) QYv QWO
end
theorem QgW: ∀ N:Nat,Meets Tryz.prog 182 (strip (@QhP ⟨N⟩))
 | 0=>Qcb fun x=>by first | rfl | simp [okT]
 | N+1=>by
  letI:Fuel:=⟨N⟩
  haveI:Nonempty (PLift (Meets Tryz.prog 182 (strip QhP))):=⟨⟨QgW N⟩⟩
  exact Qaf QWj fun x hok=>(e_f182 x.1).trans (s_f182 x.1 hok)
def QGL:Ent:=spec (.pr Qaj .nil) (fun x=>(frmOk x.1)) (fun x=>(.t .bool (frmV x.1)))
theorem QVx:Meets Tryz.prog 182 (strip QGL):=Qcc QgW fun x hok=>QlQ x.1 hok
def dpV (x:ValT):Int:=(depV (Val.of x):Int)
def depLF (n:Nat)(x:ValT):Bool:=okT n x&&decide (n≤100)
def dpOk (x:ValT):Bool:=okT 12 x
theorem QrQ (x:ValT)(h:dpOk x=true): ∃ N,depLF N x=true:=⟨12,by rw [depLF,show okT 12 x=true from h]; rfl⟩
theorem QmT (x:ValT)(h:dpOk x=true): ∃ N,depLF N x=true:=⟨12,by rw [depLF,show okT 12 x=true from h]; rfl⟩
def depL (l:List ValT):Nat:=depVs (l.map Val.of)
theorem QC8:depL []=0:=rfl
theorem Qxc (x:ValT)(l:List ValT):depL (x::l)=max (depV (Val.of x)) (depL l):=rfl
theorem QuJ (x:ValT):depV (Val.of x)=depVs x.2.2.2.1+1:=rfl
theorem QL1 (a b:Nat):imx (a:Int) (b:Int)=((max a b:Nat):Int):=by
 unfold imx
 split <;> omega
theorem QMG:Qag Tryz.prog 220:= .inr ⟨by decide,_,Tryz.func220,by kernel_rfl,by kernel_rfl⟩
def QhK [Fuel]:Ent:=spec (.pr Qaj .nil) (fun x=>(depLF fuel x.1)) (fun x=>(.t tI (dpV x.1)))
theorem QQX:Qag Tryz.prog 220:=QMG
section
variable [Fuel][Nonempty (PLift (Meets Tryz.prog 220 (strip QhK)))]
theorem QPn:Meets Tryz.prog 220 (strip QhK):=(Classical.choice (inferInstance:Nonempty (PLift (Meets Tryz.prog 220 (strip QhK))))).down
def depIn [Fuel](l:List ValT):Bool:=decide (l.length≤100000∧fuel+1≤100)&&l.all (okT fuel)
def Qhb:Fg:=⟨[(3,some tI),(7,some (.sl Qaj)),(8,some tI),(9,some tI)],[]⟩
noncomputable def Qjc:TC:=(.sq (.reg (rT Tryz.f220 3)) (.sq (.cd (.t 10) .sk (.fg ⟨[(3,some tI)],[]⟩ (.ex 0))) (.sq (.bk 1 (.sq (.reg (rT Tryz.f220 4)) (.reg (rT Tryz.f220 5)))) (.reg (rT Tryz.f220 6)))))
noncomputable def QxJ:TC:=(.sq (.reg (rT Tryz.f220 0)) (.sq (.reg (rT Tryz.f220 1)) (.sq (.sq (.reg (rT Tryz.f220 2)) (.bk 0 (.lp 0 Qhb Qjc))) (.sq (.reg (rT Tryz.f220 7)) .rt))))
def QHR:List (RV×Option Ty):=[((.t 2),some tI)]
abbrev Qpm:Sh:=⟨[(3, .ty tI),(7, .ty (.sl Qaj)),(8, .ty tI),(9, .ty tI)],[]⟩
def QoD (x3:Int)(x7:List ValT)(x8 x9:Int):VS:=Qpm.st (x3,x7,x8,x9,()) ()
abbrev Qvv:Sh:=⟨[(3, .ty tI)],[]⟩
def Qeh (x3:Int):VS:=Qvv.st (x3,()) ()
def QR5:VS→Option (Bool×List (Bool×Exit×VS)):=mkL Qpm (fun x y=>(rngOk x.2.1 x.2.2.1 x.2.2.2.1&&depIn x.2.1&&decide (0≤x.1∧x.1≤100))) (fun x y=>[(true, .exit 0,Qeh ((max x.1.toNat (depL (x.2.1.drop x.2.2.2.1.toNat)):Nat):Int))])
def Qmg:G:=⟨TYs,[],20,EL [(220,QhK)],keeps,(Ls [QR5]),IL [],RL []⟩
def QDn (x3:Int)(x7:List ValT)(x8 x9:Int):Option (Exit×VS):=
 let a1:=lgt Qaj x7 (Int.toNat x9)
 br (ilt x9 x8) (br (cIx x7 x9) (br (depLF fuel a1) (some (.normal,QoD (imx x3 (dpV a1)) x7 x8 (iadd .i64 x9 1))) none) none) (some (.exit 0,Qeh x3))
noncomputable def Qj1 (x3:Int)(x7:List ValT)(x8 x9:Int):Option (Exit×VS):=loopF (Qai Qmg Qhb Qjc) (QoD x3 x7 x8 x9)
noncomputable def Qnt (x3:Int)(x7:List ValT)(x8 x9:Int):Option (Exit×VS):=
 let a1:=lgt Qaj x7 (Int.toNat x9)
 br (ilt x9 x8) (br (cIx x7 x9) (br (depLF fuel a1) (Qj1 (imx x3 (dpV a1)) x7 x8 (iadd .i64 x9 1)) none) none) (some (.exit 0,Qeh x3))
def Qky (x3:Int)(x7:List ValT)(x8 x9:Int):Option (Exit×VS):=some (.exit 0,Qeh ((max x3.toNat (depL (x7.drop x9.toNat)):Nat):Int))
theorem QNM (x3:Int)(x7:List ValT)(x8 x9:Int):Qai Qmg Qhb Qjc (QoD x3 x7 x8 x9)=QDn x3 x7 x8 x9:=by kernel_rfl
theorem Qww (x3:Int)(x7:List ValT)(x8 x9:Int):Qj1 x3 x7 x8 x9=Qnt x3 x7 x8 x9:=(Qan _ _).trans (by
 rw [QNM]
 simp only [QDn,Qnt,QaA,nxt_n,nxt_r,nxt_e,nxt_0]
 rfl)
def QJl (p0:ValT):Option (V×List VO):=
 let a1:=List.map Val.un p0.2.2.2.1
 br (rngOk a1 (llen a1) (0:Int)&&depIn a1&&decide (0≤(0:Int)∧(0:Int)≤100)) (some (.t tI (iadd .i64 ((max (0:Int).toNat (depL (a1.drop (0:Int).toNat)):Nat):Int) 1),[])) none
theorem e_f220 (p0:ValT):runF Qmg QxJ QHR false [.t Qaj p0] []=QJl p0:=by kernel_rfl
theorem QYd:GOk Tryz.prog Qmg:=Qak _ (gA (gC QQX QPn gN))
theorem QP3 (x3:Int)(x7:List ValT)(x8 x9:Int)(h:(rngOk x7 x8 x9&&depIn x7&&decide (0≤x3∧x3≤100))=true):Qj1 x3 x7 x8 x9=Qky x3 x7 x8 x9:=by
 simp only [Bool.and_eq_true,decide_eq_true_eq] at h
 obtain ⟨⟨h0,hc⟩,h1,h2⟩:=h
 obtain ⟨rfl,h3,k,rfl,hk⟩:=rng_k h0
 clear h0
 obtain ⟨m,rfl⟩:=Int.eq_ofNat_of_zero_le h1
 clear h1 h2
 simp only [depIn,Bool.and_eq_true,List.all_eq_true,decide_eq_true_eq] at hc
 obtain ⟨⟨hc0,hc1⟩,hc2⟩:=hc
 revert m
 refine Qat x7 (fun k=> ∀ m:Nat,Qj1 (m:Int) x7 (x7.length:Int) (k:Int)=Qky (m:Int) x7 (x7.length:Int) (k:Int)) ?_ ?_ k hk
 ·intro m
  rw [Qww]
  simp [Qnt,Qky,Qar,Qae,QC8]
 ·intro k hk ih m
  rw [Qww]
  have hx:=hc2 x7[k] (List.getElem_mem hk)
  have hd:depLF fuel x7[k]=true:=by rw [depLF,hx,decide_eq_true (by omega)]; rfl
  simp only [Qnt,Qar,Qax,hk,decide_true,Qab,Int.toNat_natCast,add1 (show k<4611686018427387904 by omega),QaC (y:=Qaj) hk,hd,dpV,QL1,ih]
  simp only [Qky,Int.toNat_natCast,List.drop_eq_getElem_cons hk,Qxc,Nat.max_assoc]
theorem QK6: ∀ S l p,Qmg.L 0 (fgt Qhb S)=some (true,l)→pickA l=some p→loopF (Qai Qmg Qhb Qjc) S=some p:=
 QaB (s:=Qpm) ⟨by decide,by decide⟩ (by kernel_rfl) fun x y hok p hp=>by
 simp only [Qap,Qam] at hp
 exact (QP3 x.1 x.2.1 x.2.2.1 x.2.2.2.1 (by simpa using hok)).trans hp
theorem QWw:QxJ.lok Qmg:=by
 repeat (first | exact trivial | exact QK6 | refine ⟨?_, ?_⟩)
theorem s_f220 (x:ValT)(h:depLF (fuel+1) x=true):QJl x=some (.t tI (dpV x),[]):=by
 simp only [depLF,Bool.and_eq_true,decide_eq_true_eq] at h
 obtain ⟨h,hf⟩:=h
 obtain ⟨h1,h2,h3,h4,h5,h6,h7⟩:=QcR h
 have hu:depIn (List.map Val.un x.2.2.2.1)=true:=by
  simp only [depIn,Bool.and_eq_true,decide_eq_true_eq,List.length_map,List.all_eq_true,List.mem_map]
  refine ⟨⟨h6,hf⟩, ?_⟩
  rintro y ⟨v,hv,rfl⟩
  rw [Qwf]
  exact h7 v hv
 have hd:=QtY (v:=Val.of x) h
 rw [QuJ] at hd
 simp only [QJl,rng_0 (show (List.map Val.un x.2.2.2.1).length≤100000 by rw [List.length_map]; exact h6),hu,Bool.and_self,show decide ((0:Int)≤0∧(0:Int)≤100)=true from rfl,Qab,Int.toNat_zero,List.drop_zero,depL,QcZ,Nat.zero_max]
 rw [QaV (by omega)]
 simp only [dpV,QuJ]
 congr 2
theorem QWe:Meets Tryz.prog 220 (runF Qmg QxJ QHR false):=mG Tryz.func220 (by kernel_rfl) Tryz.ntmps220 (by kernel_rfl) QYd QWw
end
theorem Ql7: ∀ N:Nat,Meets Tryz.prog 220 (strip (@QhK ⟨N⟩))
 | 0=>Qcb fun x=>by first | rfl | simp [depLF]
 | N+1=>by
  letI:Fuel:=⟨N⟩
  haveI:Nonempty (PLift (Meets Tryz.prog 220 (strip QhK))):=⟨⟨Ql7 N⟩⟩
  exact Qaf QWe fun x hok=>(e_f220 x.1).trans (s_f220 x.1 hok)
def QGv:Ent:=spec (.pr Qaj .nil) (fun x=>(dpOk x.1)) (fun x=>(.t tI (dpV x.1)))
theorem QVh:Meets Tryz.prog 220 (strip QGv):=Qcc Ql7 fun x hok=>QrQ x.1 hok
theorem QMM:Qag Tryz.prog 183:= .inr ⟨by decide,_,Tryz.func183,by kernel_rfl,by kernel_rfl⟩
def QhO [Fuel]:Ent:=spec (.pr Qaj .nil) (fun x=>(depLF fuel x.1)) (fun x=>(.t tI (dpV x.1)))
theorem QQ1:Qag Tryz.prog 183:=QMM
section
variable [Fuel][Nonempty (PLift (Meets Tryz.prog 183 (strip QhO)))]
theorem QPr:Meets Tryz.prog 183 (strip QhO):=(Classical.choice (inferInstance:Nonempty (PLift (Meets Tryz.prog 183 (strip QhO))))).down
def Qxd [Fuel](x:ValT):Bool:=depLF (fuel+1) x
def Qhi:Fg:=⟨[(1,none),(3,some tI),(4,some tI)],[(1,some Qaj)]⟩
noncomputable def Qjj:TC:=(.sq (.sq (.reg (rT Tryz.f183 3)) (.cd (.t 9) .sk (.fg ⟨[(3,some tI)],[]⟩ (.ex 0)))) (.sq (.bk 1 (.reg (rT Tryz.f183 4))) (.reg (rT Tryz.f183 5))))
noncomputable def Qx0:TC:=(.sq (.reg (rT Tryz.f183 0)) (.sq (.reg (rT Tryz.f183 1)) (.sq (.sq (.reg (rT Tryz.f183 2)) (.bk 0 (.lp 0 Qhi Qjj))) (.sq (.reg (rT Tryz.f183 6)) .rt))))
def QH8:List (RV×Option Ty):=[((.t 2),some tI)]
abbrev Qpu:Sh:=⟨[(1, .ptr 1 0),(3, .ty tI),(4, .ty tI)],[(1, .box Qaj)]⟩
def QoK (x3 x4:Int)(y1:ValT):VS:=Qpu.st ((),x3,x4,()) (y1,())
abbrev QvC:Sh:=⟨[(3, .ty tI)],[]⟩
def Qen (x3:Int):VS:=QvC.st (x3,()) ()
def QSc:VS→Option (Bool×List (Bool×Exit×VS)):=mkL Qpu (fun x y=>(decide (0≤x.2.2.1∧x.2.2.1≤y.1.2.2.2.1.length∧0≤x.2.1∧x.2.1≤100)&&Qxd y.1)) (fun x y=>[(true, .exit 0,Qen ((max x.2.1.toNat (depL ((List.map Val.un y.1.2.2.2.1).drop x.2.2.1.toNat)):Nat):Int))])
def Qmn:G:=⟨TYs,[],22,EL [(183,QhO)],keeps,(Ls [QSc]),IL [],RL []⟩
def QDu (x3 x4:Int)(y1:ValT):Option (Exit×VS):=
 let a1:=List.map Val.un y1.2.2.2.1
 let a2:=lgt Qaj a1 (Int.toNat x4)
 br (ilt x4 (llen a1)) (br (cIx a1 x4) (br (depLF fuel a2) (some (.normal,QoK (imx x3 (dpV a2)) (iadd .i64 x4 1) y1)) none) none) (some (.exit 0,Qen x3))
noncomputable def Qj8 (x3 x4:Int)(y1:ValT):Option (Exit×VS):=loopF (Qai Qmn Qhi Qjj) (QoK x3 x4 y1)
noncomputable def Qny (x3 x4:Int)(y1:ValT):Option (Exit×VS):=
 let a1:=List.map Val.un y1.2.2.2.1
 let a2:=lgt Qaj a1 (Int.toNat x4)
 br (ilt x4 (llen a1)) (br (cIx a1 x4) (br (depLF fuel a2) (Qj8 (imx x3 (dpV a2)) (iadd .i64 x4 1) y1) none) none) (some (.exit 0,Qen x3))
def QkD (x3 x4:Int)(y1:ValT):Option (Exit×VS):=some (.exit 0,Qen ((max x3.toNat (depL ((List.map Val.un y1.2.2.2.1).drop x4.toNat)):Nat):Int))
theorem QNT (x3 x4:Int)(y1:ValT):Qai Qmn Qhi Qjj (QoK x3 x4 y1)=QDu x3 x4 y1:=by kernel_rfl
theorem QwC (x3 x4:Int)(y1:ValT):Qj8 x3 x4 y1=Qny x3 x4 y1:=(Qan _ _).trans (by
 rw [QNT]
 simp only [QDu,Qny,QaA,nxt_n,nxt_r,nxt_e,nxt_0]
 rfl)
def QJA (p0:ValT):Option (V×List VO):=br (decide (0≤(0:Int)∧(0:Int)≤p0.2.2.2.1.length∧0≤(0:Int)∧(0:Int)≤100)&&Qxd p0) (some (.t tI (iadd .i64 ((max (0:Int).toNat (depL ((List.map Val.un p0.2.2.2.1).drop (0:Int).toNat)):Nat):Int) 1),[])) none
theorem e_f183 (p0:ValT):runF Qmn Qx0 QH8 false [.t Qaj p0] []=QJA p0:=by kernel_rfl
theorem QYu:GOk Tryz.prog Qmn:=Qak _ (gA (gC QQ1 QPr gN))
theorem QQa (x3 x4:Int)(y1:ValT)(h:(decide (0≤x4∧x4≤y1.2.2.2.1.length∧0≤x3∧x3≤100)&&Qxd y1)=true):Qj8 x3 x4 y1=QkD x3 x4 y1:=by
 simp only [Bool.and_eq_true,decide_eq_true_eq] at h
 obtain ⟨⟨h0,h1,h2,h3⟩,hc⟩:=h
 obtain ⟨k,rfl⟩:=Int.eq_ofNat_of_zero_le h0
 obtain ⟨m,rfl⟩:=Int.eq_ofNat_of_zero_le h2
 clear h2 h3
 simp only [Qxd,depLF,Bool.and_eq_true,decide_eq_true_eq] at hc
 obtain ⟨hc,hf⟩:=hc
 have hm:=QzA hc
 have hl:=(QcR hc).2.2.2.2.2.1
 revert m
 refine Qat (List.map Val.un y1.2.2.2.1) (fun k=> ∀ m:Nat,Qj8 (m:Int) (k:Int) y1=QkD (m:Int) (k:Int) y1) ?_ ?_ k (by rw [List.length_map]; omega)
 ·intro m
  rw [QwC]
  simp only [Qny,show ilt ((List.map Val.un y1.2.2.2.1).length:Int) (llen (List.map Val.un y1.2.2.2.1))=false from decide_eq_false (by simp only [llen]; omega),Qae]
  simp only [QkD,Int.toNat_natCast,List.drop_length,QC8,Nat.max_zero]
 ·intro k hk ih m
  rw [QwC]
  have hk2:k<y1.2.2.2.1.length:=by rw [List.length_map] at hk; exact hk
  have hd:depLF fuel (List.map Val.un y1.2.2.2.1)[k]=true:=by rw [depLF,hm k hk,decide_eq_true (by omega)]; rfl
  simp only [Qny,show ilt (k:Int) (llen (List.map Val.un y1.2.2.2.1))=true from decide_eq_true (by simp only [llen]; omega),Qax,hk,decide_true,Qab,Int.toNat_natCast,add1 (show k<4611686018427387904 by omega),QaC (y:=Qaj) hk,hd,dpV,QL1,ih]
  simp only [QkD,Int.toNat_natCast,List.drop_eq_getElem_cons hk,Qxc,Nat.max_assoc]
theorem QLd: ∀ S l p,Qmn.L 0 (fgt Qhi S)=some (true,l)→pickA l=some p→loopF (Qai Qmn Qhi Qjj) S=some p:=
 QaB (s:=Qpu) ⟨by decide,by decide⟩ (by kernel_rfl) fun x y hok p hp=>by
 simp only [Qap,Qam] at hp
 exact (QQa x.2.1 x.2.2.1 y.1 (by simpa using hok)).trans hp
theorem QWN:Qx0.lok Qmn:=by
 repeat (first | exact trivial | exact QLd | refine ⟨?_, ?_⟩)
theorem s_f183 (x:ValT)(h:depLF (fuel+1) x=true):QJA x=some (.t tI (dpV x),[]):=by
 have hin:Qxd x=true:=h
 simp only [depLF,Bool.and_eq_true,decide_eq_true_eq] at h
 obtain ⟨h,hf⟩:=h
 have hd:=QtY (v:=Val.of x) h
 rw [QuJ] at hd
 have hdd:decide ((0:Int)≤0∧(0:Int)≤x.2.2.2.1.length∧(0:Int)≤0∧(0:Int)≤100)=true:=decide_eq_true (by omega)
 simp only [QJA,hin,hdd,Bool.and_self,Qab,Int.toNat_zero,List.drop_zero,depL,QcZ,Nat.zero_max]
 rw [QaV (by omega)]
 simp only [dpV,QuJ]
 congr 2
theorem QWi:Meets Tryz.prog 183 (runF Qmn Qx0 QH8 false):=mG Tryz.func183 (by kernel_rfl) Tryz.ntmps183 (by kernel_rfl) QYu QWN
end
theorem Qiv: ∀ N:Nat,Meets Tryz.prog 183 (strip (@QhO ⟨N⟩))
 | 0=>Qcb fun x=>by first | rfl | simp [depLF]
 | N+1=>by
  letI:Fuel:=⟨N⟩
  haveI:Nonempty (PLift (Meets Tryz.prog 183 (strip QhO))):=⟨⟨Qiv N⟩⟩
  exact Qaf QWi fun x hok=>(e_f183 x.1).trans (s_f183 x.1 hok)
def QGK:Ent:=spec (.pr Qaj .nil) (fun x=>(dpOk x.1)) (fun x=>(.t tI (dpV x.1)))
theorem QVw:Meets Tryz.prog 183 (strip QGK):=Qcc Qiv fun x hok=>QmT x.1 hok
end
end Go.Proofs.YtckcgijklnloiaaGreat.K
set_option linter.unusedSectionVars false
namespace Go.Proofs.YtckcgijklnloiaaGreat.K
open Go.RowKit
noncomputable section
def encT (x:ValT):List Int:=encV (Val.of x)
def encL (l:List ValT):List Int:=encVs (l.map Val.of)
theorem Qic:encL []=[]:=rfl
theorem Qcw (x:ValT)(l:List ValT):encL (x::l)=encT x++encL l:=rfl
theorem Qrc (x:ValT):encT x=icv .u8 x.1::(lenL (x.2.1.length+(encVs x.2.2.2.1).length)++(x.2.1++encVs x.2.2.2.1)):=rfl
theorem Qrb (x:ValT):x.2.1.length+(encVs x.2.2.2.1).length≤(encT x).length:=QQS x.1 x.2.1 x.2.2.1 x.2.2.2.1
theorem QlV: ∀ (l:List ValT) (k:Nat) (hk:k<l.length),(encL (l.take k)).length+(encT l[k]).length≤(encL l).length
 | [],k,hk=>by simp at hk
 | x::l,0,_=>by
  rw [List.take_zero,Qic,Qcw,List.length_append]
  simp
 | x::l,k+1,hk=>by
  simp only [List.length_cons] at hk
  have:=QlV l k (by omega)
  simp only [List.take_succ_cons,Qcw,List.length_append,List.getElem_cons_succ]
  omega
theorem Qh0 (n:Nat):(lenL n).length≤9:=by
 unfold lenL
 split
 ·simp
 ·rw [List.length_cons,QuI]
  have:=QuL 8 n
  omega
def encLF (n:Nat)(x:ValT):Bool:=okT n x&&decide ((encT x).length≤100000000)
def encOk (x:ValT):Bool:=okT 12 x&&decide ((encT x).length≤100000000)
theorem QrP (x:ValT)(h:encOk x=true): ∃ N,encLF N x=true:=⟨12,h⟩
theorem QML:Qag Tryz.prog 184:= .inr ⟨by decide,_,Tryz.func184,by kernel_rfl,by kernel_rfl⟩
def QhN [Fuel]:Ent:=spec (.pr Qaj .nil) (fun x=>(encLF fuel x.1)) (fun x=>(.t (.sl (.int .u8)) (encT x.1)))
theorem QQ0:Qag Tryz.prog 184:=QML
section
variable [Fuel][Nonempty (PLift (Meets Tryz.prog 184 (strip QhN)))]
theorem QPq:Meets Tryz.prog 184 (strip QhN):=(Classical.choice (inferInstance:Nonempty (PLift (Meets Tryz.prog 184 (strip QhN))))).down
def encIn [Fuel](x:ValT):Bool:=encLF (fuel+1) x
noncomputable def QM5:List DO:=dT Tryz.f184 6
def Qhh:Fg:=⟨[(1,none),(3,none),(4,some tI)],[(1,some Qaj),(3,none),(5,none),(8,none),(23,none)]⟩
noncomputable def Qji:TC:=(.sq (.sq (.reg (rT Tryz.f184 3)) (.cd (.t 13) .sk (.fg ⟨[(1,none),(3,none)],[(1,some Qaj),(3,none),(5,none),(8,none),(23,none)]⟩ (.ex 0)))) (.sq (.bk 1 (.reg (rT Tryz.f184 4))) (.reg (rT Tryz.f184 5))))
noncomputable def QxZ:TC:=(.sq (.reg (rT Tryz.f184 0)) (.sq (.reg (rT Tryz.f184 1)) (.sq (.sq (.reg (rT Tryz.f184 2)) (.bk 0 (.nw 3 5 (.lp 0 Qhh Qji)))) (.sq (.dr QM5 [(0,[1]),(1,[1]),(2,[]),(3,[27,5027,10027,15027]),(4,[3,5,8,23]),(5,[3,5,8,23]),(6,[]),(7,[27,31,5031,10031,15031]),(8,[3,5,8,23]),(9,[3,5,8,23,27,31,33,5033,10033,15033]),(10,[27,31,33])] (.of [0,1,2,4,5,6,8,3,7,9,10])) .rt))))
def QH7:List (RV×Option Ty):=[((.t 2),some (.sl (.int .u8)))]
abbrev Qpt:Sh:=⟨[(1, .ptr 1 0),(3, .ms 5),(4, .ty tI)],[(1, .box Qaj),(3, .no),(5, .arr 5 (.int .u8)),(8, .no),(23, .no)]⟩
def QoJ (x4:Int)(y1:ValT)(y5:List Int):VS:=Qpt.st ((),(),x4,()) (y1,(),y5,(),(),())
abbrev QvB:Sh:=⟨[(1, .ptr 1 0),(3, .ms 5)],[(1, .box Qaj),(3, .no),(5, .arr 5 (.int .u8)),(8, .no),(23, .no)]⟩
def Qem (y1:ValT)(y5:List Int):VS:=QvB.st ((),(),()) (y1,(),y5,(),(),())
def QSb:VS→Option (Bool×List (Bool×Exit×VS)):=mkL Qpt (fun x y=>(decide (0≤x.2.2.1∧x.2.2.1≤y.1.2.2.2.1.length∧y.2.2.1.length+(encL ((List.map Val.un y.1.2.2.2.1).drop x.2.2.1.toNat)).length≤1000000000)&&encIn y.1)) (fun x y=>[(true, .exit 0,Qem (y.1) (y.2.2.1++encL ((List.map Val.un y.1.2.2.2.1).drop x.2.2.1.toNat)))])
def Qmm:G:=⟨TYs,[5,27],34,EL [(184,QhN),(211,QGy)],keeps,(Ls [QSb]),IL [],RL []⟩
def QDt (x4:Int)(y1:ValT)(y5:List Int):Option (Exit×VS):=
 let a2:=List.map Val.un y1.2.2.2.1
 let a1:=lgt Qaj a2 (Int.toNat x4)
 br (ilt x4 (llen a2)) (br (cIx a2 x4) (br (encLF fuel a1) (br (cApp y5 (encT a1) 1) (some (.normal,QoJ (iadd .i64 x4 1) y1 (y5++(encT a1)))) none) none) none) (some (.exit 0,Qem y1 y5))
noncomputable def Qj7 (x4:Int)(y1:ValT)(y5:List Int):Option (Exit×VS):=loopF (Qai Qmm Qhh Qji) (QoJ x4 y1 y5)
noncomputable def Qnx (x4:Int)(y1:ValT)(y5:List Int):Option (Exit×VS):=
 let a2:=List.map Val.un y1.2.2.2.1
 let a1:=lgt Qaj a2 (Int.toNat x4)
 br (ilt x4 (llen a2)) (br (cIx a2 x4) (br (encLF fuel a1) (br (cApp y5 (encT a1) 1) (Qj7 (iadd .i64 x4 1) y1 (y5++(encT a1))) none) none) none) (some (.exit 0,Qem y1 y5))
def QkC (x4:Int)(y1:ValT)(y5:List Int):Option (Exit×VS):=some (.exit 0,Qem (y1) (y5++encL ((List.map Val.un y1.2.2.2.1).drop x4.toNat)))
theorem QNS (x4:Int)(y1:ValT)(y5:List Int):Qai Qmm Qhh Qji (QoJ x4 y1 y5)=QDt x4 y1 y5:=by kernel_rfl
theorem QwB (x4:Int)(y1:ValT)(y5:List Int):Qj7 x4 y1 y5=Qnx x4 y1 y5:=(Qan _ _).trans (by
 rw [QNS]
 simp only [QDt,Qnx,QaA,nxt_n,nxt_r,nxt_e,nxt_0]
 rfl)
def QJz (p0:ValT):Option (V×List VO):=
 let a2:=List.map Val.un p0.2.2.2.1
 let a3:=(a2.drop (0:Int).toNat)
 let a1:=(llen ((([]:List Int)++p0.2.1)++encL a3))
 let a4:=icv .u8 ((p0).1)
 br (cApp ([]:List Int) p0.2.1 1) (br (decide (0≤(0:Int)∧(0:Int)≤p0.2.2.2.1.length∧(([]:List Int)++p0.2.1).length+(encL a3).length≤1000000000)&&encIn p0) (br (QwX a1) (br (cApp ([a4]) (lenR a1) 1) (br (cApp (([a4])++(lenR a1)) ((([]:List Int)++p0.2.1)++encL a3) 1) (some (.t (.sl (.int .u8)) ((([a4])++(lenR a1))++((([]:List Int)++p0.2.1)++encL a3)),[])) none) none) none) none) none
theorem e_f184 (p0:ValT):runF Qmm QxZ QH7 false [.t Qaj p0] []=QJz p0:=by kernel_rfl
theorem QYt:GOk Tryz.prog Qmm:=Qak _ (gA (gC QQ0 QPq (gC QZt QVk gN)))
theorem QP9 (x4:Int)(y1:ValT)(y5:List Int)(h:(decide (0≤x4∧x4≤y1.2.2.2.1.length∧y5.length+(encL ((List.map Val.un y1.2.2.2.1).drop x4.toNat)).length≤1000000000)&&encIn y1)=true):Qj7 x4 y1 y5=QkC x4 y1 y5:=by
 simp only [Bool.and_eq_true,decide_eq_true_eq] at h
 obtain ⟨⟨h0,h1,h2⟩,hc⟩:=h
 obtain ⟨k,rfl⟩:=Int.eq_ofNat_of_zero_le h0
 simp only [encIn,encLF,Bool.and_eq_true,decide_eq_true_eq] at hc
 obtain ⟨hc,hf⟩:=hc
 have hm:=QzA hc
 have hl:=(QcR hc).2.2.2.2.2.1
 rw [Int.toNat_natCast] at h2
 have hel:=Qrb y1
 have hE:encL (List.map Val.un y1.2.2.2.1)=encVs y1.2.2.2.1:=by rw [encL,QcZ]
 revert y5
 refine Qat (List.map Val.un y1.2.2.2.1) (fun k=> ∀ y5:List Int,y5.length+(encL ((List.map Val.un y1.2.2.2.1).drop k)).length≤1000000000→Qj7 (k:Int) y1 y5=QkC (k:Int) y1 y5) ?_ ?_ k (by rw [List.length_map]; omega)
 ·intro y5 _
  rw [QwB]
  simp only [Qnx,show ilt ((List.map Val.un y1.2.2.2.1).length:Int) (llen (List.map Val.un y1.2.2.2.1))=false from decide_eq_false (by simp only [llen]; omega),Qae]
  simp only [QkC,Int.toNat_natCast,List.drop_length,Qic,List.append_nil]
 ·intro k hk ih y5 hy
  rw [QwB]
  have hk2:k<y1.2.2.2.1.length:=by rw [List.length_map] at hk; exact hk
  have hs:=QlV (List.map Val.un y1.2.2.2.1) k hk
  rw [hE] at hs
  rw [List.drop_eq_getElem_cons hk,Qcw,List.length_append] at hy
  have hd:encLF fuel (List.map Val.un y1.2.2.2.1)[k]=true:=by rw [encLF,hm k hk,decide_eq_true (by omega)]; rfl
  simp only [Qnx,show ilt (k:Int) (llen (List.map Val.un y1.2.2.2.1))=true from decide_eq_true (by simp only [llen]; omega),Qax,hk,decide_true,Qab,Int.toNat_natCast,add1 (show k<4611686018427387904 by omega),QaC (y:=Qaj) hk,hd]
  rw [cAppN (by omega) (by omega),Qab,ih _ (by rw [List.length_append]; omega)]
  simp only [QkC,Int.toNat_natCast,List.drop_eq_getElem_cons hk,Qcw,List.append_assoc]
theorem QLc: ∀ S l p,Qmm.L 0 (fgt Qhh S)=some (true,l)→pickA l=some p→loopF (Qai Qmm Qhh Qji) S=some p:=
 QaB (s:=Qpt) ⟨by decide,by decide⟩ (by kernel_rfl) fun x y hok p hp=>by
 simp only [Qap,Qam] at hp
 exact (QP9 x.2.2.1 y.1 y.2.2.1 (by simpa using hok)).trans hp
theorem QWM:QxZ.lok Qmm:=by
 repeat (first | exact trivial | exact QLc | refine ⟨?_, ?_⟩)
theorem s_f184 (x:ValT)(h:encLF (fuel+1) x=true):QJz x=some (.t (.sl (.int .u8)) (encT x),[]):=by
 have hin:encIn x=true:=h
 simp only [encLF,Bool.and_eq_true,decide_eq_true_eq] at h
 obtain ⟨h,hf⟩:=h
 have hel:=Qrb x
 have hE:encL (List.map Val.un x.2.2.2.1)=encVs x.2.2.2.1:=by rw [encL,QcZ]
 have hll:=Qh0 (x.2.1.length+(encVs x.2.2.2.1).length)
 simp only [QJz,hin,Bool.and_true,List.nil_append,Int.toNat_zero,List.drop_zero,hE]
 rw [cAppN (by omega) (by simp only [List.length_nil]; omega),Qab,decide_eq_true ⟨by omega,by omega,by omega⟩,Qab]
 have e1:QwX (llen (x.2.1++encVs x.2.2.2.1))=true:=decide_eq_true (by simp only [llen,List.length_append]; omega)
 have e2:lenR (llen (x.2.1++encVs x.2.2.2.1))=lenL (x.2.1.length+(encVs x.2.2.2.1).length):=by simp only [lenR,llen,List.length_append,Int.toNat_natCast]
 rw [e1,Qab,e2,cAppN (by omega) (by simp only [List.length_singleton]; omega),Qab,cAppN (by omega) (by simp only [List.length_append,List.length_singleton]; omega),Qab,Qrc]
 simp only [List.singleton_append,List.cons_append,List.nil_append]
theorem QWh:Meets Tryz.prog 184 (runF Qmm QxZ QH7 false):=mG Tryz.func184 (by kernel_rfl) Tryz.ntmps184 (by kernel_rfl) QYt QWM
end
theorem Ql6: ∀ N:Nat,Meets Tryz.prog 184 (strip (@QhN ⟨N⟩))
 | 0=>Qcb fun x=>by first | rfl | simp [encLF]
 | N+1=>by
  letI:Fuel:=⟨N⟩
  haveI:Nonempty (PLift (Meets Tryz.prog 184 (strip QhN))):=⟨⟨Ql6 N⟩⟩
  exact Qaf QWh fun x hok=>(e_f184 x.1).trans (s_f184 x.1 hok)
def QGJ:Ent:=spec (.pr Qaj .nil) (fun x=>(encOk x.1)) (fun x=>(.t (.sl (.int .u8)) (encT x.1)))
theorem QVv:Meets Tryz.prog 184 (strip QGJ):=Qcc Ql6 fun x hok=>QrP x.1 hok
def encE (x:ValT):List Int×Int:=if 4096<(encT x).length then ([],3) else (encT x,0)
theorem QC2 {x:ValT}(h:okT 12 x=true):igt (dpV x) 16=false:=by
 have:=QtY (v:=Val.of x) h
 exact decide_eq_false (by show ¬ ((depV (Val.of x):Int) > 16); omega)
noncomputable def Qye:TC:=(.sq (.reg (rT Tryz.f157 0)) (.sq (.sq (.reg (rT Tryz.f157 1)) (.cd (.t 7) (.sq (.reg (rT Tryz.f157 2)) .rt) .sk)) (.sq (.sq (.reg (rT Tryz.f157 3)) (.cd (.t 10) (.sq (.reg (rT Tryz.f157 4)) .rt) .sk)) (.sq (.reg (rT Tryz.f157 5)) (.sq (.sq (.reg (rT Tryz.f157 6)) (.cd (.t 15) (.sq (.reg (rT Tryz.f157 7)) .rt) .sk)) (.sq (.reg (rT Tryz.f157 8)) .rt))))))
def QIm:List (RV×Option Ty):=[((.t 2),some (.sl (.int .u8))),((.t 3),some tI)]
def QCt:G:=⟨TYs,[],17,EL [(182,QGL),(183,QGK),(184,QGJ)],keeps,(fun _ _=>none),IL [],RL []⟩
def QJK (p0:ValT):Option (V×List VO):=br (frmOk p0) (br (!(frmV p0)) (some (.tu [(.t (.sl (.int .u8)) ([]:List Int)),(.t tI 1)],[])) (br (dpOk p0) (br (igt (dpV p0) 16) (some (.tu [(.t (.sl (.int .u8)) ([]:List Int)),(.t tI 3)],[])) (br (encOk p0) (br (igt (llen (encT p0)) 4096) (some (.tu [(.t (.sl (.int .u8)) ([]:List Int)),(.t tI 3)],[])) (some (.tu [(.t (.sl (.int .u8)) (encT p0)),(.t tI 0)],[]))) none)) none)) none
theorem e_f157 (p0:ValT):runF QCt Qye QIm false [.t Qaj p0] []=QJK p0:=by kernel_rfl
theorem QZP:Qag Tryz.prog 157:= .inr ⟨by decide,_,Tryz.func157,by kernel_rfl,by kernel_rfl⟩
theorem QYI:GOk Tryz.prog QCt:=Qak _ (gA (gC QMN QVx (gC QMM QVw (gC QML QVv gN))))
theorem QW1:Qye.lok QCt:=by repeat (first | exact trivial | refine ⟨?_, ?_⟩)
theorem s_f157 (x:ValT)(h:encOk x=true):QJK x=some (.tu [.t (.sl (.int .u8)) (encE x).1, .t tI (encE x).2],[]):=by
 have h':=h
 simp only [encOk,Bool.and_eq_true,decide_eq_true_eq] at h'
 obtain ⟨h1,h2⟩:=h'
 simp only [QJK,show frmOk x=true from h1,show dpOk x=true from h1,h,QC2 h1,frmV,Bool.not_true,Qab,Qae]
 unfold encE
 refine QaE (fun g=> ?_) (fun g=> ?_)
 ·simp only [igt,llen,decide_eq_true_eq] at g
  rw [if_pos (by omega)]
 ·simp only [igt,llen,decide_eq_false_iff_not] at g
  rw [if_neg (by omega)]
def QGX:Ent:=spec (.pr Qaj .nil) (fun x=>(encOk x.1)) (fun x=>(.tu [(.t (.sl (.int .u8)) ((encE x.1).1)),(.t tI ((encE x.1).2))]))
theorem QVJ:Meets Tryz.prog 157 (strip QGX):=Qaf (R:=runF QCt Qye QIm false) (mG Tryz.func157 (by kernel_rfl) Tryz.ntmps157 (by kernel_rfl) QYI QW1) fun x hok=>(e_f157 x.1).trans (s_f157 x.1 hok)
def conV (x:ValT):List Int:=x.2.1++encVs x.2.2.2.1
theorem QDc (x:ValT):(conV x).length=x.2.1.length+(encVs x.2.2.2.1).length:=List.length_append
theorem QlS (x:ValT)(h:encOk x=true): ∃ N,encLF N x=true:=⟨12,h⟩
def eleV (b:List Int)(x:ValT):List Int:=b++encT x
theorem QUA (b:List Int)(x:ValT):lenA (b++[icv .u8 x.1]) (llen (conV x))++conV x=eleV b x:=by
 simp only [lenA,eleV,Qrc,llen,Int.toNat_natCast,conV,List.length_append,List.append_assoc,List.singleton_append,List.cons_append,List.nil_append]
theorem QME:Qag Tryz.prog 234:= .inr ⟨by decide,_,Tryz.func234,by kernel_rfl,by kernel_rfl⟩
def QhJ [Fuel]:Ent:=spec (.pr Qaj .nil) (fun x=>(encLF fuel x.1)) (fun x=>(.t (.sl (.int .u8)) (conV x.1)))
theorem QQU:Qag Tryz.prog 234:=QME
section
variable [Fuel][Nonempty (PLift (Meets Tryz.prog 234 (strip QhJ)))]
theorem QPk:Meets Tryz.prog 234 (strip QhJ):=(Classical.choice (inferInstance:Nonempty (PLift (Meets Tryz.prog 234 (strip QhJ))))).down
def Qrn [Fuel](b:List Int)(x:ValT):Bool:=decide (b.length≤500000000)&&encLF fuel x
noncomputable def QsD:TC:=(.ad [(50000,49000)] (.sq (.reg (rT Tryz.f221 0)) (.sq (.reg (rT Tryz.f221 1)) (.sq (.reg (rT Tryz.f221 2)) .rt))))
def QBk:List (RV×Option Ty):=[((.t 4),none)]
def Quw:G:=⟨TYs,[],19,EL [(234,QhJ),(235,QyS)],(235::keeps),(fun _ _=>none),IL [],RL []⟩
def Qzx (p0:List Int)(p1:ValT):Option (V×List VO):=
 let a1:=lenA (p0++([(icv .u8 p1.1)])) (llen (conV p1))
 br (encLF fuel p1) (br (cApp p0 ([(icv .u8 p1.1)]) 1) (br (QqO (p0++([(icv .u8 p1.1)])) (llen (conV p1))) (br (cApp a1 (conV p1) 1) (some (.ms 50001,[.no, .arr 5 (.int .u8) (a1++(conV p1))])) none) none) none) none
theorem Q0j (p0:List Int)(p1:ValT):runF Quw QsD QBk true [.ms 50000, .t Qaj p1] [.arr 5 (.int .u8) p0]=Qzx p0 p1:=by kernel_rfl
theorem QQV:Qag Tryz.prog 221:= .inr ⟨by decide,_,Tryz.func221,by kernel_rfl,by kernel_rfl⟩
theorem QQD:GOk Tryz.prog Quw:=Qak _ (gA (gC QQU QPk (gC QMD QKG gN)))
theorem QPU:QsD.lok Quw:=by repeat (first | exact trivial | refine ⟨?_, ?_⟩)
theorem QUR (b:List Int)(x:ValT)(h:Qrn b x=true):Qzx b x=some (.ms 50001,[.no, .arr 5 (.int .u8) (eleV b x)]):=by
 simp only [Qrn,Bool.and_eq_true,decide_eq_true_eq] at h
 obtain ⟨h1,h2⟩:=h
 have h3:=h2
 simp only [encLF,Bool.and_eq_true,decide_eq_true_eq] at h3
 have hel:=Qrb x
 have hcl:=QDc x
 have hll:=Qh0 (conV x).length
 simp only [Qzx,h2,Qab]
 rw [cAppN (by omega) (by simp only [List.length_singleton]; omega),Qab,show QqO (b++[icv .u8 x.1]) (llen (conV x))=true from decide_eq_true (by simp only [llen,List.length_append,List.length_singleton]; omega),Qab,cAppN (by omega) (by simp only [lenA,llen,Int.toNat_natCast,List.length_append,List.length_singleton]; omega),Qab,QUA]
def QBf:Ent:=specS [.ms 50000, .ty Qaj] [.arr 5 (.int .u8)] (fun x y=>(Qrn y.1 x.2.1)) (fun x y=>(.ms 50001)) (fun x y=>[.no, .arr 5 (.int .u8) (eleV y.1 x.2.1)])
theorem QPl:Meets Tryz.prog 221 (strip QBf):=QaN (R:=runF Quw QsD QBk true) (mG Tryz.func221 (by kernel_rfl) Tryz.ntmps221 (by kernel_rfl) QQD QPU) fun x y hok=>(Q0j y.1 x.2.1).trans (QUR y.1 x.2.1 hok)
def conIn [Fuel](l:List ValT):Bool:=decide (l.length≤100000∧(encL l).length≤100000000)&&l.all (okT fuel)
def Qg8:Fg:=⟨[(3,none),(12,some (.sl Qaj)),(13,some tI),(14,some tI)],[(3,none),(20,none),(5020,none),(10020,none),(15020,none)]⟩
noncomputable def Qi9:TC:=(.mv [(20,3)] (.sq (.reg (rT Tryz.f234 5)) (.sq (.cd (.t 15) .sk (.fg ⟨[(3,none)],[(3,none),(20,none),(5020,none),(10020,none),(15020,none)]⟩ (.ex 0))) (.sq (.bk 1 (.sq (.reg (rT Tryz.f234 6)) (.reg (rT Tryz.f234 7)))) (.reg (rT Tryz.f234 8))))))
noncomputable def QxA:TC:=(.sq (.reg (rT Tryz.f234 0)) (.sq (.sq (.reg (rT Tryz.f234 1)) (.cd (.t 8) (.sq (.reg (rT Tryz.f234 2)) .rt) .sk)) (.sq (.reg (rT Tryz.f234 3)) (.sq (.sq (.reg (rT Tryz.f234 4)) (.bk 0 (.nw 3 5 (.lp 0 Qg8 Qi9)))) (.sq (.reg (rT Tryz.f234 9)) .rt)))))
def QHI:List (RV×Option Ty):=[((.t 2),some (.sl (.int .u8)))]
abbrev Qpj:Sh:=⟨[(3, .ms 3),(12, .ty (.sl Qaj)),(13, .ty tI),(14, .ty tI)],[(3, .arr 5 (.int .u8)),(20, .no),(5020, .no),(10020, .no),(15020, .no)]⟩
def QoA (x12:List ValT)(x13 x14:Int)(y3:List Int):VS:=Qpj.st ((),x12,x13,x14,()) (y3,(),(),(),(),())
abbrev Qvr:Sh:=⟨[(3, .ms 3)],[(3, .arr 5 (.int .u8)),(20, .no),(5020, .no),(10020, .no),(15020, .no)]⟩
def Qee (y3:List Int):VS:=Qvr.st ((),()) (y3,(),(),(),(),())
def QR2:VS→Option (Bool×List (Bool×Exit×VS)):=mkL Qpj (fun x y=>(rngOk x.2.1 x.2.2.1 x.2.2.2.1&&conIn x.2.1&&decide (y.1.length+(encL (x.2.1.drop x.2.2.2.1.toNat)).length≤200000000))) (fun x y=>[(true, .exit 0,Qee (y.1++encL (x.2.1.drop x.2.2.2.1.toNat)))])
def Qmf:G:=⟨TYs,[],23,EL [(221,QBf)],(221::keeps),(Ls [QR2]),IL [],RL []⟩
def QDk (x12:List ValT)(x13 x14:Int)(y3:List Int):Option (Exit×VS):=
 let a1:=lgt Qaj x12 (Int.toNat x14)
 br (ilt x14 x13) (br (cIx x12 x14) (br (Qrn y3 a1) (some (.normal,QoA x12 x13 (iadd .i64 x14 1) (eleV y3 a1))) none) none) (some (.exit 0,Qee y3))
noncomputable def Qj0 (x12:List ValT)(x13 x14:Int)(y3:List Int):Option (Exit×VS):=loopF (Qai Qmf Qg8 Qi9) (QoA x12 x13 x14 y3)
noncomputable def Qnr (x12:List ValT)(x13 x14:Int)(y3:List Int):Option (Exit×VS):=
 let a1:=lgt Qaj x12 (Int.toNat x14)
 br (ilt x14 x13) (br (cIx x12 x14) (br (Qrn y3 a1) (Qj0 x12 x13 (iadd .i64 x14 1) (eleV y3 a1)) none) none) (some (.exit 0,Qee y3))
def Qkw (x12:List ValT)(x13 x14:Int)(y3:List Int):Option (Exit×VS):=some (.exit 0,Qee (y3++encL (x12.drop x14.toNat)))
theorem QNJ (x12:List ValT)(x13 x14:Int)(y3:List Int):Qai Qmf Qg8 Qi9 (QoA x12 x13 x14 y3)=QDk x12 x13 x14 y3:=by kernel_rfl
theorem Qwu (x12:List ValT)(x13 x14:Int)(y3:List Int):Qj0 x12 x13 x14 y3=Qnr x12 x13 x14 y3:=(Qan _ _).trans (by
 rw [QNJ]
 simp only [QDk,Qnr,QaA,nxt_n,nxt_r,nxt_e,nxt_0]
 rfl)
def QJd (p0:ValT):Option (V×List VO):=
 let a1:=List.map Val.un p0.2.2.2.1
 let a2:=(a1.drop (0:Int).toNat)
 br (!p0.2.2.1) (some (.t (.sl (.int .u8)) p0.2.1,[])) (br (rngOk a1 (llen a1) (0:Int)&&conIn a1&&decide (([]:List Int).length+(encL a2).length≤200000000)) (some (.t (.sl (.int .u8)) (([]:List Int)++encL a2),[])) none)
theorem e_f234 (p0:ValT):runF Qmf QxA QHI false [.t Qaj p0] []=QJd p0:=by kernel_rfl
theorem QX4:GOk Tryz.prog Qmf:=Qak _ (gA (gC QQV QPl gN))
theorem QP0 (x12:List ValT)(x13 x14:Int)(y3:List Int)(h:(rngOk x12 x13 x14&&conIn x12&&decide (y3.length+(encL (x12.drop x14.toNat)).length≤200000000))=true):Qj0 x12 x13 x14 y3=Qkw x12 x13 x14 y3:=by
 simp only [Bool.and_eq_true,decide_eq_true_eq] at h
 obtain ⟨⟨h0,hc⟩,h2⟩:=h
 obtain ⟨rfl,h3,k,rfl,hk⟩:=rng_k h0
 clear h0
 rw [Int.toNat_natCast] at h2
 simp only [conIn,Bool.and_eq_true,List.all_eq_true,decide_eq_true_eq] at hc
 obtain ⟨⟨hc0,hc1⟩,hc2⟩:=hc
 revert y3
 refine Qat x12 (fun k=> ∀ y3:List Int,y3.length+(encL (x12.drop k)).length≤200000000→Qj0 x12 (x12.length:Int) (k:Int) y3=Qkw x12 (x12.length:Int) (k:Int) y3) ?_ ?_ k hk
 ·intro y3 _
  rw [Qwu]
  simp only [Qnr,Qar,Nat.lt_irrefl,decide_false,Qae]
  simp only [Qkw,Int.toNat_natCast,List.drop_length,Qic,List.append_nil]
 ·intro k hk ih y3 hy
  rw [Qwu]
  have hx:=hc2 x12[k] (List.getElem_mem hk)
  have hs:=QlV x12 k hk
  rw [List.drop_eq_getElem_cons hk,Qcw,List.length_append] at hy
  have hd:Qrn y3 x12[k]=true:=by rw [Qrn,encLF,hx,decide_eq_true (show y3.length≤500000000 by omega),decide_eq_true (show (encT x12[k]).length≤100000000 by omega)]; rfl
  simp only [Qnr,Qar,Qax,hk,decide_true,Qab,Int.toNat_natCast,add1 (show k<4611686018427387904 by omega),QaC (y:=Qaj) hk,hd,eleV]
  rw [ih _ (by rw [List.length_append]; omega)]
  simp only [Qkw,Int.toNat_natCast,List.drop_eq_getElem_cons hk,Qcw,List.append_assoc]
theorem QK3: ∀ S l p,Qmf.L 0 (fgt Qg8 S)=some (true,l)→pickA l=some p→loopF (Qai Qmf Qg8 Qi9) S=some p:=
 QaB (s:=Qpj) ⟨by decide,by decide⟩ (by kernel_rfl) fun x y hok p hp=>by
 simp only [Qap,Qam] at hp
 exact (QP0 x.2.1 x.2.2.1 x.2.2.2.1 y.1 (by simpa using hok)).trans hp
theorem QWn:QxA.lok Qmf:=by
 repeat (first | exact trivial | exact QK3 | refine ⟨?_, ?_⟩)
theorem s_f234 (x:ValT)(h:encLF (fuel+1) x=true):QJd x=some (.t (.sl (.int .u8)) (conV x),[]):=by
 simp only [encLF,Bool.and_eq_true,decide_eq_true_eq] at h
 obtain ⟨h,hf⟩:=h
 obtain ⟨h1,h2,h3,h4,h5,h6,h7⟩:=QcR h
 have hel:=Qrb x
 have hE:encL (List.map Val.un x.2.2.2.1)=encVs x.2.2.2.1:=by rw [encL,QcZ]
 have hu:conIn (List.map Val.un x.2.2.2.1)=true:=by
  simp only [conIn,Bool.and_eq_true,decide_eq_true_eq,List.length_map,List.all_eq_true,List.mem_map,hE]
  refine ⟨⟨h6,by omega⟩, ?_⟩
  rintro y ⟨v,hv,rfl⟩
  rw [Qwf]
  exact h7 v hv
 simp only [QJd,rng_0 (show (List.map Val.un x.2.2.2.1).length≤100000 by rw [List.length_map]; exact h6),hu,Bool.and_self,Bool.true_and,Int.toNat_zero,List.drop_zero,hE,List.nil_append,List.length_nil]
 cases hq:x.2.2.1 with
 | true=>
  rw [Bool.not_true,Qae,decide_eq_true (by omega),Qab]
  simp only [conV,h3 hq,List.nil_append]
 | false=>
  rw [Bool.not_false,Qab]
  simp only [conV,h4 hq,encVs,List.append_nil]
theorem QWd:Meets Tryz.prog 234 (runF Qmf QxA QHI false):=mG Tryz.func234 (by kernel_rfl) Tryz.ntmps234 (by kernel_rfl) QX4 QWn
end
theorem QgY: ∀ N:Nat,Meets Tryz.prog 234 (strip (@QhJ ⟨N⟩))
 | 0=>Qcb fun x=>by first | rfl | simp [encLF]
 | N+1=>by
  letI:Fuel:=⟨N⟩
  haveI:Nonempty (PLift (Meets Tryz.prog 234 (strip QhJ))):=⟨⟨QgY N⟩⟩
  exact Qaf QWd fun x hok=>(e_f234 x.1).trans (s_f234 x.1 hok)
def QGo:Ent:=spec (.pr Qaj .nil) (fun x=>(encOk x.1)) (fun x=>(.t (.sl (.int .u8)) (conV x.1)))
theorem QVa:Meets Tryz.prog 234 (strip QGo):=Qcc QgY fun x hok=>QlS x.1 hok
def eleN (x:ValT):List Int:=encT x
noncomputable def QsE:TC:=(.sq (.reg (rT Tryz.f221 0)) (.sq (.reg (rT Tryz.f221 1)) (.sq (.reg (rT Tryz.f221 2)) .rt)))
def QBl:List (RV×Option Ty):=[((.t 4),none)]
def Qux:G:=⟨TYs,[],19,EL [(234,QGo),(235,QyS)],(235::keeps),(fun _ _=>none),IL [],RL []⟩
def Qzy (p1:ValT):Option (V×List VO):=
 let a1:=(lenA (([]:List Int)++([(icv .u8 p1.1)])) (llen (conV p1)))
 br (encOk p1) (br (cApp ([]:List Int) ([(icv .u8 p1.1)]) 1) (br (QqO (([]:List Int)++([(icv .u8 p1.1)])) (llen (conV p1))) (br (cApp a1 (conV p1) 1) (some (.ms 50000,[.arr 5 (.int .u8) (a1++(conV p1))])) none) none) none) none
theorem Q0k (p1:ValT):runF Qux QsE QBl true [.c (.slice none 0 0), .t Qaj p1] []=Qzy p1:=by kernel_rfl
theorem QQW:Qag Tryz.prog 221:= .inr ⟨by decide,_,Tryz.func221,by kernel_rfl,by kernel_rfl⟩
theorem QQE:GOk Tryz.prog Qux:=Qak _ (gA (gC QME QVa (gC QMD QKG gN)))
theorem QPV:QsE.lok Qux:=by repeat (first | exact trivial | refine ⟨?_, ?_⟩)
theorem QUS (x:ValT)(h:encOk x=true):Qzy x=some (.ms 50000,[.arr 5 (.int .u8) (eleN x)]):=by
 have h3:=h
 simp only [encOk,Bool.and_eq_true,decide_eq_true_eq] at h3
 have hel:=Qrb x
 have hcl:=QDc x
 have hll:=Qh0 (conV x).length
 simp only [Qzy,h,Qab]
 rw [cAppN (by omega) (by simp),Qab,show QqO ([]++[icv .u8 x.1]) (llen (conV x))=true from decide_eq_true (by simp only [llen,List.length_append,List.length_singleton,List.length_nil]; omega),Qab,cAppN (by omega) (by simp only [lenA,llen,Int.toNat_natCast,List.length_append,List.length_singleton,List.length_nil]; omega),Qab,QUA]
 rfl
def QBg:Ent:=specB [.nl, .ty Qaj] [] (fun x y=>(encOk x.2.1)) (fun x y=>(.ms 50000)) (fun x y=>[.arr 5 (.int .u8) (eleN x.2.1)])
theorem QPm:Meets Tryz.prog 221 (strip QBg):=QcM (QaN (R:=runF Qux QsE QBl true) (mG Tryz.func221 (by kernel_rfl) Tryz.ntmps221 (by kernel_rfl) QQE QPV) fun x y hok=>(Q0k x.2.1).trans (QUS x.2.1 hok))
noncomputable def QxT:TC:=(.sq (.reg (rT Tryz.f201 0)) (.sq (.sq (.reg (rT Tryz.f201 1)) (.cd (.t 7) (.sq (.reg (rT Tryz.f201 2)) .rt) .sk)) (.sq (.sq (.reg (rT Tryz.f201 3)) (.cd (.t 10) (.sq (.reg (rT Tryz.f201 4)) .rt) .sk)) (.sq (.reg (rT Tryz.f201 5)) (.sq (.sq (.reg (rT Tryz.f201 6)) (.cd (.t 15) (.sq (.reg (rT Tryz.f201 7)) .rt) .sk)) (.sq (.reg (rT Tryz.f201 8)) .rt))))))
def QH1:List (RV×Option Ty):=[((.t 2),some (.sl (.int .u8))),((.t 3),some tI)]
def QCg:G:=⟨TYs,[],17,EL [(219,QGw),(220,QGv),(221,QBg)],keeps,(fun _ _=>none),IL [],RL []⟩
def QJu (p0:ValT):Option (V×List VO):=br (frmOk p0) (br (!(frmV p0)) (some (.tu [(.t (.sl (.int .u8)) ([]:List Int)),(.t tI 1)],[])) (br (dpOk p0) (br (igt (dpV p0) 16) (some (.tu [(.t (.sl (.int .u8)) ([]:List Int)),(.t tI 3)],[])) (br (encOk p0) (br (igt (llen (eleN p0)) 4096) (some (.tu [(.t (.sl (.int .u8)) ([]:List Int)),(.t tI 3)],[])) (some (.tu [(.t (.sl (.int .u8)) (eleN p0)),(.t tI 0)],[]))) none)) none)) none
theorem e_f201 (p0:ValT):runF QCg QxT QH1 false [.t Qaj p0] []=QJu p0:=by kernel_rfl
theorem QZA:Qag Tryz.prog 201:= .inr ⟨by decide,_,Tryz.func201,by kernel_rfl,by kernel_rfl⟩
theorem QYn:GOk Tryz.prog QCg:=Qak _ (gA (gC QMH QVi (gC QMG QVh (gC QQW QPm gN))))
theorem QWG:QxT.lok QCg:=by repeat (first | exact trivial | refine ⟨?_, ?_⟩)
theorem s_f201 (x:ValT)(h:encOk x=true):QJu x=some (.tu [.t (.sl (.int .u8)) (encE x).1, .t tI (encE x).2],[]):=by
 have h':=h
 simp only [encOk,Bool.and_eq_true,decide_eq_true_eq] at h'
 obtain ⟨h1,h2⟩:=h'
 simp only [QJu,show frmOk x=true from h1,show dpOk x=true from h1,h,QC2 h1,frmV,eleN,Bool.not_true,Qab,Qae]
 unfold encE
 refine QaE (fun g=> ?_) (fun g=> ?_)
 ·simp only [igt,llen,decide_eq_true_eq] at g
  rw [if_pos (by omega)]
 ·simp only [igt,llen,decide_eq_false_iff_not] at g
  rw [if_neg (by omega)]
def QGF:Ent:=spec (.pr Qaj .nil) (fun x=>(encOk x.1)) (fun x=>(.tu [(.t (.sl (.int .u8)) ((encE x.1).1)),(.t tI ((encE x.1).2))]))
theorem QVr:Meets Tryz.prog 201 (strip QGF):=Qaf (R:=runF QCg QxT QH1 false) (mG Tryz.func201 (by kernel_rfl) Tryz.ntmps201 (by kernel_rfl) QYn QWG) fun x hok=>(e_f201 x.1).trans (s_f201 x.1 hok)
def lstT (l:List ValT):ValT:=(48,(([]:List Int),(true,(List.map Val.of l,()))))
noncomputable def QxH:TC:=(.sq (.reg (rT Tryz.f223 0)) (.sq (.reg (rT Tryz.f223 1)) .rt))
def QHP:List (RV×Option Ty):=[((.c 2 true 4),some Qaj)]
def QB9:G:=⟨TYs,[],6,EL [(236,QGn)],keeps,(fun _ _=>none),IL [],RL []⟩
def QJj (p0:List ValT):Option (V×List VO):=br (copOk p0) (some (.t Qaj (48,(([]:List Int),(true,((List.map Val.of (copV p0)),())))),[])) none
theorem e_f223 (p0:List ValT):runF QB9 QxH QHP false [.t (.sl Qaj) p0] []=QJj p0:=by kernel_rfl
theorem QAC:Qag Tryz.prog 223:= .inr ⟨by decide,_,Tryz.func223,by kernel_rfl,by kernel_rfl⟩
theorem QYb:GOk Tryz.prog QB9:=Qak _ (gA (gC QMC QU9 gN))
theorem QWu:QxH.lok QB9:=by repeat (first | exact trivial | refine ⟨?_, ?_⟩)
theorem s_f223 (l:List ValT)(h:copOk l=true):QJj l=some (.t Qaj (lstT l),[]):=by
 simp only [QJj,h,Qab]
 rfl
def QsT:Ent:=spec (.pr (.sl Qaj) .nil) (fun x=>(copOk x.1)) (fun x=>(.t Qaj (lstT x.1)))
theorem QzI:Meets Tryz.prog 223 (strip QsT):=Qaf (R:=runF QB9 QxH QHP false) (mG Tryz.func223 (by kernel_rfl) Tryz.ntmps223 (by kernel_rfl) QYb QWu) fun x hok=>(e_f223 x.1).trans (s_f223 x.1 hok)
noncomputable def QxD:TC:=(.sq (.reg (rT Tryz.f227 0)) (.sq (.reg (rT Tryz.f227 1)) .rt))
def QHL:List (RV×Option Ty):=[((.c 2 true 4),some Qaj)]
def QB6:G:=⟨TYs,[],5,EL [(223,QsT)],keeps,(fun _ _=>none),IL [],RL []⟩
def QJg (p0:List ValT):Option (V×List VO):=br (copOk p0) (some (.t Qaj (lstT p0),[])) none
theorem e_f227 (p0:List ValT):runF QB6 QxD QHL false [.t (.sl Qaj) p0] []=QJg p0:=by kernel_rfl
theorem QZp:Qag Tryz.prog 227:= .inr ⟨by decide,_,Tryz.func227,by kernel_rfl,by kernel_rfl⟩
theorem QX7:GOk Tryz.prog QB6:=Qak _ (gA (gC QAC QzI gN))
theorem QWq:QxD.lok QB6:=by repeat (first | exact trivial | refine ⟨?_, ?_⟩)
theorem s_f227 (l:List ValT)(h:copOk l=true):QJg l=some (.t Qaj (lstT l),[]):=by
 simp only [QJg,h,Qab]
def QGr:Ent:=spec (.pr (.sl Qaj) .nil) (fun x=>(copOk x.1)) (fun x=>(.t Qaj (lstT x.1)))
theorem QVd:Meets Tryz.prog 227 (strip QGr):=Qaf (R:=runF QB6 QxD QHL false) (mG Tryz.func227 (by kernel_rfl) Tryz.ntmps227 (by kernel_rfl) QX7 QWq) fun x hok=>(e_f227 x.1).trans (s_f227 x.1 hok)
noncomputable def QxX:TC:=(.sq (.reg (rT Tryz.f186 0)) (.sq (.reg (rT Tryz.f186 1)) .rt))
def QH5:List (RV×Option Ty):=[((.c 2 true 4),some Qaj)]
def QCj:G:=⟨TYs,[],6,EL [(212,QGx)],keeps,(fun _ _=>none),IL [],RL []⟩
def QJx (p0:List ValT):Option (V×List VO):=br (copOk p0) (some (.t Qaj (48,(([]:List Int),(true,((List.map Val.of (copV p0)),())))),[])) none
theorem e_f186 (p0:List ValT):runF QCj QxX QH5 false [.t (.sl Qaj) p0] []=QJx p0:=by kernel_rfl
theorem QMK:Qag Tryz.prog 186:= .inr ⟨by decide,_,Tryz.func186,by kernel_rfl,by kernel_rfl⟩
theorem QYr:GOk Tryz.prog QCj:=Qak _ (gA (gC QMI QVj gN))
theorem QWK:QxX.lok QCj:=by repeat (first | exact trivial | refine ⟨?_, ?_⟩)
theorem s_f186 (l:List ValT)(h:copOk l=true):QJx l=some (.t Qaj (lstT l),[]):=by
 simp only [QJx,h,Qab]
 rfl
def QyV:Ent:=spec (.pr (.sl Qaj) .nil) (fun x=>(copOk x.1)) (fun x=>(.t Qaj (lstT x.1)))
theorem QKJ:Meets Tryz.prog 186 (strip QyV):=Qaf (R:=runF QCj QxX QH5 false) (mG Tryz.func186 (by kernel_rfl) Tryz.ntmps186 (by kernel_rfl) QYr QWK) fun x hok=>(e_f186 x.1).trans (s_f186 x.1 hok)
end
end Go.Proofs.YtckcgijklnloiaaGreat.K
