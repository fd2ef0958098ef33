import Derived.Test.YtckcgijklnloiaaGreatQ8
import Derived.RangeFuncCalls
import Derived.RangeFuncBound
import Derived.Shelf.RegionOpen
import Derived.OwnWalkIn
import Derived.TacticsInMore
import Derived.LoopNIn
import Derived.LoopIn
import Derived.Lib.SliceRun
set_option linter.unusedSimpArgs false
set_option linter.unusedVariables false
noncomputable section
namespace Go.Proofs.YtckcgijklnloiaaGreat.K
open Go.RowKit
noncomputable section
theorem FO {b:Bool}{x:Int}{y:Qb×Int}(hx:x≠0)(h:(bif b then (zK,x) else y).2=0):b=false/\y.2=0:=by
 cases b with
 |true=>exact absurd h hx
 |false=>exact ⟨rfl,h⟩
theorem Qp9 {c s:Endpoint}{d:Int}(h:(Zn c s d).2=0):YX c s=true/\(0<=d/\d<=40000)/\(Je s (Zn c s d).1.2.1).2=true/\EE c s d (Zn c s d).1.2.1=0:=by
 unfold Zn Z6 at h
 obtain ⟨h1,k1⟩:=FO (by decide) h
 obtain ⟨h2,k2⟩:=FO (by decide) k1
 obtain ⟨h3,k3⟩:=FO (by decide) k2
 obtain ⟨h4,k4⟩:=FO (by decide) k3
 obtain ⟨h5,k5⟩:=FO (by decide) k4
 obtain ⟨h6,k6⟩:=FO (by decide) k5
 obtain ⟨h7,k7⟩:=FO (by decide) k6
 have hr:YX c s=true:=by simpa using h1
 have hd:0<=d/\d<=40000:=by
  simp only [ilt,igt,Bq] at h2 h3
  omega
 refine ⟨hr,hd, ?_⟩
 unfold Zn Z6
 rw [h1,h2,h3,h4,h5,h6,h7]
 simp only [BM]
 unfold Wh at k7 ⊢
 cases hq:Qx (J1 s (QI c) (imn c.2.2.1 s.2.2.1)) (Ui s (QI c)) with
 |none=>rw [hq] at k7;exact absurd (show (28:Int)=0 from k7) (by decide)
 |some k=>
  rw [hq] at k7
  obtain ⟨hk,hp⟩:=OA hq
  have e:(Ui s (QI c)).getD k 0=(Ui s (QI c))[k]:=by simp only [Bo,Bl hk,BK]
  simp only [e] at k7 ⊢
  unfold QnR at k7 ⊢
  obtain ⟨h8,_⟩:=FO (by decide) k7
  rw [h8]
  refine ⟨Qzp hp, ?_⟩
  simp only [ine,bne_eq_false_iff_eq] at h8
  exact h8
theorem GS {x:Int}(h:ine x 0=false):x=0:=by
 simpa [ine] using h
theorem Qqa {e:Estate}{i d:Int}(h:(Jq e i d).2=0):Zc e=true/\0<=i/\i<(Jg e).length/\Jq e i d=Zn (JQ e i).1 (JQ e i).2 d:=by
 unfold Jq at h ⊢
 rcases Qad e i with ⟨h1,_,h2,h3,h4⟩|h1
 ·rw [h1]
  exact ⟨h2,h3,h4,rfl⟩
 ·rw [h1] at h
  have:Ya e i=0:=h
  rw [this] at h1
  exact absurd h1 (by decide)
theorem Qqb {s:Endpoint}{x:Int}(hs:Q2 s=true)(h:(Je s x).2=true):cIx (QH s) (Je s x).1=true/\Jf (Uh s x)=true:=by
 obtain ⟨k,hk,hl⟩:=QnS h
 have hi:=(Z1 hs).2.2.2.2.2
 refine ⟨by rw [hk];exact Bd ⟨by omega,by omega⟩, ?_⟩
 unfold Uh
 rw [hk,Bb,QX (y:=Q1) hl]
 exact Bg.1 hi _ (BA hl)
def GT (e:Estate)(i d:Int):Int×Int:=bif ine (Jq e i d).2 0 then (0,(Jq e i d).2) else (Wx (Uh (JQ e i).2 (Jq e i d).1.2.1),0)
def tc_f29:TC:=aF Tryz.f29 []
def g_f29:G:=gG 44 [(15,Qae),(44,Qd0),(56,Vc),(66,QuK)] (fun _ _=>none)
def r_f29 (p0:Estate)(p1 p2:Int):OV:=
 let a3:=((JQ p0 p1).2)
 let a2:=Jq p0 p1 p2
 let a1:=((((lgt Q1 ((((((a3.2).2).2).2).2).1) (Int.toNat ((Je a3 (((a2.1).2).1)).1))).2).2).1)
 br (ZQ p0 p1 p2) (br (ine (a2.2) 0) (some (.tu [(.t tI 0),(.t tI (a2.2))],[])) (br (WZ p0 p1) (br (JT a3 (((a2.1).2).1)) (br (cIx ((((((a3.2).2).2).2).2).1) ((Je a3 (((a2.1).2).1)).1)) (br (Jf a1) (some (.tu [(.t tI (Wx a1)),(.t tI 0)],[])) none) none) none) none)) none
theorem s_f29 (e:Estate)(i d:Int)(h:ZQ e i d=true):r_f29 e i d=some (.tu [.t tI (GT e i d).1,.t tI (GT e i d).2],[]):=by
 have hl:Ja e=true:=h
 simp only [r_f29,h,Qe]
 unfold GT
 cases hw:ine (Jq e i d).2 0 with
 |true=>rfl
 |false=>
  obtain ⟨h1,h2,h3,h4⟩:=Qqa (GS hw)
  have h5:=Eo h1 h2 h3
  have h6:=(Bf.1 (IB hl h5)).2
  have h7:(Je (JQ e i).2 (Jq e i d).1.2.1).2=true:=by rw [h4];exact (Qp9 (by rw [←h4];exact GS hw)).2.2.1
  obtain ⟨h8,h9⟩:=Qqb h6 h7
  have ha:JT (JQ e i).2 (Jq e i d).1.2.1=true:=Bd (Z1 h6).2.2.1
  rw [Qi,h5,Qe,ha,Qe]
  exact brY h8 (brY h9 rfl)
def QDz:Ent:=Qq (.pr QF (.pr tI (.pr tI .nil))) (fun x=>(ZQ x.1 x.2.1 x.2.2.1)) (fun x=>(.tu [(.t tI ((GT x.1 x.2.1 x.2.2.1).1)),(.t tI ((GT x.1 x.2.1 x.2.2.1).2))]))
theorem ms_f29:EM 29 QDz:=mS g_f29 tc_f29 [((.t 6),some tI),((.t 7),some tI)] false (gB (gD Qd3 (gD Qlc (gD Qca (gD ms_f66 gN))))) fun m=>Qu m fun x hok=>kT (s_f29 x.1 x.2.1 x.2.2.1 hok)
def GU (e:Estate)(i d:Int):Int×Int:=bif ine (Jq e i d).2 0 then (0,(Jq e i d).2) else (imn (Wx (Uh (JQ e i).2 (Jq e i d).1.2.1)) 40001,0)
def tc_f30:TC:=aF Tryz.f30 [(30,pD [(0,[3]),(1,[3]),(2,[3]),(3,[3]),(4,[]),(5,[]),(6,[]),(7,[]),(8,[]),(9,[]),(10,[10,5010,10010,15010]),(11,[10])] (.of [0,1,2,3,4,5,6,7,8,9,10,11]))]
def g_f30:G:=gG 48 [(26,Qd4),(67,Vd),(68,QuP)] (fun _ _=>none)
def r_f30 (p0:Estate)(p1 p2:Int):OV:=
 let a1:=lgt Qj p0.1 (Int.toNat (((lgt Qh p0.2.1 (Int.toNat p1)).2).1))
 let a3:=Jq p0 p1 p2
 let a2:=((((lgt Q1 ((((((a1.2).2).2).2).2).1) (Int.toNat ((Je a1 (((a3.1).2).1)).1))).2).2).1)
 br (ZQ p0 p1 p2) (br (ine (a3.2) 0) (some (.tu [(.t tI 0),(.t tI (a3.2))],[])) (br (cIx p0.2.1 p1) (br (cIx p0.1 (((lgt Qh p0.2.1 (Int.toNat p1)).2).1)) (br (JT a1 (((a3.1).2).1)) (br (cIx ((((((a1.2).2).2).2).2).1) ((Je a1 (((a3.1).2).1)).1)) (br (Jf a2) (some (.tu [(.t tI (imn (Wx a2) 40001)),(.t tI 0)],[])) none) none) none) none) none)) none
theorem s_f30 (e:Estate)(i d:Int)(h:ZQ e i d=true):r_f30 e i d=some (.tu [.t tI (GU e i d).1,.t tI (GU e i d).2],[]):=by
 have hl:Ja e=true:=h
 simp only [r_f30,h,Qe]
 unfold GU
 cases hw:ine (Jq e i d).2 0 with
 |true=>rfl
 |false=>
  obtain ⟨h1,h2,h3,h4⟩:=Qqa (GS hw)
  have h5:=Eo h1 h2 h3
  have h6:=(Bf.1 (IB hl h5)).2
  have h7:(Je (JQ e i).2 (Jq e i d).1.2.1).2=true:=by rw [h4];exact (Qp9 (by rw [←h4];exact GS hw)).2.2.1
  obtain ⟨h8,h9⟩:=Qqb h6 h7
  have ha:JT (JQ e i).2 (Jq e i d).1.2.1=true:=Bd (Z1 h6).2.2.1
  simp only [WZ,Bc] at h5
  obtain ⟨q1,q2,q3⟩:=h5
  rw [Qi]
  exact brY q1 (brY q3 (brY ha (brY h8 (brY h9 rfl))))
def QDA:Ent:=Qq (.pr QF (.pr tI (.pr tI .nil))) (fun x=>(ZQ x.1 x.2.1 x.2.2.1)) (fun x=>(.tu [(.t tI ((GU x.1 x.2.1 x.2.2.1).1)),(.t tI ((GU x.1 x.2.1 x.2.2.1).2))]))
theorem ms_f30:EM 30 QDA:=mS g_f30 tc_f30 [((.t 6),some tI),((.t 7),some tI)] false (gB (gD Qlg (gD Qcc (gD ms_f68 gN)))) fun m=>Qu m fun x hok=>kT (s_f30 x.1 x.2.1 x.2.2.1 hok)
def UI (c s:Endpoint)(d:Int)(o:Qb):Bool:=(Je s o.2.1).2&&ieq (EE c s d o.2.1) 0
def metF (c s:Endpoint)(d:Int):List Qb:=(Zg c s).filter (UI c s d)
def YI (c s:Endpoint)(l m:List Qb)(k:Int):Bool:=Q2 c&&(Q2 s&&decide (l.length<=1000/\m.length<=k))
def XL (e:Estate)(i d:Int):List Qb×Int:=
 bif ine (Ya e i) 0 then ([],Ya e i) else bif !Ww d then ([],2) else (metF (JQ e i).1 (JQ e i).2 d,0)
theorem QSf (s:Endpoint)(o:List Int): ∀ (n v:Nat),(W5 s o v n).length<=16*n:=by
 intro n
 induction n with
 |zero=>intro v;simp [W5]
 |succ n ih=>
  intro v
  have h1:(Y6 s o (v:Int) 1).length<=16:=by
   unfold Y6
   rw [BP]
   exact B4 (List.length_filter_le _ _) (by rw [List.length_range'];omega)
  have h2:=ih (v+1)
  unfold W5 at h2 ⊢
  rw [Dd,BY,Bj]
  omega
theorem Qh5 {c s:Endpoint}:(Zg c s).length<=64:=by
 unfold Zg
 cases h:YX c s with
 |false=>exact B2 _
 |true=>
  obtain ⟨hv,hw⟩:=Bf.1 h
  have v1:=EF hv
  have v2:=EF hw
  refine B4 (QSf _ _ _ _) ?_
  simp only [hiC,loC,imn,imx]
  split<;>split<;>omega
theorem QDB {c s:Endpoint}{l m:List Qb}{d:Int}{k:Nat}(hk:k<l.length)(h:YI c s l m k=true){β:Type}(K:List Qb->Option β):
  br (JT s (lgt Qh l k).2.1) (br (Je s (lgt Qh l k).2.1).2 (br (cIx (QH s) (Je s (lgt Qh l k).2.1).1) (br (XD (Uh s (lgt Qh l k).2.1) (Jh c) (Jj c) d s.1) (br (ieq (EE c s d (lgt Qh l k).2.1) 0) (br (Qr m [lgt Qh l k] 16) (K (m++[lgt Qh l k])) none) (K m)) none) none) (K m)) none=(bif UI c s d (lgt Qh l k) then K (m++[lgt Qh l k]) else K m):=by
 simp only [YI,Bc,Ba] at h
 obtain ⟨hc,hs,hl,hm⟩:=h
 have ha:JT s (lgt Qh l k).2.1=true:=Bd (Z1 hs).2.2.1
 have hb:Qr m [lgt Qh l k] 16=true:=Q7 (by omega) (by simp only [Bh];omega)
 rw [ha,Qe]
 unfold UI
 cases hi:(Je s (lgt Qh l k).2.1).2 with
 |false=>rfl
 |true=>
  obtain ⟨h8,h9⟩:=Qqb hs hi
  have hg:XD (Uh s (lgt Qh l k).2.1) (Jh c) (Jj c) d s.1=true:=Bf.2 ⟨h9,Bd ⟨(Z1 hc).2.2.2.1,(Z1 hc).2.2.2.2.1⟩⟩
  rw [Qe,h8,Qe,hg,Qe,hb,Qe]
  cases ieq (EE c s d (lgt Qh l k).2.1) 0<;>rfl
abbrev Qh6:Sh:=⟨[(2,.ty tI),(9,.ptr 9 0),(10,.ptr 10 0),(11,.ms 11),(33,.ty (.sl Qh)),(34,.ty tI),(35,.ty tI)],[(9,.box Qj),(10,.box Qj),(11,.arr 39 Qh),(67,.no)]⟩
abbrev QDC:Sh:=⟨[(11,.ms 11)],[(11,.arr 39 Qh),(67,.no)]⟩
def Qqc:Fg:=Qh6.f
def QDD:TC:=aF Tryz.f20 [(506,.nw 11 39),(506,pL 0 Qqc),(8101,.fg QDC.f),(129638,pD [(0,[]),(1,[]),(2,[10]),(3,[10]),(4,[]),(5,[]),(6,[]),(7,[]),(8,[9]),(9,[9]),(10,[9]),(11,[9]),(12,[]),(13,[10]),(14,[10]),(15,[]),(16,[]),(17,[])] (.of [0,1,2,3,4,5,6,7,8,9,10,11,12,13,14,15,16,17]))]
def QDE:TC:=lb 0 QDD
def QDF (x2:Int)(x33:List Qb)(x34 x35:Int)(y9 y10:Endpoint)(y11:List Qb):VS:=Qh6.st (x2,(),(),(),x33,x34,x35,()) (y9,y10,y11,(),())
def Qqd (y11:List Qb):VS:=QDC.st ((),()) (y11,(),())
def QSg:VS->Option (Bool×List (Bool×Exit×VS)):=mkL Qh6 (fun x y=>(Qz x.2.2.2.2.1 x.2.2.2.2.2.1 x.2.2.2.2.2.2.1&&YI y.1 y.2.1 x.2.2.2.2.1 y.2.2.1 x.2.2.2.2.2.2.1)) (fun x y=>[(true,.exit 0,Qqd (y.2.2.1++(x.2.2.2.2.1.drop x.2.2.2.2.2.2.1.toNat).filter (UI y.1 y.2.1 x.1)))])
def Qqe:G:=gG 70 [(40,Qle),(43,Qld),(44,Qd0),(54,QlL),(56,Vc),(57,Qn7)] (Ls [QSg])
def Qce (x2:Int)(x33:List Qb)(x34 x35:Int)(y9 y10:Endpoint)(y11:List Qb):OX:=QB (QD Qqe Qqc QDE) (QDF x2 x33 x34 x35 y9 y10 y11)
def Qcf (kk:Int->List Qb->Int->Int->Endpoint->Endpoint->List Qb->OX)(x2:Int)(x33:List Qb)(x34 x35:Int)(y9 y10:Endpoint)(y11:List Qb):OX:=
 let a1:=lgt Qh x33 (Int.toNat x35)
 let a4:=Je y10 ((a1.2).1)
 let a2:=((((lgt Q1 y10.2.2.2.2.2.1 (Int.toNat (a4.1))).2).2).1)
 let a3:=Qk .i64 x35 1
 br (ilt x35 x34) (br (cIx x33 x35) (br (JT y10 ((a1.2).1)) (br (a4.2) (br (cIx y10.2.2.2.2.2.1 (a4.1)) (br (XD a2 y9.2.2.2.2.2.2.1 y9.2.2.2.2.2.2.2.1 x2 y10.1) (br (ieq (Wi a2 y9.2.2.2.2.2.2.1 y9.2.2.2.2.2.2.2.1 x2 y10.1) 0) (br (Qr y11 ([(a1.1,((a1.2).1,()))]) 16) (kk x2 x33 x34 a3 y9 y10 (y11++([(a1.1,((a1.2).1,()))]))) none) (kk x2 x33 x34 a3 y9 y10 y11)) none) none) (kk x2 x33 x34 a3 y9 y10 y11)) none) none) (some (.exit 0,Qqd y11))
def Qh7 (x2:Int)(x33:List Qb)(x34 x35:Int)(y9 y10:Endpoint)(y11:List Qb):OX:=some (.exit 0,Qqd (y11++(x33.drop x35.toNat).filter (UI y9 y10 x2)))
theorem QDG (x2:Int)(x33:List Qb)(x34 x35:Int)(y9 y10:Endpoint)(y11:List Qb):Qce x2 x33 x34 x35 y9 y10 y11=Qcf Qce x2 x33 x34 x35 y9 y10 y11:=lnT (x:=Qcf (fun x2 x33 x34 x35 y9 y10 y11=>some (.normal,QDF x2 x33 x34 x35 y9 y10 y11)) x2 x33 x34 x35 y9 y10 y11) (by simp only [Qcf,nxA];rfl)
def r_f20 (p0:Estate)(p1 p2:Int):OV:=
 let a2:=((JQ p0 p1).1)
 let a3:=((JQ p0 p1).2)
 let a1:=Zg a2 a3
 br (Zy p0 p1) (br (ine (Ya p0 p1) 0) (some (.tu [(.t (.sl Qh) ([]:List Qb)),(.t tI (Ya p0 p1))],[])) (br (!(Ww p2)) (some (.tu [(.t (.sl Qh) ([]:List Qb)),(.t tI 2)],[])) (br (WZ p0 p1) (br (ZH a2 a3) (br (Qz a1 (Qc a1) (0:Int)&&YI a2 a3 a1 ([]:List Qb) (0:Int)) (some (.tu [(.t (.sl Qh) (([]:List Qb)++(a1.drop (0:Int).toNat).filter (UI a2 a3 p2))),(.t tI 0)],[])) none) none) none))) none
theorem QSh (x2:Int)(x33:List Qb)(x34 x35:Int)(y9 y10:Endpoint)(y11:List Qb)(h:(Qz x33 x34 x35&&YI y9 y10 x33 y11 x35)=true):Qce x2 x33 x34 x35 y9 y10 y11=Qh7 x2 x33 x34 x35 y9 y10 y11:=by
 obtain ⟨h0,hm⟩:=Bf.1 h
 obtain ⟨rfl,h3,k,rfl,hk⟩:=Js h0
 clear h h0
 revert y11
 refine QW x33 (fun k=> ∀ y11,YI y9 y10 x33 y11 (k:Int)=true->Qce x2 x33 (x33.length:Int) (k:Int) y9 y10 y11=Qh7 x2 x33 (x33.length:Int) (k:Int) y9 y10 y11) ?_ ?_ k hk
 ·intro y11 _
  rw [QDG]
  simp only [Qcf,Qh7,QC,BI,BQ,Qi,Bb,BE,List.filter_nil,BG]
 ·intro k hk ih y11 hm
  rw [QDG]
  have hm2:=hm
  simp only [YI,Bc,Ba] at hm2
  obtain ⟨hc,hs,hl,hy⟩:=hm2
  simp only [Qcf,QC,QS,hk,Bu,Qe,Bb,QU (show k<4611686018427387904 by omega)]
  refine Eq.trans (QDB hk hm (fun m=>Qce x2 x33 (x33.length:Int) ((k+1:Nat):Int) y9 y10 m)) ?_
  rw [ih _ (by simp only [YI,Bc,Ba];exact ⟨hc,hs,hl,by simp only [Bj,Bh];omega⟩),ih _ (by simp only [YI,Bc,Ba];exact ⟨hc,hs,hl,by omega⟩)]
  simp only [Qh7,Bb,Bi hk,QX (y:=Qh) hk,List.filter_cons]
  cases UI y9 y10 x2 x33[k] with
  |true=>simp only [BZ,if_true,BF,BD]
  |false=>rfl
theorem QSi:LO Qqe Qqc QDE 0:=QN (s:=Qh6) fun x y h _ q=>by simp only [QJ,QK] at q;exact (QSh x.1 x.2.2.2.2.1 x.2.2.2.2.2.1 x.2.2.2.2.2.2.1 y.1 y.2.1 y.2.2.1 h).trans q
theorem QDH {c s:Endpoint}(h:ZH c s=true):(Qz (Zg c s) (Qc (Zg c s)) (0:Int)&&YI c s (Zg c s) [] 0)=true:=by
 have hl:=Qh5 (c:=c) (s:=s)
 obtain ⟨h1,h2⟩:=Bf.1 h
 rw [Jy (by omega),BB]
 simp only [YI,Bc,Ba]
 exact ⟨h1,h2,by omega,by simp⟩
theorem s_f20 (e:Estate)(i d:Int)(h:ZQ e i d=true):r_f20 e i d=some (.tu [.t (.sl Qh) (XL e i d).1,.t tI (XL e i d).2],[]):=by
 have hl:Ja e=true:=h
 simp only [r_f20,show Zy e i=true from h,Qe,Bt,Bx,BO]
 unfold XL
 rcases Qad e i with ⟨h1,h0,h2,h3,h4⟩|h1
 ·rw [h1,Qi]
  cases Ww d with
  |false=>rfl
  |true=>
   have h5:=Eo h2 h3 h4
   have h6:=IB hl h5
   rw [BC,Qi,h5,Qe,h6,Qe,QDH h6,Qe]
   rfl
 ·rw [h1]
  rfl
def QDI:Ent:=Qq (.pr QF (.pr tI (.pr tI .nil))) (fun x=>(ZQ x.1 x.2.1 x.2.2.1)) (fun x=>(.tu [(.t (.sl Qh) ((XL x.1 x.2.1 x.2.2.1).1)),(.t tI ((XL x.1 x.2.1 x.2.2.1).2))]))
theorem ms_f20:EM 20 QDI:=mS (lk:=lkL (lkc QSi lkn)) Qqe QDD [((.t 6),some (.sl Qh)),((.t 7),some tI)] false (gB (gD QuC (gD QuB (gD Qlc (gD Qvr (gD Qca (gD QzI gN))))))) fun m=>Qu m fun x hok=>kT (s_f20 x.1 x.2.1 x.2.2.1 hok)
abbrev Qh8:Sh:=⟨[(2,.ty tI),(8,.ptr 8 0),(9,.ptr 9 0),(11,.ms 11),(34,.ty (.sl Qh)),(35,.ty tI),(36,.ty tI)],[(8,.box Qj),(9,.box Qj),(11,.arr 39 Qh),(68,.no)]⟩
abbrev QDJ:Sh:=⟨[(11,.ms 11)],[(11,.arr 39 Qh),(68,.no)]⟩
def Qqf:Fg:=Qh8.f
def QDK:TC:=aF Tryz.f31 [(506,.nw 11 39),(506,pL 0 Qqf),(8101,.fg QDJ.f),(129638,pD [(0,[]),(1,[]),(2,[9]),(3,[9]),(4,[]),(5,[]),(6,[]),(7,[]),(8,[8]),(9,[8]),(10,[8]),(11,[8]),(12,[]),(13,[9]),(14,[9]),(15,[]),(16,[]),(17,[])] (.of [0,1,2,3,4,5,6,7,8,9,10,11,12,13,14,15,16,17]))]
def QDL:TC:=lb 0 QDK
def QDM (x2:Int)(x34:List Qb)(x35 x36:Int)(y8 y9:Endpoint)(y11:List Qb):VS:=Qh8.st (x2,(),(),(),x34,x35,x36,()) (y8,y9,y11,(),())
def Qqg (y11:List Qb):VS:=QDJ.st ((),()) (y11,(),())
def QSj:VS->Option (Bool×List (Bool×Exit×VS)):=mkL Qh8 (fun x y=>(Qz x.2.2.2.2.1 x.2.2.2.2.2.1 x.2.2.2.2.2.2.1&&YI y.1 y.2.1 x.2.2.2.2.1 y.2.2.1 x.2.2.2.2.2.2.1)) (fun x y=>[(true,.exit 0,Qqg (y.2.2.1++(x.2.2.2.2.1.drop x.2.2.2.2.2.2.1.toNat).filter (UI y.1 y.2.1 x.1)))])
def Qqh:G:=gG 71 [(21,Qmr),(64,Qlf),(67,Vd),(69,Qoh)] (Ls [QSj])
def Qcg (x2:Int)(x34:List Qb)(x35 x36:Int)(y8 y9:Endpoint)(y11:List Qb):OX:=QB (QD Qqh Qqf QDL) (QDM x2 x34 x35 x36 y8 y9 y11)
def Qch (kk:Int->List Qb->Int->Int->Endpoint->Endpoint->List Qb->OX)(x2:Int)(x34:List Qb)(x35 x36:Int)(y8 y9:Endpoint)(y11:List Qb):OX:=
 let a1:=lgt Qh x34 (Int.toNat x36)
 let a2:=((((lgt Q1 y9.2.2.2.2.2.1 (Int.toNat ((Je y9 ((a1.2).1)).1))).2).2).1)
 let a3:=Qk .i64 x36 1
 br (ilt x36 x35) (br (cIx x34 x36) (br (JT y9 ((a1.2).1)) (br ((Je y9 ((a1.2).1)).2) (br (cIx y9.2.2.2.2.2.1 ((Je y9 ((a1.2).1)).1)) (br (XD a2 y8.2.2.2.2.2.2.1 y8.2.2.2.2.2.2.2.1 x2 y9.1) (br (ieq (Wi a2 y8.2.2.2.2.2.2.1 y8.2.2.2.2.2.2.2.1 x2 y9.1) 0) (br (Qr y11 ([(a1.1,((a1.2).1,()))]) 16) (kk x2 x34 x35 a3 y8 y9 (y11++([(a1.1,((a1.2).1,()))]))) none) (kk x2 x34 x35 a3 y8 y9 y11)) none) none) (kk x2 x34 x35 a3 y8 y9 y11)) none) none) (some (.exit 0,Qqg y11))
def Qh9 (x2:Int)(x34:List Qb)(x35 x36:Int)(y8 y9:Endpoint)(y11:List Qb):OX:=some (.exit 0,Qqg (y11++(x34.drop x36.toNat).filter (UI y8 y9 x2)))
theorem QDN (x2:Int)(x34:List Qb)(x35 x36:Int)(y8 y9:Endpoint)(y11:List Qb):Qcg x2 x34 x35 x36 y8 y9 y11=Qch Qcg x2 x34 x35 x36 y8 y9 y11:=lnT (x:=Qch (fun x2 x34 x35 x36 y8 y9 y11=>some (.normal,QDM x2 x34 x35 x36 y8 y9 y11)) x2 x34 x35 x36 y8 y9 y11) (by simp only [Qch,nxA];rfl)
def r_f31 (p0:Estate)(p1 p2:Int):OV:=
 let a1:=Uy p0 p1
 let a2:=Zg (a1.1) ((a1.2).1)
 br (Zy p0 p1) (br (ine ((a1.2).2) 0) (some (.tu [(.t (.sl Qh) ([]:List Qb)),(.t tI ((a1.2).2))],[])) (br (ilt p2 0) (some (.tu [(.t (.sl Qh) ([]:List Qb)),(.t tI 2)],[])) (br (igt p2 40000) (some (.tu [(.t (.sl Qh) ([]:List Qb)),(.t tI 2)],[])) (br (ZH (a1.1) ((a1.2).1)) (br (Qz a2 (Qc a2) (0:Int)&&YI (a1.1) ((a1.2).1) a2 ([]:List Qb) (0:Int)) (some (.tu [(.t (.sl Qh) (([]:List Qb)++(a2.drop (0:Int).toNat).filter (UI (a1.1) ((a1.2).1) p2))),(.t tI 0)],[])) none) none)))) none
theorem QSk (x2:Int)(x34:List Qb)(x35 x36:Int)(y8 y9:Endpoint)(y11:List Qb)(h:(Qz x34 x35 x36&&YI y8 y9 x34 y11 x36)=true):Qcg x2 x34 x35 x36 y8 y9 y11=Qh9 x2 x34 x35 x36 y8 y9 y11:=by
 obtain ⟨h0,hm⟩:=Bf.1 h
 obtain ⟨rfl,h3,k,rfl,hk⟩:=Js h0
 clear h h0
 revert y11
 refine QW x34 (fun k=> ∀ y11,YI y8 y9 x34 y11 (k:Int)=true->Qcg x2 x34 (x34.length:Int) (k:Int) y8 y9 y11=Qh9 x2 x34 (x34.length:Int) (k:Int) y8 y9 y11) ?_ ?_ k hk
 ·intro y11 _
  rw [QDN]
  simp only [Qch,Qh9,QC,BI,BQ,Qi,Bb,BE,List.filter_nil,BG]
 ·intro k hk ih y11 hm
  rw [QDN]
  have hm2:=hm
  simp only [YI,Bc,Ba] at hm2
  obtain ⟨hc,hs,hl,hy⟩:=hm2
  simp only [Qch,QC,QS,hk,Bu,Qe,Bb,QU (show k<4611686018427387904 by omega)]
  refine Eq.trans (QDB hk hm (fun m=>Qcg x2 x34 (x34.length:Int) ((k+1:Nat):Int) y8 y9 m)) ?_
  rw [ih _ (by simp only [YI,Bc,Ba];exact ⟨hc,hs,hl,by simp only [Bj,Bh];omega⟩),ih _ (by simp only [YI,Bc,Ba];exact ⟨hc,hs,hl,by omega⟩)]
  simp only [Qh9,Bb,Bi hk,QX (y:=Qh) hk,List.filter_cons]
  cases UI y8 y9 x2 x34[k] with
  |true=>simp only [BZ,if_true,BF,BD]
  |false=>rfl
theorem QSl:LO Qqh Qqf QDL 0:=QN (s:=Qh8) fun x y h _ q=>by simp only [QJ,QK] at q;exact (QSk x.1 x.2.2.2.2.1 x.2.2.2.2.2.1 x.2.2.2.2.2.2.1 y.1 y.2.1 y.2.2.1 h).trans q
theorem s_f31 (e:Estate)(i d:Int)(h:ZQ e i d=true):r_f31 e i d=some (.tu [.t (.sl Qh) (XL e i d).1,.t tI (XL e i d).2],[]):=by
 have hl:Ja e=true:=h
 simp only [r_f31,show Zy e i=true from h,Qe,Bt,Bx,BO]
 unfold XL Uy
 rcases Qad e i with ⟨h1,h0,h2,h3,h4⟩|h1
 ·have h5:=Eo h2 h3 h4
  have h6:=IB hl h5
  simp only [h1,BM]
  rw [show ine (0:Int) 0=false from rfl,Qi,h6,QDH h6,Qe,Qe]
  unfold Ww
  rw [Ic,show ige d 0= !ilt d 0 by simp only [ige,ilt, ← decide_not,Int.not_lt,ge_iff_le]]
  cases ilt d 0<;>cases igt d 40000<;>rfl
 ·simp only [h1,BZ,Qe]
def QDO:Ent:=Qq (.pr QF (.pr tI (.pr tI .nil))) (fun x=>(ZQ x.1 x.2.1 x.2.2.1)) (fun x=>(.tu [(.t (.sl Qh) ((XL x.1 x.2.1 x.2.2.1).1)),(.t tI ((XL x.1 x.2.1 x.2.2.1).2))]))
theorem ms_f31:EM 31 QDO:=mS (lk:=lkL (lkc QSl lkn)) Qqh QDK [((.t 6),some (.sl Qh)),((.t 7),some tI)] false (gB (gD QwD (gD QuE (gD Qcc (gD QzY gN))))) fun m=>Qu m fun x hok=>kT (s_f31 x.1 x.2.1 x.2.2.1 hok)
end
end Go.Proofs.YtckcgijklnloiaaGreat.K
noncomputable section
namespace Go.Proofs.YtckcgijklnloiaaGreat.K
open Go.RowKit Go.Shelf
attribute [local go_sem] Oper.semAt_some
def El (vs:List Value)(k:Nat):Value:= .agg ((vs.drop (k*9)).take 9).toArray
def UZ (vs:List Value)(l:List Qb):List (Array Value):=l.map fun x=> #[El vs x.1.toNat,El vs x.2.1.toNat]
theorem Quq {vs:List Value}{q:Nat}{v0 v1 v2 v3 v4 v5 v6 v7 v8:Value}(e0:vs[q*9]? = some v0)(e1:vs[q*9+1]? = some v1)(e2:vs[q*9+2]? = some v2)(e3:vs[q*9+3]? = some v3)(e4:vs[q*9+4]? = some v4)(e5:vs[q*9+5]? = some v5)(e6:vs[q*9+6]? = some v6)(e7:vs[q*9+7]? = some v7)(e8:vs[q*9+8]? = some v8):El vs q= .agg #[v0,v1,v2,v3,v4,v5,v6,v7,v8]:=by
 have hag:((vs.drop (q*9)).take 9)=[v0,v1,v2,v3,v4,v5,v6,v7,v8]:=by
  apply List.ext_getElem?
  intro i
  rcases Dj i 9 with hi|hi
  ·rw [List.getElem?_take_of_lt hi,Df]
   rcases i with _|_|_|_|_|_|_|_|_|i
   ·rw [DI,e0];rfl
   ·rw [e1];rfl
   ·rw [e2];rfl
   ·rw [e3];rfl
   ·rw [e4];rfl
   ·rw [e5];rfl
   ·rw [e6];rfl
   ·rw [e7];rfl
   ·rw [e8];rfl
   ·omega
  ·rw [List.getElem?_take_eq_none hi,DL (by simpa using hi)]
 unfold El
 rw [hag]
set_option maxRecDepth 100000 in
set_option maxHeartbeats 8000000 in
theorem QKN {n:Nat}{b0 off0 c0 n0 b1 off1 c1 n1 k a s:Nat}{it:Value}{w:World}{v0 v1 v2 v3 v4 v5 v6 v7 v8 u0 u1 u2 u3 u4 u5 u6 u7 u8:Value}(hk:k<n1)(ka:a<n0)(ks:s<n0)(hn0:n0<=99999)(hn1:n1<=99999)(hb0:b0<w.heap.size)(hb1:b1<w.heap.size)
  (da:w.cell? ⟨b1,off1+k*2,none⟩=some (.int .i64 (a:Int))) (db:w.cell? ⟨b1,off1+k*2+1,none⟩=some (.int .i64 (s:Int)))
  (w0:w.cell? ⟨b0,off0+a*9,none⟩=some v0) (w1:w.cell? ⟨b0,off0+a*9+1,none⟩=some v1) (w2:w.cell? ⟨b0,off0+a*9+2,none⟩=some v2) (w3:w.cell? ⟨b0,off0+a*9+3,none⟩=some v3) (w4:w.cell? ⟨b0,off0+a*9+4,none⟩=some v4) (w5:w.cell? ⟨b0,off0+a*9+5,none⟩=some v5) (w6:w.cell? ⟨b0,off0+a*9+6,none⟩=some v6) (w7:w.cell? ⟨b0,off0+a*9+7,none⟩=some v7) (w8:w.cell? ⟨b0,off0+a*9+8,none⟩=some v8) (x0:w.cell? ⟨b0,off0+s*9,none⟩=some u0) (x1:w.cell? ⟨b0,off0+s*9+1,none⟩=some u1) (x2:w.cell? ⟨b0,off0+s*9+2,none⟩=some u2) (x3:w.cell? ⟨b0,off0+s*9+3,none⟩=some u3) (x4:w.cell? ⟨b0,off0+s*9+4,none⟩=some u4) (x5:w.cell? ⟨b0,off0+s*9+5,none⟩=some u5) (x6:w.cell? ⟨b0,off0+s*9+6,none⟩=some u6) (x7:w.cell? ⟨b0,off0+s*9+7,none⟩=some u7) (x8:w.cell? ⟨b0,off0+s*9+8,none⟩=some u8) (ov0:v0.oneCell'=true) (ov1:v1.oneCell'=true) (ov2:v2.oneCell'=true) (ov3:v3.oneCell'=true) (ov4:v4.oneCell'=true) (ov5:v5.oneCell'=true) (ov6:v6.oneCell'=true) (ov7:v7.oneCell'=true) (ov8:v8.oneCell'=true) (ou0:u0.oneCell'=true) (ou1:u1.oneCell'=true) (ou2:u2.oneCell'=true) (ou3:u3.oneCell'=true) (ou4:u4.oneCell'=true) (ou5:u5.oneCell'=true) (ou6:u6.oneCell'=true) (ou7:u7.oneCell'=true) (ou8:u8.oneCell'=true):
  CallsIn (Fw none) n Tryz.prog 44 #[.agg #[.slice (some ⟨b0,off0,none⟩) n0 c0,.slice (some ⟨b1,off1,none⟩) n1 c1,it],.int .i64 (k:Int)] w fun e w'=>e= .returned (.tuple #[.agg #[v0,v1,v2,v3,v4,v5,v6,v7,v8],.agg #[u0,u1,u2,u3,u4,u5,u6,u7,u8]])/\Below w.heap.size w w':=by
 refine callsIn_of_wp (F:=Fw none) Tryz.func44 rfl trivial ?_ rfl
 simp only [Tryz.ntmps44,List.size_toArray,Bp,Bw,Nat.reduceAdd,Nat.reduceSub,Array.replicate_succ,Array.replicate_zero,List.push_toArray,List.append_toArray,BO,Dq]
 have up: ∀ {p:Addr} {v:Value},w.cell? p=some v→ ∀ o1 o2 o3,(((w.alloc o1).alloc o2).alloc o3).cell? p=some v:=fun h o1 o2 o3=>Lib.cell?_alloc_some _ (Lib.cell?_alloc_some _ (Lib.cell?_alloc_some _ h))
 replace da:=up da
 replace db:=up db
 replace w0:=fun o1 o2 o3 o4=>Lib.cell?_alloc_some o4 (up w0 o1 o2 o3)
 replace w1:=fun o1 o2 o3 o4=>Lib.cell?_alloc_some o4 (up w1 o1 o2 o3)
 replace w2:=fun o1 o2 o3 o4=>Lib.cell?_alloc_some o4 (up w2 o1 o2 o3)
 replace w3:=fun o1 o2 o3 o4=>Lib.cell?_alloc_some o4 (up w3 o1 o2 o3)
 replace w4:=fun o1 o2 o3 o4=>Lib.cell?_alloc_some o4 (up w4 o1 o2 o3)
 replace w5:=fun o1 o2 o3 o4=>Lib.cell?_alloc_some o4 (up w5 o1 o2 o3)
 replace w6:=fun o1 o2 o3 o4=>Lib.cell?_alloc_some o4 (up w6 o1 o2 o3)
 replace w7:=fun o1 o2 o3 o4=>Lib.cell?_alloc_some o4 (up w7 o1 o2 o3)
 replace w8:=fun o1 o2 o3 o4=>Lib.cell?_alloc_some o4 (up w8 o1 o2 o3)
 replace x0:=fun o1 o2 o3 o4=>Lib.cell?_alloc_some o4 (up x0 o1 o2 o3)
 replace x1:=fun o1 o2 o3 o4=>Lib.cell?_alloc_some o4 (up x1 o1 o2 o3)
 replace x2:=fun o1 o2 o3 o4=>Lib.cell?_alloc_some o4 (up x2 o1 o2 o3)
 replace x3:=fun o1 o2 o3 o4=>Lib.cell?_alloc_some o4 (up x3 o1 o2 o3)
 replace x4:=fun o1 o2 o3 o4=>Lib.cell?_alloc_some o4 (up x4 o1 o2 o3)
 replace x5:=fun o1 o2 o3 o4=>Lib.cell?_alloc_some o4 (up x5 o1 o2 o3)
 replace x6:=fun o1 o2 o3 o4=>Lib.cell?_alloc_some o4 (up x6 o1 o2 o3)
 replace x7:=fun o1 o2 o3 o4=>Lib.cell?_alloc_some o4 (up x7 o1 o2 o3)
 replace x8:=fun o1 o2 o3 o4=>Lib.cell?_alloc_some o4 (up x8 o1 o2 o3)
 clear up
 gi_wp2
 have sv0:=fun a m W=>run_store Tryz.prog W a v0 m ov0
 have sv1:=fun a m W=>run_store Tryz.prog W a v1 m ov1
 have sv2:=fun a m W=>run_store Tryz.prog W a v2 m ov2
 have sv3:=fun a m W=>run_store Tryz.prog W a v3 m ov3
 have sv4:=fun a m W=>run_store Tryz.prog W a v4 m ov4
 have sv5:=fun a m W=>run_store Tryz.prog W a v5 m ov5
 have sv6:=fun a m W=>run_store Tryz.prog W a v6 m ov6
 have sv7:=fun a m W=>run_store Tryz.prog W a v7 m ov7
 have sv8:=fun a m W=>run_store Tryz.prog W a v8 m ov8
 have su0:=fun a m W=>run_store Tryz.prog W a u0 m ou0
 have su1:=fun a m W=>run_store Tryz.prog W a u1 m ou1
 have su2:=fun a m W=>run_store Tryz.prog W a u2 m ou2
 have su3:=fun a m W=>run_store Tryz.prog W a u3 m ou3
 have su4:=fun a m W=>run_store Tryz.prog W a u4 m ou4
 have su5:=fun a m W=>run_store Tryz.prog W a u5 m ou5
 have su6:=fun a m W=>run_store Tryz.prog W a u6 m ou6
 have su7:=fun a m W=>run_store Tryz.prog W a u7 m ou7
 have su8:=fun a m W=>run_store Tryz.prog W a u8 m ou8
 have fz: ∀ (d:Nat) (q:Nat) (p:Option Nat),w.frozen? ⟨w.heap.size+d,q,none⟩=false:=fun d q _=>by
  have:w.heap[w.heap.size+d]? = none:=Array.getElem?_eq_none (by omega)
  simp [World.frozen?, this]
 have fr: ∀ (d q:Nat) c1 t1 c2 t2 c3 t3 c4 t4,((((w.alloc (.cells c1 t1)).alloc (.cells c2 t2)).alloc (.cells c3 t3)).alloc (.cells c4 t4)).drew.frozen? ⟨w.heap.size+d,q,none⟩=false:=fun d q c1 t1 c2 t2 c3 t3 c4 t4=>by
  rw [frozen_drew_own,frozen?_alloc_cells,frozen?_alloc_cells,frozen?_alloc_cells,frozen?_alloc_cells]
  exact fz d q none
 have hm:Tryz.prog.follows .mixedOrders=true:=mixed
 gi_region_o
 gi_wp2
 refine bodyPost_ret (by simp [results,Tryz.results44,go_sem];rfl) rfl ?_
 exact ⟨rfl,((((Below.refl _ _).alloc (BS _) _).alloc (by simp) _).alloc (by simp;omega) _).alloc (by simp;omega) _ |>.drew⟩
set_option maxRecDepth 100000 in
set_option maxHeartbeats 4000000 in
theorem QKO (Bs b0 off0 c0 n0 b1 off1 c1 n1:Nat)(A0 A1:Option Addr)(it:Value)(vs:List Value)(l1:List Qb)(Xf:Nat->Nat->Prop)(w:World)(hn0:n0<=99999)(hn1:n1<=99999)(hl1:l1.length=n1)
  (hB0:w.cell? ⟨Bs,0,none⟩=some (.slice A0 n0 c0)) (hB1:w.cell? ⟨Bs,1,none⟩=some (.slice A1 n1 c1)) (hB2:w.cell? ⟨Bs,2,none⟩=some it) (hBl:Bs<w.heap.size) (hBx: ∀ q, ¬ Xf Bs q)
  (hE:0<n1->A1=some ⟨b1,off1,none⟩/\b1<w.heap.size/\(∀ j,j<n1*2→ ¬ Xf b1 (off1+j))∧ ∀ k (hk:k<l1.length),w.cell? ⟨b1,off1+k*2,none⟩=some (.int .i64 l1[k].1)/\w.cell? ⟨b1,off1+k*2+1,none⟩=some (.int .i64 l1[k].2.1))
  (hP:0<n0->A0=some ⟨b0,off0,none⟩/\vs.length=n0*9/\b0<w.heap.size/\(∀ j,j<vs.length→ ¬ Xf b0 (off0+j))/\(∀ v∈vs,v.oneCell'=true)∧ ∀ j v,vs[j]? = some v->w.cell? ⟨b0,off0+j,none⟩=some v)
  (hin: ∀ k (hk:k<l1.length),(0<=l1[k].1/\l1[k].1<n0)/\0<=l1[k].2.1/\l1[k].2.1<n0):
  Ih Tryz.prog 81 [.pointer (some ⟨Bs,0,none⟩)] (UZ vs l1) Xf w:=by
 intro l J Jx W hJ hJx hK hY h0 _
 have HE:=Lib.hid hE
 have HP:=Lib.hid hP
 have HI:=Lib.hid hin
 clear hE hP hin
 refine callsIn_of_wp (F:=Fw none) Tryz.func81 rfl trivial ?_ rfl
 simp only [Tryz.ntmps81,List.size_toArray,Bp,Bw,Nat.reduceAdd,Nat.reduceSub,Array.replicate_succ,Array.replicate_zero,List.push_toArray,List.append_toArray,BO,Dq]
 have hb1:W.cell? ⟨Bs,1,none⟩=some (.slice A1 n1 c1):=((hK _ W h0).2 Bs 1 hBl (hBx 1)).trans hB1
 gi_wp2
 gi_loopw [7] (fun i wr=> ∃ k:Nat,k<=n1/\i= .int .i64 (k:Int)/\J ((UZ vs l1).drop k) wr)
  (fun i _=>n1-(intOf i).toNat)
 case atStart=>exact ⟨0,B2 _,rfl,h0⟩
 case round=>
  obtain ⟨k,hk,rfl,hJs⟩:=hrel
  by_cases hlt:k<n1
  ·have hlt2:k<l1.length:=by omega
   obtain ⟨rfl,hbl,hnx,hcl⟩:=HE.out (by omega)
   obtain ⟨⟨a0,a1⟩,s0,s1⟩:=HI.out k hlt2
   obtain ⟨rfl,hvl,hpl,hpx,hpo,hpc⟩:=HP.out (by omega)
   obtain ⟨ca,cb⟩:=hcl k hlt2
   have hJ2:=hJs
   have hlen:k<(UZ vs l1).length:=by simpa [UZ] using hlt2
   rw [Bi hlen] at hJ2
   have hrow:(UZ vs l1)[k]= #[El vs l1[k].1.toNat,El vs l1[k].2.1.toNat]:=by simp [UZ]
   rw [hrow] at hJ2
   have keep: ∀ b q,b<w.heap.size→ ¬ Xf b q->wr.cell? ⟨b,q,none⟩=w.cell? ⟨b,q,none⟩:=fun b q h1 h2=>(hK _ wr hJs).2 b q h1 h2
   have hsz:w.heap.size<=wr.heap.size:=(hK _ wr hJs).1
   generalize hxa:l1[k].1=xa at*
   generalize hxs:l1[k].2.1=xs at*
   obtain ⟨a,rfl⟩:=Bm a0
   obtain ⟨s,rfl⟩:=Bm s0
   have ka:a<n0:=by omega
   have ks:s<n0:=by omega
   have cel: ∀ q,q<n0→ ∀ i,i<9→ ∃ v,vs[q*9+i]? = some v/\wr.cell? ⟨b0,off0+(q*9+i),none⟩=some v/\v.oneCell'=true:=by
    intro q hq i hi
    have hlt:q*9+i<vs.length:=by omega
    exact ⟨_,Bl hlt,(keep b0 _ hpl (hpx _ hlt)).trans (hpc _ _ (Bl hlt)),hpo _ (BA hlt)⟩
   have da:wr.cell? ⟨b1,off1+k*2,none⟩=some (.int .i64 (a:Int)):=(keep b1 _ hbl (hnx _ (by omega))).trans ca
   have db:wr.cell? ⟨b1,off1+k*2+1,none⟩=some (.int .i64 (s:Int)):=(keep b1 _ hbl (by rw [DD];exact hnx _ (by omega))).trans cb
   have dB0:wr.cell? ⟨Bs,0,none⟩=some (.slice (some ⟨b0,off0,none⟩) n0 c0):=(keep Bs 0 hBl (hBx 0)).trans hB0
   have dB1:wr.cell? ⟨Bs,1,none⟩=some (.slice (some ⟨b1,off1,none⟩) n1 c1):=(keep Bs 1 hBl (hBx 1)).trans hB1
   have dB2:wr.cell? ⟨Bs,2,none⟩=some it:=(keep Bs 2 hBl (hBx 2)).trans hB2
   clear keep hnx hpx hpc hcl ca cb hB0 hB1 hB2 hb1
   obtain ⟨v0,e0,w0,ov0⟩:=cel a ka 0 (by omega)
   obtain ⟨v1,e1,w1,ov1⟩:=cel a ka 1 (by omega)
   obtain ⟨v2,e2,w2,ov2⟩:=cel a ka 2 (by omega)
   obtain ⟨v3,e3,w3,ov3⟩:=cel a ka 3 (by omega)
   obtain ⟨v4,e4,w4,ov4⟩:=cel a ka 4 (by omega)
   obtain ⟨v5,e5,w5,ov5⟩:=cel a ka 5 (by omega)
   obtain ⟨v6,e6,w6,ov6⟩:=cel a ka 6 (by omega)
   obtain ⟨v7,e7,w7,ov7⟩:=cel a ka 7 (by omega)
   obtain ⟨v8,e8,w8,ov8⟩:=cel a ka 8 (by omega)
   obtain ⟨u0,f0,x0,ou0⟩:=cel s ks 0 (by omega)
   obtain ⟨u1,f1,x1,ou1⟩:=cel s ks 1 (by omega)
   obtain ⟨u2,f2,x2,ou2⟩:=cel s ks 2 (by omega)
   obtain ⟨u3,f3,x3,ou3⟩:=cel s ks 3 (by omega)
   obtain ⟨u4,f4,x4,ou4⟩:=cel s ks 4 (by omega)
   obtain ⟨u5,f5,x5,ou5⟩:=cel s ks 5 (by omega)
   obtain ⟨u6,f6,x6,ou6⟩:=cel s ks 6 (by omega)
   obtain ⟨u7,f7,x7,ou7⟩:=cel s ks 7 (by omega)
   obtain ⟨u8,f8,x8,ou8⟩:=cel s ks 8 (by omega)
   rw [DI] at e0 w0 f0 x0
   rw [←DD] at w1 w2 w3 w4 w5 w6 w7 w8 x1 x2 x3 x4 x5 x6 x7 x8
   clear cel hrow
   gi_wp2_with fail
   refine (QKN hlt ka ks hn0 hn1 (B9 hpl hsz) (B9 hbl hsz) da db w0 w1 w2 w3 w4 w5 w6 w7 w8 x0 x1 x2 x3 x4 x5 x6 x7 x8 ov0 ov1 ov2 ov3 ov4 ov5 ov6 ov7 ov8 ou0 ou1 ou2 ou3 ou4 ou5 ou6 ou7 ou8).mono ?_
   rintro e W2 ⟨rfl,hbel⟩
   obtain ⟨fn,tmps,assign,body,hy,hR⟩:=hY _ _ W2 (hJ _ _ _ hJ2 hbel)
   rw [Bb,Bb,Quq e0 e1 e2 e3 e4 e5 e6 e7 e8,Quq f0 f1 f2 f3 f4 f5 f6 f7 f8] at hy
   clear w0 w1 w2 w3 w4 w5 w6 w7 w8 x0 x1 x2 x3 x4 x5 x6 x7 x8 da db dB0 dB1 dB2 hY hJ2
   gi_wp2
   refine hR.mono ?_
   rintro e W3 (⟨rfl,hJ3⟩|⟨rfl,hJx3⟩)
   ·gi_wp2
    go_roundw
    case rel=>exact ⟨k+1,by omega,by simp,hJ3⟩
    case measure=>simp [intOf];omega
   ·gi_wp2
    refine bodyPost_ret (results_none rfl _ _ _) rfl ?_
    exact ⟨⟨_,rfl⟩,.inr hJx3⟩
  ·obtain rfl:k=n1:=by omega
   rw [List.drop_of_length_le (by simp [UZ];omega)] at hJs
   gi_wp2
   go_end0
   exact ⟨⟨_,rfl⟩,.inl hJs⟩
def YC (e:Estate):List (Endpoint×Endpoint×Unit):=(Jg e).map fun x=>(ZD (QZ e) x.1.toNat,(ZD (QZ e) x.2.1.toNat,()))
def Em (e:Estate):Bool:=decide ((QZ e).length<=99999/\(Jg e).length<=99999)&&(Jg e).all fun x=>decide ((0<=x.1/\x.1<(QZ e).length)/\0<=x.2.1/\x.2.1<(QZ e).length)
def Iz:Itr:=Es [.ptr 50000 0] [QF] (.pr Qj (.pr Qj .nil)) (fun d=>(Em d.1)) (fun d=>(YC d.1))
def tc_f41:TC:=aF Tryz.f41 []
def g_f41:G:=gG 4 [] (fun _ _=>none)
def r_f41 (p0:Estate):OV:=some (.fn 81 [(.ptr 50000 0)],[.box (.t QF p0)])
def Qlb:Ent:=U3 (.pr QF .nil) (fun _=>true) (fun x=> .fn 81 [.ptr 50000 0]) (fun x=>[.box (.t QF x.1)])
theorem Qur:EM 41 Qlb:=mS g_f41 tc_f41 [((.t 2),none)] true (gB gN) fun m=>Qe4 m fun x _=>by kernel_rfl
theorem Qus {X:Nat->Nat->Prop}{w:World}{l:List Endpoint}{vs:List Value}(h:Cs X w Jl (l.flatMap Qj.cells) vs){a:Nat}(ha:a<l.length):C X w Jl (V.t Qj (ZD l a)).d (El vs a):=by
 rw [show ZD l a=l[a] by simp only [ZD,Bo,Bl ha,BK]]
 simp only [V.d]
 rw [Ty.d_row Qj _ rfl]
 simp only [C]
 refine ⟨_,rfl, ?_⟩
 have k1:=h.drop_ (a*Qj.sz)
 rw [Eh,Bi ha,BY] at k1
 have k2:=k1.take_ Qj.sz
 rw [List.take_left' (Qj.cells_len _)] at k2
 exact k2
theorem QKP {X:Nat->Nat->Prop}{w:World}{l:List Qb}{vs:List Value}(h:Cs X w Jl (l.flatMap Qh.cells) vs){k:Nat}(hk:k<l.length):vs[k*2]? = some (.int .i64 l[k].1)/\vs[k*2+1]? = some (.int .i64 l[k].2.1):=by
 have k1:=h.drop_ (k*Qh.sz)
 rw [Eh,Bi hk,BY] at k1
 have k3:Cs X w Jl (D.v (.int .i64 l[k].1)::D.v (.int .i64 l[k].2.1)::(l.drop (k+1)).flatMap Qh.cells) (vs.drop (k*2)):=k1
 simp only [Cs] at k3
 obtain ⟨u0,r0,q0,c0,u1,r1,q1,c1,_⟩:=k3
 have d0:(vs.drop (k*2))[0]? = some u0:=by rw [q0];rfl
 have d1:(vs.drop (k*2))[1]? = some u1:=by rw [q0,q1];rfl
 rw [Df] at d0 d1
 rw [(C.v c0).1] at d0
 rw [(C.v c1).1] at d1
 exact ⟨d0,d1⟩
theorem Qut:Iters Tryz.prog 81 Iz:=by
 refine Iters.weak (by decide) (enters_of Tryz.func81 (by kernel_rfl) rfl) fun caps objs yr rows h X w σ lb hfin hl hc=> ?_
 unfold Iz Es at h
 split at h
 ·rename_i x d hx hd
  simp only [Be,Br] at h
  obtain ⟨hok,h⟩:=h
  cases h
  have hcaps:=I3 hx
  subst hcaps
  cases objs with
  |nil=>simp [Yp] at hd
  |cons o os=>
   cases o with
   |box cv=>
    cases os with
    |cons o2 os=>simp [Yp] at hd
    |nil=>
     simp only [Yp] at hd
     split at hd
     ·rename_i l u hl1 _
      simp only [Be] at hd
      subst hd
      have hl2:V.as QF cv=some l:=hl1
      simp only [Em,Bc,Ba,Bg] at hok
      obtain ⟨⟨n0,n1⟩,hin⟩:=hok
      obtain ⟨Bs,ty,us,h1,h2,h3,h4⟩:=Qdp (show QF.row=true from rfl) hl2 (hl.at_ 0 _ rfl).1
      have h3':Cs X w σ [.sl (List.length l.1) (List.flatMap Qj.cells l.1),.sl (List.length l.2.1) (List.flatMap Qh.cells l.2.1),.sl (List.length l.2.2.1) (List.flatMap Jm.cells l.2.2.1)] us:=h3
      simp only [Cs] at h3'
      obtain ⟨u0,r0,rfl,k0,u1,r1,rfl,k1,u2,r2,rfl,k2,rfl⟩:=h3'
      simp only [C] at k0 k1
      obtain ⟨A0,c0,rfl,_,_,_,g4⟩:=k0
      obtain ⟨A1,c1,rfl,_,_,_,e4⟩:=k1
      simp only [Ft,SV.mk,V.ds,V.d,Cs,C] at hc
      obtain ⟨p,ps,rfl,⟨b',q1,rfl⟩,rfl⟩:=hc
      have h1:σ 50000= .box Bs:=h1
      rw [h1] at q1
      injection q1 with q1
      subst q1
      have hBl:=(Da.1 h2).1
      have hBx: ∀ q, ¬ (X Bs q∧ ∀ j,j<[VO.box cv].length->(σ (50000+j)).blk≠some Bs):=fun q hq=>hq.2 0 (by simp) (by rw [h1];rfl)
      obtain ⟨b0,off0,vs,hP⟩: ∃ b0 off0 vs,0<List.length l.1->A0=some ⟨b0,off0,none⟩/\Cs X w Jl (List.flatMap Qj.cells l.1) vs/\Fix X w b0 off0 vs:=by
       rcases DM (List.length l.1) with h0|hp
       ·exact ⟨0,0,[],fun h=>absurd h (by omega)⟩
       ·obtain ⟨b0,off0,vs,x1,x2,x3⟩:=g4 hp
        exact ⟨b0,off0,vs,fun _=>⟨x1,x2,x3⟩⟩
      obtain ⟨b1,off1,ws,hE⟩: ∃ b1 off1 ws,0<List.length l.2.1->A1=some ⟨b1,off1,none⟩/\Cs X w Jl (List.flatMap Qh.cells l.2.1) ws/\Fix X w b1 off1 ws:=by
       rcases DM (List.length l.2.1) with h0|hp
       ·exact ⟨0,0,[],fun h=>absurd h (by omega)⟩
       ·obtain ⟨b0,off0,vs,x1,x2,x3⟩:=e4 hp
        exact ⟨b0,off0,vs,fun _=>⟨x1,x2,x3⟩⟩
      have hin2: ∀ k (hk:k<l.2.1.length),(0<=(l.2.1[k]).1/\(l.2.1[k]).1<(l.1.length:Int))/\0<=(l.2.1[k]).2.1/\(l.2.1[k]).2.1<(l.1.length:Int):=fun k hk=>hin _ (BA hk)
      refine ⟨UZ vs l.2.1,⟨by simp [YC,UZ,Jg],fun i r v hr hv=> ?_⟩,QKO Bs b0 off0 c0 (List.length l.1) b1 off1 c1 (List.length l.2.1) A0 A1 u2 vs l.2.1 _ w n0 n1 rfl (by simp [World.cell?, h2]) (by simp [World.cell?, h2]) (by simp [World.cell?, h2]) hBl hBx (fun hp=> ?_) (fun hp=> ?_) hin2⟩
      ·simp only [YC,UZ,Jg,De,Bk] at hr hv
       obtain ⟨x,hx,rfl⟩:=hr
       obtain ⟨y,hy,rfl⟩:=hv
       rw [hx] at hy
       injection hy with hy
       subst hy
       have hb:=hin x (Dp hx)
       obtain ⟨⟨a0,a1⟩,s0,s1⟩:=hb
       simp only [QZ] at a1 s1
       obtain ⟨_,g5,_⟩:=hP (by omega)
       simp only [Ty.canon,V.ds,Cs]
       exact ⟨_,_,rfl,Qus g5 (by omega),_,_,rfl,Qus g5 (by omega),rfl⟩
      ·obtain ⟨x1,x2,x3⟩:=hE hp
       have hvl:=x2.len
       rw [Gu] at hvl
       have hvl:ws.length=List.length l.2.1*2:=hvl
       refine ⟨x1,x3.lt,fun j hj hx=>x3.nx j (by omega) hx.1,fun k hk=> ?_⟩
       obtain ⟨y1,y2⟩:=QKP x2 hk
       refine ⟨x3.at_ _ _ y1, ?_⟩
       rw [DD]
       exact x3.at_ _ _ y2
      ·obtain ⟨x1,x2,x3⟩:=hP hp
       have hvl:=x2.len
       rw [Gu] at hvl
       have hvl:vs.length=List.length l.1*9:=hvl
       exact ⟨x1,hvl,x3.lt,fun j hj hx=>x3.nx j hj hx.1,x3.one,fun j v hv=>x3.at_ j v hv⟩
     ·cases hd
   |no=>simp [Yp] at hd
   |arr e t l=>simp [Yp] at hd
 ·cases h
end Go.Proofs.YtckcgijklnloiaaGreat.K
noncomputable section
namespace Go.Proofs.YtckcgijklnloiaaGreat.K
open Go.RowKit
noncomputable section
abbrev FH:Type:=Endpoint×Endpoint×Unit
def Zq (e:Estate)(x:Qb):FH:=(ZD (QZ e) x.1.toNat,(ZD (QZ e) x.2.1.toNat,()))
theorem QgP (e:Estate):YC e=(Jg e).map (Zq e):=rfl
def QbH (d:Int)(z:FH):Bool:=ine (Zn z.1 z.2.1 d).2 0
def Gg (d:Int)(z:FH):Qb:=bif QbH d z then zK else (Zn z.1 z.2.1 d).1
def XI (d:Int):List FH->Nat->List Int
 | [],_=>[]
 |z::r,k=>bif QbH d z then (k:Int)::XI d r (k+1) else XI d r (k+1)
def UF (zs:List FH):Bool:=zs.all fun z=>ZH z.1 z.2.1
def ZU (e:Estate)(d:Int):List Qb×List Int×Int:=
 bif !Zc e then ([],[],31) else bif !Ww d then ([],[],2) else ((YC e).map (Gg d),XI d (YC e) 0,0)
theorem QbI {e:Estate}(hl:Ja e=true)(h:Zc e=true):Em e=true/\UF (YC e)=true/\(YC e).length<=40:=by
 have hp:=IA h
 have hlen:(QZ e).length<=99999/\(Jg e).length<=99999:=⟨by omega,by omega⟩
 have hin: ∀ x∈Jg e,(0<=x.1/\x.1<(QZ e).length)/\0<=x.2.1/\x.2.1<(QZ e).length:=fun x hx=>by
  obtain ⟨k,hk⟩:=DC.1 hx
  obtain ⟨hk1,rfl⟩:=BL.1 hk
  have:=QuA h hk1
  have he:YL (Jg e) k=(Jg e)[k]:=by simp only [YL,Bo,Bl hk1,BK]
  rw [he] at this
  exact ⟨this.1,this.2.1⟩
 refine ⟨?_, ?_, ?_⟩
 ·simp only [Em,Bc,Ba,Bg]
  exact ⟨hlen,hin⟩
 ·rw [QgP]
  simp only [UF,Bg,Dc]
  rintro z ⟨x,hx,rfl⟩
  obtain ⟨⟨a0,a1⟩,s0,s1⟩:=hin x hx
  exact Bf.2 ⟨Qd2 (Qd1 hl) (Bd ⟨a0,by omega⟩),Qd2 (Qd1 hl) (Bd ⟨s0,by omega⟩)⟩
 ·rw [QgP,BP]
  exact hp.2.2.2.2.2
def QQd:List DO:=dT Tryz.f14 14
abbrev QgQ:Sh:=⟨[(3,.ptr 60000 0),(7,.ptr 60001 0),(8,.ptr 60002 0)],[(60000,.box tI),(60001,.bag [.ms 20700]),(60002,.bag [.ms 20800]),(39,.no),(43,.no),(20700,.arr 39 Qh),(20800,.arr 3 tI)]⟩
def FI:Fg:=QgQ.f
def QgR:TC:=(.sq (.reg (rT Tryz.f14 8)) (.reg (rT Tryz.f14 9)))
def QgS:TC:=(.bk 2 (.sq (.reg (rT Tryz.f14 10)) (.sq (.sq (.reg (rT Tryz.f14 11)) (.cd (.t 33) (.reg (rT Tryz.f14 12)) .sk)) (.reg (rT Tryz.f14 13)))))
def tc_f14:TC:=(.sq (.reg (rT Tryz.f14 0)) (.sq (.bk 0 (.sq (.reg (rT Tryz.f14 1)) (.cd (.t 13) (.sq (.reg (rT Tryz.f14 2)) .rt) (.sq (.reg (rT Tryz.f14 3)) (.cd (.t 17) (.sq (.reg (rT Tryz.f14 4)) .rt) .sk))))) (.sq (.reg (rT Tryz.f14 5)) (.sq (.reg (rT Tryz.f14 6)) (.sq (.sq (.reg (rT Tryz.f14 7)) (.bk 1 (.nf 7 0 39 20700 (.nf 8 0 3 20800 (.rf 0 FI (.t 22) (.pr Qj (.pr Qj .nil)) [23,24] [3,7,8] QgR QgS))))) (.sq (.dr QQd [(0,[7,43,20700]),(1,[8,39,20800]),(2,[43,20700]),(3,[39,20800]),(4,[])] (.of [0,1,2,3,4])) .rt))))))
def EQ (Jb:Int)(JU:List Qb)(Zt:List Int):VS:=QgQ.st ((),(),(),()) (Jb,((),()),((),()),(),(),JU,Zt,())
def QgT:VS->List (Ty.T (.pr Qj (.pr Qj .nil)))->Option (Bool×List (Bool×Exit×VS)):=mkR QgQ (fun zs x y=>(UF zs&&decide (y.2.2.2.2.2.1.length+zs.length<=1000/\y.2.2.2.2.2.2.1.length<=y.2.2.2.2.2.1.length))) (fun zs x y=>[(true,.normal,EQ (y.1) (y.2.2.2.2.2.1++zs.map (Gg y.1)) (y.2.2.2.2.2.2.1++XI y.1 zs y.2.2.2.2.2.1.length))])
def OS:G:=⟨TYs,[],46,EL [(39,QjO),(40,Qle),(41,Qlb),(42,QnY)],YD,(Ls [fun _=>none]),IL [(81,Iz)],(RL [⟨(.pr Qj (.pr Qj .nil)),QgT⟩])⟩
def QAW (z:(Endpoint×(Endpoint×Unit)))(Jb:Int)(JU:List Qb)(Zt:List Int):OX:=
 let a1:=Zn z.1 z.2.1 Jb
 let a2:=((a1.1).1,(((a1.1).2).1,()))
 br (Uj z.1 z.2.1 Jb) (br (ine (a1.2) 0) (br (Qr Zt ([(Qc JU)]) 8) (br (Qr JU ([(0,(0,()))]) 16) (some (.normal,EQ Jb (JU++([(0,(0,()))])) (Zt++([(Qc JU)])))) none) none) (br (Qr JU ([a2]) 16) (some (.normal,EQ Jb (JU++([a2])) Zt)) none)) none
def QbJ (zs:List (Endpoint×(Endpoint×Unit)))(Jb:Int)(JU:List Qb)(Zt:List Int):OX:=Xt (Ws OS FI (.pr Qj (.pr Qj .nil)) [23,24] QgR QgS) zs (EQ Jb JU Zt)
def QoO (z:(Endpoint×(Endpoint×Unit)))(zs:List (Endpoint×(Endpoint×Unit)))(Jb:Int)(JU:List Qb)(Zt:List Int):OX:=
 let a1:=Zn z.1 z.2.1 Jb
 let a2:=((a1.1).1,(((a1.1).2).1,()))
 br (Uj z.1 z.2.1 Jb) (br (ine (a1.2) 0) (br (Qr Zt ([(Qc JU)]) 8) (br (Qr JU ([(0,(0,()))]) 16) (QbJ zs Jb (JU++([(0,(0,()))])) (Zt++([(Qc JU)]))) none) none) (br (Qr JU ([a2]) 16) (QbJ zs Jb (JU++([a2])) Zt) none)) none
def QoP (zs:List (Endpoint×(Endpoint×Unit)))(Jb:Int)(JU:List Qb)(Zt:List Int):OX:=some (.normal,EQ (Jb) (JU++zs.map (Gg Jb)) (Zt++XI Jb zs JU.length))
theorem QQe (z:(Endpoint×(Endpoint×Unit)))(Jb:Int)(JU:List Qb)(Zt:List Int):Ws OS FI (.pr Qj (.pr Qj .nil)) [23,24] QgR QgS z (EQ Jb JU Zt)=QAW z Jb JU Zt:=by kernel_rfl
theorem QQf (Jb:Int)(JU:(List Qb))(Zt:(List Int)):QbJ [] Jb JU Zt=some (.normal,EQ Jb JU Zt):=rfl
theorem QQg (z:(Endpoint×(Endpoint×Unit)))(zs:List (Endpoint×(Endpoint×Unit)))(Jb:Int)(JU:List Qb)(Zt:List Int):QbJ (z::zs) Jb JU Zt=QoO z zs Jb JU Zt:=(QmL _ _ _ _).trans (by
 rw [QQe]
 simp only [QAW,QoO,Xy,X7,X8,X9,Wa]
 rfl)
def r_f14 (p0:Estate)(p1:Int):OV:=br (Ja p0) (br (ine (YM p0) 0) (some (.tu [(.t (.sl Qh) ([]:List Qb)),(.t (.sl tI) ([]:List Int)),(.t tI 31)],[])) (br (!(Ww p1)) (some (.tu [(.t (.sl Qh) ([]:List Qb)),(.t (.sl tI) ([]:List Int)),(.t tI 2)],[])) (br (Em p0) (br (UF (YC p0)&&decide (([]:List Qb).length+(YC p0).length<=1000/\([]:List Int).length<=([]:List Qb).length)) (some (.tu [(.t (.sl Qh) (([]:List Qb)++(YC p0).map (Gg p1))),(.t (.sl tI) (([]:List Int)++XI p1 (YC p0) ([]:List Qb).length)),(.t tI 0)],[])) none) none))) none
theorem QQh (zs:List (Endpoint×(Endpoint×Unit)))(Jb:Int)(JU:List Qb)(Zt:List Int)(h:(UF zs&&decide (JU.length+zs.length<=1000/\Zt.length<=JU.length))=true):QbJ zs Jb JU Zt=QoP zs Jb JU Zt:=by
 simp only [Bc,Ba] at h
 obtain ⟨hr,h1,h2⟩:=h
 induction zs generalizing JU Zt with
 |nil=>
  rw [QQf]
  simp only [QoP,Dx,BG,XI]
 |cons z zs ih=>
  simp only [UF,BV,Bc] at hr
  simp only [Bp] at h1
  rw [QQg]
  have c1:Uj z.1 z.2.1 Jb=true:=hr.1
  have c2: ∀ v,Qr Zt [v] 8=true:=fun v=>Q7 (by omega) (by simp only [Bh];omega)
  have c3: ∀ v,Qr JU [v] 16=true:=fun v=>Q7 (by omega) (by simp only [Bh];omega)
  simp only [QoO,c1,c2,c3,Qe]
  rw [ih _ _ hr.2 (by simp only [Bj,Bh];omega) (by simp only [Bj,Bh];omega),ih _ _ hr.2 (by simp only [Bj,Bh];omega) (by simp only [Bj,Bh];omega)]
  simp only [QoP,BJ,XI,Gg,QbH,BF,BD,Bj,Bh]
  cases ine (Zn z.1 z.2.1 Jb).2 0<;>rfl
theorem QQi: ∀ S (rows:List (Ty.T (.pr Qj (.pr Qj .nil)))) l p,OS.R 0 (fgt FI S) (.pr Qj (.pr Qj .nil)) rows=some (true,l)->Yz l=some p->Xt (Ws OS FI (.pr Qj (.pr Qj .nil)) [23,24] QgR QgS) rows (fgt FI S)=some p:=by
 intro S rows l p hR hp
 rw [show OS.R 0 (fgt FI S) (.pr Qj (.pr Qj .nil)) rows=QgT (fgt FI S) rows from QmK (l:=[⟨(.pr Qj (.pr Qj .nil)),QgT⟩]) (j:=0) (F:=QgT) rfl _ _] at hR
 refine QmJ (s:=QgQ) ⟨by decide,by decide⟩ (by kernel_rfl) (fun zs x y hok p hp=> ?_) S rows l p hR hp
 simp only [QJ,QK] at hp
 exact (QQh zs y.1 y.2.2.2.2.2.1 y.2.2.2.2.2.2.1 (by first|rfl|simpa using hok)).trans hp
theorem s_f14 (e:Estate)(d:Int)(h:Zy e d=true):r_f14 e d=some (.tu [.t (.sl Qh) (ZU e d).1,.t (.sl tI) (ZU e d).2.1,.t tI (ZU e d).2.2],[]):=by
 have hl:Ja e=true:=h
 simp only [r_f14,hl,Qe,VF,BO,Bw,Nat.zero_add,BS,and_true]
 unfold ZU
 cases he:Zc e with
 |false=>rfl
 |true=>
  obtain ⟨h1,h2,h3⟩:=QbI hl he
  rw [BC,Qi]
  cases Ww d with
  |false=>rfl
  |true=>
   rw [BC,Qi,h1,Qe,h2,BB,Bd (by omega),Qe]
   rfl
def QoQ:Ent:=Qq (.pr QF (.pr tI .nil)) (fun x=>(Zy x.1 x.2.1)) (fun x=>(.tu [(.t (.sl Qh) ((ZU x.1 x.2.1).1)),(.t (.sl tI) (((ZU x.1 x.2.1).2).1)),(.t tI (((ZU x.1 x.2.1).2).2))]))
theorem QAX:EM 14 QoQ:=mS (lk:=(by repeat first|exact trivial|exact QQi|constructor)) OS tc_f14 [((.t 4),some (.sl Qh)),((.t 5),some (.sl tI)),((.t 6),some tI)] false (Zz _ (gA (gD Qsz (gD QuC (gD Qur (gD Qzz gN)))))
 [(81,Iz)] (by
 intro p hp
 simp only [BT,B0,Dn] at hp
 rcases hp with rfl
 ·exact Qut)) fun m=>Qu m fun x hok=>kT (s_f14 x.1 x.2.1 hok)
def FJ (e:Estate)(l:List Qb):Bool:=l.all fun x=>cIx (QZ e) x.1&&(cIx (QZ e) x.2.1&&ZH (Zq e x).1 (Zq e x).2.1)
theorem QAY {e:Estate}(hl:Ja e=true)(h:Zc e=true):FJ e (Jg e)=true:=by
 obtain ⟨h1,h2,_⟩:=QbI hl h
 simp only [FJ,Bg,Bc]
 intro x hx
 simp only [Em,Bc,Ba,Bg] at h1
 obtain ⟨⟨a0,a1⟩,s0,s1⟩:=h1.2 x hx
 refine ⟨Bd ⟨a0,by omega⟩,Bd ⟨s0,by omega⟩, ?_⟩
 rw [QgP] at h2
 simp only [UF,Bg,Dc] at h2
 exact h2 _ ⟨x,hx,rfl⟩
abbrev QgU:Sh:=⟨[(1,.ty tI),(2,.ptr 2 0),(7,.ms 7),(8,.ms 8),(23,.ty (.sl Qh)),(24,.ty tI),(25,.ty tI)],[(2,.box QF),(7,.arr 39 Qh),(8,.arr 3 tI),(53,.no),(57,.no)]⟩
abbrev QAZ:Sh:=⟨[(7,.ms 7),(8,.ms 8)],[(7,.arr 39 Qh),(8,.arr 3 tI),(53,.no),(57,.no)]⟩
def QoR:Fg:=QgU.f
def QA0:TC:=aF Tryz.f32 [(506,.nw 8 3),(506,.nw 7 39),(506,pL 0 QoR),(8101,.fg QAZ.f),(64818,pD [(0,[2]),(1,[2]),(2,[10]),(3,[10]),(4,[]),(5,[]),(6,[2]),(7,[2]),(8,[10]),(9,[10]),(10,[]),(11,[]),(12,[]),(13,[]),(14,[]),(15,[]),(16,[]),(17,[11,5011,10011,15011]),(18,[11]),(19,[])] (.of [0,1,2,3,4,5,6,7,8,9,10,11,12,13,14,15,16,17,18,19]))]
def QA1:TC:=lb 0 QA0
def QA2 (x1:Int)(x23:List Qb)(x24 x25:Int)(y2:Estate)(y7:List Qb)(y8:List Int):VS:=QgU.st (x1,(),(),(),x23,x24,x25,()) (y2,y7,y8,(),(),())
def QoS (y7:List Qb)(y8:List Int):VS:=QAZ.st ((),(),()) (y7,y8,(),(),())
def QQj:VS->Option (Bool×List (Bool×Exit×VS)):=mkL QgU (fun x y=>(Qz x.2.2.2.2.1 x.2.2.2.2.2.1 x.2.2.2.2.2.2.1&&(FJ y.1 x.2.2.2.2.1&&decide (y.2.1.length<=x.2.2.2.2.2.2.1/\y.2.2.1.length<=x.2.2.2.2.2.2.1)))) (fun x y=>[(true,.exit 0,QoS (y.2.1++((x.2.2.2.2.1.drop x.2.2.2.2.2.2.1.toNat).map (Zq y.1)).map (Gg x.1)) (y.2.2.1++XI x.1 ((x.2.2.2.2.1.drop x.2.2.2.2.2.2.1.toNat).map (Zq y.1)) x.2.2.2.2.2.2.1.toNat))])
def QoT:G:=gG 61 [(61,Qdh),(65,QnZ)] (Ls [QQj])
def QgV (x1:Int)(x23:List Qb)(x24 x25:Int)(y2:Estate)(y7:List Qb)(y8:List Int):OX:=QB (QD QoT QoR QA1) (QA2 x1 x23 x24 x25 y2 y7 y8)
def QbK (kk:Int->List Qb->Int->Int->Estate->List Qb->List Int->OX)(x1:Int)(x23:List Qb)(x24 x25:Int)(y2:Estate)(y7:List Qb)(y8:List Int):OX:=
 let a2:=lgt Qh x23 (Int.toNat x25)
 let a1:=Zn (lgt Qj y2.1 (Int.toNat (a2.1))) (lgt Qj y2.1 (Int.toNat ((a2.2).1))) x1
 let a3:=((a1.1).1,(((a1.1).2).1,()))
 br (ilt x25 x24) (br (cIx x23 x25) (br (cIx y2.1 (a2.1)) (br (cIx y2.1 ((a2.2).1)) (br (Uj (lgt Qj y2.1 (Int.toNat (a2.1))) (lgt Qj y2.1 (Int.toNat ((a2.2).1))) x1) (br (ine (a1.2) 0) (br (Qr y8 ([x25]) 8) (br (Qr y7 ([(0,(0,()))]) 16) (kk x1 x23 x24 (Qk .i64 x25 1) y2 (y7++([(0,(0,()))])) (y8++([x25]))) none) none) (br (Qr y7 ([a3]) 16) (kk x1 x23 x24 (Qk .i64 x25 1) y2 (y7++([a3])) y8) none)) none) none) none) none) (some (.exit 0,QoS y7 y8))
def QgW (x1:Int)(x23:List Qb)(x24 x25:Int)(y2:Estate)(y7:List Qb)(y8:List Int):OX:=
 let a1:=((x23.drop x25.toNat).map (Zq y2))
 some (.exit 0,QoS (y7++a1.map (Gg x1)) (y8++XI x1 a1 x25.toNat))
theorem QA3 (x1:Int)(x23:List Qb)(x24 x25:Int)(y2:Estate)(y7:List Qb)(y8:List Int):QgV x1 x23 x24 x25 y2 y7 y8=QbK QgV x1 x23 x24 x25 y2 y7 y8:=lnT (x:=QbK (fun x1 x23 x24 x25 y2 y7 y8=>some (.normal,QA2 x1 x23 x24 x25 y2 y7 y8)) x1 x23 x24 x25 y2 y7 y8) (by simp only [QbK,nxA];rfl)
def r_f32 (p0:Estate)(p1:Int):OV:=
 let a1:=(p0.2.1.drop (0:Int).toNat)
 br (Ja p0) (br (ine (YM p0) 0) (some (.tu [(.t (.sl Qh) ([]:List Qb)),(.t (.sl tI) ([]:List Int)),(.t tI 31)],[])) (br (ilt p1 0) (some (.tu [(.t (.sl Qh) ([]:List Qb)),(.t (.sl tI) ([]:List Int)),(.t tI 2)],[])) (br (igt p1 40000) (some (.tu [(.t (.sl Qh) ([]:List Qb)),(.t (.sl tI) ([]:List Int)),(.t tI 2)],[])) (br (Qz p0.2.1 (Qc p0.2.1) (0:Int)&&(FJ p0 p0.2.1&&decide (([]:List Qb).length<=(0:Int)/\([]:List Int).length<=(0:Int)))) (some (.tu [(.t (.sl Qh) (([]:List Qb)++(a1.map (Zq p0)).map (Gg p1))),(.t (.sl tI) (([]:List Int)++XI p1 (a1.map (Zq p0)) (0:Int).toNat)),(.t tI 0)],[])) none)))) none
theorem QQk (x1:Int)(x23:List Qb)(x24 x25:Int)(y2:Estate)(y7:List Qb)(y8:List Int)(h:(Qz x23 x24 x25&&(FJ y2 x23&&decide (y7.length<=x25/\y8.length<=x25)))=true):QgV x1 x23 x24 x25 y2 y7 y8=QgW x1 x23 x24 x25 y2 y7 y8:=by
 simp only [Bc,Ba] at h
 obtain ⟨h0,he,h1,h2⟩:=h
 obtain ⟨rfl,h3,k,rfl,hk⟩:=Js h0
 clear h0
 revert y7 y8
 refine QW x23 (fun k=> ∀ (y7:List Qb) (y8:List Int),(y7.length:Int)<=(k:Int)->(y8.length:Int)<=(k:Int)->QgV x1 x23 (x23.length:Int) (k:Int) y2 y7 y8=QgW x1 x23 (x23.length:Int) (k:Int) y2 y7 y8) ?_ ?_ k hk
 ·intro y7 y8 _ _
  rw [QA3]
  simp only [QbK,QgW,QC,BI,BQ,Qi,Bb,BE,Dx,BG,XI]
 ·intro k hk ih y7 y8 h1 h2
  rw [QA3]
  have hx:=Bg.1 he _ (BA hk)
  simp only [Bc] at hx
  obtain ⟨c1,c2,c3⟩:=hx
  have c4: ∀ v,Qr y8 [v] 8=true:=fun v=>Q7 (by omega) (by simp only [Bh];omega)
  have c5: ∀ v,Qr y7 [v] 16=true:=fun v=>Q7 (by omega) (by simp only [Bh];omega)
  simp only [QbK,QC,QS,hk,Bu,Qe,Bb,QU (show k<4611686018427387904 by omega),QX (y:=Qh) hk,c4,c5]
  refine brY c1 (brY c2 (brY c3 ?_))
  rw [ih _ _ (by simp only [Bj,Bh];omega) (by simp only [Bj,Bh];omega),ih _ _ (by simp only [Bj,Bh];omega) (by omega)]
  simp only [QgW,Bb,Bi hk,BJ,XI,Gg,QbH,BF,BD]
  show br (ine (Zn (Zq y2 x23[k]).1 (Zq y2 x23[k]).2.1 x1).2 0) _ _=_
  cases ine (Zn (Zq y2 x23[k]).1 (Zq y2 x23[k]).2.1 x1).2 0<;>rfl
theorem QQl:LO QoT QoR QA1 0:=QN (s:=QgU) fun x y h _ q=>by simp only [QJ,QK] at q;exact (QQk x.1 x.2.2.2.2.1 x.2.2.2.2.2.1 x.2.2.2.2.2.2.1 y.1 y.2.1 y.2.2.1 h).trans q
theorem s_f32 (e:Estate)(d:Int)(h:Zy e d=true):r_f32 e d=some (.tu [.t (.sl Qh) (ZU e d).1,.t (.sl tI) (ZU e d).2.1,.t tI (ZU e d).2.2],[]):=by
 have hl:Ja e=true:=h
 simp only [r_f32,hl,Qe,VF,BO,Bt,Bx]
 unfold ZU Ww
 rw [Ic,show ige d 0= !ilt d 0 by simp only [ige,ilt, ← decide_not,Int.not_lt,ge_iff_le]]
 cases he:Zc e with
 |false=>rfl
 |true=>
  obtain ⟨h1,h2,h3⟩:=QbI hl he
  have h4:=QAY hl he
  have h5:=IA he
  rw [BC,Qi]
  cases ilt d 0 with
  |true=>rfl
  |false=>
   cases igt d 40000 with
   |true=>rfl
   |false=>
    rw [Qi,Qi]
    refine brY ?_ rfl
    simp only [Bc]
    exact ⟨Jy (by show (Jg e).length<=_;omega),h4,Bd ⟨B3 _,B3 _⟩⟩
def QA4:Ent:=Qq (.pr QF (.pr tI .nil)) (fun x=>(Zy x.1 x.2.1)) (fun x=>(.tu [(.t (.sl Qh) ((ZU x.1 x.2.1).1)),(.t (.sl tI) (((ZU x.1 x.2.1).2).1)),(.t tI (((ZU x.1 x.2.1).2).2))]))
theorem ms_f32:EM 32 QA4:=mS (lk:=lkL (lkc QQl lkn)) QoT QA0 [((.t 4),some (.sl Qh)),((.t 5),some (.sl tI)),((.t 6),some tI)] false (gB (gD QjZ (gD QzA gN))) fun m=>Qu m fun x hok=>kT (s_f32 x.1 x.2.1 hok)
end
end Go.Proofs.YtckcgijklnloiaaGreat.K
noncomputable section
namespace Go.Proofs.YtckcgijklnloiaaGreat.K
open Go.RowKit
noncomputable section
def Xh (u:Qb)(a:Int):Bool:=ieq u.1 a
def tc_f52:TC:=aF Tryz.f52 []
def g_f52:G:=gG 8 [] (fun _ _=>none)
def r_f52 (p0:Qb)(d0:Int):OV:=some (.t .bool (ieq p0.1 d0),[.box (.t tI d0)])
theorem s_f52 (u:Qb)(a:Int):r_f52 u a=some (.t .bool (Xh u a),[.box (.t tI a)]):=by
 simp only [r_f52]
 rfl
def QBi:Ent:=W8 [.ty Qh,.ptr 50000 0] [tI] (fun x d=>true) (fun x d=>(.t .bool (Xh x.1 d.1)))
theorem ms_f52:EM 52 QBi:=mS g_f52 tc_f52 [((.t 3),some .bool)] false (gB gN) fun m=>UA (YQ m fun x d _=>kT (s_f52 x.1 d.1))
def UG (l:List Qb)(_a:Int):Bool:=decide (l.length<=100000)
theorem QQD {l:List Qb}{a:Int}(h:UG l a=true):l.length<=100000:=Bv h
def OU (l:List Qb)(d0:Int):Int:=match Qx (fun c=>Xh c d0) l with|some k=>(k:Int)|none=> -1
abbrev Qg9:Sh:=⟨[(0,.ty (.sl Qh)),(1,.fn 52 [(50000,0)]),(7,.ty tI),(8,.ty tI)],[(50000,.box tI)]⟩
abbrev QBj:Sh:=⟨[(4,.ty tI)],[(50000,.box tI)]⟩
abbrev QBk:Sh:=⟨[],[(50000,.box tI)]⟩
def Qo4:Fg:=Qg9.f
def QBl:TC:=aF Tryz.f86 [(26,pL 0 Qo4),(421,.fg QBk.f),(13517,.fg QBj.f)]
def QBm:TC:=lb 0 QBl
def QBn (x0:List Qb)(x7 x8 Qa:Int):VS:=Qg9.st (x0,(),x7,x8,()) (Qa,())
def Qo5 (x4 Qa:Int):VS:=QBj.st (x4,()) (Qa,())
def Qo6 (Qa:Int):VS:=QBk.st () (Qa,())
def QQE:VS->Option (Bool×List (Bool×Exit×VS)):=mkL Qg9 (fun x y=>(Qz x.1 x.2.2.1 x.2.2.2.1&&UG x.1 y.1)) (fun x y=>[(((Qx (fun c=>Xh c y.1) (x.1.drop x.2.2.2.1.toNat)).isSome),.ret,Qo5 (x.2.2.2.1+((Qx (fun c=>Xh c y.1) (x.1.drop x.2.2.2.1.toNat)).getD 0:Nat)) (y.1)),(true,.exit 0,Qo6 (y.1))])
def Qo7:G:=gG 19 [(52,QBi)] (Ls [QQE])
def Qha (x0:List Qb)(x7 x8 Qa:Int):OX:=QB (QD Qo7 Qo4 QBm) (QBn x0 x7 x8 Qa)
def QbR (kk:List Qb->Int->Int->Int->OX)(x0:List Qb)(x7 x8 Qa:Int):OX:=br (ilt x8 x7) (br (cIx x0 x8) (br (Xh (lgt Qh x0 (Int.toNat x8)) Qa) (some (.ret,Qo5 x8 Qa)) (kk x0 x7 (Qk .i64 x8 1) Qa)) none) (some (.exit 0,Qo6 Qa))
def Qhb (x0:List Qb)(x7 x8 Qa:Int):OX:=br ((Qx (fun c=>Xh c Qa) (x0.drop x8.toNat)).isSome) (some (.ret,Qo5 (x8+((Qx (fun c=>Xh c Qa) (x0.drop x8.toNat)).getD 0:Nat)) (Qa)))<|some (.exit 0,Qo6 (Qa))
theorem QBo (x0:List Qb)(x7 x8 Qa:Int):Qha x0 x7 x8 Qa=QbR Qha x0 x7 x8 Qa:=lnT (x:=QbR (fun x0 x7 x8 Qa=>some (.normal,QBn x0 x7 x8 Qa)) x0 x7 x8 Qa) (by simp only [QbR,nxA];rfl)
def QBp (p0:List Qb)(d0:Int):OV:=
 let a1:=(p0.drop (0:Int).toNat)
 br (Qz p0 (Qc p0) (0:Int)&&UG p0 d0) (br ((Qx (fun c=>Xh c d0) a1).isSome) (some (.t tI ((0:Int)+((Qx (fun c=>Xh c d0) a1).getD 0:Nat)),[.box (.t tI (d0))])) (some (.t tI (-1),[.box (.t tI (d0))]))) none
theorem QQF (x0:List Qb)(x7 x8 Qa:Int)(h:(Qz x0 x7 x8&&UG x0 Qa)=true):Qha x0 x7 x8 Qa=Qhb x0 x7 x8 Qa:=by
 simp only [Bc] at h
 obtain ⟨h0,hc⟩:=h
 obtain ⟨rfl,h3,k,rfl,hk⟩:=Js h0
 clear h0
 refine QW x0 (fun k=>Qha x0 (x0.length:Int) (k:Int) Qa=Qhb x0 (x0.length:Int) (k:Int) Qa) ?_ ?_ k hk
 ·rw [QBo]
  simp [QbR,Qhb,QC,Qi,Qx]
 ·intro k hk ih
  rw [QBo]
  simp only [QbR,QC,QS,hk,Bu,Qe,Bb,QU (show k<4611686018427387904 by omega),ih,QX (y:=Qh) hk]
  simp only [Qhb,Bb,Bi hk,Qx]
  cases h:(Xh x0[k] Qa) with
  |true=>simp [Qe]
  |false=>
   simp only [Qi,BW,Ds]
   cases hq:Qx (fun c=>Xh c Qa) (x0.drop (k+1)) with
   |none=>rfl
   |some j=>
    simp only [B6,B1,BK,Qe]
    congr 3
    omega
theorem QQG:LO Qo7 Qo4 QBm 0:=QN (s:=Qg9) fun x y h _ q=>by simp only [QJ,QK] at q;exact (QQF x.1 x.2.2.1 x.2.2.2.1 y.1 h).trans q
theorem QQH (l:List Qb)(d0:Int)(h:UG l d0=true):QBp l d0=some (.t tI (OU l d0),[.box (.t tI d0)]):=by
 have hl:=QQD h
 simp only [QBp,Jy hl,h,BX,Qe,Bt,Bx,OU]
 cases Qx (fun c=>Xh c d0) l<;>simp [Qe,Qi]
def QBq:Ent:=W8 [.ty (.sl Qh),.fn 52 [(50000,0)]] [tI] (fun x d=>(UG x.1 d.1)) (fun x d=>(.t tI (OU x.1 d.1)))
theorem QQI:EM 86 QBq:=mS (lk:=lkL (lkc QQG lkn)) Qo7 QBl [((.t 4),some tI)] false (gB (gD ms_f52 gN)) fun m=>UA (YQ m fun x d hok=>kT (QQH x.1 d.1 hok))
def Wl (l:List Qb)(d0:Int):Bool:=l.any (fun c=>Xh c d0)
def QQJ:TC:=aF Tryz.f51 []
def QQK:G:=gG 9 [(86,QBq)] (fun _ _=>none)
def QBr (p0:List Qb)(d0:Int):OV:=br (UG p0 d0) (some (.t .bool (ige (OU p0 d0) 0),[.box (.t tI d0)])) none
theorem QQL (l:List Qb)(d0:Int)(h:UG l d0=true):QBr l d0=some (.t .bool (Wl l d0),[.box (.t tI d0)]):=by
 simp only [QBr,h,Qe]
 have e:ige (OU l d0) 0=Wl l d0:=by
  unfold OU Wl
  cases hq:Qx (fun c=>Xh c d0) l with
  |none=>rw [Gf.1 hq];rfl
  |some k=>
   rw [←FE,hq]
   simp only [ige,B1,Ba]
   omega
 rw [e]
def QBs:Ent:=W8 [.ty (.sl Qh),.fn 52 [(50000,0)]] [tI] (fun x d=>(UG x.1 d.1)) (fun x d=>(.t .bool (Wl x.1 d.1)))
theorem QQM:EM 51 QBs:=mS QQK QQJ [((.t 4),some .bool)] false (gB (gD QQI gN)) fun m=>UA (YQ m fun x d hok=>kT (QQL x.1 d.1 hok))
def Xi (o:Qb)(s:Endpoint)(a:Int):Bool:= !Wl (Zo s o).1 a
def Qhc (_o:Qb)(s:Endpoint)(_a:Int):Bool:=Q2 s
theorem QBt (s:Endpoint)(o:Qb):(Zo s o).1.length<=4:=by
 unfold Zo
 cases Q3 s with
 |false=>exact B2 _
 |true=>
  cases ine (Q4 o.2.1).2 0 with
  |true=>exact B2 _
  |false=>
   cases (Je s o.2.1).2 with
   |false=>exact B2 _
   |true=>exact BS 4
def tc_f49:TC:=aF Tryz.f49 []
def g_f49:G:=gG 17 [(50,QzC),(51,QBs)] (fun _ _=>none)
def r_f49 (p0:Qb)(d0:Endpoint)(d1:Int):OV:=br (FB d0 p0) (br (UG ((Zo d0 p0).1) d1) (some (.t .bool (!(Wl ((Zo d0 p0).1) d1)),[.box (.t Qj d0),.box (.t tI d1)])) none) none
theorem s_f49 (o:Qb)(s:Endpoint)(a:Int)(h:Qhc o s a=true):r_f49 o s a=some (.t .bool (Xi o s a),[.box (.t Qj s),.box (.t tI a)]):=by
 have h:Q2 s=true:=h
 have hu:=QBt s o
 simp only [r_f49,show FB s o=true from h,show UG (Zo s o).1 a=true from Bd (by omega),Qe]
 rfl
def QBu:Ent:=W8 [.ty Qh,.ptr 50000 0,.ptr 50001 0] [Qj,tI] (fun x d=>(Qhc x.1 d.1 d.2.1)) (fun x d=>(.t .bool (Xi x.1 d.1 d.2.1)))
theorem ms_f49:EM 49 QBu:=mS g_f49 tc_f49 [((.t 4),some .bool)] false (gB (gD ms_f50 (gD QQM gN))) fun m=>UA (YQ m fun x d hok=>kT (s_f49 x.1 d.1 d.2.1 hok))
def Uo (l:List Qb)(s:Endpoint)(_a:Int):Bool:=Q2 s&&decide (l.length<=100000)
theorem QQN {l:List Qb}{s:Endpoint}{a:Int}(h:Uo l s a=true):l.length<=100000:=Bv (Bf.1 h).2
def OW (l:List Qb)(d0:Endpoint)(d1:Int):Int:=match Qx (fun c=>Xi c d0 d1) l with|some k=>(k:Int)|none=> -1
abbrev Qhd:Sh:=⟨[(0,.ty (.sl Qh)),(1,.fn 49 [(50000,0),(50001,0)]),(7,.ty tI),(8,.ty tI)],[(50000,.box Qj),(50001,.box tI)]⟩
abbrev QBv:Sh:=⟨[(4,.ty tI)],[(50000,.box Qj),(50001,.box tI)]⟩
abbrev QBw:Sh:=⟨[],[(50000,.box Qj),(50001,.box tI)]⟩
def Qo8:Fg:=Qhd.f
def QBx:TC:=aF Tryz.f87 [(26,pL 0 Qo8),(421,.fg QBw.f),(13517,.fg QBv.f)]
def QBy:TC:=lb 0 QBx
def QBz (x0:List Qb)(x7 x8:Int)(Qa:Endpoint)(Q6:Int):VS:=Qhd.st (x0,(),x7,x8,()) (Qa,Q6,())
def Qo9 (x4:Int)(Qa:Endpoint)(Q6:Int):VS:=QBv.st (x4,()) (Qa,Q6,())
def Qpa (Qa:Endpoint)(Q6:Int):VS:=QBw.st () (Qa,Q6,())
def QQO:VS->Option (Bool×List (Bool×Exit×VS)):=mkL Qhd (fun x y=>(Qz x.1 x.2.2.1 x.2.2.2.1&&Uo x.1 y.1 y.2.1)) (fun x y=>[(((Qx (fun c=>Xi c y.1 y.2.1) (x.1.drop x.2.2.2.1.toNat)).isSome),.ret,Qo9 (x.2.2.2.1+((Qx (fun c=>Xi c y.1 y.2.1) (x.1.drop x.2.2.2.1.toNat)).getD 0:Nat)) (y.1) (y.2.1)),(true,.exit 0,Qpa (y.1) (y.2.1))])
def Qpb:G:=gG 19 [(49,QBu)] (Ls [QQO])
def Qhe (x0:List Qb)(x7 x8:Int)(Qa:Endpoint)(Q6:Int):OX:=QB (QD Qpb Qo8 QBy) (QBz x0 x7 x8 Qa Q6)
def QbS (kk:List Qb->Int->Int->Endpoint->Int->OX)(x0:List Qb)(x7 x8:Int)(Qa:Endpoint)(Q6:Int):OX:=
 let a1:=lgt Qh x0 (Int.toNat x8)
 br (ilt x8 x7) (br (cIx x0 x8) (br (Qhc a1 Qa Q6) (br (Xi a1 Qa Q6) (some (.ret,Qo9 x8 Qa Q6)) (kk x0 x7 (Qk .i64 x8 1) Qa Q6)) none) none) (some (.exit 0,Qpa Qa Q6))
def Qhf (x0:List Qb)(x7 x8:Int)(Qa:Endpoint)(Q6:Int):OX:=br ((Qx (fun c=>Xi c Qa Q6) (x0.drop x8.toNat)).isSome) (some (.ret,Qo9 (x8+((Qx (fun c=>Xi c Qa Q6) (x0.drop x8.toNat)).getD 0:Nat)) (Qa) (Q6)))<|some (.exit 0,Qpa (Qa) (Q6))
theorem QBA (x0:List Qb)(x7 x8:Int)(Qa:Endpoint)(Q6:Int):Qhe x0 x7 x8 Qa Q6=QbS Qhe x0 x7 x8 Qa Q6:=lnT (x:=QbS (fun x0 x7 x8 Qa Q6=>some (.normal,QBz x0 x7 x8 Qa Q6)) x0 x7 x8 Qa Q6) (by simp only [QbS,nxA];rfl)
def QBB (p0:List Qb)(d0:Endpoint)(d1:Int):OV:=
 let a1:=(p0.drop (0:Int).toNat)
 br (Qz p0 (Qc p0) (0:Int)&&Uo p0 d0 d1) (br ((Qx (fun c=>Xi c d0 d1) a1).isSome) (some (.t tI ((0:Int)+((Qx (fun c=>Xi c d0 d1) a1).getD 0:Nat)),[.box (.t Qj (d0)),.box (.t tI (d1))])) (some (.t tI (-1),[.box (.t Qj (d0)),.box (.t tI (d1))]))) none
theorem QQP (x0:List Qb)(x7 x8:Int)(Qa:Endpoint)(Q6:Int)(h:(Qz x0 x7 x8&&Uo x0 Qa Q6)=true):Qhe x0 x7 x8 Qa Q6=Qhf x0 x7 x8 Qa Q6:=by
 simp only [Bc] at h
 obtain ⟨h0,hc⟩:=h
 obtain ⟨rfl,h3,k,rfl,hk⟩:=Js h0
 clear h0
 refine QW x0 (fun k=>Qhe x0 (x0.length:Int) (k:Int) Qa Q6=Qhf x0 (x0.length:Int) (k:Int) Qa Q6) ?_ ?_ k hk
 ·rw [QBA]
  simp [QbS,Qhf,QC,Qi,Qx]
 ·intro k hk ih
  rw [QBA]
  have hx:Qhc x0[k] Qa Q6=true:=(Bf.1 hc).1
  simp only [QbS,QC,QS,hk,Bu,Qe,Bb,QU (show k<4611686018427387904 by omega),ih,QX (y:=Qh) hk,hx]
  simp only [Qhf,Bb,Bi hk,Qx]
  cases h:(Xi x0[k] Qa Q6) with
  |true=>simp [Qe]
  |false=>
   simp only [Qi,BW,Ds]
   cases hq:Qx (fun c=>Xi c Qa Q6) (x0.drop (k+1)) with
   |none=>rfl
   |some j=>
    simp only [B6,B1,BK,Qe]
    congr 3
    omega
theorem QQQ:LO Qpb Qo8 QBy 0:=QN (s:=Qhd) fun x y h _ q=>by simp only [QJ,QK] at q;exact (QQP x.1 x.2.2.1 x.2.2.2.1 y.1 y.2.1 h).trans q
theorem QQR (l:List Qb)(d0:Endpoint)(d1:Int)(h:Uo l d0 d1=true):QBB l d0 d1=some (.t tI (OW l d0 d1),[.box (.t Qj d0),.box (.t tI d1)]):=by
 have hl:=QQN h
 simp only [QBB,Jy hl,h,BX,Qe,Bt,Bx,OW]
 cases Qx (fun c=>Xi c d0 d1) l<;>simp [Qe,Qi]
def QBC:Ent:=W8 [.ty (.sl Qh),.fn 49 [(50000,0),(50001,0)]] [Qj,tI] (fun x d=>(Uo x.1 d.1 d.2.1)) (fun x d=>(.t tI (OW x.1 d.1 d.2.1)))
theorem QQS:EM 87 QBC:=mS (lk:=lkL (lkc QQQ lkn)) Qpb QBx [((.t 4),some tI)] false (gB (gD ms_f49 gN)) fun m=>UA (YQ m fun x d hok=>kT (QQR x.1 d.1 d.2.1 hok))
def Xj (l:List Qb)(d0:Endpoint)(d1:Int):Bool:=l.any (fun c=>Xi c d0 d1)
def QQT:TC:=aF Tryz.f53 []
def QQU:G:=gG 9 [(87,QBC)] (fun _ _=>none)
def QBD (p0:List Qb)(d0:Endpoint)(d1:Int):OV:=br (Uo p0 d0 d1) (some (.t .bool (ige (OW p0 d0 d1) 0),[.box (.t Qj d0),.box (.t tI d1)])) none
theorem QQV (l:List Qb)(d0:Endpoint)(d1:Int)(h:Uo l d0 d1=true):QBD l d0 d1=some (.t .bool (Xj l d0 d1),[.box (.t Qj d0),.box (.t tI d1)]):=by
 simp only [QBD,h,Qe]
 have e:ige (OW l d0 d1) 0=Xj l d0 d1:=by
  unfold OW Xj
  cases hq:Qx (fun c=>Xi c d0 d1) l with
  |none=>rw [Gf.1 hq];rfl
  |some k=>
   rw [←FE,hq]
   simp only [ige,B1,Ba]
   omega
 rw [e]
def QBE:Ent:=W8 [.ty (.sl Qh),.fn 49 [(50000,0),(50001,0)]] [Qj,tI] (fun x d=>(Uo x.1 d.1 d.2.1)) (fun x d=>(.t .bool (Xj x.1 d.1 d.2.1)))
theorem QQW:EM 53 QBE:=mS QQU QQT [((.t 4),some .bool)] false (gB (gD QQS gN)) fun m=>UA (YQ m fun x d hok=>kT (QQV x.1 d.1 d.2.1 hok))
def XJ (a:Int):List FH->Int->List Int
 | [],_=>[]
 |z::r,k=>bif Xj (Zg z.1 z.2.1) z.2.1 a then XJ a r (k+1) else k::XJ a r (k+1)
def Xk (e:Estate)(a:Int):List Int×Int:=
 bif !Zc e then ([],31) else bif ilt a 1||igt a 22 then ([],7) else (XJ a (YC e) 0,0)
abbrev Qhg:Sh:=⟨[(3,.ptr 60000 0),(6,.ptr 60001 0),(7,.ptr 60002 0)],[(60000,.box tI),(60001,.bag [.ms 20600]),(60002,.bag [.ty tI]),(36,.no),(20600,.arr 3 tI)]⟩
def FK:Fg:=Qhg.f
def Qhh:TC:=(.sq (.reg (rT Tryz.f18 8)) (.reg (rT Tryz.f18 9)))
def Qhi:TC:=(.bk 2 (.sq (.reg (rT Tryz.f18 10)) (.sq (.sq (.reg (rT Tryz.f18 11)) (.cd (.t 32) (.reg (rT Tryz.f18 12)) .sk)) (.reg (rT Tryz.f18 13)))))
def tc_f18:TC:=(.sq (.reg (rT Tryz.f18 0)) (.sq (.bk 0 (.sq (.reg (rT Tryz.f18 1)) (.cd (.t 11) (.sq (.reg (rT Tryz.f18 2)) .rt) (.sq (.reg (rT Tryz.f18 3)) (.cd (.t 15) (.sq (.reg (rT Tryz.f18 4)) .rt) .sk))))) (.sq (.reg (rT Tryz.f18 5)) (.sq (.reg (rT Tryz.f18 6)) (.sq (.sq (.reg (rT Tryz.f18 7)) (.bk 1 (.nf 6 0 3 20600 (.rf 0 FK (.t 23) (.pr Qj (.pr Qj .nil)) [24,25] [3,6,7] Qhh Qhi)))) (.sq (.reg (rT Tryz.f18 14)) .rt))))))
def ER (Jb JP:Int)(Zs:List Int):VS:=Qhg.st ((),(),(),()) (Jb,((),()),(JP,()),(),Zs,())
def Qhj:VS->List (Ty.T (.pr Qj (.pr Qj .nil)))->Option (Bool×List (Bool×Exit×VS)):=mkR Qhg (fun zs x y=>(UF zs&&decide (0<=y.2.2.1.1/\y.2.2.1.1+zs.length<=1000/\y.2.2.2.2.1.length<=y.2.2.1.1))) (fun zs x y=>[(true,.normal,ER (y.1) (y.2.2.1.1+zs.length) (y.2.2.2.2.1++XJ y.1 zs y.2.2.1.1))])
def OY:G:=⟨TYs,[],40,EL [(39,QjO),(41,Qlb),(53,QBE),(54,QlL)],YD,(Ls [fun _=>none]),IL [(81,Iz)],(RL [⟨(.pr Qj (.pr Qj .nil)),Qhj⟩])⟩
def QBF (z:(Endpoint×(Endpoint×Unit)))(Jb JP:Int)(Zs:List Int):OX:=br (ZH z.1 z.2.1) (br (Uo (Zg z.1 z.2.1) z.2.1 Jb) (br (!(Xj (Zg z.1 z.2.1) z.2.1 Jb)) (br (Qr Zs ([JP]) 8) (some (.normal,ER Jb (Qk .i64 JP 1) (Zs++([JP])))) none) (some (.normal,ER Jb (Qk .i64 JP 1) Zs))) none) none
def QbT (zs:List (Endpoint×(Endpoint×Unit)))(Jb JP:Int)(Zs:List Int):OX:=Xt (Ws OY FK (.pr Qj (.pr Qj .nil)) [24,25] Qhh Qhi) zs (ER Jb JP Zs)
def Qpc (z:(Endpoint×(Endpoint×Unit)))(zs:List (Endpoint×(Endpoint×Unit)))(Jb JP:Int)(Zs:List Int):OX:=br (ZH z.1 z.2.1) (br (Uo (Zg z.1 z.2.1) z.2.1 Jb) (br (!(Xj (Zg z.1 z.2.1) z.2.1 Jb)) (br (Qr Zs ([JP]) 8) (QbT zs Jb (Qk .i64 JP 1) (Zs++([JP]))) none) (QbT zs Jb (Qk .i64 JP 1) Zs)) none) none
def Qpd (zs:List (Endpoint×(Endpoint×Unit)))(Jb JP:Int)(Zs:List Int):OX:=some (.normal,ER (Jb) (JP+zs.length) (Zs++XJ Jb zs JP))
theorem QQX (z:(Endpoint×(Endpoint×Unit)))(Jb JP:Int)(Zs:List Int):Ws OY FK (.pr Qj (.pr Qj .nil)) [24,25] Qhh Qhi z (ER Jb JP Zs)=QBF z Jb JP Zs:=by kernel_rfl
theorem QQY (Jb:Int)(JP:Int)(Zs:(List Int)):QbT [] Jb JP Zs=some (.normal,ER Jb JP Zs):=rfl
theorem QQZ (z:(Endpoint×(Endpoint×Unit)))(zs:List (Endpoint×(Endpoint×Unit)))(Jb JP:Int)(Zs:List Int):QbT (z::zs) Jb JP Zs=Qpc z zs Jb JP Zs:=(QmL _ _ _ _).trans (by
 rw [QQX]
 simp only [QBF,Qpc,Xy,X7,X8,X9,Wa]
 rfl)
def r_f18 (p0:Estate)(p1:Int):OV:=br (Ja p0) (br (ine (YM p0) 0) (some (.tu [(.t (.sl tI) ([]:List Int)),(.t tI 31)],[])) (br (ilt p1 1) (some (.tu [(.t (.sl tI) ([]:List Int)),(.t tI 7)],[])) (br (igt p1 22) (some (.tu [(.t (.sl tI) ([]:List Int)),(.t tI 7)],[])) (br (Em p0) (br (UF (YC p0)&&decide (0<=(0:Int)/\(0:Int)+(YC p0).length<=1000/\([]:List Int).length<=(0:Int))) (some (.tu [(.t (.sl tI) (([]:List Int)++XJ p1 (YC p0) (0:Int))),(.t tI 0)],[])) none) none)))) none
theorem QQ0 (zs:List (Endpoint×(Endpoint×Unit)))(Jb JP:Int)(Zs:List Int)(h:(UF zs&&decide (0<=JP/\JP+zs.length<=1000/\Zs.length<=JP))=true):QbT zs Jb JP Zs=Qpd zs Jb JP Zs:=by
 simp only [Bc,Ba] at h
 obtain ⟨hr,h0,h1,h2⟩:=h
 induction zs generalizing JP Zs with
 |nil=>
  rw [QQY]
  simp only [Qpd,Bw,BG,XJ,Int.natCast_zero,Int.add_zero]
 |cons z zs ih=>
  simp only [UF,BV,Bc] at hr
  simp only [Bp] at h1
  rw [QQZ]
  have c1:ZH z.1 z.2.1=true:=hr.1
  have hl:=Qh5 (c:=z.1) (s:=z.2.1)
  have c2:Uo (Zg z.1 z.2.1) z.2.1 Jb=true:=Bf.2 ⟨(Bf.1 hr.1).2,Bd (by omega)⟩
  have c3:Qr Zs [JP] 8=true:=Q7 (by omega) (by simp only [Bh];omega)
  have e1:Qk .i64 JP 1=JP+1:=JK (by omega)
  simp only [Qpc,c1,c2,c3,e1,Qe]
  rw [ih _ _ hr.2 (by omega) (by omega) (by simp only [Bj,Bh];omega),ih _ _ hr.2 (by omega) (by omega) (by omega)]
  simp only [Qpd,XJ,BF,BD,Bp,Int.natCast_add,Int.natCast_one,show JP+((zs.length:Int)+1)=JP+1+zs.length by omega]
  cases Xj (Zg z.1 z.2.1) z.2.1 Jb<;>rfl
theorem QQ1: ∀ S (rows:List (Ty.T (.pr Qj (.pr Qj .nil)))) l p,OY.R 0 (fgt FK S) (.pr Qj (.pr Qj .nil)) rows=some (true,l)->Yz l=some p->Xt (Ws OY FK (.pr Qj (.pr Qj .nil)) [24,25] Qhh Qhi) rows (fgt FK S)=some p:=by
 intro S rows l p hR hp
 rw [show OY.R 0 (fgt FK S) (.pr Qj (.pr Qj .nil)) rows=Qhj (fgt FK S) rows from QmK (l:=[⟨(.pr Qj (.pr Qj .nil)),Qhj⟩]) (j:=0) (F:=Qhj) rfl _ _] at hR
 refine QmJ (s:=Qhg) ⟨by decide,by decide⟩ (by kernel_rfl) (fun zs x y hok p hp=> ?_) S rows l p hR hp
 simp only [QJ,QK] at hp
 exact (QQ0 zs y.1 y.2.2.1.1 y.2.2.2.2.1 (by first|rfl|simpa using hok)).trans hp
theorem s_f18 (e:Estate)(a:Int)(h:Zy e a=true):r_f18 e a=some (.tu [.t (.sl tI) (Xk e a).1,.t tI (Xk e a).2],[]):=by
 have hl:Ja e=true:=h
 simp only [r_f18,hl,Qe,VF,BO,Bw]
 unfold Xk
 cases he:Zc e with
 |false=>rfl
 |true=>
  obtain ⟨h1,h2,h3⟩:=QbI hl he
  rw [BC,Qi]
  cases ilt a 1 with
  |true=>rfl
  |false=>
   cases igt a 22 with
   |true=>rfl
   |false=>
    rw [Qi,Qi,h1,Qe,h2,BB]
    exact brY (Bd ⟨B3 _,by omega,B3 _⟩) rfl
def Qpe:Ent:=Qq (.pr QF (.pr tI .nil)) (fun x=>(Zy x.1 x.2.1)) (fun x=>(.tu [(.t (.sl tI) ((Xk x.1 x.2.1).1)),(.t tI ((Xk x.1 x.2.1).2))]))
theorem QBG:EM 18 Qpe:=mS (lk:=(by repeat first|exact trivial|exact QQ1|constructor)) OY tc_f18 [((.t 4),some (.sl tI)),((.t 5),some tI)] false (Zz _ (gA (gD Qsz (gD Qur (gD QQW (gD Qvr gN)))))
 [(81,Iz)] (by
 intro p hp
 simp only [BT,B0,Dn] at hp
 rcases hp with rfl
 ·exact Qut)) fun m=>Qu m fun x hok=>kT (s_f18 x.1 x.2.1 hok)
def QbU (s:Endpoint)(o:Qb)(a:Int):Bool:=Wl (Zo s o).1 a
def Qhk (s:Endpoint)(_o:Qb)(_a:Int):Bool:=Q2 s
theorem QQ2 {s:Endpoint}{o:Qb}(h:ine (Zo s o).2 0=true):(Zo s o).1=[]:=by
 unfold Zo at h ⊢
 cases hv:Q3 s with
 |false=>rfl
 |true=>
  cases h1:ine (Q4 o.2.1).2 0 with
  |true=>rfl
  |false=>
   cases h2:(Je s o.2.1).2 with
   |false=>rfl
   |true=>
    rw [hv,h1,h2] at h
    exact absurd (show false=true from h) (by decide)
abbrev Qhl:Sh:=⟨[(2,.ty tI),(19,.ty (.sl Qh)),(20,.ty tI),(21,.ty tI)],[]⟩
abbrev QBH:Sh:=⟨[(6,.ty .bool)],[]⟩
abbrev QBI:Sh:=⟨[],[]⟩
def Qpf:Fg:=Qhl.f
def QBJ:TC:=aF Tryz.f71 [(122,pL 0 Qpf),(1957,.fg QBI.f),(62669,.fg QBH.f)]
def QBK:TC:=lb 0 QBJ
def QBL (x2:Int)(x19:List Qb)(x20 x21:Int):VS:=Qhl.st (x2,x19,x20,x21,()) ()
def Qpg (x6:Bool):VS:=QBH.st (x6,()) ()
def Qph  : VS:=QBI.st () ()
def QQ3:VS->Option (Bool×List (Bool×Exit×VS)):=mkL Qhl (fun x y=>(Qz x.2.1 x.2.2.1 x.2.2.2.1)) (fun x y=>[((Wl (x.2.1.drop x.2.2.2.1.toNat) x.1),.ret,Qpg (true)),(true,.exit 0,Qph)])
def Qpi:G:=gG 30 [(111,QzE)] (Ls [QQ3])
def Qhm (x2:Int)(x19:List Qb)(x20 x21:Int):OX:=QB (QD Qpi Qpf QBK) (QBL x2 x19 x20 x21)
def QbV (kk:Int->List Qb->Int->Int->OX)(x2:Int)(x19:List Qb)(x20 x21:Int):OX:=br (ilt x21 x20) (br (cIx x19 x21) (br (ieq ((lgt Qh x19 (Int.toNat x21)).1) x2) (some (.ret,Qpg true)) (kk x2 x19 x20 (Qk .i64 x21 1))) none) (some (.exit 0,Qph))
def Qhn (x2:Int)(x19:List Qb)(x20 x21:Int):OX:=br (Wl (x19.drop x21.toNat) x2) (some (.ret,Qpg (true)))<|some (.exit 0,Qph)
theorem QBM (x2:Int)(x19:List Qb)(x20 x21:Int):Qhm x2 x19 x20 x21=QbV Qhm x2 x19 x20 x21:=lnT (x:=QbV (fun x2 x19 x20 x21=>some (.normal,QBL x2 x19 x20 x21)) x2 x19 x20 x21) (by simp only [QbV,nxA];rfl)
def r_f71 (p0:Endpoint)(p1:Qb)(p2:Int):OV:=
 let a1:=((Zo p0 p1).1)
 br (FB p0 p1) (br (ine ((Zo p0 p1).2) 0) (some (.t .bool false,[])) (br (Qz a1 (Qc a1) (0:Int)) (br (Wl (a1.drop (0:Int).toNat) p2) (some (.t .bool (true),[])) (some (.t .bool false,[]))) none)) none
theorem QQ4 (x2:Int)(x19:List Qb)(x20 x21:Int)(h:(Qz x19 x20 x21)=true):Qhm x2 x19 x20 x21=Qhn x2 x19 x20 x21:=by
 obtain ⟨rfl,h3,k,rfl,hk⟩:=Js h
 clear h
 refine QW x19 (fun k=>Qhm x2 x19 (x19.length:Int) (k:Int)=Qhn x2 x19 (x19.length:Int) (k:Int)) ?_ ?_ k hk
 ·rw [QBM]
  simp only [QbV,Qhn,QC,BI,BQ,Qi,Bb,BE,Wl,List.any_nil]
 ·intro k hk ih
  rw [QBM]
  simp only [QbV,QC,QS,hk,Bu,Qe,Bb,QU (show k<4611686018427387904 by omega),ih,QX (y:=Qh) hk]
  simp only [Qhn,Bb,Bi hk,Wl,List.any_cons,Xh]
  cases ieq x19[k].1 x2<;>rfl
theorem QQ5:LO Qpi Qpf QBK 0:=QN (s:=Qhl) fun x y h _ q=>by simp only [QJ,QK] at q;exact (QQ4 x.1 x.2.1 x.2.2.1 x.2.2.2.1 h).trans q
theorem s_f71 (s:Endpoint)(o:Qb)(a:Int)(h:Qhk s o a=true):r_f71 s o a=some (.t .bool (QbU s o a),[]):=by
 have h:Q2 s=true:=h
 have hu:=QBt s o
 simp only [r_f71,show FB s o=true from h,Jy (show (Zo s o).1.length<=100000 by omega),Qe,Bt,Bx]
 unfold QbU
 cases he:ine (Zo s o).2 0 with
 |true=>rw [QQ2 he];rfl
 |false=>
  rw [Qi]
  cases Wl (Zo s o).1 a<;>rfl
def QBN:Ent:=Qq (.pr Qj (.pr Qh (.pr tI .nil))) (fun x=>(Qhk x.1 x.2.1 x.2.2.1)) (fun x=>(.t .bool (QbU x.1 x.2.1 x.2.2.1)))
theorem ms_f71:EM 71 QBN:=mS (lk:=lkL (lkc QQ5 lkn)) Qpi QBJ [((.t 6),some .bool)] false (gB (gD QO9 gN)) fun m=>Qu m fun x hok=>kT (s_f71 x.1 x.2.1 x.2.2.1 hok)
theorem QQ6 (a:Int):ieq (ZM a) 0=(ilt a 1||igt a 22):=by
 by_cases h1:a<1
 ·rw [show ilt a 1=true from Bd h1,Bool.true_or,show ZM a=0 by simp [ZM,ofF,h1,ET]]
  rfl
 ·by_cases h2:22<a
  ·rw [show igt a 22=true from Bd h2,Bool.or_true,show ZM a=0 by simp [ZM,ofF,h2,ET]]
   rfl
  ·rw [show ilt a 1=false from Bn h1,show igt a 22=false from Bn h2]
   obtain ⟨k,rfl⟩:=Bm (show 0<=a by omega)
   have hk:k<23:=by omega
   have hall:((List.range 23).all fun k=>decide (k=0)|| !ieq (ZM (k:Int)) 0)=true:=by kernel_rfl
   have:=Bg.1 hall k (Dg.2 hk)
   rw [Bn (show ¬ k=0 by omega),Di,By] at this
   exact this
abbrev Qho:Sh:=⟨[(1,.ty tI),(2,.ptr 2 0),(6,.ms 6),(7,.ty tI),(10,.ptr 10 0),(11,.ty .bool),(21,.ty (.sl Qh)),(22,.ty tI),(23,.ty tI),(42,.ty (.sl Qh)),(43,.ty tI),(44,.ty tI)],[(2,.box QF),(6,.arr 3 tI),(10,.box Qj),(62,.no)]⟩
abbrev QBO:Sh:=⟨[(1,.ty tI),(2,.ptr 2 0),(6,.ms 6),(7,.ty tI),(11,.ty .bool),(21,.ty (.sl Qh)),(22,.ty tI),(23,.ty tI)],[(2,.box QF),(6,.arr 3 tI),(62,.no)]⟩
abbrev Qhp:Sh:=⟨[(1,.ty tI),(2,.ptr 2 0),(6,.ms 6),(21,.ty (.sl Qh)),(22,.ty tI),(23,.ty tI)],[(2,.box QF),(6,.arr 3 tI),(62,.no)]⟩
abbrev QBP:Sh:=⟨[(6,.ms 6)],[(6,.arr 3 tI),(62,.no)]⟩
def Qpj:Fg:=Qho.f
def Qpk:Fg:=Qhp.f
def Qpl:TC:=aF Tryz.f34 [(250,.nw 6 3),(250,pL 1 Qpk),(4005,.fg QBP.f),(32050,pD [(0,[2]),(1,[2]),(2,[8]),(3,[8]),(4,[]),(5,[]),(6,[2]),(7,[2]),(8,[8]),(9,[8]),(10,[]),(11,[]),(12,[9,5009,10009,15009]),(13,[10,5010,10010,15010]),(14,[9]),(15,[10])] (.one 0 (.one 1 (.one 2 (.one 3 (.one 4 (.one 5 (.one 6 (.one 7 (.one 8 (.one 9 (.one 10 (.one 11 (.alt 12 (.of [13,14,15]) (.of [13,12,14,15]))))))))))))))),(512826,pL 0 Qpj),(8205221,.fg QBO.f)]
def QBQ:TC:=lb 0 Qpl
def QBR:TC:=lb 1 Qpl
def QBS (x1 x7:Int)(x11:Bool)(x21:List Qb)(x22 x23:Int)(x42:List Qb)(x43 x44:Int)(y2:Estate)(y6:List Int)(y10:Endpoint):VS:=Qho.st (x1,(),(),x7,(),x11,x21,x22,x23,x42,x43,x44,()) (y2,y6,y10,(),())
def Qpm (x1 x7:Int)(x11:Bool)(x21:List Qb)(x22 x23:Int)(y2:Estate)(y6:List Int):VS:=QBO.st (x1,(),(),x7,x11,x21,x22,x23,()) (y2,y6,(),())
def QBT (x1:Int)(x21:List Qb)(x22 x23:Int)(y2:Estate)(y6:List Int):VS:=Qhp.st (x1,(),(),x21,x22,x23,()) (y2,y6,(),())
def Qpn (y6:List Int):VS:=QBP.st ((),()) (y6,(),())
def QQ7:VS->Option (Bool×List (Bool×Exit×VS)):=mkL Qho (fun x y=>(Qz x.2.2.2.2.2.2.2.2.2.1 x.2.2.2.2.2.2.2.2.2.2.1 x.2.2.2.2.2.2.2.2.2.2.2.1&&Q2 y.2.2.1)) (fun x y=>[(true,.exit 2,Qpm (x.1) (x.2.2.2.1) (x.2.2.2.2.2.1||Xj (x.2.2.2.2.2.2.2.2.2.1.drop x.2.2.2.2.2.2.2.2.2.2.2.1.toNat) y.2.2.1 x.1) (x.2.2.2.2.2.2.1) (x.2.2.2.2.2.2.2.1) (x.2.2.2.2.2.2.2.2.1) (y.1) (y.2.1))])
def QQ8:VS->Option (Bool×List (Bool×Exit×VS)):=mkL Qhp (fun x y=>(Qz x.2.2.2.1 x.2.2.2.2.1 x.2.2.2.2.2.1&&(FJ y.1 x.2.2.2.1&&decide (y.2.1.length<=x.2.2.2.2.2.1)))) (fun x y=>[(true,.exit 0,Qpn (y.2.1++XJ x.1 ((x.2.2.2.1.drop x.2.2.2.2.2.1.toNat).map (Zq y.1)) x.2.2.2.2.2.1))])
def QbW:G:=gG 65 [(21,Qmr),(61,Qdh),(70,Qb1),(71,QBN)] (Ls [QQ7,QQ8])
def Qhq (x1 x7:Int)(x11:Bool)(x21:List Qb)(x22 x23:Int)(x42:List Qb)(x43 x44:Int)(y2:Estate)(y6:List Int)(y10:Endpoint):OX:=QB (QD QbW Qpj QBQ) (QBS x1 x7 x11 x21 x22 x23 x42 x43 x44 y2 y6 y10)
def QbX (kk:Int->Int->Bool->List Qb->Int->Int->List Qb->Int->Int->Estate->List Int->Endpoint->OX)(x1 x7:Int)(x11:Bool)(x21:List Qb)(x22 x23:Int)(x42:List Qb)(x43 x44:Int)(y2:Estate)(y6:List Int)(y10:Endpoint):OX:=
 let a1:=lgt Qh x42 (Int.toNat x44)
 br (ilt x44 x43) (br (cIx x42 x44) (br (x11) (kk x1 x7 true x21 x22 x23 x42 x43 (Qk .i64 x44 1) y2 y6 y10) (br (Qhk y10 a1 x1) (kk x1 x7 (!(QbU y10 a1 x1)) x21 x22 x23 x42 x43 (Qk .i64 x44 1) y2 y6 y10) none)) none) (some (.exit 2,Qpm x1 x7 x11 x21 x22 x23 y2 y6))
def Qhr (x1 x7:Int)(x11:Bool)(x21:List Qb)(x22 x23:Int)(x42:List Qb)(x43 x44:Int)(y2:Estate)(y6:List Int)(y10:Endpoint):OX:=some (.exit 2,Qpm (x1) (x7) (x11||Xj (x42.drop x44.toNat) y10 x1) (x21) (x22) (x23) (y2) (y6))
theorem QBU (x1 x7:Int)(x11:Bool)(x21:List Qb)(x22 x23:Int)(x42:List Qb)(x43 x44:Int)(y2:Estate)(y6:List Int)(y10:Endpoint):Qhq x1 x7 x11 x21 x22 x23 x42 x43 x44 y2 y6 y10=QbX Qhq x1 x7 x11 x21 x22 x23 x42 x43 x44 y2 y6 y10:=lnT (x:=QbX (fun x1 x7 x11 x21 x22 x23 x42 x43 x44 y2 y6 y10=>some (.normal,QBS x1 x7 x11 x21 x22 x23 x42 x43 x44 y2 y6 y10)) x1 x7 x11 x21 x22 x23 x42 x43 x44 y2 y6 y10) (by simp only [QbX,nxA];rfl)
def Qhs (x1:Int)(x21:List Qb)(x22 x23:Int)(y2:Estate)(y6:List Int):OX:=QB (QD QbW Qpk QBR) (QBT x1 x21 x22 x23 y2 y6)
def OZ (kk:Int->List Qb->Int->Int->Estate->List Int->OX)(x1:Int)(x21:List Qb)(x22 x23:Int)(y2:Estate)(y6:List Int):OX:=
 let a1:=lgt Qj y2.1 (Int.toNat (((lgt Qh x21 (Int.toNat x23)).2).1))
 let a2:=lgt Qj y2.1 (Int.toNat ((lgt Qh x21 (Int.toNat x23)).1))
 let a3:=Zg a2 a1
 br (ZH a2 a1) (br (Qz a3 (Qc a3) (0:Int)&&Q2 a1) (br (!(false||Xj (a3.drop (0:Int).toNat) a1 x1)) (br (Qr (y6) ([(x23)]) 8) (kk (x1) (x21) (x22) (Qk .i64 (x23) 1) (y2) ((y6)++([(x23)]))) none) (kk (x1) (x21) (x22) (Qk .i64 (x23) 1) (y2) (y6))) none) none
def O0 (kk:Int->List Qb->Int->Int->Estate->List Int->OX)(x1:Int)(x21:List Qb)(x22 x23:Int)(y2:Estate)(y6:List Int):OX:=
 let a1:=lgt Qh x21 (Int.toNat x23)
 br (ilt x23 x22) (br (cIx x21 x23) (br (cIx y2.1 (a1.1)) (br (cIx y2.1 ((a1.2).1)) (frk (OZ kk x1 x21 x22 x23 y2 y6) (OZ kk x1 x21 x22 x23 y2 y6)) none) none) none) (some (.exit 0,Qpn y6))
def Qht (x1:Int)(x21:List Qb)(x22 x23:Int)(y2:Estate)(y6:List Int):OX:=some (.exit 0,Qpn (y6++XJ x1 ((x21.drop x23.toNat).map (Zq y2)) x23))
theorem QBV (x1:Int)(x21:List Qb)(x22 x23:Int)(y2:Estate)(y6:List Int):Qhs x1 x21 x22 x23 y2 y6=O0 Qhs x1 x21 x22 x23 y2 y6:=lnT (x:=O0 (fun x1 x21 x22 x23 y2 y6=>some (.normal,QBT x1 x21 x22 x23 y2 y6)) x1 x21 x22 x23 y2 y6) (by
 first
 |(simp only [Jt,O0,OZ,Jt,Xy,X7,X8,X9,Wa]
   rfl)
 |(simp only [Jt,O0,OZ,Jt]
   try generalize (Qr (y6) ([(x23)]) 8)=cq0
   try generalize ((Qz (Zg (lgt Qj y2.1 (Int.toNat ((lgt Qh x21 (Int.toNat x23)).1))) (lgt Qj y2.1 (Int.toNat (((lgt Qh x21 (Int.toNat x23)).2).1)))) (Qc (Zg (lgt Qj y2.1 (Int.toNat ((lgt Qh x21 (Int.toNat x23)).1))) (lgt Qj y2.1 (Int.toNat (((lgt Qh x21 (Int.toNat x23)).2).1))))) (0:Int)&&Q2 (lgt Qj y2.1 (Int.toNat (((lgt Qh x21 (Int.toNat x23)).2).1)))))=cq1
   try generalize ((ZH (lgt Qj y2.1 (Int.toNat ((lgt Qh x21 (Int.toNat x23)).1))) (lgt Qj y2.1 (Int.toNat (((lgt Qh x21 (Int.toNat x23)).2).1)))))=cq2
   try generalize (cIx y2.1 (((lgt Qh x21 (Int.toNat x23)).2).1))=cq3
   try generalize (cIx y2.1 ((lgt Qh x21 (Int.toNat x23)).1))=cq4
   try generalize (cIx x21 x23)=cq5
   simp only [brN,Jt,Bool.and_assoc,Bool.and_comm,Bool.and_left_comm,BX,Bool.and_self_left,Xy,X7,X8,X9,Wa]
   try rfl))
def r_f34 (p0:Estate)(p1:Int):OV:=br (Ja p0) (br (ine (YM p0) 0) (some (.tu [(.t (.sl tI) ([]:List Int)),(.t tI 31)],[])) (br (ieq (ZM p1) 0) (some (.tu [(.t (.sl tI) ([]:List Int)),(.t tI 7)],[])) (br (Qz p0.2.1 (Qc p0.2.1) (0:Int)&&(FJ p0 p0.2.1&&decide (([]:List Int).length<=(0:Int)))) (some (.tu [(.t (.sl tI) (([]:List Int)++XJ p1 ((p0.2.1.drop (0:Int).toNat).map (Zq p0)) (0:Int))),(.t tI 0)],[])) none))) none
theorem QQ9 (x1 x7:Int)(x11:Bool)(x21:List Qb)(x22 x23:Int)(x42:List Qb)(x43 x44:Int)(y2:Estate)(y6:List Int)(y10:Endpoint)(h:(Qz x42 x43 x44&&Q2 y10)=true):Qhq x1 x7 x11 x21 x22 x23 x42 x43 x44 y2 y6 y10=Qhr x1 x7 x11 x21 x22 x23 x42 x43 x44 y2 y6 y10:=by
 obtain ⟨h0,he⟩:=Bf.1 h
 obtain ⟨rfl,h3,k,rfl,hk⟩:=Js h0
 clear h h0
 revert x11
 refine QW x42 (fun k=> ∀ x11,Qhq x1 x7 x11 x21 x22 x23 x42 (x42.length:Int) (k:Int) y2 y6 y10=Qhr x1 x7 x11 x21 x22 x23 x42 (x42.length:Int) (k:Int) y2 y6 y10) ?_ ?_ k hk
 ·intro x11
  rw [QBU]
  simp only [QbX,Qhr,QC,BI,BQ,Qi,Bb,BE,Xj,List.any_nil,Bool.or_false]
 ·intro k hk ih x11
  rw [QBU]
  simp only [QbX,QC,QS,hk,Bu,Qe,Bb,QU (show k<4611686018427387904 by omega),ih,QX (y:=Qh) hk,show Qhk y10 x42[k] x1=true from he]
  simp only [Qhr,Bb,Bi hk,Xj,List.any_cons,Xi,QbU]
  cases x11<;>cases Wl (Zo y10 x42[k]).1 x1<;>rfl
theorem QRa (x1:Int)(x21:List Qb)(x22 x23:Int)(y2:Estate)(y6:List Int)(h:(Qz x21 x22 x23&&(FJ y2 x21&&decide (y6.length<=x23)))=true):Qhs x1 x21 x22 x23 y2 y6=Qht x1 x21 x22 x23 y2 y6:=by
 simp only [Bc,Ba] at h
 obtain ⟨h0,he,h1⟩:=h
 obtain ⟨rfl,h3,k,rfl,hk⟩:=Js h0
 clear h0
 revert y6
 refine QW x21 (fun k=> ∀ (y6:List Int),(y6.length:Int)<=(k:Int)->Qhs x1 x21 (x21.length:Int) (k:Int) y2 y6=Qht x1 x21 (x21.length:Int) (k:Int) y2 y6) ?_ ?_ k hk
 ·intro y6 _
  rw [QBV]
  simp only [O0,OZ,Jt,Qht,QC,BI,BQ,Qi,Bb,BE,Dx,BG,XJ]
 ·intro k hk ih y6 h1
  rw [QBV]
  have hx:=Bg.1 he _ (BA hk)
  simp only [Bc] at hx
  obtain ⟨c1,c2,c3⟩:=hx
  have c5: ∀ v,Qr y6 [v] 8=true:=fun v=>Q7 (by omega) (by simp only [Bh];omega)
  have hl:=Qh5 (c:=(Zq y2 x21[k]).1) (s:=(Zq y2 x21[k]).2.1)
  have c4:(Qz (Zg (Zq y2 x21[k]).1 (Zq y2 x21[k]).2.1) (Qc (Zg (Zq y2 x21[k]).1 (Zq y2 x21[k]).2.1)) (0:Int)&&Q2 (Zq y2 x21[k]).2.1)=true:=by
   rw [Jy (by omega),(Bf.1 c3).2]
   rfl
  simp only [O0,OZ,Jt,QC,QS,hk,Bu,Qe,Bb,QU (show k<4611686018427387904 by omega),QX (y:=Qh) hk,c5,Jt,Bt,Bx,Di]
  refine brY c1 (brY c2 (brY c3 (brY c4 ?_)))
  rw [ih _ (by simp only [Bj,Bh];omega),ih _ (by omega)]
  simp only [Qht,Bb,Bi hk,BJ,XJ,BF,BD,Int.natCast_add,Int.natCast_one]
  show br (!Xj (Zg (Zq y2 x21[k]).1 (Zq y2 x21[k]).2.1) (Zq y2 x21[k]).2.1 x1) _ _=_
  cases Xj (Zg (Zq y2 x21[k]).1 (Zq y2 x21[k]).2.1) (Zq y2 x21[k]).2.1 x1<;>rfl
theorem QRb:LO QbW Qpj QBQ 0:=QN (s:=Qho) fun x y h _ q=>by simp only [QJ,QK] at q;exact (QQ9 x.1 x.2.2.2.1 x.2.2.2.2.2.1 x.2.2.2.2.2.2.1 x.2.2.2.2.2.2.2.1 x.2.2.2.2.2.2.2.2.1 x.2.2.2.2.2.2.2.2.2.1 x.2.2.2.2.2.2.2.2.2.2.1 x.2.2.2.2.2.2.2.2.2.2.2.1 y.1 y.2.1 y.2.2.1 h).trans q
theorem QRc:LO QbW Qpk QBR 1:=QN (s:=Qhp) fun x y h _ q=>by simp only [QJ,QK] at q;exact (QRa x.1 x.2.2.2.1 x.2.2.2.2.1 x.2.2.2.2.2.1 y.1 y.2.1 h).trans q
theorem s_f34 (e:Estate)(a:Int)(h:Zy e a=true):r_f34 e a=some (.tu [.t (.sl tI) (Xk e a).1,.t tI (Xk e a).2],[]):=by
 have hl:Ja e=true:=h
 simp only [r_f34,hl,Qe,VF,QQ6,BO,Bt,Bx]
 unfold Xk
 cases he:Zc e with
 |false=>rfl
 |true=>
  obtain ⟨h1,h2,h3⟩:=QbI hl he
  have h4:=QAY hl he
  have h5:=IA he
  rw [BC,Qi]
  cases (ilt a 1||igt a 22) with
  |true=>rfl
  |false=>
   rw [Qi]
   refine brY ?_ rfl
   simp only [Bc]
   exact ⟨Jy (by show (Jg e).length<=_;omega),h4,Bd (B3 _)⟩
def QBW:Ent:=Qq (.pr QF (.pr tI .nil)) (fun x=>(Zy x.1 x.2.1)) (fun x=>(.tu [(.t (.sl tI) ((Xk x.1 x.2.1).1)),(.t tI ((Xk x.1 x.2.1).2))]))
theorem ms_f34:EM 34 QBW:=mS (lk:=lkL (lkc QRc (lkc QRb lkn))) QbW Qpl [((.t 4),some (.sl tI)),((.t 5),some tI)] false (gB (gD QwD (gD QjZ (gD QhD (gD ms_f71 gN))))) fun m=>Qu m fun x hok=>kT (s_f34 x.1 x.2.1 hok)
end
end Go.Proofs.YtckcgijklnloiaaGreat.K
noncomputable section
namespace Go.Proofs.YtckcgijklnloiaaGreat.K
open Go.RowKit
noncomputable section
def Fb:List Qb:=[(2,(0,())),(1,(0,())),(5,(2048,())),(16,(128,())),(3,(0,())),(15,(168,()))]
def Y3:Nat->Int->Qd->List J4×Qd
 |0,_,d=>([],d)
 |n+1,day,d=>((lgt Qh Fb (Ql d 6).toNat,(day,()))::(Y3 n (Qk .i64 (Qk .i64 day 1) (dof (Qg d 6) [5,30,0,100])) (Qt (Qg d 6) [5,30,0,100])).1,(Y3 n (Qk .i64 (Qk .i64 day 1) (dof (Qg d 6) [5,30,0,100])) (Qt (Qg d 6) [5,30,0,100])).2)
def QdA (d:Qd):Qd:=Qg (Qg (Qg (Qg d 2) 4) 20) 3
def J3 (d:Qd):List J4×Qd:=Y3 (Qk .i64 1 (Ql (Qg (Qg (Qg d 2) 4) 20) 3)).toNat (Ql (Qg (Qg d 2) 4) 20) (QdA d)
def VQ (d:Qd)(s:ByteArray):Qs:=(s,(Qk .i64 1 (Ql d 2),(Qk .i64 1 (Ql (Qg d 2) 4),((J3 d).1,(Qk .i64 (lgt Zx (J3 d).1 0).2.1 (dof (J3 d).2 [50,300,0,3000]),())))))
def Ed (d:Qd)(_s:ByteArray):Qd:=Qt (J3 d).2 [50,300,0,3000]
def VR (d:Qd)(_s:ByteArray):Bool:=dOk d
theorem QWW {n:Nat}: ∀ {day:Int} {d:Qd},dOk d=true->dOk (Y3 n day d).2=true:=by
 induction n with
 |zero=>exact fun h=>h
 |succ n ih=>exact fun h=>ih (JH (l:=[5,30,0,100]) (QG h))
theorem QIC {d:Qd}(h:dOk d=true):dOk (J3 d).2=true:=QWW (QG (QG (QG (QG h))))
theorem Qti {d:Qd}{s:ByteArray}(h:dOk d=true):dOk (Ed d s)=true:=JH (QIC h)
theorem Qtj: ∀ (n:Nat) (day:Int) (d:Qd),(Y3 n day d).1.length=n
 |0,_,_=>rfl
 |n+1,day,d=>by simp only [Y3,Bp,Qtj n]
theorem QWX:Fb.all Zr=true:=by kernel_rfl
theorem QWY {y:Ty}{l:List y.T}{i:Nat}(h:i<l.length):lgt y l i∈l:=by
 rw [QX (y:=y) h]
 exact BA h
theorem QWZ {e:Qd}:0<=dof e [5,30,0,100]/\dof e [5,30,0,100]<=100:=by
 have h:=Z0 (d:=e) (l:=[5,30,0,100]) (by decide)
 simp only [BT,B0,Dn] at h
 omega
theorem QID: ∀ (n:Nat) (day:Int) (d:Qd) (pv:Option Int),n<=3->0<=day->day+101*n<=1000->(∀ e,pv=some e->e<day)->Wf pv (Y3 n day d).1=true
 |0,_,_,pv,_,_,_,_=>by cases pv<;>rfl
 |n+1,day,d,pv,h1,h2,h3,h4=>by
  have hv:=JA (d:=d) (n:=6) (by omega)
  have hs:=QWZ (e:=Qg d 6)
  have e1:Qk .i64 (Qk .i64 day 1) (dof (Qg d 6) [5,30,0,100])=day+1+dof (Qg d 6) [5,30,0,100]:=by rw [JK (a:=day) (b:=1) (by omega),JK (by omega)]
  unfold Y3
  rw [QnA,e1]
  have hu:Zr (lgt Qh Fb (Ql d 6).toNat)=true:=Bg.1 QWX _ (QWY (y:=Qh) (by have:Fb.length=6:=rfl;omega))
  have hr:=QID n (day+1+dof (Qg d 6) [5,30,0,100]) (Qt (Qg d 6) [5,30,0,100]) (some day) (by omega) (by omega) (by omega) (fun e he=>by injection he;omega)
  simp only [hu,hr,Bd (show 0<=day/\day<=40000 by omega),BB,B8]
  cases pv with
  |none=>rfl
  |some e=>exact Bd (h4 e rfl)
theorem QW0: ∀ (n:Nat) (day:Int) (d:Qd),0<n->((Y3 n day d).1.headD ((0,(0,())),(0,()))).2.1=day
 |0,_,_,h=>by omega
 |n+1,day,d,_=>rfl
theorem QW1 (d:Qd):1<=(J3 d).1.length/\(J3 d).1.length<=3:=by
 have b3:=JA (d:=Qg (Qg (Qg d 2) 4) 20) (n:=3) (by omega)
 have e3:Qk .i64 1 (Ql (Qg (Qg (Qg d 2) 4) 20) 3)=1+Ql (Qg (Qg (Qg d 2) 4) 20) 3:=JK (by omega)
 unfold J3
 rw [Qtj,e3]
 omega
theorem QW2 (d:Qd){s:ByteArray}(hs:JJ s=true):ZB (VQ d s)=true:=by
 have b2:=JA (d:=d) (n:=2) (by omega)
 have b4:=JA (d:=Qg d 2) (n:=4) (by omega)
 have b20:=JA (d:=Qg (Qg d 2) 4) (n:=20) (by omega)
 have b3:=JA (d:=Qg (Qg (Qg d 2) 4) 20) (n:=3) (by omega)
 have e2:Qk .i64 1 (Ql d 2)=1+Ql d 2:=JK (by omega)
 have e4:Qk .i64 1 (Ql (Qg d 2) 4)=1+Ql (Qg d 2) 4:=JK (by omega)
 have e3:Qk .i64 1 (Ql (Qg (Qg (Qg d 2) 4) 20) 3)=1+Ql (Qg (Qg (Qg d 2) 4) 20) 3:=JK (by omega)
 have hl:=QW1 d
 have hh:((J3 d).1.headD ((0,(0,())),(0,()))).2.1=Ql (Qg (Qg d 2) 4) 20:=QW0 _ _ _ (by rw [e3];omega)
 have e0:lgt Zx (J3 d).1 0=(J3 d).1.headD ((0,(0,())),(0,())):=by
  cases hq:(J3 d).1 with
  |nil=>rw [hq] at hl;simp at hl
  |cons a l=>rfl
 have hu:0<=dof (J3 d).2 [50,300,0,3000]/\dof (J3 d).2 [50,300,0,3000]<=3000:=by
  have h:=Z0 (d:=(J3 d).2) (l:=[50,300,0,3000]) (by decide)
  simp only [BT,B0,Dn] at h
  omega
 have eu:Qk .i64 (lgt Zx (J3 d).1 0).2.1 (dof (J3 d).2 [50,300,0,3000])=(lgt Zx (J3 d).1 0).2.1+dof (J3 d).2 [50,300,0,3000]:=JK (by rw [e0,hh];omega)
 refine ZT.2 ⟨hs, ?_, ?_, ?_, ?_, ?_⟩
 ·show 1<=Qk .i64 1 (Ql d 2)/\Qk .i64 1 (Ql d 2)<=2
  omega
 ·show 1<=Qk .i64 1 (Ql (Qg d 2) 4)/\Qk .i64 1 (Ql (Qg d 2) 4)<=4
  omega
 ·show 1<=(J3 d).1.length/\(J3 d).1.length<=8
  omega
 ·exact QID _ _ _ none (by rw [e3];omega) (by omega) (by omega) (fun e he=>by cases he)
 ·show ((J3 d).1.headD ((0,(0,())),(0,()))).2.1<=Qk .i64 (lgt Zx (J3 d).1 0).2.1 (dof (J3 d).2 [50,300,0,3000])/\Qk .i64 (lgt Zx (J3 d).1 0).2.1 (dof (J3 d).2 [50,300,0,3000])<=40000
  rw [eu,e0,hh]
  omega
abbrev Qkk:Sh:=⟨[(0,.ptr 50000 0),(4,.ptr 4 0),(5,.ptr 5 0),(6,.ty tI),(7,.ty tI)],[(4,.box Jm),(5,.bag [.ty .str,.ty tI,.ty tI,.ms 20503,.ty tI]),(43,.no),(20503,.arr 128 Zx),(50000,.box QM)]⟩
abbrev QW3:Sh:=⟨[(0,.ptr 50000 0),(4,.ptr 4 0),(5,.ptr 5 0)],[(4,.box Jm),(5,.bag [.ty .str,.ty tI,.ty tI,.ms 20503,.ty tI]),(43,.no),(20503,.arr 128 Zx),(50000,.box QM)]⟩
def Qtk:Fg:=Qkk.f
def QIE:TC:=aF Tryz.f37 [(122,.nf 5 3 128 20503),(122,pL 0 Qtk),(1955,.fg ⟨[(0,none),(4,none),(5,none)],[(4,some Jm),(5,some Jm),(43,none),(20503,none),(50000,some QM)]⟩),(62,pD [(0,[5,43,20503]),(1,[5,43,20503]),(2,[43,20503]),(3,[43,20503]),(4,[43,20503]),(5,[50000]),(6,[]),(7,[58,5058,10058,15058,50000]),(8,[]),(9,[5,43,20503]),(10,[4,5,43,20503])] (.of [0,1,2,3,4,5,6,7,8,9,10]))]
def QIF:TC:=lb 0 QIE
def QIG (x6 x7:Int)(y4:Qs)(y5_0:ByteArray)(y5_1 y5_2 y5_4:Int)(ZP:List J4)(Qa:Qd):VS:=Qkk.st ((),(),(),x6,x7,()) (y4,(y5_0,y5_1,y5_2,(),y5_4,()),(),ZP,Qa,())
def Qtl (y4:Qs)(y5_0:ByteArray)(y5_1 y5_2 y5_4:Int)(ZP:List J4)(Qa:Qd):VS:=QW3.st ((),(),(),()) (y4,(y5_0,y5_1,y5_2,(),y5_4,()),(),ZP,Qa,())
def QW4:VS->Option (Bool×List (Bool×Exit×VS)):=mkL Qkk (fun x y=>(dOk y.2.2.2.2.1&&decide (0<=x.2.2.2.2.1/\x.2.2.2.2.1<=100/\y.2.2.2.1.length+x.2.2.2.2.1.toNat<=1000))) (fun x y=>[(true,.exit 0,Qtl (y.1) (y.2.1.1) (y.2.1.2.1) (y.2.1.2.2.1) (y.2.1.2.2.2.2.1) (y.2.2.2.1++(Y3 x.2.2.2.2.1.toNat x.2.2.2.1 y.2.2.2.2.1).1) ((Y3 x.2.2.2.2.1.toNat x.2.2.2.1 y.2.2.2.2.1).2))])
def Qtm:G:=gG 62 [(35,Wj),(45,Ge)] (Ls [QW4])
def Qtn (x6 x7:Int)(y4:Qs)(y5_0:ByteArray)(y5_1 y5_2 y5_4:Int)(ZP:List J4)(Qa:Qd):OX:=QB (QD Qtm Qtk QIF) (QIG x6 x7 y4 y5_0 y5_1 y5_2 y5_4 ZP Qa)
def QdB (kk:Int->Int->Qs->ByteArray->Int->Int->Int->List J4->Qd->OX)(x6 x7:Int)(y4:Qs)(y5_0:ByteArray)(y5_1 y5_2 y5_4:Int)(ZP:List J4)(Qa:Qd):OX:=
 let a1:=(lgt Qh ([(2,(0,())),(1,(0,())),(5,(2048,())),(16,(128,())),(3,(0,())),(15,(168,()))]) (Int.toNat (Ql Qa 6)))
 let a2:=((a1.1,((a1.2).1,())),(x6,()))
 let a3:=Qg Qa 6
 br (igt x7 0) (br (QL Qa 6) (br (cIx ([(2,(0,())),(1,(0,())),(5,(2048,())),(16,(128,())),(3,(0,())),(15,(168,()))]) (Ql Qa 6)) (br (Qr ZP ([a2]) 24) (br (Jc a3 ([5,30,0,100])) (kk (Qk .i64 (Qk .i64 x6 1) (dof a3 ([5,30,0,100]))) (QT .i64 x7 1) y4 y5_0 y5_1 y5_2 y5_4 (ZP++([a2])) (Qt a3 ([5,30,0,100]))) none) none) none) none) (some (.exit 0,Qtl y4 y5_0 y5_1 y5_2 y5_4 ZP Qa))
def QdC (x6 x7:Int)(y4:Qs)(y5_0:ByteArray)(y5_1 y5_2 y5_4:Int)(ZP:List J4)(Qa:Qd):OX:=
 let a1:=Y3 x7.toNat x6 Qa
 some (.exit 0,Qtl (y4) (y5_0) (y5_1) (y5_2) (y5_4) (ZP++a1.1) (a1.2))
theorem QIH (x6 x7:Int)(y4:Qs)(y5_0:ByteArray)(y5_1 y5_2 y5_4:Int)(ZP:List J4)(Qa:Qd):Qtn x6 x7 y4 y5_0 y5_1 y5_2 y5_4 ZP Qa=QdB Qtn x6 x7 y4 y5_0 y5_1 y5_2 y5_4 ZP Qa:=lnT (x:=QdB (fun x6 x7 y4 y5_0 y5_1 y5_2 y5_4 ZP Qa=>some (.normal,QIG x6 x7 y4 y5_0 y5_1 y5_2 y5_4 ZP Qa)) x6 x7 y4 y5_0 y5_1 y5_2 y5_4 ZP Qa) (by simp only [QdB,nxA];rfl)
def r_f37 (d0:Qd)(p1:ByteArray):OV:=
 let a2:=Qg (Qg (Qg d0 2) 4) 20
 let a3:=Qk .i64 1 (Ql a2 3)
 let a1:=Y3 a3.toNat (Ql (Qg (Qg d0 2) 4) 20) (Qg a2 3)
 br (QL d0 2) (br (QL (Qg d0 2) 4) (br (QL (Qg (Qg d0 2) 4) 20) (br (QL a2 3) (br (dOk (Qg a2 3)&&decide (0<=a3/\a3<=100/\([]:List J4).length+a3.toNat<=1000)) (br (cIx (([]:List J4)++a1.1) 0) (br (cLd (([]:List J4)++a1.1) (Int.toNat 0)) (br (Jc (a1.2) ([50,300,0,3000])) (some (.t Jm ((p1),((Qk .i64 1 (Ql d0 2)),((Qk .i64 1 (Ql (Qg d0 2) 4)),((([]:List J4)++a1.1),((Qk .i64 (((lgt Zx (([]:List J4)++a1.1) (Int.toNat 0)).2).1) (dof (a1.2) ([50,300,0,3000]))),()))))),[.box (.t QM (Qt (a1.2) ([50,300,0,3000])))])) none) none) none) none) none) none) none) none
theorem QW5 (x6 x7:Int)(y4:Qs)(y5_0:ByteArray)(y5_1 y5_2 y5_4:Int)(ZP:List J4)(Qa:Qd)(h:(dOk Qa&&decide (0<=x7/\x7<=100/\ZP.length+x7.toNat<=1000))=true):Qtn x6 x7 y4 y5_0 y5_1 y5_2 y5_4 ZP Qa=QdC x6 x7 y4 y5_0 y5_1 y5_2 y5_4 ZP Qa:=by
 simp only [Bc,Ba] at h
 obtain ⟨hd,h1,h2q,h3⟩:=h
 obtain ⟨k,rfl⟩:=Bm h1
 rw [Bb] at h3
 have h2:k<=100:=by omega
 clear h1 h2q
 induction k generalizing ZP Qa x6 with
 |zero=>
  rw [QIH]
  have e1:igt ((0:Nat):Int) 0=false:=rfl
  simp only [QdB,e1,Qi,QdC,Bb,Y3,BG]
 |succ k ih=>
  rw [QIH]
  have e1:igt ((k+1:Nat):Int) 0=true:=by simp only [igt,Ba];omega
  have e2:QT .i64 ((k+1:Nat):Int) 1=(k:Int):=by rw [Zu (by omega)];omega
  have hv:=JA (d:=Qa) (n:=6) (by omega)
  have hc:cIx Fb (Ql Qa 6)=true:=by
   have:Fb.length=6:=rfl
   simp only [cIx,Ba]
   omega
  have hla:QdC x6 ((k+1:Nat):Int) y4 y5_0 y5_1 y5_2 y5_4 ZP Qa=QdC (Qk .i64 (Qk .i64 x6 1) (dof (Qg Qa 6) [5,30,0,100])) (k:Int) y4 y5_0 y5_1 y5_2 y5_4 (ZP++[(lgt Qh Fb (Ql Qa 6).toNat,(x6,()))]) (Qt (Qg Qa 6) [5,30,0,100]):=by
   simp only [QdC,Bb,Y3,BF]
   rfl
  rw [hla, ← ih _ _ _ (JH (QG hd)) (by simp;omega) (by omega)]
  have n6:QL Qa 6=true:=by simp [QL,hd]
  have f1:Jc (Qg Qa 6) [5,30,0,100]=true:=by simp [Jc,QG hd]
  simp only [QdB,e1,e2,n6,f1,Qe,show ([(2,(0,())),(1,(0,())),(5,(2048,())),(16,(128,())),(3,(0,())),(15,(168,()))]:List Qb)=Fb from rfl,hc]
  rw [QPv (by simp;omega) (by omega),Qe]
  show br (cIx Fb (Ql Qa 6)) _ _=_
  rw [hc,Qe]
theorem QW6:LO Qtm Qtk QIF 0:=QN (s:=Qkk) fun x y h _ q=>by simp only [QJ,QK] at q;exact (QW5 x.2.2.2.1 x.2.2.2.2.1 y.1 y.2.1.1 y.2.1.2.1 y.2.1.2.2.1 y.2.1.2.2.2.2.1 y.2.2.2.1 y.2.2.2.2.1 h).trans q
theorem s_f37 (d:Qd)(s:ByteArray)(h:VR d s=true):r_f37 d s=some (.t Jm (VQ d s),[.box (.t QM (Ed d s))]):=by
 have h:dOk d=true:=h
 have n2:QL d 2=true:=by simp [QL,h]
 have n4:QL (Qg d 2) 4=true:=by simp [QL,QG h]
 have n20:QL (Qg (Qg d 2) 4) 20=true:=by simp [QL,QG (QG h)]
 have n3:QL (Qg (Qg (Qg d 2) 4) 20) 3=true:=by simp [QL,QG (QG (QG h))]
 have b3:=JA (d:=Qg (Qg (Qg d 2) 4) 20) (n:=3) (by omega)
 have e3:Qk .i64 1 (Ql (Qg (Qg (Qg d 2) 4) 20) 3)=1+Ql (Qg (Qg (Qg d 2) 4) 20) 3:=JK (by omega)
 have hl:=Qtj (Qk .i64 1 (Ql (Qg (Qg (Qg d 2) 4) 20) 3)).toNat (Ql (Qg (Qg d 2) 4) 20) (QdA d)
 have hd3:dOk (QdA d)=true:=QG (QG (QG (QG h)))
 have hL:dOk (J3 d).2=true:=QIC h
 have f5:Jc (J3 d).2 [50,300,0,3000]=true:=by simp [Jc,hL]
 have hlen:0<(J3 d).1.length:=by
  show 0<(Y3 _ _ _).1.length
  rw [hl]
  omega
 have c1:cIx (J3 d).1 0=true:=by simp only [cIx,Ba];omega
 have c2:cLd (J3 d).1 (Int.toNat 0)=true:=by simp only [cLd,Ba];exact hlen
 simp only [r_f37,n2,n4,n20,n3,Qe,BO,show Qg (Qg (Qg (Qg d 2) 4) 20) 3=QdA d from rfl,hd3,BB]
 rw [Oy ⟨by omega,by omega,by simp;omega⟩,Qe]
 simp only [show Y3 (Qk .i64 1 (Ql (Qg (Qg (Qg d 2) 4) 20) 3)).toNat (Ql (Qg (Qg d 2) 4) 20) (QdA d)=J3 d from rfl,c1,c2,f5,Qe]
 rfl
def Qto:Ent:=Y8 QM (.pr .str .nil) (fun d x=>(VR d x.1)) (fun d x=>(.t Jm (VQ d x.1))) (fun d x=>(Ed d x.1))
theorem QII:EM 37 Qto:=mS (lk:=lkL (lkc QW6 lkn)) Qtm QIE [((.c 4 true 5),some Jm)] false (gB (gD WI (gD GM gN))) fun m=>X6 m rfl fun d x hok=>kT (s_f37 d x.1 hok)
abbrev Qkl:Sh:=⟨[(0,.ty (.sl Qh)),(1,.ty (.sl Qh)),(12,.ty tI),(13,.ty tI)],[]⟩
abbrev Qkm:Sh:=⟨[(4,.ty .bool)],[]⟩
abbrev VT:Sh:=⟨[],[]⟩
def Qtp:Fg:=Qkl.f
def QIJ:TC:=aF Tryz.f22 [(58,pL 0 Qtp),(933,.fg VT.f),(7474,pD [(0,[]),(1,[]),(2,[]),(3,[]),(4,[]),(5,[]),(6,[]),(7,[]),(8,[])] (.of [0,1,2,3,4,5,6,7,8])),(29901,.fg Qkm.f)]
def QIK:TC:=lb 0 QIJ
def QIL (x0 x1:List Qb)(x12 x13:Int):VS:=Qkl.st (x0,x1,x12,x13,()) ()
def Fc (x4:Bool):VS:=Qkm.st (x4,()) ()
def Qtq  : VS:=VT.st () ()
def QW7:VS->Option (Bool×List (Bool×Exit×VS)):=mkL Qkl (fun x y=>(decide (0<=x.2.2.2.1/\x.2.2.2.1<=x.1.length/\x.1.length=x.2.1.length/\x.2.2.1=x.1.length/\x.1.length<=100000))) (fun x y=>[((!(x.1.drop x.2.2.2.1.toNat==x.2.1.drop x.2.2.2.1.toNat)),.ret,Fc (false)),(true,.exit 0,Qtq)])
def Qtr:G:=gG 26 [] (Ls [QW7])
def Qkn (x0 x1:List Qb)(x12 x13:Int):OX:=QB (QD Qtr Qtp QIK) (QIL x0 x1 x12 x13)
def QdD (kk:List Qb->List Qb->Int->Int->OX)(x0 x1:List Qb)(x12 x13:Int):OX:=
 let a1:=Int.toNat x13
 br (ilt x13 x12) (br (cIx x0 x13) (br (cIx x1 x13) (br (!(and (ieq ((lgt Qh x0 a1).1) ((lgt Qh x1 a1).1)) (and (ieq (((lgt Qh x0 a1).2).1) (((lgt Qh x1 a1).2).1)) true))) (some (.ret,Fc false)) (kk x0 x1 x12 (Qk .i64 x13 1))) none) none) (some (.exit 0,Qtq))
def Qko (x0 x1:List Qb)(x12 x13:Int):OX:=br (!(x0.drop x13.toNat==x1.drop x13.toNat)) (some (.ret,Fc (false)))<|some (.exit 0,Qtq)
theorem QIM (x0 x1:List Qb)(x12 x13:Int):Qkn x0 x1 x12 x13=QdD Qkn x0 x1 x12 x13:=lnT (x:=QdD (fun x0 x1 x12 x13=>some (.normal,QIL x0 x1 x12 x13)) x0 x1 x12 x13) (by simp only [QdD,nxA];rfl)
def Qts (p0 p1:List Qb):OV:=br (ine (Qc p0) (Qc p1)) (some (.t .bool false,[])) (br (decide (0<=(0:Int)/\(0:Int)<=p0.length/\p0.length=p1.length/\(Qc p0)=p0.length/\p0.length<=100000)) (br (!(p0.drop (0:Int).toNat==p1.drop (0:Int).toNat)) (some (.t .bool (false),[])) (some (.t .bool true,[]))) none)
theorem QW8 (x0 x1:List Qb)(x12 x13:Int)(h:(decide (0<=x13/\x13<=x0.length/\x0.length=x1.length/\x12=x0.length/\x0.length<=100000))=true):Qkn x0 x1 x12 x13=Qko x0 x1 x12 x13:=by
 simp only [Ba] at h
 obtain ⟨h0,h1,h2,rfl,h3⟩:=h
 obtain ⟨k,rfl⟩:=Bm h0
 refine QW x0 (fun k=>Qkn x0 x1 (x0.length:Int) (k:Int)=Qko x0 x1 (x0.length:Int) (k:Int)) ?_ ?_ k (by omega)
 ·rw [QIM]
  simp only [QdD,Qko,QC,BI,BQ,Qi,Bb,BE]
  rw [h2,BE]
  rfl
 ·intro k hk ih
  rw [QIM]
  have hk2:k<x1.length:=by omega
  have hq:(and (ieq x0[k].1 x1[k].1) (and (ieq x0[k].2.1 x1[k].2.1) true))=(x0[k]==x1[k]):=rfl
  simp only [QdD,QC,QS,hk,hk2,Bu,Qe,Bb,QU (show k<4611686018427387904 by omega),QX (y:=Qh) hk,QX (y:=Qh) hk2,ih]
  rw [hq]
  simp only [Qko,Bb,Bi hk,Bi hk2,List.cons_beq_cons]
  cases x0[k]==x1[k]<;>rfl
theorem QW9:LO Qtr Qtp QIK 0:=QN (s:=Qkl) fun x y h _ q=>by simp only [QJ,QK] at q;exact (QW8 x.1 x.2.1 x.2.2.1 x.2.2.2.1 h).trans q
theorem s_f22 (a b:List Qb)(h:GP a b=true):Qts a b=some (.t .bool (EK a b),[]):=by
 simp only [GP,Ba] at h
 unfold EK
 by_cases hl:a.length=b.length
 ·simp only [Qts,show ine (Qc a) (Qc b)=false by simp only [ine,Qc,hl];simp,Qi,Bt,Bx]
  refine brY (Bd ⟨by omega,by omega,hl,trivial,h.1⟩) ?_
  cases a==b<;>rfl
 ·have:(a==b)=false:=Dr.2 fun e=>hl (by rw [e])
  simp only [Qts,show ine (Qc a) (Qc b)=true by simp only [ine,Qc,bne_iff_ne];omega,Qe,this]
def QIN:Ent:=Qq (.pr (.sl Qh) (.pr (.sl Qh) .nil)) (fun x=>(GP x.1 x.2.1)) (fun x=>(.t .bool (EK x.1 x.2.1)))
theorem ms_f22:EM 22 QIN:=mS (lk:=lkL (lkc QW9 lkn)) Qtr QIJ [((.t 4),some .bool)] false (gB gN) fun m=>Qu m fun x hok=>kT (s_f22 x.1 x.2.1 hok)
def Is (a b:List Int):Bool:=a==b
def Ee (a b:List Int):Bool:=decide (a.length<=100000/\b.length<=100000)
abbrev Qkp:Sh:=⟨[(0,.ty (.sl tI)),(1,.ty (.sl tI)),(12,.ty tI),(13,.ty tI)],[]⟩
def Qtt:Fg:=Qkp.f
def QIO:TC:=aF Tryz.f33 [(58,pL 0 Qtt),(933,.fg VT.f),(7474,pD [(0,[]),(1,[]),(2,[]),(3,[]),(4,[]),(5,[]),(6,[]),(7,[]),(8,[])] (.of [0,1,2,3,4,5,6,7,8])),(29901,.fg Qkm.f)]
def QIP:TC:=lb 0 QIO
def QIQ (x0 x1:List Int)(x12 x13:Int):VS:=Qkp.st (x0,x1,x12,x13,()) ()
def Qtu  : VS:=VT.st () ()
def QXa:VS->Option (Bool×List (Bool×Exit×VS)):=mkL Qkp (fun x y=>(decide (0<=x.2.2.2.1/\x.2.2.2.1<=x.1.length/\x.1.length=x.2.1.length/\x.2.2.1=x.1.length/\x.1.length<=100000))) (fun x y=>[((!(x.1.drop x.2.2.2.1.toNat==x.2.1.drop x.2.2.2.1.toNat)),.ret,Fc (false)),(true,.exit 0,Qtu)])
def Qtv:G:=gG 26 [] (Ls [QXa])
def Qkq (x0 x1:List Int)(x12 x13:Int):OX:=QB (QD Qtv Qtt QIP) (QIQ x0 x1 x12 x13)
def QdE (kk:List Int->List Int->Int->Int->OX)(x0 x1:List Int)(x12 x13:Int):OX:=br (ilt x13 x12) (br (cIx x0 x13) (br (cIx x1 x13) (br (ine (lgt tI x0 (Int.toNat x13)) (lgt tI x1 (Int.toNat x13))) (some (.ret,Fc false)) (kk x0 x1 x12 (Qk .i64 x13 1))) none) none) (some (.exit 0,Qtu))
def Qkr (x0 x1:List Int)(x12 x13:Int):OX:=br (!(x0.drop x13.toNat==x1.drop x13.toNat)) (some (.ret,Fc (false)))<|some (.exit 0,Qtu)
theorem QIR (x0 x1:List Int)(x12 x13:Int):Qkq x0 x1 x12 x13=QdE Qkq x0 x1 x12 x13:=lnT (x:=QdE (fun x0 x1 x12 x13=>some (.normal,QIQ x0 x1 x12 x13)) x0 x1 x12 x13) (by simp only [QdE,nxA];rfl)
def Qtw (p0 p1:List Int):OV:=br (ine (Qc p0) (Qc p1)) (some (.t .bool false,[])) (br (decide (0<=(0:Int)/\(0:Int)<=p0.length/\p0.length=p1.length/\(Qc p0)=p0.length/\p0.length<=100000)) (br (!(p0.drop (0:Int).toNat==p1.drop (0:Int).toNat)) (some (.t .bool (false),[])) (some (.t .bool true,[]))) none)
theorem QXb (x0 x1:List Int)(x12 x13:Int)(h:(decide (0<=x13/\x13<=x0.length/\x0.length=x1.length/\x12=x0.length/\x0.length<=100000))=true):Qkq x0 x1 x12 x13=Qkr x0 x1 x12 x13:=by
 simp only [Ba] at h
 obtain ⟨h0,h1,h2,rfl,h3⟩:=h
 obtain ⟨k,rfl⟩:=Bm h0
 refine QW x0 (fun k=>Qkq x0 x1 (x0.length:Int) (k:Int)=Qkr x0 x1 (x0.length:Int) (k:Int)) ?_ ?_ k (by omega)
 ·rw [QIR]
  simp only [QdE,Qkr,QC,BI,BQ,Qi,Bb,BE]
  rw [h2,BE]
  rfl
 ·intro k hk ih
  rw [QIR]
  have hk2:k<x1.length:=by omega
  have hq:ine x0[k] x1[k]= !(x0[k]==x1[k]):=rfl
  simp only [QdE,QC,QS,hk,hk2,Bu,Qe,Bb,QU (show k<4611686018427387904 by omega),QX (y:=tI) hk,QX (y:=tI) hk2,ih]
  rw [hq]
  simp only [Qkr,Bb,Bi hk,Bi hk2,List.cons_beq_cons]
  cases x0[k]==x1[k]<;>rfl
theorem QXc:LO Qtv Qtt QIP 0:=QN (s:=Qkp) fun x y h _ q=>by simp only [QJ,QK] at q;exact (QXb x.1 x.2.1 x.2.2.1 x.2.2.2.1 h).trans q
theorem s_f33 (a b:List Int)(h:Ee a b=true):Qtw a b=some (.t .bool (Is a b),[]):=by
 simp only [Ee,Ba] at h
 unfold Is
 by_cases hl:a.length=b.length
 ·simp only [Qtw,show ine (Qc a) (Qc b)=false by simp only [ine,Qc,hl];simp,Qi,Bt,Bx]
  refine brY (Bd ⟨by omega,by omega,hl,trivial,h.1⟩) ?_
  cases a==b<;>rfl
 ·have:(a==b)=false:=Dr.2 fun e=>hl (by rw [e])
  simp only [Qtw,show ine (Qc a) (Qc b)=true by simp only [ine,Qc,bne_iff_ne];omega,Qe,this]
def QIS:Ent:=Qq (.pr (.sl tI) (.pr (.sl tI) .nil)) (fun x=>(Ee x.1 x.2.1)) (fun x=>(.t .bool (Is x.1 x.2.1)))
theorem ms_f33:EM 33 QIS:=mS (lk:=lkL (lkc QXc lkn)) Qtv QIO [((.t 4),some .bool)] false (gB gN) fun m=>Qu m fun x hok=>kT (s_f33 x.1 x.2.1 hok)
abbrev Qks:Sh:=⟨[(1,.ty tI),(7,.ty (.sl tI)),(8,.ty tI),(9,.ty tI)],[]⟩
def Qtx:Fg:=Qks.f
def QIT:TC:=aF Tryz.f16 [(26,pL 0 Qtx),(421,.fg VT.f),(13517,.fg Qkm.f)]
def QIU:TC:=lb 0 QIT
def QIV (x1:Int)(x7:List Int)(x8 x9:Int):VS:=Qks.st (x1,x7,x8,x9,()) ()
def Qty  : VS:=VT.st () ()
def QXd:VS->Option (Bool×List (Bool×Exit×VS)):=mkL Qks (fun x y=>(Qz x.2.1 x.2.2.1 x.2.2.2.1)) (fun x y=>[((QY (x.2.1.drop x.2.2.2.1.toNat) x.1),.ret,Fc (true)),(true,.exit 0,Qty)])
def Qtz:G:=gG 17 [] (Ls [QXd])
def Qkt (x1:Int)(x7:List Int)(x8 x9:Int):OX:=QB (QD Qtz Qtx QIU) (QIV x1 x7 x8 x9)
def QdF (kk:Int->List Int->Int->Int->OX)(x1:Int)(x7:List Int)(x8 x9:Int):OX:=br (ilt x9 x8) (br (cIx x7 x9) (br (ieq (lgt tI x7 (Int.toNat x9)) x1) (some (.ret,Fc true)) (kk x1 x7 x8 (Qk .i64 x9 1))) none) (some (.exit 0,Qty))
def Qku (x1:Int)(x7:List Int)(x8 x9:Int):OX:=br (QY (x7.drop x9.toNat) x1) (some (.ret,Fc (true)))<|some (.exit 0,Qty)
theorem QIW (x1:Int)(x7:List Int)(x8 x9:Int):Qkt x1 x7 x8 x9=QdF Qkt x1 x7 x8 x9:=lnT (x:=QdF (fun x1 x7 x8 x9=>some (.normal,QIV x1 x7 x8 x9)) x1 x7 x8 x9) (by simp only [QdF,nxA];rfl)
def r_f16 (p0:List Int)(p1:Int):OV:=br (Qz p0 (Qc p0) (0:Int)) (br (QY (p0.drop (0:Int).toNat) p1) (some (.t .bool (true),[])) (some (.t .bool false,[]))) none
theorem QXe (x1:Int)(x7:List Int)(x8 x9:Int)(h:(Qz x7 x8 x9)=true):Qkt x1 x7 x8 x9=Qku x1 x7 x8 x9:=by
 obtain ⟨rfl,h3,k,rfl,hk⟩:=Js h
 clear h
 refine QW x7 (fun k=>Qkt x1 x7 (x7.length:Int) (k:Int)=Qku x1 x7 (x7.length:Int) (k:Int)) ?_ ?_ k hk
 ·rw [QIW]
  simp only [QdF,Qku,QC,BI,BQ,Qi,Bb,BE]
  rfl
 ·intro k hk ih
  rw [QIW]
  simp only [QdF,QC,QS,hk,Bu,Qe,Bb,QU (show k<4611686018427387904 by omega),ih,QX (y:=tI) hk]
  simp only [Qku,Bb,Bi hk]
  have e:QY (x7[k]::x7.drop (k+1)) x1=(ieq x7[k] x1||QY (x7.drop (k+1)) x1):=by
   unfold QY
   rw [List.contains_cons]
   congr 1
   simp only [ieq,BEq.comm]
  rw [e]
  cases ieq x7[k] x1<;>rfl
theorem QXf:LO Qtz Qtx QIU 0:=QN (s:=Qks) fun x y h _ q=>by simp only [QJ,QK] at q;exact (QXe x.1 x.2.1 x.2.2.1 x.2.2.2.1 h).trans q
theorem s_f16 (l:List Int)(n:Int)(h:Q9 l n=true):r_f16 l n=some (.t .bool (QY l n),[]):=by
 have hl:l.length<=100000:=Bv h
 simp only [r_f16,Jy hl,Qe,Bt,Bx]
 cases QY l n<;>rfl
def QIX:Ent:=Qq (.pr (.sl tI) (.pr tI .nil)) (fun x=>(Q9 x.1 x.2.1)) (fun x=>(.t .bool (QY x.1 x.2.1)))
theorem ms_f16:EM 16 QIX:=mS (lk:=lkL (lkc QXf lkn)) Qtz QIT [((.t 4),some .bool)] false (gB gN) fun m=>Qu m fun x hok=>kT (s_f16 x.1 x.2.1 hok)
def Yn:Qb:=(5,(2048,()))
def QIY:TC:=aF Tryz.f48 []
def QIZ:List (RV×Option Ty):=[((.c 0 true 2),some Qh)]
def g_f48:G:=gG 2 [] (fun _ _=>none)
def r_f48  : OV:=some (.t Qh (5,(2048,())),[])
theorem e_f48  : JR g_f48 QIY QIZ false [] []=r_f48  :=by kernel_rfl
theorem s_f48:r_f48=some (.t Qh Yn,[]):=rfl
def QI0:Ent:=Qq .nil (fun x=>true) (fun x=>(.t Qh Yn))
theorem ms_f48:EM 48 QI0:=mS g_f48 QIY QIZ false (gB gN) fun m=>Qu m fun x _=>(e_f48 ).trans (s_f48)
def leafC (nm:ByteArray)(k:Qb)(id to:Int):Qf:=(id,(W6,(nm,(k,(id,((3,(0,())),(0,(to,(false,(0,([nm],((0,(0,())),()))))))))))))
def JE (nm:ByteArray)(k:Qb)(id a to:Int):QA:=(k,(id,([(XN (leafC nm k id to) a).1],())))
def Gr (nm:ByteArray)(_k:Qb)(_id _a _to:Int):Bool:=decide (nm.size<=1000)
def tc_f47:TC:=aF Tryz.f47 []
def g_f47:G:=gG 32 [(84,QqC)] (fun _ _=>none)
def r_f47 (p0:ByteArray)(p1:Qb)(p2 p3 p4:Int):OV:=
 let a1:=((XN (p2,((ByteArray.mk #[114,111,111,116]),(p0,((p1.1,(p1.2.1,())),(p2,((3,(0,())),(0,(p4,(false,(0,([p0],((0,(0,())),())))))))))))) p3).1)
 let a4:=(((a1.2).2).2)
 let a2:=((a4.2).2)
 let a3:=((((a2.2).2).2).2)
 br (YJ (p2,((ByteArray.mk #[114,111,111,116]),(p0,((p1.1,(p1.2.1,())),(p2,((3,(0,())),(0,(p4,(false,(0,([p0],((0,(0,())),())))))))))))) p3) (some (.t Q1 ((p1.1,(p1.2.1,())),(p2,([(a1.1,((a1.2).1,(((a1.2).2).1,(((a4.1).1,(((a4.1).2).1,())),((a4.2).1,(((a2.1).1,(((a2.1).2).1,())),((a2.2).1,(((a2.2).2).1,((((a2.2).2).2).1,(a3.1,((a3.2).1,(((((a3.2).2).1).1,(((((a3.2).2).1).2).1,())),()))))))))))))],()))),[])) none
theorem s_f47 (nm:ByteArray)(k:Qb)(id a to:Int)(h:Gr nm k id a to=true):r_f47 nm k id a to=some (.t Q1 (JE nm k id a to),[]):=by
 have hs:nm.size<=1000:=Bv h
 unfold r_f47
 exact brY (Qfl (by decide) hs (l:=[nm]) (DP 1) (fun t ht=>by rw [Dh.1 ht];omega)) rfl
def QtA:Ent:=Qq (.pr .str (.pr Qh (.pr tI (.pr tI (.pr tI .nil))))) (fun x=>(Gr x.1 x.2.1 x.2.2.1 x.2.2.2.1 x.2.2.2.2.1)) (fun x=>(.t Q1 (JE x.1 x.2.1 x.2.2.1 x.2.2.2.1 x.2.2.2.2.1)))
theorem QI1:EM 47 QtA:=mS g_f47 tc_f47 [((.c 10 true 4),some Q1)] false (gB (gD QEm gN)) fun m=>Qu m fun x hok=>kT (s_f47 x.1 x.2.1 x.2.2.1 x.2.2.2.1 x.2.2.2.2.1 hok)
def Qkv:Bool:=true
def QI2:TC:=aF Tryz.f10 []
def QI3:List (RV×Option Ty):=[((.t 0),some .bool)]
def g_f10:G:=gG 44 [(14,QoQ),(15,Qae),(18,Qpe)] (fun _ _=>none)
def r_f10  : OV:=
 let a1:=(ZU (([]:List Endpoint),(([]:List Qb),(([]:List Qs),()))) 0)
 br (ZQ (([]:List Endpoint),(([]:List Qb),(([]:List Qs),()))) 0 0) (br (Zy (([]:List Endpoint),(([]:List Qb),(([]:List Qs),()))) 0) (br (Zy (([]:List Endpoint),(([]:List Qb),(([]:List Qs),()))) 99) (br (ieq ((Jq (([]:List Endpoint),(([]:List Qb),(([]:List Qs),()))) 0 0).2) 4) (br (ieq ((a1.2).2) 0) (br (ieq (Qc (a1.1)) 0) (br (ieq (Qc ((a1.2).1)) 0) (some (.t .bool (ieq ((Xk (([]:List Endpoint),(([]:List Qb),(([]:List Qs),()))) 99).2) 7),[])) (some (.t .bool false,[]))) (some (.t .bool false,[]))) (some (.t .bool false,[]))) (some (.t .bool false,[]))) none) none) none
theorem e_f10  : JR g_f10 QI2 QI3 false [] []=r_f10  :=by kernel_rfl
set_option maxRecDepth 100000 in
theorem s_f10:r_f10=some (.t .bool Qkv,[]):=by kernel_rfl
def QI4:Ent:=Qq .nil (fun x=>true) (fun x=>(.t .bool Qkv))
theorem ms_f10:EM 10 QI4:=mS g_f10 QI2 QI3 false (gB (gD QAX (gD Qd3 (gD QBG gN)))) fun m=>Qu m fun x _=>(e_f10 ).trans (s_f10)
end
end Go.Proofs.YtckcgijklnloiaaGreat.K
noncomputable section
namespace Go.Proofs.YtckcgijklnloiaaGreat.K
open Go.RowKit
noncomputable section
attribute [local irreducible] epV epN prZ
end
end Go.Proofs.YtckcgijklnloiaaGreat.K
noncomputable section
namespace Go.Proofs.YtckcgijklnloiaaGreat.K
open Go.RowKit
noncomputable section
theorem QU0 (s x:Int):0<=YY s x/\YY s x<4294967296:=by
 unfold YY Fu
 rw [IntKind.wrap_u32]
 omega
theorem QGW: ∀ (b:List Int) (s:Int),(0<=s/\s<4294967296)->0<=b.foldl YY s/\b.foldl YY s<4294967296
 | [],_,h=>h
 |x::r,s,_=>QGW r (YY s x) (QU0 s x)
theorem QU1 (b:List Int):0<=XM b/\XM b<4294967296:=by
 have h:=QGW b 2166136261 (by omega)
 unfold XM
 rw [show icv .i64 (b.foldl YY 2166136261)=b.foldl YY 2166136261 from Go.IntWalk.i64_in _ (by omega)]
 exact h
theorem QU2 (b:List Int):Uf (XM b)=true:=by
 have h:=QU1 b
 simp only [Uf,Bc,By,ilt,ige,Bq]
 omega
theorem Qsh {n:Int}(h:0<=n/\n<=2147483648):JI n=true:=by
 simp only [JI,Bc,By,ilt,igt,Bq]
 omega
def Xo (s:ByteArray):Bool:=JJ s&&Wd [s]&&Wd [s,Fv s (ByteArray.mk #[120])]
theorem QU3: ∀ i,i<3->Xo (XX.getD i ByteArray.empty)=true:=by
 intro i hi
 have:i=0∨i=1∨i=2:=by omega
 rcases this with rfl|rfl|rfl
 ·show Xo (ByteArray.mk #[99,97])=true
  kernel_rfl
 ·show Xo (ByteArray.mk #[99,98])=true
  kernel_rfl
 ·show Xo (ByteArray.mk #[99,99])=true
  kernel_rfl
theorem QU4:JJ W6=true:=by kernel_rfl
theorem QU5 (d:Qd):J0 (dof d [3,2,4,1],(0,())) 1=true:=by
 have h1:J0 (1,(0,())) 1=true:=by kernel_rfl
 have h2:J0 (2,(0,())) 1=true:=by kernel_rfl
 have h3:J0 (3,(0,())) 1=true:=by kernel_rfl
 have h4:J0 (4,(0,())) 1=true:=by kernel_rfl
 have hm:=Z0 (d:=d) (l:=[3,2,4,1]) (by decide)
 simp only [BT,B0,Dn] at hm
 rcases hm with h|h|h|h
 ·rw [h];exact h3
 ·rw [h];exact h2
 ·rw [h];exact h4
 ·rw [h];exact h1
theorem QGX {d:Qd}{i s:ByteArray}{k:Qb}{id:Int}{a:Bool}{q:Qb}(hi:JJ i=true)(hs:Xo s=true)(hk:J0 k 2=true)(hd:JI id=true)(hq:JI q.1=true)(hq2:Uf q.2.1=true):Q5 (Qcr (U7 d i s k id a) q)=true:=by
 simp only [Xo,Bc] at hs
 have b1:=JA (d:=d) (n:=1000) (by omega)
 have m1:=Z0 (d:=cD2 d) (l:=[0,5,10]) (by decide)
 have m2:=Z0 (d:=cD3 d) (l:=[1000,100,50,20]) (by decide)
 have m3:=Z0 (d:=cD4 d) (l:=[3,0,1]) (by decide)
 simp only [BT,B0,Dn] at m1 m2 m3
 have hp:0<=Ue d a/\Ue d a<=8/\(a=false->Ue d a=0):=by
  unfold Ue
  cases a
  ·exact ⟨B3 0,show (0:Int)<=8 by decide,fun _=>rfl⟩
  ·exact ⟨by show 0<=dof _ _;omega,by show dof _ _<=8;omega,fun h=>by cases h⟩
 have hn:Wd (cNm d a s)=true:=by
  unfold cNm
  cases done (cD5 d a) 3
  ·exact hs.1.2
  ·exact hs.2
 have h1:ilt (Ql d 1000) 0=false:=Bn (by omega)
 have h2:igt (Ql d 1000) 1099511627776=false:=Bn (by omega)
 have h3:ilt (dof (cD2 d) [0,5,10]) 0=false:=Bn (by omega)
 have h4:igt (dof (cD2 d) [0,5,10]) (dof (cD3 d) [1000,100,50,20])=false:=Bn (by omega)
 have h5:igt (dof (cD3 d) [1000,100,50,20]) 40000=false:=Bn (by omega)
 have h6:ilt (Ue d a) 0=false:=Bn (by omega)
 have h7:igt (Ue d a) 8=false:=Bn (by omega)
 have h8:(a||ieq (Ue d a) 0)=true:=by
  cases a
  ·rw [hp.2.2 rfl];rfl
  ·rfl
 show (!ilt (Ql d 1000) 0&&(!igt (Ql d 1000) 1099511627776&&(JJ i&&(JJ s&&(Wd (cNm d a s)&&(J0 k 2&&(JI id&&(J0 (dof (cD1 d) [3,2,4,1],(0,())) 1&&(JI q.1&&(Uf q.2.1&&(!ilt (dof (cD2 d) [0,5,10]) 0&&(!igt (dof (cD2 d) [0,5,10]) (dof (cD3 d) [1000,100,50,20])&&(!igt (dof (cD3 d) [1000,100,50,20]) 40000&&(!ilt (Ue d a) 0&&(!igt (Ue d a) 8&&(a||ieq (Ue d a) 0))))))))))))))))=true
 rw [h1,h2,h3,h4,h5,h6,h7,h8,hi,hs.1.1,hn,hk,hd,QU5,hq,hq2]
 rfl
theorem QGY {d:Qd}{i s:ByteArray}{k:Qb}{id g:Int}{a:Bool}(hi:JJ i=true)(hs:Xo s=true)(hk:J0 k 2=true)(hd:JI id=true)(hg:JI g=true):Wc d i s k id g a=Qcr (U7 d i s k id a) (g,(XM (Zv (FQ (U7 d i s k id a))).1,()))/\Q5 (Wc d i s k id g a)=true:=by
 have hb:Qcs (U7 d i s k id a) g=false:=by
  unfold Qcs FQ
  rw [QGX hi hs hk hd rfl rfl,BC,Di]
  simp only [JI,Bc,By] at hg
  rw [hg.1,hg.2]
  rfl
 have he:Wc d i s k id g a=Qcr (U7 d i s k id a) (g,(XM (Zv (FQ (U7 d i s k id a))).1,())):=by
  unfold Wc XN
  rw [hb]
  rfl
 exact ⟨he,by rw [he];exact QGX hi hs hk hd hg (QU2 _)⟩
theorem QU6:J0 (5,(2048,())) 2=true:=by kernel_rfl
theorem QGZ: ∀ (m i:Nat) (u:Up),i+m<=3->JJ u.2.2.1=true->JI u.2.2.2=true->u.1.all Q5=true->(W7 m i u).1.all Q5=true/\JJ (W7 m i u).2.2.1=true/\JI (W7 m i u).2.2.2=true
 |0,_,u,_,h,h1,h2=>⟨h2,h,h1⟩
 |m+1,i,(ab,d,iss,g),hm,h,h1,h2=>by
  have hs:=QU3 i (by omega)
  have hn:JJ (XX.getD i ByteArray.empty)=true:=by
   simp only [Xo,Bc] at hs
   exact hs.1.1
  have hk:JI ((11+i:Nat):Int)=true:=Qsh (by omega)
  refine QGZ m (i+1) _ (by omega) hn hk ?_
  rw [BV,(QGY h hs QU6 hk h1).2]
  exact h2
theorem QU7 {d:Qd}{nm:ByteArray}{k:Qb}{id:Int}(hs:Xo nm=true)(hk:J0 k 2=true)(hd:JI id=true):(Y7 d nm k id).all Q5=true/\E2 k id (Y7 d nm k id)=true:=by
 have b2:=JA (d:=Qt d [1,0,2]) (n:=2) (by omega)
 have hm:=Z0 (d:=d) (l:=[1,0,2]) (by decide)
 simp only [BT,B0,Dn] at hm
 obtain ⟨h1,h2,h3⟩:=QGZ (dof d [1,0,2]).toNat 0 ([],Qg (Qt d [1,0,2]) 2,W6,1+Ql (Qt d [1,0,2]) 2) (by omega) QU4 (Qsh (show 0<=1+Ql (Qt d [1,0,2]) 2/\1+Ql (Qt d [1,0,2]) 2<=2147483648 by omega)) rfl
 obtain ⟨e,hv⟩:=QGY (d:=(chU d).2.1) (i:=(chU d).2.2.1) (s:=nm) (k:=k) (id:=id) (g:=(chU d).2.2.2) (a:=false) h2 hs hk hd h3
 unfold Y7
 refine ⟨by rw [BV,hv];exact h1, ?_⟩
 unfold E2
 rw [e]
 have: ∀ (x:Qf) (l:List Qf),(x::l).getD 0 Qct=x:=fun _ _=>rfl
 rw [this]
 show (_||((k==k)&&ieq id id))=true
 simp [ieq]
theorem QU8 {d:Qd}{nm:ByteArray}{k:Qb}{id:Int}(hd:dOk d=true):(Y7 d nm k id).length<=4:=by
 have hu0:XY ([],Qg (Qt d [1,0,2]) 2,W6,1+Ql (Qt d [1,0,2]) 2)=true:=Bf.2 ⟨QG (n:=2) (JH (l:=[1,0,2]) hd),rfl⟩
 have hm:=Z0 (d:=d) (l:=[1,0,2]) (by decide)
 simp only [BT,B0,Dn] at hm
 have hl:=(QaJ (dof d [1,0,2]).toNat 0 _ hu0).2
 simp only [Bw] at hl
 have hl2:(chU d).1.length<=3:=by
  unfold chU
  omega
 unfold Y7
 rw [Bp]
 omega
theorem QG0 {a:Int}(h:a=5∨a=6∨a=7∨a=8∨a=9)(d:Qd):J0 (a,(Y9 d a,())) 2=true:=by
 have hv:Zr (a,(Y9 d a,()))=true:=QNG (by omega) (by omega)
 unfold J0
 rw [hv]
 rcases h with rfl|rfl|rfl|rfl|rfl<;>rfl
theorem QU9 (d:Qd):J0 (Yr d) 2=true:=by
 have hm:=Z0 (d:=d) (l:=[5,7,5,6,8,9]) (by decide)
 simp only [BT,B0,Dn] at hm
 exact QG0 (a:=QaX d) (by have:QaX d=dof d [5,7,5,6,8,9]:=rfl;omega) _
theorem Qsi (d:Qd):J0 (G8 d) 2=true:=by
 unfold G8
 cases iB d
 ·exact QU9 d
 ·have hm:=Z0 (d:=iD2 d) (l:=[5,7]) (by decide)
  simp only [BT,B0,Dn] at hm
  exact QG0 (a:=iA d) (by have:iA d=dof (iD2 d) [5,7]:=rfl;omega) _
theorem Qsj {k:Qb}{id:Int}{l:List Qf}(hk:J0 k 2=true)(hd:JI id=true)(hl:l.length<=8)(h1:l.all Q5=true)(h2:E2 k id l=true):Wn k id l=true:=by
 simp only [J0,Bc] at hk
 have h8:igt (Qc l) 8=false:=Bn (by simp only [Qc];omega)
 have hi:ine (ZM k.1) 2=false:=by rw [Ez,hk.2];rfl
 unfold Wn
 rw [hk.1,hi,hd,h8,h1,h2]
 rfl
theorem QVa {d:Qd}{nm:ByteArray}(hs:Xo nm=true)(hd:dOk d=true):XH (idV d nm)=true:=by
 have b:=JA (d:=iD3 d) (n:=20) (by omega)
 have hk:JI (iId d)=true:=Qsh (by unfold iId;omega)
 show Wn (G8 d) (iId d) (iCh d nm)=true
 unfold iCh
 cases !done (iD4 d) 9
 ·exact Qsj (Qsi d) hk (B2 _) rfl rfl
 ·obtain ⟨h1,h2⟩:=QU7 (d:=iD5 d) (k:=G8 d) (id:=iId d) hs (Qsi d) hk
  exact Qsj (Qsi d) hk (B4 (QU8 (QG (n:=9) (QG (n:=20) (Qs9 hd)))) (by decide)) h1 h2
theorem QG1: ∀ (n:Nat) (nm:ByteArray) (d:Qd),Xo nm=true->dOk d=true->(ZE n nm d).1.all XH=true
 |0,_,_,_,_=>rfl
 |n+1,nm,d,hn,hd=>by
  simp only [ZE,BV,Bc]
  exact ⟨QVa hn hd,QG1 n nm _ hn (Qdx hd)⟩
theorem QVb {c:Int}(h:1<=c/\c<=16):ieq (Q4 c).2 0=true:=by
 unfold Q4
 rw [if_neg (by omega)]
 rfl
theorem QVc {l:List Int}(hn:l.Nodup)(hr: ∀ x∈l,1<=x/\x<=16):YA l=true:=by
 have key: ∀ (k:Nat) (hk:k<l.length),(ieq (Q4 l[k]).2 0&& !QY (l.take k) l[k])=true:=by
  intro k hk
  rw [QVb (hr _ (BA hk)),BB,By]
  unfold QY
  rw [Bool.eq_false_iff]
  intro hc
  have hm:=BN.1 hc
  obtain ⟨j,hj,he⟩:=List.mem_iff_getElem.1 hm
  rw [B5] at hj
  rw [List.getElem_take] at he
  have:=(List.nodup_iff_pairwise_ne.1 hn)
  rw [List.pairwise_iff_getElem] at this
  exact this j k (by omega) hk (by omega) he
 simp only [YA,XV,Bg,List.mem_range'_1]
 intro k hk
 have hk2:k<l.length:=by omega
 simp only [Bo,Bl hk2,BK]
 exact key k hk2
def Gl (l:List Int):Prop:=l.Nodup∧ ∀ x∈l,1<=x/\x<=16
theorem QVd {l:List Int}{x:Int}(h:Gl l)(hx:1<=x/\x<=16)(hn:QY l x=false):Gl (l++[x]):=by
 have hm:x ∉ l:=fun hc=>by
  unfold QY at hn
  rw [BN.2 hc] at hn
  cases hn
 refine ⟨?_,fun y hy=> ?_⟩
 ·rw [List.nodup_append]
  refine ⟨h.1,List.nodup_cons.2 ⟨by simp,List.nodup_nil⟩,fun a ha b hb=> ?_⟩
  rw [Dh] at hb
  rintro rfl
  exact hm (hb▸ha)
 ·rw [BH,Dh] at hy
  rcases hy with hy|rfl
  ·exact h.2 y hy
  ·exact hx
theorem QG2: ∀ (n:Nat) (l:List Int) (d:Qd),Gl l->Gl (suZ n l d).1
 |0,_,_,h=>h
 |n+1,l,d,h=>by
  have b:=JA (d:=d) (n:=16) (by omega)
  unfold suZ
  refine QG2 n _ _ ?_
  cases hh:QY l (1+Ql d 16) with
  |true=>exact h
  |false=>exact QVd h (by omega) hh
theorem QVe (l:List Int)(x:Int):(Wk l x).Perm (x::l):=by
 unfold Wk
 rw [BF,BD]
 refine List.perm_middle.trans ?_
 rw [List.take_append_drop]
theorem QVf (l:List Int):(FG l).Perm l:=by
 have key: ∀ (l a:List Int),(l.foldl Wk a).Perm (a++l):=by
  intro l
  induction l with
  |nil=>intro a;rw [BG];exact List.Perm.refl _
  |cons x r ih=>
   intro a
   rw [Dz]
   refine (ih (Wk a x)).trans ?_
   refine ((QVe a x).append_right r).trans ?_
   exact List.perm_middle.symm
 unfold FG
 have:=key l []
 rwa [BO] at this
theorem QVg {a b:List Int}(h:a.Perm b)(hb:Gl b):Gl a:=⟨h.nodup_iff.2 hb.1,fun x hx=>hb.2 x (h.mem_iff.1 hx)⟩
theorem QVh (d:Qd):Gl (WN d):=by
 have h:=QG2 (2+Ql d 9).toNat [] (Qg d 9) ⟨List.nodup_nil,fun x hx=>by cases hx⟩
 unfold WN
 cases done (suI d).2 4
 ·exact h
 ·exact QVg (QVf _) h
def Qc4 (l:List Int):Bool:= !igt (Qc l) 16&&(WT l&&l.all JI)
def Qc5 (l:List Int):Bool:=WT l&&l.all UT
theorem QG3 {e:Endpoint}(hw:XU e.1=true)(h1:1<=e.2.1)(h2:e.2.1<=e.2.2.1)(h3:e.2.2.1<=4)(hs:Gl (QI e))(hi:(QH e).length<=4)(hv:(QH e).all XH=true)(ha:Qc4 (Jh e)=true)(hh:Qc5 (Jj e)=true):Q3 e=true:=by
 simp only [Qc4,Qc5,Bc] at ha hh
 have g1:ilt e.2.1 1=false:=Bn (by omega)
 have g2:igt e.2.1 e.2.2.1=false:=Bn (by omega)
 have g3:igt e.2.2.1 4=false:=Bn (by omega)
 have g4:igt (Qc (QH e)) 4=false:=Bn (by simp only [Qc];omega)
 unfold Q3
 rw [hw,g1,g2,g3,QVc hs.1 hs.2,g4,ha.1,ha.2.1,ha.2.2,hv,hh.1,hh.2]
 rfl
theorem QG4 {l:List (List Int)}{p:List Int->Bool}(h:l.all p=true)(h0:p []=true)(k:Nat):p (lgt (.sl tI) l k)=true:=by
 show p (l.getD k [])=true
 rw [Bo]
 cases hk:l[k]? with
 |none=>exact h0
 |some x=>exact Bg.1 h x (Dp hk)
theorem an_ok (d:Qd)(nm:ByteArray):Qc4 (Jh (epV d nm))=true:=QG4 (p:=Qc4) (by decide) (by decide) _
theorem hs_ok (d:Qd)(nm:ByteArray):Qc5 (Jj (epV d nm))=true:=QG4 (p:=Qc5) (by kernel_rfl) (by decide) _
theorem ver_ok (d:Qd):1<=WQ d/\WQ d<=WR d/\WR d<=4:=by
 have m0:=Z0 (d:=d) (l:=[1,1,2,3]) (by decide)
 have m1:=Z0 (d:=eD6 d) (l:=[3,4,2]) (by decide)
 simp only [BT,B0,Dn] at m0 m1
 have b4:=JA (d:=eD4 d) (n:=5-eL0 d) (by show 0<5-dof d [1,1,2,3];omega)
 have e0:eL0 d=dof d [1,1,2,3]:=rfl
 unfold WQ WR
 cases eB d
 ·show 1<=eL0 d/\eL0 d<=eL0 d+Ql (eD4 d) (5-eL0 d)/\eL0 d+Ql (eD4 d) (5-eL0 d)<=4
  omega
 ·show (1:Int)<=1/\1<=dof (eD6 d) [3,4,2]/\dof (eD6 d) [3,4,2]<=4
  omega
theorem QVi {d:Qd}{nm:ByteArray}(hs:Xo nm=true)(hd:dOk d=true):(ZW d nm).1.all XH=true:=by
 have k4:=QG (n:=2) (QG (n:=2) (QcH (JH (l:=[1,1,2,3]) hd)))
 have k6:=QG (n:=3) (QG (n:=5-eL0 d) k4)
 have k7:dOk (eD7 d)=true:=by
  unfold eD7
  cases eB d
  ·exact k6
  ·exact JH (l:=[3,4,2]) k6
 exact QG1 _ _ _ hs (JH (l:=[1,2,1,3,0]) k7)
theorem ep_all {d:Qd}{nm:ByteArray}(hs:Xo nm=true)(hn:nm.size<=1000)(hd:dOk d=true):Gl (QI (epV d nm))/\(QH (epV d nm)).length<=4/\(QH (epV d nm)).all XH=true/\(1<=(epV d nm).2.1/\(epV d nm).2.1<=(epV d nm).2.2.1/\(epV d nm).2.2.1<=4):=
 ⟨QVh _,B4 (Qy5 hn hd).2 (by decide),QVi hs hd,ver_ok d⟩
theorem QVj {d:Qd}{nm:ByteArray}(hs:Xo nm=true)(hw:XU nm=true)(hn:nm.size<=1000)(hd:dOk d=true):Q3 (epV d nm)=true:=by
 obtain ⟨h1,h2,h3,h4,h5,h6⟩:=ep_all hs hn hd
 exact QG3 (show XU (epV d nm).1=true from hw) h4 h5 h6 h1 h2 h3 (an_ok d nm) (hs_ok d nm)
attribute [local irreducible] epV epN prZ
end
end Go.Proofs.YtckcgijklnloiaaGreat.K
noncomputable section
namespace Go.Proofs.YtckcgijklnloiaaGreat.K
open Go.RowKit
noncomputable section
end
end Go.Proofs.YtckcgijklnloiaaGreat.K
