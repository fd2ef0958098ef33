import Derived.Test.YtmjnnemhoeolgaaGreatQ7
import Derived.Test.YtmjnnemhoeolgaaGreatQ3
import Derived.Test.YtmjnnemhoeolgaaGreatQ4
import Derived.RangeFuncCalls
import Derived.RangeFuncBound
import Derived.Shelf.RegionOpen
import Derived.OwnWalkIn
import Derived.TacticsInMore
import Derived.LoopNIn
import Derived.LoopIn
import Derived.Maps.OwnIn
import Derived.ChangeKeysEq
set_option linter.unusedSimpArgs false
set_option linter.unusedVariables false
noncomputable section
namespace Go.Proofs.YtmjnnemhoeolgaaGreat.K
open Go.RowKit
noncomputable section
def suE (e:Endpoint)(l:List Int):Endpoint:=(e.1,(e.2.1,(e.2.2.1,(l,e.2.2.2.2))))
def idE (e:Endpoint)(l:List Identity):Endpoint:=(e.1,(e.2.1,(e.2.2.1,(e.2.2.2.1,(e.2.2.2.2.1,(l,e.2.2.2.2.2.2))))))
def anE (e:Endpoint)(l:List Int):Endpoint:=(e.1,(e.2.1,(e.2.2.1,(e.2.2.2.1,(e.2.2.2.2.1,(e.2.2.2.2.2.1,(l,e.2.2.2.2.2.2.2)))))))
def hsE (e:Endpoint)(l:List Int):Endpoint:=(e.1,(e.2.1,(e.2.2.1,(e.2.2.2.1,(e.2.2.2.2.1,(e.2.2.2.2.2.1,(e.2.2.2.2.2.2.1,(l,e.2.2.2.2.2.2.2.2))))))))
def adI (e:Endpoint)(c:Change):List Identity:=((([]:List Identity)++(lsl (Qr e) 0 (ZS c)))++([Zz c]))++(lsl (Qr e) (ZS c) ((List.length (Qr e):Nat):Int))
def drI (e:Endpoint)(c:Change):List Identity:=(([]:List Identity)++(lsl (Qr e) 0 (JF e (Q4 c)).2))++(lsl (Qr e) (Qf .i64 (JF e (Q4 c)).2 1) ((List.length (Qr e):Nat):Int))
def Zj (e:Endpoint)(c:Change):Endpoint:=
 bif ieq (QP c) 1 then suE e (WR (Qy e) (ZS c) (Q4 c)) else bif ieq (QP c) 2 then suE e (woF (Qy e) (Zk (Qy e) (Q4 c))) else
 bif ieq (QP c) 3 then (e.1,(e.2.1,(Q4 c,e.2.2.2))) else bif ieq (QP c) 4 then (e.1,(Q4 c,e.2.2)) else
 bif ieq (QP c) 5 then idE e (adI e c) else bif ieq (QP c) 6 then idE e (drI e c) else
 bif ieq (QP c) 7 then anE e (Gy (Q2 e) (Q4 c)) else bif ieq (QP c) 8 then anE e (woF (Q2 e) (Zk (Q2 e) (Q4 c))) else
 bif ieq (QP c) 9 then hsE e (Gy (Q5 e) (Q4 c)) else bif ieq (QP c) 10 then hsE e (woF (Q5 e) (Zk (Q5 e) (Q4 c))) else
 bif ieq (QP c) 11 then (e.1,(e.2.1,(e.2.2.1,(e.2.2.2.1,(e.2.2.2.2.1,(e.2.2.2.2.2.1,(e.2.2.2.2.2.2.1,(e.2.2.2.2.2.2.2.1,(ieq (Q4 c) 1,()))))))))) else
 bif ieq (QP c) 12 then (e.1,(e.2.1,(e.2.2.1,(e.2.2.2.1,(ieq (Q4 c) 1,e.2.2.2.2.2))))) else e
def V4 (e:Endpoint)(c:Change):Bool:=(Q0 e&&Jg (Zz c))&&ieq (J5 e c) 0
def QzD:TC:=aF Tryz.f119 [(942,pD [(0,[2]),(1,[2]),(2,[2]),(3,[2]),(4,[3]),(5,[3]),(6,[]),(7,[]),(8,[5,52,58,65,80,87]),(9,[4,5,52,58,65,80,87])] (.of [0,1,2,3,4,5,6,7,8,9])),(3866622,pD [(0,[2]),(1,[2]),(2,[2]),(3,[2]),(4,[3]),(5,[3]),(6,[]),(7,[]),(8,[5,52,58,65,80,87]),(9,[4,5,52,58,65,80,87])] (.of [0,1,2,3,4,5,6,7,8,9])),(61865982,pD [(0,[2]),(1,[2]),(2,[2]),(3,[2]),(4,[3]),(5,[3]),(6,[]),(7,[]),(8,[5,52,58,65,80,87]),(9,[4,5,52,58,65,80,87])] (.of [0,1,2,3,4,5,6,7,8,9]))]
def g_f119:G:=gG 140 [(120,QfT),(155,Qgx),(157,Qih),(158,Qh8),(159,Qro),(160,QfP),(161,Qrt)] (fun _ _=>none)
def Qm4 (p0:Endpoint)(p1:Change):OV:=
 let a2:=(((JI p0).2).2)
 let a1:=((a2.2).2)
 let a3:=((((U7 p1.2.2.2.2.1).1).1,((((U7 p1.2.2.2.2.1).1).2).1,())),(((U7 p1.2.2.2.2.1).2).1,((((U7 p1.2.2.2.2.1).2).2).1,())))
 let a4:=(List.length ((a1.2).1):Nat)
 let a5:=((JF p0 p1.2.2.1).2)
 let a6:=lsl ((a1.2).1) 0 p1.2.2.2.1
 let a7:=(((a1.2).2).2)
 let a8:=(lsl ((a1.2).1) (Qf .i64 a5 1) (a4:Int))
 let a9:=lsl ((a1.2).1) 0 a5
 let a10:=(lsl ((a1.2).1) p1.2.2.2.1 (a4:Int))
 let a11:=(((a1.2).2).1,(a7.1,((a7.2).1,())))
 let a12:=Jz p0.2.2.2.2.2.2.2.1 p1.2.2.1
 let a13:=Jz p0.2.2.2.2.2.2.1 p1.2.2.1
 let a14:=Zk p0.2.2.2.2.2.2.2.1 p1.2.2.1
 let a15:=Zk p0.2.2.2.2.2.2.1 p1.2.2.1
 let a16:=Zk p0.2.2.2.1 p1.2.2.1
 br (Q0 p0) (br (ieq p1.2.1 1) (br (QbU p0.2.2.2.1 p1.2.2.2.1 p1.2.2.1) (some (.t Qo ((JI p0).1,(((JI p0).2).1,(a2.1,((WR p0.2.2.2.1 p1.2.2.2.1 p1.2.2.1),(a2.2).2)))),[])) none) (br (ieq p1.2.1 2) (br (Jz p0.2.2.2.1 p1.2.2.1) (br (UF p0.2.2.2.1 a16) (some (.t Qo ((JI p0).1,(((JI p0).2).1,(a2.1,((woF p0.2.2.2.1 a16),(a2.2).2)))),[])) none) none) (br (ieq p1.2.1 3) (some (.t Qo ((JI p0).1,(((JI p0).2).1,(p1.2.2.1,a2.2))),[])) (br (ieq p1.2.1 4) (some (.t Qo ((JI p0).1,(p1.2.2.1,((JI p0).2).2)),[])) (br (ieq p1.2.1 5) (br (cSl ((a1.2).1) 0 p1.2.2.2.1 (a4:Int)) (br (QK ([]:List Identity) a6 48) (br (Jg p1.2.2.2.2.1) (br (QK (([]:List Identity)++a6) ([a3]) 48) (br (cSl ((a1.2).1) p1.2.2.2.1 (a4:Int) (a4:Int)) (br (QK ((([]:List Identity)++a6)++([a3])) a10 48) (some (.t Qo ((JI p0).1,(((JI p0).2).1,(a2.1,((a2.2).1,(a1.1,((((([]:List Identity)++a6)++([a3]))++a10),a11)))))),[])) none) none) none) none) none) none) (br (ieq p1.2.1 6) (br (Xy p0 p1.2.2.1) (br (cSl ((a1.2).1) 0 a5 (a4:Int)) (br (QK ([]:List Identity) a9 48) (br (cSl ((a1.2).1) (Qf .i64 a5 1) (a4:Int) (a4:Int)) (br (QK (([]:List Identity)++a9) a8 48) (some (.t Qo ((JI p0).1,(((JI p0).2).1,(a2.1,((a2.2).1,(a1.1,(((([]:List Identity)++a9)++a8),a11)))))),[])) none) none) none) none) none) (br (ieq p1.2.1 7) (br a13 (some (.t Qo ((JI p0).1,(((JI p0).2).1,(a2.1,((a2.2).1,(a1.1,((a1.2).1,((Gy p0.2.2.2.2.2.2.1 p1.2.2.1),((a1.2).2).2))))))),[])) none) (br (ieq p1.2.1 8) (br a13 (br (UF p0.2.2.2.2.2.2.1 a15) (some (.t Qo ((JI p0).1,(((JI p0).2).1,(a2.1,((a2.2).1,(a1.1,((a1.2).1,((woF p0.2.2.2.2.2.2.1 a15),((a1.2).2).2))))))),[])) none) none) (br (ieq p1.2.1 9) (br a12 (some (.t Qo ((JI p0).1,(((JI p0).2).1,(a2.1,((a2.2).1,(a1.1,((a1.2).1,(((a1.2).2).1,((Gy p0.2.2.2.2.2.2.2.1 p1.2.2.1),a7.2)))))))),[])) none) (br (ieq p1.2.1 10) (br a12 (br (UF p0.2.2.2.2.2.2.2.1 a14) (some (.t Qo ((JI p0).1,(((JI p0).2).1,(a2.1,((a2.2).1,(a1.1,((a1.2).1,(((a1.2).2).1,((woF p0.2.2.2.2.2.2.2.1 a14),a7.2)))))))),[])) none) none) (br (ieq p1.2.1 11) (some (.t Qo ((JI p0).1,(((JI p0).2).1,(a2.1,((a2.2).1,(a1.1,((a1.2).1,(((a1.2).2).1,(a7.1,((ieq p1.2.2.1 1),(a7.2).2))))))))),[])) (br (ieq p1.2.1 12) (some (.t Qo ((JI p0).1,(((JI p0).2).1,(a2.1,((a2.2).1,((ieq p1.2.2.1 1),a1.2))))),[])) (some (.t Qo (JI p0),[])))))))))))))) none
theorem brE {c:Bool}{x y:Endpoint}{A B:OV}(h1:c=true->A=some (.t Qo x,[]))(h2:B=some (.t Qo y,[])):br c A B=some (.t Qo (bif c then x else y),[]):=by
 cases c with
 |true=>exact h1 rfl
 |false=>exact h2
theorem Ib {l1 l2:List Identity}(h1:l1.length<=300000)(h2:l2.length<=300000):QK l1 l2 48=true:=Jj (by decide) (by omega)
theorem Yd {a b:Int}(h:ieq a b=true):a=b:=by
 simpa [YE] using h
theorem s_f119 (e:Endpoint)(c:Change)(h:V4 e c=true):Qm4 e c=some (.t Qo (Zj e c),[]):=by
 obtain ⟨h,hz⟩:=Bi.1 h
 obtain ⟨h1,h2⟩:=Bi.1 h
 have hz:J5 e c=0:=Yd hz
 obtain ⟨b1,b2,b3,b4,b5⟩:=(Gw h1).2
 unfold Qm4 Zj
 refine brY h1 (brE (fun g=> ?_) (brE (fun g=> ?_) (brE (fun _=>rfl) (brE (fun _=>rfl) (brE (fun g=> ?_) (brE (fun g=> ?_) (brE (fun _=> ?_) (brE (fun g=> ?_) (brE (fun _=> ?_) (brE (fun g=> ?_) (brE (fun _=>rfl) (brE (fun _=>rfl) rfl))))))))))))
 ·obtain ⟨p1,p2⟩:=alw_1 hz (Yd g)
  exact brY (Be ⟨p1,p2,b1⟩) rfl
 ·exact brY (Be b1) (brY (FM hz (Yd g) (.inl rfl) b1) rfl)
 ·obtain ⟨p1,p2⟩:=alw_5 hz (Yd g)
  have e1:=UD (y:=Q1) (l:=Qr e) p1 p2
  have e2:=UE (y:=Q1) (l:=Qr e) p1 p2
  have a1:(lsl (Qr e) 0 (ZS c)).length<=300000:=by omega
  have a2:(lsl (Qr e) (ZS c) ((List.length (Qr e):Nat):Int)).length<=300000:=by omega
  have a3:(([]:List Identity)++lsl (Qr e) 0 (ZS c)).length<=300000:=a1
  have a4:((([]:List Identity)++lsl (Qr e) 0 (ZS c))++[Zz c]).length<=300000:=by
   rw [Bl,BR,Bp]
   omega
  exact brY (Be ⟨BT 0,p1,p2,BT _⟩) (brY (Ib (show 0<=300000 by decide) a1) (brY h2 (brY (Ib a3 (show 1<=300000 by decide)) (brY (Be ⟨p1,p2,BT _,BT _⟩) (brY (Ib a4 a2) rfl)))))
 ·obtain ⟨p1,p2⟩:=alw_6 hz (Yd g)
  have e0:Qf .i64 (JF e (Q4 c)).2 1=(JF e (Q4 c)).2+1:=JD (by omega)
  have e1:=UD (y:=Q1) (l:=Qr e) p1 (by omega)
  have e2:=UE (y:=Q1) (l:=Qr e) (a:=(JF e (Q4 c)).2+1) (by omega) (by omega)
  have a1:(lsl (Qr e) 0 (JF e (Q4 c)).2).length<=300000:=by omega
  have a2:(lsl (Qr e) (Qf .i64 (JF e (Q4 c)).2 1) ((List.length (Qr e):Nat):Int)).length<=300000:=by rw [e0];omega
  have a3:(([]:List Identity)++lsl (Qr e) 0 (JF e (Q4 c)).2).length<=300000:=a1
  have q:cSl (Qr e) (Qf .i64 (JF e (Q4 c)).2 1) ((List.length (Qr e):Nat):Int) ((List.length (Qr e):Nat):Int)=true:=by
   rw [e0]
   exact Be ⟨by omega,by omega,BT _,BT _⟩
  exact brY (Be b2) (brY (Be ⟨BT 0,p1,(show (JF e (Q4 c)).2<=((Qr e).length:Int) by omega),BT _⟩) (brY (Ib (show 0<=300000 by decide) a1) (brY q (brY (Ib a3 a2) rfl))))
 ·exact brY (Be b3) rfl
 ·exact brY (Be b3) (brY (FM hz (Yd g) (.inr (.inl rfl)) b3) rfl)
 ·exact brY (Be b4) rfl
 ·exact brY (Be b4) (brY (FM hz (Yd g) (.inr (.inr rfl)) b4) rfl)
def Qm5:Ent:=Ql (.pr Qo (.pr Ze .nil)) (fun x=>(V4 x.1 x.2.1)) (fun x=>(.t Qo (Zj x.1 x.2.1)))
theorem QzE:EM 119 Qm5:=mS g_f119 QzD [((.c 4 true 9),some Qo)] false (gB (gD Qnn (gD Qom (gD QrA (gD Qrm (gD QDS (gD Qnh (gD QDW gN)))))))) fun m=>Qn m fun x hok=>kT (s_f119 x.1 x.2.1 hok)
theorem Qm6 {l:List Int}{n:Int}:(Gy l n).length=l.length+1:=by
 have:=Qia n l
 exact Qrk (by omega) (by omega)
theorem V5 {p:Identity->Bool}{l:List Identity}(h:l.all p=true)(a b:Int):(lsl l a b).all p=true:=by
 rw [Bf] at h ⊢
 exact fun x hx=>h x (List.mem_of_mem_drop (Dt hx))
theorem Qm7 {n:Nat}{e:Endpoint}{c:Change}(h:ZH n e=true)(hn:n<=90000)(hi:Jg (Zz c)=true)(hz:J5 e c=0):ZH (n+1) (Zj e c)=true:=by
 obtain ⟨h1,⟨h2,h3,h4,h5⟩,h6⟩:=Qhn h
 have hm:=Qho h (Nat.le_succ n)
 have mk: ∀ x:Endpoint,x.1=e.1->(Qy x).length<=n+1->(Qr x).length<=n+1->(Q2 x).length<=n+1->(Q5 x).length<=n+1->(Qr x).all Jg=true->ZH (n+1) x=true:=fun x g0 g1 g2 g3 g4 g5=>by
  unfold ZH
  rw [g0]
  simp only [Bc,Ba]
  exact ⟨⟨h1,g1,g2,g3,g4⟩,g5⟩
 unfold Zj
 cases g1:ieq (QP c) 1 with
 |true=>
  obtain ⟨p1,p2⟩:=alw_1 hz (Yd g1)
  have:=Qrk (l:=Qy e) (n:=Q4 c) p1 p2
  exact mk _ rfl (by show (WR (Qy e) (ZS c) (Q4 c)).length<=n+1;omega) (by show (Qr e).length<=n+1;omega) (by show (Q2 e).length<=n+1;omega) (by show (Q5 e).length<=n+1;omega) h6
 |false=>
  cases g2:ieq (QP c) 2 with
  |true=>
   have:=Qh9 (FM hz (Yd g2) (.inl rfl) (show (Qy e).length<=100000 by omega))
   have this:(woF (Qy e) (Zk (Qy e) (Q4 c))).length+1=(Qy e).length:=this
   exact mk _ rfl (by show (woF (Qy e) (Zk (Qy e) (Q4 c))).length<=n+1;omega) (by show (Qr e).length<=n+1;omega) (by show (Q2 e).length<=n+1;omega) (by show (Q5 e).length<=n+1;omega) h6
  |false=>
   cases ieq (QP c) 3 with
   |true=>exact hm
   |false=>
    cases ieq (QP c) 4 with
    |true=>exact hm
    |false=>
     cases g5:ieq (QP c) 5 with
     |true=>
      obtain ⟨p1,p2⟩:=alw_5 hz (Yd g5)
      have e1:=UD (y:=Q1) (l:=Qr e) p1 p2
      have e2:=UE (y:=Q1) (l:=Qr e) p1 p2
      have hal:(adI e c).length=(Qr e).length+1:=by
       unfold adI
       rw [Bl,Bl,BR,Bp]
       omega
      refine mk _ rfl (by show (Qy e).length<=n+1;omega) (by show (adI e c).length<=n+1;omega) (by show (Q2 e).length<=n+1;omega) (by show (Q5 e).length<=n+1;omega) ?_
      show (adI e c).all Jg=true
      unfold adI
      rw [List.all_append,List.all_append,BR,V5 h6,V5 h6]
      simp only [BV,Dw,hi,B2]
     |false=>
      cases g6:ieq (QP c) 6 with
      |true=>
       obtain ⟨p1,p2⟩:=alw_6 hz (Yd g6)
       have e0:Qf .i64 (JF e (Q4 c)).2 1=(JF e (Q4 c)).2+1:=JD (by omega)
       have e1:=UD (y:=Q1) (l:=Qr e) p1 (by omega)
       have e2:=UE (y:=Q1) (l:=Qr e) (a:=(JF e (Q4 c)).2+1) (by omega) (by omega)
       have hal:(drI e c).length<=(Qr e).length:=by
        unfold drI
        rw [e0,Bl,BR]
        omega
       refine mk _ rfl (by show (Qy e).length<=n+1;omega) (by show (drI e c).length<=n+1;omega) (by show (Q2 e).length<=n+1;omega) (by show (Q5 e).length<=n+1;omega) ?_
       show (drI e c).all Jg=true
       unfold drI
       rw [List.all_append,BR,V5 h6,V5 h6]
       rfl
      |false=>
       have fin: ∀ l m:List Int,l.length<=n+1->m.length<=n+1->ZH (n+1) (anE e l)=true/\ZH (n+1) (hsE e m)=true:=fun l m hl hm=>⟨mk _ rfl (by show (Qy e).length<=n+1;omega) (by show (Qr e).length<=n+1;omega) hl (by show (Q5 e).length<=n+1;omega) h6,mk _ rfl (by show (Qy e).length<=n+1;omega) (by show (Qr e).length<=n+1;omega) (by show (Q2 e).length<=n+1;omega) hm h6⟩
       cases ieq (QP c) 7 with
       |true=>exact (fin _ [] (by rw [Qm6];omega) (B3 _)).1
       |false=>
        cases g8:ieq (QP c) 8 with
        |true=>
         have:=Qh9 (FM hz (Yd g8) (.inr (.inl rfl)) (show (Q2 e).length<=100000 by omega))
         have this:(woF (Q2 e) (Zk (Q2 e) (Q4 c))).length+1=(Q2 e).length:=this
         exact (fin _ [] (by omega) (B3 _)).1
        |false=>
         cases ieq (QP c) 9 with
         |true=>exact (fin [] _ (B3 _) (by rw [Qm6];omega)).2
         |false=>
          cases g10:ieq (QP c) 10 with
          |true=>
           have:=Qh9 (FM hz (Yd g10) (.inr (.inr rfl)) (show (Q5 e).length<=100000 by omega))
           have this:(woF (Q5 e) (Zk (Q5 e) (Q4 c))).length+1=(Q5 e).length:=this
           exact (fin [] _ (B3 _) (by omega)).2
          |false=>
           cases ieq (QP c) 11 with
           |true=>exact hm
           |false=>
            cases ieq (QP c) 12 with
            |true=>exact hm
            |false=>exact hm
def Zt (e:Endpoint)(c:Change):Endpoint×Int:=bif ine (J5 e c) 0 then (zEp,J5 e c) else bif ine (Zb (Zj e c)) 0 then (zEp,18) else (Zj e c,0)
def V6 (e:Endpoint)(c:Change):Bool:=ZH 80000 e&&Jg (Zz c)
def tc_f70:TC:=aF Tryz.f70 []
def g_f70:G:=gG 23 [(61,QcR),(118,Qp4),(119,Qm5)] (fun _ _=>none)
def r_f70 (p0:Endpoint)(p1:Change):OV:=br (Qhp p0 p1) (br (ine (J5 p0 p1) 0) (some (.tu [(.t Qo ((ByteArray.mk #[]),(0,(0,(([]:List Int),(false,(([]:List Identity),(([]:List Int),(([]:List Int),(false,())))))))))),(.t tI (J5 p0 p1))],[])) (br (V4 p0 p1) (br (Q0 (Zj p0 p1)) (br (ine (Zb (Zj p0 p1)) 0) (some (.tu [(.t Qo ((ByteArray.mk #[]),(0,(0,(([]:List Int),(false,(([]:List Identity),(([]:List Int),(([]:List Int),(false,())))))))))),(.t tI 18)],[])) (some (.tu [(.t Qo (Zj p0 p1)),(.t tI 0)],[]))) none) none)) none
theorem s_f70 (e:Endpoint)(c:Change)(h:V6 e c=true):r_f70 e c=some (.tu [.t Qo (Zt e c).1,.t tI (Zt e c).2],[]):=by
 obtain ⟨hb,hi⟩:=Bi.1 h
 have hl:=Qbh hb (by decide)
 unfold r_f70 Zt
 refine brY (Bi.2 ⟨hl,hi⟩) ?_
 cases hz:ine (J5 e c) 0 with
 |true=>rfl
 |false=>
  have hz0:J5 e c=0:=I0 hz
  have hq:V4 e c=true:=Bi.2 ⟨Bi.2 ⟨hl,hi⟩,by rw [hz0];rfl⟩
  rw [Qh]
  refine brY hq (brY (Qbh (Qm7 hb (by decide) hi hz0) (by decide)) ?_)
  cases ine (Zb (Zj e c)) 0<;>rfl
def Qm8:Ent:=Ql (.pr Qo (.pr Ze .nil)) (fun x=>(V6 x.1 x.2.1)) (fun x=>(.tu [(.t Qo ((Zt x.1 x.2.1).1)),(.t tI ((Zt x.1 x.2.1).2))]))
theorem ms_f70:EM 70 Qm8:=mS g_f70 tc_f70 [((.c 4 true 9),some Qo),((.t 5),some tI)] false (gB (gD Qjc (gD QB3 (gD QzE gN)))) fun m=>Qn m fun x hok=>kT (s_f70 x.1 x.2.1 hok)
theorem QzF {n:Nat}{e:Endpoint}{c:Change}(h:ZH n e=true)(hn:n<=80000)(hi:Jg (Zz c)=true)(hz:(Zt e c).2=0):ZH (n+1) (Zt e c).1=true:=by
 unfold Zt at hz ⊢
 cases h1:ine (J5 e c) 0 with
 |true=>
  rw [h1] at hz
  have:J5 e c=0:=hz
  rw [this] at h1
  exact absurd h1 (by decide)
 |false=>
  cases h2:ine (Zb (Zj e c)) 0 with
  |true=>
   rw [h1,h2] at hz
   exact absurd (show (18:Int)=0 from hz) (by decide)
  |false=>exact Qm7 h (by omega) hi (I0 h1)
end
end Go.Proofs.YtmjnnemhoeolgaaGreat.K
noncomputable section
namespace Go.Proofs.YtmjnnemhoeolgaaGreat.K
open Go.RowKit
noncomputable section
def vsOk (l:List Int)(n:Int)(k:Nat):Bool:= !ilt (l.getD k 0) 0&&(!ige (l.getD k 0) n&&(decide (k=0)|| !ige (l.getD (k-1) 0) (l.getD k 0)))
def vsUp (l:List Int)(n:Int)(k:Nat):Bool:=(List.range' k (l.length-k)).all (vsOk l n)
def vstF (l:List Int)(n:Int):Bool:=vsUp l n 0
theorem vs_in {l:List Int}{n:Int}(h:vstF l n=true): ∀ x∈l,0<=x/\x<n:=fun x hx=>by
 obtain ⟨k,hk⟩:=Dy.1 hx
 obtain ⟨hk1,rfl⟩:=BB.1 hk
 unfold vstF vsUp at h
 rw [Bf] at h
 have:=h k (by rw [List.mem_range'];exact ⟨k,by omega,by omega⟩)
 unfold vsOk at this
 rw [show l.getD k 0=l[k] by simp only [Bk,Bh hk1,BI]] at this
 simp only [Bc,Br,ilt,ige,Bn] at this
 omega
abbrev zX:Estate:=(([]:List Endpoint),(([]:List Keep),(([]:List Item),())))
def Yv (n:Nat)(x:Estate):Bool:=(Qu x).all (ZH n)&&(decide ((Qu x).length<=1000/\(Q7 x).length<=1000)&&(Z0 (Zs x)&&(Zs x).all U8))
theorem I2 {n:Nat}{x:Estate}(h:Yv n x=true):(Qu x).all (ZH n)=true/\((Qu x).length<=1000/\(Q7 x).length<=1000)/\Z0 (Zs x)=true/\(Zs x).all U8=true:=by
 simp only [Yv,Bc,Ba] at h
 exact ⟨h.1,h.2.1,h.2.2.1,h.2.2.2⟩
theorem Qh7 {n:Nat}{x:Estate}(h:Yv n x=true)(hn:n<=90000):Jr x=true/\Qae x=true:=by
 obtain ⟨h1,⟨h2,h3⟩,h4,h5⟩:=I2 h
 have:Jr x=true:=by
  unfold Jr
  simp only [Bc,Ba]
  exact ⟨⟨by omega,by omega⟩,Bf.2 fun e he=>Qbh (Bf.1 h1 e he) (by omega),h4⟩
 exact ⟨this,Bi.2 ⟨this,h5⟩⟩
def Xs (x:Estate)(c:Change):Estate×Int:=
 bif ilt c.1 0 then (zX,40) else bif ige c.1 (Qa (Qu x)) then (zX,40) else
 bif ine (Zt (Jl (Qu x) c.1.toNat) c).2 0 then (zX,(Zt (Jl (Qu x) c.1.toNat) c).2) else (((Qu x).set c.1.toNat (Zt (Jl (Qu x) c.1.toNat) c).1,(Q7 x,(Zs x,()))),0)
def Gx (x:Estate)(c:Change):Bool:=Yv 80000 x&&Jg (Zz c)
theorem Qrg {p:Endpoint->Bool}{l:List Endpoint}(h:l.all p=true){k:Nat}(hk:k<l.length):p (Jl l k)=true:=by
 rw [show Jl l k=l[k] by simp only [Jl,Bk,Bh hk,BI]]
 exact Bf.1 h _ (Bu hk)
def tc_f43:TC:=aF Tryz.f43 [(14,pD [(0,[2]),(1,[2]),(2,[3]),(3,[3]),(4,[]),(5,[]),(6,[3]),(7,[]),(8,[]),(9,[]),(10,[]),(11,[6,5006,10006,15006]),(12,[6]),(13,[])] (.of [0,1,2,3,4,5,6,7,8,9,10,11,12,13]))]
def g_f43:G:=gG 45 [(70,Qm8),(71,Qnu)] (fun _ _=>none)
def r_f43 (p0:Estate)(p1:Change):OV:=
 let a1:=lgt Qo p0.1 (Int.toNat p1.1)
 br (ilt p1.1 0) (some (.tu [(.t Qw (([]:List Endpoint),(([]:List Keep),(([]:List Item),())))),(.t tI 40)],[])) (br (ige p1.1 (Qa p0.1)) (some (.tu [(.t Qw (([]:List Endpoint),(([]:List Keep),(([]:List Item),())))),(.t tI 40)],[])) (br (cIx p0.1 p1.1) (br (V6 a1 p1) (br (ine ((Zt a1 p1).2) 0) (some (.tu [(.t Qw (([]:List Endpoint),(([]:List Keep),(([]:List Item),())))),(.t tI ((Zt a1 p1).2))],[])) (br (Qae p0) (br (cIx ((XJ p0).1) p1.1) (br (cLd ((XJ p0).1) (Int.toNat p1.1)) (some (.tu [(.t Qw ((List.set ((XJ p0).1) (Int.toNat p1.1) ((Zt a1 p1).1)),(((XJ p0).2).1,((((XJ p0).2).2).1,())))),(.t tI 0)],[])) none) none) none)) none) none))
theorem s_f43 (x:Estate)(c:Change)(h:Gx x c=true):r_f43 x c=some (.tu [.t Qw (Xs x c).1,.t tI (Xs x c).2],[]):=by
 obtain ⟨hb,hi⟩:=Bi.1 h
 obtain ⟨_,hcp⟩:=Qh7 hb (by decide)
 unfold r_f43 Xs
 cases h1:ilt c.1 0 with
 |true=>rfl
 |false=>
  cases h2:ige c.1 (Qa (Qu x)) with
  |true=>rfl
  |false=>
   simp only [ilt,ige,Qa,Bn] at h1 h2
   have hix:cIx (Qu x) c.1=true:=Be ⟨by omega,by omega⟩
   have hk:c.1.toNat<(Qu x).length:=by omega
   have ha:V6 (Jl (Qu x) c.1.toNat) c=true:=Bi.2 ⟨Qrg (I2 hb).1 hk,hi⟩
   rw [Qh,Qh]
   refine brY hix (brY ha ?_)
   cases h3:ine (Zt (Jl (Qu x) c.1.toNat) c).2 0 with
   |true=>rfl
   |false=>
    rw [Qh]
    exact brY hcp (brY hix (brY (Be hk) rfl))
def Qrh:Ent:=Ql (.pr Qw (.pr Ze .nil)) (fun x=>(Gx x.1 x.2.1)) (fun x=>(.tu [(.t Qw ((Xs x.1 x.2.1).1)),(.t tI ((Xs x.1 x.2.1).2))]))
theorem ms_f43:EM 43 Qrh:=mS g_f43 tc_f43 [((.c 4 true 3),some Qw),((.t 5),some tI)] false (gB (gD ms_f70 (gD ms_f71 gN))) fun m=>Qn m fun x hok=>kT (s_f43 x.1 x.2.1 hok)
end
end Go.Proofs.YtmjnnemhoeolgaaGreat.K
noncomputable section
namespace Go.Proofs.YtmjnnemhoeolgaaGreat.K
open Go.RowKit
noncomputable section
theorem QtJ {n m:Nat}{x:Estate}(h:Yv n x=true)(hn:n<=m):Yv m x=true:=by
 obtain ⟨h1,h2,h3,h4⟩:=I2 h
 unfold Yv
 simp only [Bc,Ba]
 exact ⟨Bf.2 fun e he=>Qho (Bf.1 h1 e he) hn,h2,h3,h4⟩
theorem Qjw (n:Nat):Yv n zX=true:=rfl
theorem QFJ {n:Nat}{x:Estate}{c:Change}(h:Yv n x=true)(hn:n<=80000)(hi:Jg (Zz c)=true):Yv (n+1) (Xs x c).1=true:=by
 unfold Xs
 cases h1:ilt c.1 0 with
 |true=>exact Qjw _
 |false=>
  cases h2:ige c.1 (Qa (Qu x)) with
  |true=>exact Qjw _
  |false=>
   cases h3:ine (Zt (Jl (Qu x) c.1.toNat) c).2 0 with
   |true=>exact Qjw _
   |false=>
    simp only [ilt,ige,Qa,Bn] at h1 h2
    have hk:c.1.toNat<(Qu x).length:=by omega
    obtain ⟨g1,g2,g3,g4⟩:=I2 h
    have ha:=QzF (Qrg g1 hk) hn hi (I0 h3)
    show Yv (n+1) ((Qu x).set c.1.toNat (Zt (Jl (Qu x) c.1.toNat) c).1,(Q7 x,(Zs x,())))=true
    unfold Yv
    simp only [Bc,Ba]
    refine ⟨Bf.2 fun e he=> ?_,⟨?_,g2.2⟩,g3,g4⟩
    ·rcases List.mem_or_eq_of_mem_set he with he|rfl
     ·exact Qho (Bf.1 g1 e he) (Nat.le_succ n)
     ·exact ha
    ·show ((Qu x).set c.1.toNat (Zt (Jl (Qu x) c.1.toNat) c).1).length<=1000
     rw [List.length_set]
     exact g2.1
end
end Go.Proofs.YtmjnnemhoeolgaaGreat.K
noncomputable section
namespace Go.Proofs.YtmjnnemhoeolgaaGreat.K
open Go.RowKit
def U6 (r:Rule)(u:Keep)(p:Int):Bool:=(r.Alg==0||r.Alg==u.1)&&(r.Purpose==0||r.Purpose==p)&&(r.Below==0||(decide (u.2.1 > 0)&&decide (u.2.1<r.Below)))
def Qm9 (r:Rule)(day:Int):Bool:=decide (r.From<=day)&&decide (day<r.To)
def Ic (r:Rule)(u:Keep)(p day:Int):Bool:=U6 r u p&&Qm9 r day
def QzG:TC:=aF Tryz.f205 []
def g_f205:G:=gG 43 [] (fun _ _=>none)
def QfK (p0:Rule)(p1:Keep)(p2:Int):OV:=br (ieq p0.2.2.1 0) (some (.t .bool true,[])) (br (igt p1.2.1 0) (some (.t .bool (ilt p1.2.1 p0.2.2.1),[])) (some (.t .bool false,[])))
def QfL (p0:Rule)(p1:Keep)(p2:Int):OV:=br (ine p0.2.2.2.1 0) (br (ine p0.2.2.2.1 p2) (some (.t .bool false,[])) (QfK p0 p1 p2)) (QfK p0 p1 p2)
def Qna (p0:Rule)(p1:Keep)(p2:Int):OV:=br (ine p0.2.1 0) (br (ine p0.2.1 p1.1) (some (.t .bool false,[])) (QfL p0 p1 p2)) (QfL p0 p1 p2)
theorem s_f205 (p0:Rule)(p1:Keep)(p2:Int):Qna p0 p1 p2=some (.t .bool (U6 p0 p1 p2),[]):=by
 simp only [Qna,QfL,QfK]
 repeat' (refine QZ ?_ ?_<;>intro _)
 all_goals (simp_all [U6,Estate.Endpoints,Estate.Edges,Estate.Items,Policy.Rules,Policy.Keeps,Dice.L,Dice.At,Keep.Client,Keep.Server,Endpoint.Name,Endpoint.Least,Endpoint.Most,Endpoint.Suites,Endpoint.OwnOrder,Endpoint.Identities,Endpoint.Anchors,Endpoint.Hashes,Endpoint.Fallback,Identity.Key,Identity.KeyId,Identity.Chain,Change.Endpoint,Change.Kind,Change.Number,Change.At,Change.Identity,Rule.Allow,Rule.Alg,Rule.Below,Rule.Purpose,Rule.From,Rule.To,Rules.p,Rules.l,Rules.o,Rules.day,Way.Outcome,Way.Most,Way.Suites,Item.Name,Item.Kind,Item.Purpose,Item.Links,Item.Until,Exception.Use,Exception.Purpose,Exception.Endpoint,Exception.Days,Exception.Seals,Method.outcome,Method.uses,Suite.Code,Suite.Name,Suite.Exchange,Suite.Sign,Suite.Cipher,Suite.Mac,Suite.Least,Suite.Most,Certificate.Serial,Certificate.Issuer,Certificate.Subject,Certificate.Key,Certificate.KeyId,Certificate.Hash,Certificate.From,Certificate.To,Certificate.Authority,Certificate.Path,Certificate.Names,Certificate.Seal,Link.Use,Link.Day,Talk.server,Talk.version,Talk.suites,Symbol.name,Symbol.kind,Row.name,Row.kind,Row.way,Row.sizes,Row.strengths]<;>omega)
def Qnb:Ent:=Ql (.pr JG (.pr Qe (.pr tI .nil))) (fun x=>true) (fun x=>(.t .bool (U6 x.1 x.2.1 x.2.2.1)))
theorem QzH:EM 205 Qnb:=mS g_f205 QzG [((.t 6),some .bool)] false (gB gN) fun m=>Qn m fun x _=>kT (s_f205 x.1 x.2.1 x.2.2.1)
def same (a b:List Keep):Bool:=a==b
end Go.Proofs.YtmjnnemhoeolgaaGreat.K
noncomputable section
namespace Go.Proofs.YtmjnnemhoeolgaaGreat.K
open Go.RowKit
def WI (r:Rule):Bool:=decide (0<=r.Alg/\r.Alg<=22/\0<=r.Below/\r.Below<=16384/\0<=r.Purpose/\r.Purpose<=4/\0<=r.From/\r.From<r.To/\r.To<=40001)
def UA (k:Keep):Bool:=decide (1<=k.1/\k.1<=4/\0<=k.2.1/\k.2.1<=40000)
def YJ (r:Rule):Bool:= !WI r
def YK (k:Keep):Bool:= !UA k
def tc_f90:TC:=aF Tryz.f90 []
def g_f90:G:=gG 48 [] (fun _ _=>none)
def r_f90 (p0:Rule):OV:=br (ige p0.2.1 0) (br (ile p0.2.1 22) (br (ige p0.2.2.1 0) (br (ile p0.2.2.1 16384) (br (ige p0.2.2.2.1 0) (br (ile p0.2.2.2.1 4) (br (ige p0.2.2.2.2.1 0) (br (ilt p0.2.2.2.2.1 p0.2.2.2.2.2.1) (some (.t .bool (ile p0.2.2.2.2.2.1 40001),[])) (some (.t .bool false,[]))) (some (.t .bool false,[]))) (some (.t .bool false,[]))) (some (.t .bool false,[]))) (some (.t .bool false,[]))) (some (.t .bool false,[]))) (some (.t .bool false,[]))) (some (.t .bool false,[]))
theorem s_f90 (r:Rule):r_f90 r=some (.t .bool (WI r),[]):=by
 simp only [r_f90]
 repeat' (refine QZ ?_ ?_<;>intro _)
 all_goals simp only [ige,ile,ilt,Ba,Bn,Estate.Endpoints,Estate.Edges,Estate.Items,Policy.Rules,Policy.Keeps,Dice.L,Dice.At,Keep.Client,Keep.Server,Endpoint.Name,Endpoint.Least,Endpoint.Most,Endpoint.Suites,Endpoint.OwnOrder,Endpoint.Identities,Endpoint.Anchors,Endpoint.Hashes,Endpoint.Fallback,Identity.Key,Identity.KeyId,Identity.Chain,Change.Endpoint,Change.Kind,Change.Number,Change.At,Change.Identity,Rule.Allow,Rule.Alg,Rule.Below,Rule.Purpose,Rule.From,Rule.To,Rules.p,Rules.l,Rules.o,Rules.day,Way.Outcome,Way.Most,Way.Suites,Item.Name,Item.Kind,Item.Purpose,Item.Links,Item.Until,Exception.Use,Exception.Purpose,Exception.Endpoint,Exception.Days,Exception.Seals,Method.outcome,Method.uses,Suite.Code,Suite.Name,Suite.Exchange,Suite.Sign,Suite.Cipher,Suite.Mac,Suite.Least,Suite.Most,Certificate.Serial,Certificate.Issuer,Certificate.Subject,Certificate.Key,Certificate.KeyId,Certificate.Hash,Certificate.From,Certificate.To,Certificate.Authority,Certificate.Path,Certificate.Names,Certificate.Seal,Link.Use,Link.Day,Talk.server,Talk.version,Talk.suites,Symbol.name,Symbol.kind,Row.name,Row.kind,Row.way,Row.sizes,Row.strengths] at*
 all_goals (apply Fj;unfold WI;rw [DC];simp only [ige,ile,ilt,Ba,Estate.Endpoints,Estate.Edges,Estate.Items,Policy.Rules,Policy.Keeps,Dice.L,Dice.At,Keep.Client,Keep.Server,Endpoint.Name,Endpoint.Least,Endpoint.Most,Endpoint.Suites,Endpoint.OwnOrder,Endpoint.Identities,Endpoint.Anchors,Endpoint.Hashes,Endpoint.Fallback,Identity.Key,Identity.KeyId,Identity.Chain,Change.Endpoint,Change.Kind,Change.Number,Change.At,Change.Identity,Rule.Allow,Rule.Alg,Rule.Below,Rule.Purpose,Rule.From,Rule.To,Rules.p,Rules.l,Rules.o,Rules.day,Way.Outcome,Way.Most,Way.Suites,Item.Name,Item.Kind,Item.Purpose,Item.Links,Item.Until,Exception.Use,Exception.Purpose,Exception.Endpoint,Exception.Days,Exception.Seals,Method.outcome,Method.uses,Suite.Code,Suite.Name,Suite.Exchange,Suite.Sign,Suite.Cipher,Suite.Mac,Suite.Least,Suite.Most,Certificate.Serial,Certificate.Issuer,Certificate.Subject,Certificate.Key,Certificate.KeyId,Certificate.Hash,Certificate.From,Certificate.To,Certificate.Authority,Certificate.Path,Certificate.Names,Certificate.Seal,Link.Use,Link.Day,Talk.server,Talk.version,Talk.suites,Symbol.name,Symbol.kind,Row.name,Row.kind,Row.way,Row.sizes,Row.strengths,BK,false_iff];omega)
def Qp5:Ent:=Ql (.pr JG .nil) (fun x=>true) (fun x=>(.t .bool (WI x.1)))
theorem ms_f90:EM 90 Qp5:=mS g_f90 tc_f90 [((.t 2),some .bool)] false (gB gN) fun m=>Qn m fun x _=>kT (s_f90 x.1)
def tc_f93:TC:=aF Tryz.f93 []
def g_f93:G:=gG 21 [] (fun _ _=>none)
def r_f93 (p0:Keep):OV:=br (ige p0.1 1) (br (ile p0.1 4) (br (ige p0.2.1 0) (some (.t .bool (ile p0.2.1 40000),[])) (some (.t .bool false,[]))) (some (.t .bool false,[]))) (some (.t .bool false,[]))
theorem s_f93 (r:Keep):r_f93 r=some (.t .bool (UA r),[]):=by
 simp only [r_f93]
 repeat' (refine QZ ?_ ?_<;>intro _)
 all_goals simp only [ige,ile,ilt,Ba,Bn,Estate.Endpoints,Estate.Edges,Estate.Items,Policy.Rules,Policy.Keeps,Dice.L,Dice.At,Keep.Client,Keep.Server,Endpoint.Name,Endpoint.Least,Endpoint.Most,Endpoint.Suites,Endpoint.OwnOrder,Endpoint.Identities,Endpoint.Anchors,Endpoint.Hashes,Endpoint.Fallback,Identity.Key,Identity.KeyId,Identity.Chain,Change.Endpoint,Change.Kind,Change.Number,Change.At,Change.Identity,Rule.Allow,Rule.Alg,Rule.Below,Rule.Purpose,Rule.From,Rule.To,Rules.p,Rules.l,Rules.o,Rules.day,Way.Outcome,Way.Most,Way.Suites,Item.Name,Item.Kind,Item.Purpose,Item.Links,Item.Until,Exception.Use,Exception.Purpose,Exception.Endpoint,Exception.Days,Exception.Seals,Method.outcome,Method.uses,Suite.Code,Suite.Name,Suite.Exchange,Suite.Sign,Suite.Cipher,Suite.Mac,Suite.Least,Suite.Most,Certificate.Serial,Certificate.Issuer,Certificate.Subject,Certificate.Key,Certificate.KeyId,Certificate.Hash,Certificate.From,Certificate.To,Certificate.Authority,Certificate.Path,Certificate.Names,Certificate.Seal,Link.Use,Link.Day,Talk.server,Talk.version,Talk.suites,Symbol.name,Symbol.kind,Row.name,Row.kind,Row.way,Row.sizes,Row.strengths] at*
 all_goals (apply Fj;unfold UA;rw [DC];simp only [ige,ile,ilt,Ba,Estate.Endpoints,Estate.Edges,Estate.Items,Policy.Rules,Policy.Keeps,Dice.L,Dice.At,Keep.Client,Keep.Server,Endpoint.Name,Endpoint.Least,Endpoint.Most,Endpoint.Suites,Endpoint.OwnOrder,Endpoint.Identities,Endpoint.Anchors,Endpoint.Hashes,Endpoint.Fallback,Identity.Key,Identity.KeyId,Identity.Chain,Change.Endpoint,Change.Kind,Change.Number,Change.At,Change.Identity,Rule.Allow,Rule.Alg,Rule.Below,Rule.Purpose,Rule.From,Rule.To,Rules.p,Rules.l,Rules.o,Rules.day,Way.Outcome,Way.Most,Way.Suites,Item.Name,Item.Kind,Item.Purpose,Item.Links,Item.Until,Exception.Use,Exception.Purpose,Exception.Endpoint,Exception.Days,Exception.Seals,Method.outcome,Method.uses,Suite.Code,Suite.Name,Suite.Exchange,Suite.Sign,Suite.Cipher,Suite.Mac,Suite.Least,Suite.Most,Certificate.Serial,Certificate.Issuer,Certificate.Subject,Certificate.Key,Certificate.KeyId,Certificate.Hash,Certificate.From,Certificate.To,Certificate.Authority,Certificate.Path,Certificate.Names,Certificate.Seal,Link.Use,Link.Day,Talk.server,Talk.version,Talk.suites,Symbol.name,Symbol.kind,Row.name,Row.kind,Row.way,Row.sizes,Row.strengths,BK,false_iff];omega)
def Qp6:Ent:=Ql (.pr Qe .nil) (fun x=>true) (fun x=>(.t .bool (UA x.1)))
theorem ms_f93:EM 93 Qp6:=mS g_f93 tc_f93 [((.t 2),some .bool)] false (gB gN) fun m=>Qn m fun x _=>kT (s_f93 x.1)
def tc_f89:TC:=aF Tryz.f89 []
def g_f89:G:=gG 6 [(90,Qp5)] (fun _ _=>none)
def r_f89 (p0:Rule):OV:=some (.t .bool (!(WI p0)),[])
theorem s_f89 (r:Rule):r_f89 r=some (.t .bool (YJ r),[]):=rfl
def Qp7:Ent:=Ql (.pr JG .nil) (fun x=>true) (fun x=>(.t .bool (YJ x.1)))
theorem ms_f89:EM 89 Qp7:=mS g_f89 tc_f89 [((.t 2),some .bool)] false (gB (gD ms_f90 gN)) fun m=>Qn m fun x _=>kT (s_f89 x.1)
def tc_f92:TC:=aF Tryz.f92 []
def g_f92:G:=gG 6 [(93,Qp6)] (fun _ _=>none)
def r_f92 (p0:Keep):OV:=some (.t .bool (!(UA p0)),[])
theorem s_f92 (r:Keep):r_f92 r=some (.t .bool (YK r),[]):=rfl
def Qp8:Ent:=Ql (.pr Qe .nil) (fun x=>true) (fun x=>(.t .bool (YK x.1)))
theorem ms_f92:EM 92 Qp8:=mS g_f92 tc_f92 [((.t 2),some .bool)] false (gB (gD ms_f93 gN)) fun m=>Qn m fun x _=>kT (s_f92 x.1)
def J6 {α:Type}(m:α->Bool):List α->Option Nat
 | []=>none
 |a::l=>if m a then some 0 else (J6 m l).map (· + 1)
theorem Qbl {α:Type}{m:α->Bool}: ∀ {l:List α},J6 m l=none↔l.any m=false
 | []=>by simp [J6]
 |a::l=>by
  have ih:=Qbl (m:=m) (l:=l)
  unfold J6
  cases h:m a with
  |true=>simp [h]
  |false=>simpa [h] using ih
theorem Qp9 {α:Type}{m:α->Bool}{l:List α}{k:Nat}(h:J6 m l=some k):l.any m=true:=by
 cases hq:l.any m with
 |true=>rfl
 |false=>rw [Qbl.2 hq] at h;cases h
def Yi {α:Type}(l:List α):Bool:=decide (l.length<=100000)
def IM (l:List Rule):Int:=match J6 YJ l with|some k=>(k:Int)|none=> -1
def IN (l:List Keep):Int:=match J6 YK l with|some k=>(k:Int)|none=> -1
abbrev Qbm:Sh:=⟨[(0,.ty (.sl JG)),(1,.cf 89),(7,.ty tI),(8,.ty tI)],[]⟩
abbrev Qhq:Sh:=⟨[(4,.ty tI)],[]⟩
abbrev Qbn:Sh:=⟨[],[]⟩
def Qhr:Fg:=Qbm.f
def Qqa:TC:=aF Tryz.f130 [(26,pL 0 Qhr),(421,.fg Qbn.f),(13517,.fg Qhq.f)]
def Qqb:TC:=lb 0 Qqa
def Qqc (x0:List Rule)(x7 x8:Int):VS:=Qbm.st (x0,(),x7,x8,()) ()
def FN (x4:Int):VS:=Qhq.st (x4,()) ()
def Qhs  : VS:=Qbn.st () ()
def QB5:VS->Option (Bool×List (Bool×Exit×VS)):=mkL Qbm (fun x y=>(Qz x.1 x.2.2.1 x.2.2.2.1)) (fun x y=>[(((J6 YJ (x.1.drop x.2.2.2.1.toNat)).isSome),.ret,FN (x.2.2.2.1+((J6 YJ (x.1.drop x.2.2.2.1.toNat)).getD 0:Nat))),(true,.exit 0,Qhs)])
def Qht:G:=gG 19 [(89,Qp7)] (Ls [QB5])
def Qbo (x0:List Rule)(x7 x8:Int):OX:=Qv (QB Qht Qhr Qqb) (Qqc x0 x7 x8)
def IO (kk:List Rule->Int->Int->OX)(x0:List Rule)(x7 x8:Int):OX:=br (ilt x8 x7) (br (cIx x0 x8) (br (YJ (lgt JG x0 (Int.toNat x8))) (some (.ret,FN x8)) (kk x0 x7 (Qf .i64 x8 1))) none) (some (.exit 0,Qhs))
def Qbp (x0:List Rule)(x7 x8:Int):OX:=
 let a1:=J6 YJ (x0.drop x8.toNat)
 br (a1.isSome) (some (.ret,FN (x8+(a1.getD 0:Nat))))<|some (.exit 0,Qhs)
theorem Qqd (x0:List Rule)(x7 x8:Int):Qbo x0 x7 x8=IO Qbo x0 x7 x8:=lnT (x:=IO (fun x0 x7 x8=>some (.normal,Qqc x0 x7 x8)) x0 x7 x8) (by simp only [IO,nxA];rfl)
def Qqe (p0:List Rule):OV:=
 let a1:=(J6 YJ (p0.drop (0:Int).toNat))
 br (Qz p0 (Qa p0) (0:Int)) (br (a1.isSome) (some (.t tI ((0:Int)+(a1.getD 0:Nat)),[])) (some (.t tI (-1),[]))) none
theorem QB6 (x0:List Rule)(x7 x8:Int)(h:(Qz x0 x7 x8)=true):Qbo x0 x7 x8=Qbp x0 x7 x8:=by
 obtain ⟨rfl,h3,k,rfl,hk⟩:=JJ h
 clear h
 refine QU x0 (fun k=>Qbo x0 (x0.length:Int) (k:Int)=Qbp x0 (x0.length:Int) (k:Int)) ?_ ?_ k hk
 ·rw [Qqd]
  simp [IO,Qbp,QD,Qh,J6]
 ·intro k hk ih
  rw [Qqd]
  simp only [IO,QD,QJ,hk,Bv,Qd,Bd,QT (show k<4611686018427387904 by omega),ih,QS (y:=JG) hk]
  simp only [Qbp,Bd,Bj hk,J6]
  cases h:YJ x0[k] with
  |true=>simp [Qd]
  |false=>
   simp only [Qh,BK,Do]
   cases hq:J6 YJ (x0.drop (k+1)) with
   |none=>rfl
   |some j=>
    simp only [B1,B6,BI,Qd]
    congr 3
    omega
theorem QB7:LO Qht Qhr Qqb 0:=QH (s:=Qbm) fun x y h _ q=>by simp only [QE,QF] at q;exact (QB6 x.1 x.2.2.1 x.2.2.2.1 h).trans q
theorem QB8 (l:List Rule)(h:Yi l=true):Qqe l=some (.t tI (IM l),[]):=by
 simp only [Yi,Ba] at h
 simp only [Qqe,JK h,Qd,Bw,BD,IM]
 cases J6 YJ l<;>simp [Qd,Qh]
def Qqf:Ent:=ZP [.ty (.sl JG),.cf 89] [] (fun x d=>(Yi x.1)) (fun x d=>(.t tI (IM x.1)))
theorem QB9:EM 130 Qqf:=mS (lk:=lkL (lkc QB7 lkn)) Qht Qqa [((.t 4),some tI)] false (gB (gD ms_f89 gN)) fun m=>ZG m fun x d hok=>kT (QB8 x.1 hok)
def FO (l:List Rule):Bool:=l.any YJ
def QCa:TC:=aF Tryz.f88 []
def QCb:G:=gG 9 [(130,Qqf)] (fun _ _=>none)
def Qqg (p0:List Rule):OV:=br (Yi p0) (some (.t .bool (ige (IM p0) 0),[])) none
theorem QCc (l:List Rule)(h:Yi l=true):Qqg l=some (.t .bool (FO l),[]):=by
 simp only [Qqg,h,Qd]
 congr 3
 unfold IM FO
 cases hq:J6 YJ l with
 |none=>rw [Qbl.1 hq];rfl
 |some k=>rw [Qp9 hq];simp only [ige,Ba];omega
def Qqh:Ent:=ZP [.ty (.sl JG),.cf 89] [] (fun x d=>(Yi x.1)) (fun x d=>(.t .bool (FO x.1)))
theorem QCd:EM 88 Qqh:=mS QCb QCa [((.t 4),some .bool)] false (gB (gD QB9 gN)) fun m=>ZG m fun x d hok=>kT (QCc x.1 hok)
abbrev Qbq:Sh:=⟨[(0,.ty (.sl Qe)),(1,.cf 92),(7,.ty tI),(8,.ty tI)],[]⟩
def Qhu:Fg:=Qbq.f
def Qqi:TC:=aF Tryz.f131 [(26,pL 0 Qhu),(421,.fg Qbn.f),(13517,.fg Qhq.f)]
def Qqj:TC:=lb 0 Qqi
def Qqk (x0:List Keep)(x7 x8:Int):VS:=Qbq.st (x0,(),x7,x8,()) ()
def Qhv  : VS:=Qbn.st () ()
def QCe:VS->Option (Bool×List (Bool×Exit×VS)):=mkL Qbq (fun x y=>(Qz x.1 x.2.2.1 x.2.2.2.1)) (fun x y=>[(((J6 YK (x.1.drop x.2.2.2.1.toNat)).isSome),.ret,FN (x.2.2.2.1+((J6 YK (x.1.drop x.2.2.2.1.toNat)).getD 0:Nat))),(true,.exit 0,Qhv)])
def Qhw:G:=gG 19 [(92,Qp8)] (Ls [QCe])
def Qbr (x0:List Keep)(x7 x8:Int):OX:=Qv (QB Qhw Qhu Qqj) (Qqk x0 x7 x8)
def IP (kk:List Keep->Int->Int->OX)(x0:List Keep)(x7 x8:Int):OX:=br (ilt x8 x7) (br (cIx x0 x8) (br (YK (lgt Qe x0 (Int.toNat x8))) (some (.ret,FN x8)) (kk x0 x7 (Qf .i64 x8 1))) none) (some (.exit 0,Qhv))
def Qbs (x0:List Keep)(x7 x8:Int):OX:=
 let a1:=J6 YK (x0.drop x8.toNat)
 br (a1.isSome) (some (.ret,FN (x8+(a1.getD 0:Nat))))<|some (.exit 0,Qhv)
theorem Qql (x0:List Keep)(x7 x8:Int):Qbr x0 x7 x8=IP Qbr x0 x7 x8:=lnT (x:=IP (fun x0 x7 x8=>some (.normal,Qqk x0 x7 x8)) x0 x7 x8) (by simp only [IP,nxA];rfl)
def Qqm (p0:List Keep):OV:=
 let a1:=(J6 YK (p0.drop (0:Int).toNat))
 br (Qz p0 (Qa p0) (0:Int)) (br (a1.isSome) (some (.t tI ((0:Int)+(a1.getD 0:Nat)),[])) (some (.t tI (-1),[]))) none
theorem QCf (x0:List Keep)(x7 x8:Int)(h:(Qz x0 x7 x8)=true):Qbr x0 x7 x8=Qbs x0 x7 x8:=by
 obtain ⟨rfl,h3,k,rfl,hk⟩:=JJ h
 clear h
 refine QU x0 (fun k=>Qbr x0 (x0.length:Int) (k:Int)=Qbs x0 (x0.length:Int) (k:Int)) ?_ ?_ k hk
 ·rw [Qql]
  simp [IP,Qbs,QD,Qh,J6]
 ·intro k hk ih
  rw [Qql]
  simp only [IP,QD,QJ,hk,Bv,Qd,Bd,QT (show k<4611686018427387904 by omega),ih,QS (y:=Qe) hk]
  simp only [Qbs,Bd,Bj hk,J6]
  cases h:YK x0[k] with
  |true=>simp [Qd]
  |false=>
   simp only [Qh,BK,Do]
   cases hq:J6 YK (x0.drop (k+1)) with
   |none=>rfl
   |some j=>
    simp only [B1,B6,BI,Qd]
    congr 3
    omega
theorem QCg:LO Qhw Qhu Qqj 0:=QH (s:=Qbq) fun x y h _ q=>by simp only [QE,QF] at q;exact (QCf x.1 x.2.2.1 x.2.2.2.1 h).trans q
theorem QCh (l:List Keep)(h:Yi l=true):Qqm l=some (.t tI (IN l),[]):=by
 simp only [Yi,Ba] at h
 simp only [Qqm,JK h,Qd,Bw,BD,IN]
 cases J6 YK l<;>simp [Qd,Qh]
def Qqn:Ent:=ZP [.ty (.sl Qe),.cf 92] [] (fun x d=>(Yi x.1)) (fun x d=>(.t tI (IN x.1)))
theorem QCi:EM 131 Qqn:=mS (lk:=lkL (lkc QCg lkn)) Qhw Qqi [((.t 4),some tI)] false (gB (gD ms_f92 gN)) fun m=>ZG m fun x d hok=>kT (QCh x.1 hok)
def FP (l:List Keep):Bool:=l.any YK
def QCj:TC:=aF Tryz.f91 []
def QCk:G:=gG 9 [(131,Qqn)] (fun _ _=>none)
def Qqo (p0:List Keep):OV:=br (Yi p0) (some (.t .bool (ige (IN p0) 0),[])) none
theorem QCl (l:List Keep)(h:Yi l=true):Qqo l=some (.t .bool (FP l),[]):=by
 simp only [Qqo,h,Qd]
 congr 3
 unfold IN FP
 cases hq:J6 YK l with
 |none=>rw [Qbl.1 hq];rfl
 |some k=>rw [Qp9 hq];simp only [ige,Ba];omega
def Qqp:Ent:=ZP [.ty (.sl Qe),.cf 92] [] (fun x d=>(Yi x.1)) (fun x d=>(.t .bool (FP x.1)))
theorem QCm:EM 91 Qqp:=mS QCk QCj [((.t 4),some .bool)] false (gB (gD QCi gN)) fun m=>ZG m fun x d hok=>kT (QCl x.1 hok)
theorem igt60 {α:Type}{l:List α}:igt (Qa l) 60= !decide (l.length<=60):=by
 have:igt (Qa l) 60=decide (60<l.length):=Qz9
 rw [this]
 by_cases h:l.length<=60
 ·rw [Be h,BH,Bn];omega
 ·rw [Bo h,Bool.not_false,Ba];omega
def FQ (y:Policy):Bool:=y.1.all WI&&y.2.1.all UA&&decide (y.1.length<=60/\y.2.1.length<=60)
def Y7 (y:Policy):Int:=if FQ y then 0 else 25
def Y8 (y:Policy):Bool:=Yi y.1&&Yi y.2.1
def tc_f51:TC:=aF Tryz.f51 []
def g_f51:G:=gG 25 [(88,Qqh),(91,Qqp)] (fun _ _=>none)
def r_f51 (p0:Policy):OV:=br (Yi p0.1) (br (FO p0.1) (some (.t tI 25,[])) (br (Yi p0.2.1) (br (FP p0.2.1) (some (.t tI 25,[])) (br (igt (Qa p0.1) 60) (some (.t tI 25,[])) (br (igt (Qa p0.2.1) 60) (some (.t tI 25,[])) (some (.t tI 0,[]))))) none)) none
theorem s_f51 (y:Policy)(h:Y8 y=true):r_f51 y=some (.t tI (Y7 y),[]):=by
 simp only [Y8,Bc] at h
 simp only [r_f51,h.1,h.2,Qd]
 have e1:FO y.1= !y.1.all WI:=by simp [FO,List.any_eq_not_all_not,YJ]
 have e2:FP y.2.1= !y.2.1.all UA:=by simp [FP,List.any_eq_not_all_not,YK]
 rw [e1,e2]
 unfold Y7 FQ
 rw [igt60,igt60]
 by_cases h1:y.1.length<=60<;>by_cases h2:y.2.1.length<=60<;>cases y.1.all WI<;>cases y.2.1.all UA<;>simp [Qd,Qh,h1,h2]
def Qhx:Ent:=Ql (.pr Zw .nil) (fun x=>(Y8 x.1)) (fun x=>(.t tI (Y7 x.1)))
theorem Qqq:EM 51 Qhx:=mS g_f51 tc_f51 [((.t 2),some tI)] false (gB (gD QCd (gD QCm gN))) fun m=>Qn m fun x hok=>kT (s_f51 x.1 hok)
end Go.Proofs.YtmjnnemhoeolgaaGreat.K
noncomputable section
namespace Go.Proofs.YtmjnnemhoeolgaaGreat.K
open Go.RowKit
def YX {α:Type}(l:List α):List (Int×(α×Unit)):=(l.zipIdx.map fun p=>((p.2:Int),(p.1,()))).reverse
def Qmf:Itr:=Fk [.ptr 50000 0] [(.sl JG)] (.pr tI (.pr JG .nil)) (fun d=>true) (fun d=>(YX d.1))
def QKT:TC:=aF Tryz.f204 []
def g_f204:G:=gG 4 [] (fun _ _=>none)
def r_f204 (p0:List Rule):OV:=some (.fn 226 [(.ptr 50000 0)],[.box (.t (.sl JG) p0)])
def Qyv:Ent:=WE (.pr (.sl JG) .nil) (fun _=>true) (fun x=> .fn 226 [.ptr 50000 0]) (fun x=>[.box (.t (.sl JG) x.1)])
theorem QKU:EM 204 Qyv:=mS g_f204 QKT [((.t 2),none)] true (gB gN) fun m=>Qg3 m fun x _=>by kernel_rfl
end Go.Proofs.YtmjnnemhoeolgaaGreat.K
noncomputable section
namespace Go.Proofs.YtmjnnemhoeolgaaGreat.K
open Go.RowKit Go.Shelf
attribute [local go_sem] Oper.semAt_some
def YO (vs:List Value)(sz:Nat):Nat->List (Array Value)
 |0=>[]
 |k+1=> #[.int .i64 (k:Int),.agg ((vs.drop (k*sz)).take sz).toArray]::YO vs sz k
theorem QDG (vs:List Value)(sz:Nat): ∀ n k,k<n->(YO vs sz n).drop k=YO vs sz (n-k)
 |0,k,h=>by omega
 |n+1,0,_=>rfl
 |n+1,k+1,h=>by
  rw [YO,List.drop_succ_cons,QDG vs sz n k (by omega)]
  congr 1
  omega
theorem w64 (m:Nat)(h:m<=maxLen):wrap64 ((m:Int)-1)=(m:Int)-1:=by
 simp only [maxLen] at h
 unfold wrap64
 omega
set_option maxRecDepth 100000 in
set_option maxHeartbeats 1000000 in
theorem QDH (Bs b0 off c n:Nat)(A:Option Addr)(vs:List Value)(Xf:Nat->Nat->Prop)(w:World)(hnc:n<=c)(hcm:c<=maxLen)
  (hBs:w.cell? ⟨Bs,0,none⟩=some (.slice A n c)) (hBl:Bs<w.heap.size) (hBx: ∀ q, ¬ Xf Bs q)
  (hA:0<n->A=some ⟨b0,off,none⟩/\vs.length=n*6/\b0<w.heap.size/\(∀ j,j<vs.length→ ¬ Xf b0 (off+j))∧ ∀ j v,vs[j]? = some v->w.cell? ⟨b0,off+j,none⟩=some v):
  UW Tryz.prog 226 [.pointer (some ⟨Bs,0,none⟩)] (YO vs 6 n) Xf w:=by
 intro l J Jx W hJ hJx hK hY h0 _
 have HA:=Lib.hid hA
 clear hA
 refine callsIn_of_wp (F:=Fw none) Tryz.func226 rfl trivial ?_ rfl
 simp only [Tryz.ntmps226,List.size_toArray,Bt,BE,Nat.reduceAdd,Nat.reduceSub,Array.replicate_succ,Array.replicate_zero,List.push_toArray,List.append_toArray,BR,Dv]
 have hb0:W.cell? ⟨Bs,0,none⟩=some (.slice A n c):=((hK _ W h0).2 Bs 0 hBl (hBx 0)).trans hBs
 gi_wp2
 gi_loopw [3] (fun i wr=> ∃ k:Nat,k<=n/\i= .int .i64 ((k:Int)-1)/\J (YO vs 6 k) wr)
  (fun i _=>(intOf i+1).toNat)
 case atStart=>exact ⟨n,BL _,congrArg (Value.int .i64) (w64 n (by omega)),h0⟩
 case round=>
  obtain ⟨k,hk,rfl,hJs⟩:=hrel
  have hbx:wr.cell? ⟨Bs,0,none⟩=some (.slice A n c):=((hK _ wr hJs).2 Bs 0 hBl (hBx 0)).trans hBs
  cases k with
  |zero=>
   gi_wp2
   go_end0
   exact ⟨⟨_,rfl⟩,.inl hJs⟩
  |succ q=>
   obtain ⟨rfl,hvl,hbl,hnx,hcl⟩:=HA.out (by omega)
   obtain ⟨fn,tmps,assign,body,hy,hR⟩:=hY _ _ wr hJs
   have cel: ∀ i,i<6→ ∃ v,vs[q*6+i]? = some v/\wr.cell? ⟨b0,off+(q*6+i),none⟩=some v:=by
    intro i hi
    have hlt:q*6+i<vs.length:=by omega
    exact ⟨_,Bh hlt,((hK _ wr hJs).2 b0 _ hbl (hnx _ hlt)).trans (hcl _ _ (Bh hlt))⟩
   obtain ⟨v0,e0,c0⟩:=cel 0 (by omega)
   obtain ⟨v1,e1,c1⟩:=cel 1 (by omega)
   obtain ⟨v2,e2,c2⟩:=cel 2 (by omega)
   obtain ⟨v3,e3,c3⟩:=cel 3 (by omega)
   obtain ⟨v4,e4,c4⟩:=cel 4 (by omega)
   obtain ⟨v5,e5,c5⟩:=cel 5 (by omega)
   rw [DH] at e0 c0
   rw [←DB] at c1 c2 c3 c4 c5
   have hag:((vs.drop (q*6)).take 6)=[v0,v1,v2,v3,v4,v5]:=by
    apply List.ext_getElem?
    intro i
    rcases B8 i 6 with hi|hi
    ·rw [List.getElem?_take_of_lt hi,Di]
     rcases i with _|_|_|_|_|_|i
     ·rw [DH,e0];rfl
     ·rw [e1];rfl
     ·rw [e2];rfl
     ·rw [e3];rfl
     ·rw [e4];rfl
     ·rw [e5];rfl
     ·omega
    ·rw [List.getElem?_take_eq_none hi,DL (by simpa using hi)]
   rw [hag] at hy
   have q1:((q+1:Nat):Int)-1=(q:Int):=by omega
   rw [q1]
   clear hnx hcl cel hY
   gi_wp2
   refine hR.mono ?_
   rintro e W3 (⟨rfl,hJ3⟩|⟨rfl,hJx3⟩)
   ·gi_wp2
    go_roundw
    case rel=>exact ⟨q,by omega,congrArg (Value.int .i64) (w64 q (by omega)),hJ3⟩
    case measure=>simp [intOf,w64 q (by omega)]
   ·gi_wp2
    refine bodyPost_ret (results_none rfl _ _ _) rfl ?_
    exact ⟨⟨_,rfl⟩,.inr hJx3⟩
theorem Qh4 (vs:List Value)(sz:Nat): ∀ n,(YO vs sz n).length=n
 |0=>rfl
 |n+1=>by rw [YO,Bt,Qh4 vs sz n]
theorem Qrd (vs:List Value)(sz:Nat): ∀ n i,i<n->(YO vs sz n)[i]? = some #[.int .i64 ((n-1-i:Nat):Int),.agg ((vs.drop ((n-1-i)*sz)).take sz).toArray]
 |0,i,h=>by omega
 |n+1,0,_=>by simp [YO]
 |n+1,i+1,h=>by
  rw [YO,BS,Qrd vs sz n i (by omega)]
  have:n-1-i=n+1-1-(i+1):=by omega
  rw [this]
theorem QDI {α:Type}(l:List α)(i:Nat)(h:i<l.length):(YX l)[i]? = some (((l.length-1-i:Nat):Int),(l[l.length-1-i]'(by omega),())):=by
 unfold YX
 rw [List.getElem?_reverse (by simpa using h)]
 simp
theorem QDJ {P:Program}{gf:FuncId}{y:Ty}{sz:Nat}(hgf:gf<1000000)(hrow:y.row=true)(hsz:y.sz=sz)(eg: ∀ args w,(callFunc gf args).run P w= .ok (.enter gf args) w)
  (hw: ∀ (Bs b0 off c n:Nat) (A:Option Addr) (vs:List Value) (Xf:Nat->Nat->Prop) (w:World),n<=c->c<=maxLen->w.cell? ⟨Bs,0,none⟩=some (.slice A n c)->Bs<w.heap.size->(∀ q, ¬ Xf Bs q)→
   (0<n->A=some ⟨b0,off,none⟩/\vs.length=n*sz/\b0<w.heap.size/\(∀ j,j<vs.length→ ¬ Xf b0 (off+j))∧ ∀ j v,vs[j]? = some v->w.cell? ⟨b0,off+j,none⟩=some v)->UW P gf [.pointer (some ⟨Bs,0,none⟩)] (YO vs sz n) Xf w):
  Iters P gf (Fk [.ptr 50000 0] [.sl y] (.pr (.int .i64) (.pr y .nil)) (fun _=>true) (fun d=>YX d.1)):=by
 refine Iters.weak hgf eg fun caps objs yr rows h X w σ lb hfin hl hc=> ?_
 unfold Fk at h
 split at h
 ·rename_i x d hx hd
  simp only [Bb,Bm,true_and] at h
  cases h
  have hcaps:=FD hx
  subst hcaps
  cases objs with
  |nil=>simp [ZF] at hd
  |cons o os=>
   cases o with
   |box cv=>
    cases os with
    |cons o2 os=>simp [ZF] at hd
    |nil=>
     simp only [ZF] at hd
     split at hd
     ·rename_i l u hl1 _
      simp only [Bb] at hd
      subst hd
      have hcv:=SV.rd_mk (s:= .ty (.sl y)) (v:=cv) (x:=l) (by simpa [IE,Ty.row] using hl1)
      subst hcv
      obtain ⟨⟨Bs,ty,us,h1,h2,h3,h4⟩,_⟩:=hl.at_ 0 _ rfl
      have h3':Cs X w σ [.sl (List.length l) (List.flatMap y.cells l)] us:=h3
      obtain ⟨uv,rfl,h5⟩:=h3'.one
      simp only [C] at h5
      obtain ⟨A,c,rfl,g1,g2,g3,g4⟩:=h5
      simp only [Uy,SV.mk,V.ds,V.d,Cs,C] at hc
      obtain ⟨p,ps,rfl,⟨b',e1,rfl⟩,rfl⟩:=hc
      have h1:σ 50000= .box Bs:=h1
      rw [h1] at e1
      injection e1 with e1
      subst e1
      have hcell:w.cell? ⟨Bs,0,none⟩=some (.slice A (List.length l) c):=by simp [World.cell?, h2]
      have hBl:=(BW.1 h2).1
      have hBx: ∀ q, ¬ (X Bs q∧ ∀ j,j<[VO.box ((SV.ty (.sl y)).mk l)].length->(σ (50000+j)).blk≠some Bs):=fun q hq=>hq.2 0 (by simp) (by rw [h1];rfl)
      rcases DM (List.length l) with h0|hp
      ·have hl0:l=[]:=By h0
       subst hl0
       exact ⟨YO [] sz 0,⟨rfl,fun i r v hr=>by simp [YX] at hr⟩,hw Bs 0 0 c 0 A [] _ w g1 g2 hcell hBl hBx (fun h=>absurd h (by omega))⟩
      ·obtain ⟨b0,off,vs,rfl,g5,g6⟩:=g4 hp
       have hvl:=g5.len
       rw [WM,hsz] at hvl
       refine ⟨YO vs sz (List.length l),⟨by rw [Qh4];simp [YX],fun i r v hr hv=> ?_⟩,hw Bs b0 off c (List.length l) _ vs _ w g1 g2 hcell hBl hBx (fun _=>⟨rfl,hvl,g6.lt,fun j hj hx=>g6.nx j hj hx.1,fun j v hv=>g6.at_ j v hv⟩)⟩
       have hi:i<List.length l:=by
        have:=(BB.1 hv).1
        rwa [Qh4] at this
       rw [QDI _ _ hi] at hr
       rw [Qrd _ _ _ _ hi] at hv
       injection hr with hr
       injection hv with hv
       subst hr hv
       simp only [Ty.canon,V.ds,V.d,Cs]
       refine ⟨_,_,rfl,(by simp only [Ty.d,C];exact ⟨trivial,rfl⟩),_,_,rfl, ?_,rfl⟩
       rw [Ty.d_row _ _ hrow]
       simp only [C]
       refine ⟨_,rfl, ?_⟩
       have k1:=(g5.drop_ ((List.length l-1-i)*y.sz))
       rw [Gt,Bj (by omega),BJ] at k1
       have k2:=k1.take_ y.sz
       rw [List.take_left' (y.cells_len _),hsz] at k2
       exact k2
     ·cases hd
   |no=>simp [ZF] at hd
   |arr e t l=>simp [ZF] at hd
 ·cases h
theorem QDK:Iters Tryz.prog 226 Qmf:=
 QDJ (y:=JG) (sz:=6) (by decide) rfl rfl (enters_of Tryz.func226 (by kernel_rfl) rfl) QDH
end Go.Proofs.YtmjnnemhoeolgaaGreat.K
noncomputable section
namespace Go.Proofs.YtmjnnemhoeolgaaGreat.K
open Go.RowKit
def Et (zs:List (Int×(Rule×Unit)))(u:Keep)(p d:Int):Option Int:=(zs.find? fun z=>Ic z.2.1 u p d).map (·.1)
def OH (zs:List (Int×(Rule×Unit)))(u:Keep)(p d _x:Int):Bool:=(Et zs u p d).isSome
def OI (zs:List (Int×(Rule×Unit)))(u:Keep)(p d _x:Int):Int:=(Et zs u p d).getD 0
def Yx (y:Policy)(u:Keep)(p d:Int):Int:=(Et (YX y.1) u p d).getD (-1)
abbrev Qdi:Sh:=⟨[(5,.ptr 60000 0),(6,.ptr 60001 0),(7,.ptr 60002 0),(8,.ptr 60003 0)],[(60000,.box Qe),(60001,.box tI),(60002,.box tI),(60003,.bag [.ty tI])]⟩
def UN:Fg:=Qdi.f
def Qdj:TC:=(.sq (.reg (rT Tryz.f176 2)) (.reg (rT Tryz.f176 3)))
def Qdk:TC:=(.bk 1 (.sq (.reg (rT Tryz.f176 4)) (.cd (.t 31) (.sq (.reg (rT Tryz.f176 5)) (.fg ⟨[],[(60000,some Qe),(60001,some tI),(60002,some tI),(60003,none)]⟩ .rt)) .sk)))
def QGJ:TC:=(.sq (.reg (rT Tryz.f176 0)) (.sq (.sq (.reg (rT Tryz.f176 1)) (.bk 0 (.rf 0 UN (.t 13) (.pr tI (.pr JG .nil)) [14,15] [5,6,7,8] Qdj Qdk))) (.sq (.reg (rT Tryz.f176 6)) .rt)))
def Xz (Jt:Keep)(Js Jm JX:Int):VS:=Qdi.st ((),(),(),(),()) (Jt,Js,Jm,(JX,()),())
def Qdl:VS->List (Ty.T (.pr tI (.pr JG .nil)))->Option (Bool×List (Bool×Exit×VS)):=mkR Qdi (fun zs x y=>true) (fun zs x y=>[((OH zs y.1 y.2.1 y.2.2.1 y.2.2.2.1.1),.ret,Xz (y.1) (y.2.1) (y.2.2.1) (OI zs y.1 y.2.1 y.2.2.1 y.2.2.2.1.1)),(true,.normal,Xz (y.1) (y.2.1) (y.2.2.1) (y.2.2.2.1.1))])
def Eu:G:=⟨TYs,[],33,EL [(204,Qyv),(205,Qnb)],Wr,(Ls [fun _=>none]),IL [(226,Qmf)],(RL [⟨(.pr tI (.pr JG .nil)),Qdl⟩])⟩
def Quw (z:(Int×(Rule×Unit)))(Jt:Keep)(Js Jm JX:Int):OX:=br (U6 z.2.1 Jt Js) (br (ile z.2.1.2.2.2.2.1 Jm) (br (ilt Jm z.2.1.2.2.2.2.2.1) (some (.ret,Xz Jt Js Jm z.1)) (some (.normal,Xz Jt Js Jm JX))) (some (.normal,Xz Jt Js Jm JX))) (some (.normal,Xz Jt Js Jm JX))
def Ev (zs:List (Int×(Rule×Unit)))(Jt:Keep)(Js Jm JX:Int):OX:=YW (X6 Eu UN (.pr tI (.pr JG .nil)) [14,15] Qdj Qdk) zs (Xz Jt Js Jm JX)
def QjN (z:(Int×(Rule×Unit)))(zs:List (Int×(Rule×Unit)))(Jt:Keep)(Js Jm JX:Int):OX:=br (U6 z.2.1 Jt Js) (br (ile z.2.1.2.2.2.2.1 Jm) (br (ilt Jm z.2.1.2.2.2.2.2.1) (some (.ret,Xz Jt Js Jm z.1)) (Ev zs Jt Js Jm JX)) (Ev zs Jt Js Jm JX)) (Ev zs Jt Js Jm JX)
def Qux (zs:List (Int×(Rule×Unit)))(Jt:Keep)(Js Jm JX:Int):OX:=br (OH zs Jt Js Jm JX) (some (.ret,Xz (Jt) (Js) (Jm) (OI zs Jt Js Jm JX)))<|some (.normal,Xz (Jt) (Js) (Jm) (JX))
theorem QGK (z:(Int×(Rule×Unit)))(Jt:Keep)(Js Jm JX:Int):X6 Eu UN (.pr tI (.pr JG .nil)) [14,15] Qdj Qdk z (Xz Jt Js Jm JX)=Quw z Jt Js Jm JX:=by kernel_rfl
theorem QGL (Jt:Keep)(Js:Int)(Jm:Int)(JX:Int):Ev [] Jt Js Jm JX=some (.normal,Xz Jt Js Jm JX):=rfl
theorem QGM (z:(Int×(Rule×Unit)))(zs:List (Int×(Rule×Unit)))(Jt:Keep)(Js Jm JX:Int):Ev (z::zs) Jt Js Jm JX=QjN z zs Jt Js Jm JX:=(QpJ _ _ _ _).trans (by
 rw [QGK]
 simp only [Quw,QjN,FE,IA,IB,IC,ID]
 rfl)
def Quy (p0:Policy)(p1:Keep)(p2 p3:Int):OV:=br (OH (YX p0.1) p1 p2 p3 0) (some (.t tI (OI (YX p0.1) p1 p2 p3 0),[])) (some (.t tI (-1),[]))
theorem QGN (zs:List (Int×(Rule×Unit)))(Jt:Keep)(Js Jm JX:Int)(h:true=true):Ev zs Jt Js Jm JX=Qux zs Jt Js Jm JX:=by
 clear h
 induction zs with
 |nil=>
  rw [QGL]
  rfl
 |cons z zs ih=>
  rw [QGM]
  simp only [QjN,ih,Qux,OH,OI,Et,List.find?_cons,Ic,Qm9,ile,ilt,Estate.Endpoints,Estate.Edges,Estate.Items,Policy.Rules,Policy.Keeps,Dice.L,Dice.At,Keep.Client,Keep.Server,Endpoint.Name,Endpoint.Least,Endpoint.Most,Endpoint.Suites,Endpoint.OwnOrder,Endpoint.Identities,Endpoint.Anchors,Endpoint.Hashes,Endpoint.Fallback,Identity.Key,Identity.KeyId,Identity.Chain,Change.Endpoint,Change.Kind,Change.Number,Change.At,Change.Identity,Rule.Allow,Rule.Alg,Rule.Below,Rule.Purpose,Rule.From,Rule.To,Rules.p,Rules.l,Rules.o,Rules.day,Way.Outcome,Way.Most,Way.Suites,Item.Name,Item.Kind,Item.Purpose,Item.Links,Item.Until,Exception.Use,Exception.Purpose,Exception.Endpoint,Exception.Days,Exception.Seals,Method.outcome,Method.uses,Suite.Code,Suite.Name,Suite.Exchange,Suite.Sign,Suite.Cipher,Suite.Mac,Suite.Least,Suite.Most,Certificate.Serial,Certificate.Issuer,Certificate.Subject,Certificate.Key,Certificate.KeyId,Certificate.Hash,Certificate.From,Certificate.To,Certificate.Authority,Certificate.Path,Certificate.Names,Certificate.Seal,Link.Use,Link.Day,Talk.server,Talk.version,Talk.suites,Symbol.name,Symbol.kind,Row.name,Row.kind,Row.way,Row.sizes,Row.strengths]
  cases h1:U6 z.2.1 Jt Js<;>cases h2:decide (z.2.1.2.2.2.2.1<=Jm)<;>cases h3:decide (Jm<z.2.1.2.2.2.2.2.1)<;>simp [Qd,Qh]
theorem QGO: ∀ S (rows:List (Ty.T (.pr tI (.pr JG .nil)))) l p,Eu.R 0 (fgt UN S) (.pr tI (.pr JG .nil)) rows=some (true,l)->Yc l=some p->YW (X6 Eu UN (.pr tI (.pr JG .nil)) [14,15] Qdj Qdk) rows (fgt UN S)=some p:=by
 intro S rows l p hR hp
 rw [show Eu.R 0 (fgt UN S) (.pr tI (.pr JG .nil)) rows=Qdl (fgt UN S) rows from RL_at (l:=[⟨(.pr tI (.pr JG .nil)),Qdl⟩]) (j:=0) (F:=Qdl) rfl _ _] at hR
 refine QpI (s:=Qdi) ⟨by decide,by decide⟩ (by kernel_rfl) (fun zs x y hok p hp=> ?_) S rows l p hR hp
 simp only [QE,QF] at hp
 exact (QGN zs y.1 y.2.1 y.2.2.1 y.2.2.2.1.1 (by first|rfl|simpa using hok)).trans hp
theorem s_f176 (p0:Policy)(p1:Keep)(p2 p3:Int):Quy p0 p1 p2 p3=some (.t tI (Yx p0 p1 p2 p3),[]):=by
 simp only [Quy,Yx,OH,OI]
 cases Et (YX p0.1) p1 p2 p3<;>simp [Qd,Qh]
def QjO:Ent:=Ql (.pr Zw (.pr Qe (.pr tI (.pr tI .nil)))) (fun x=>true) (fun x=>(.t tI (Yx x.1 x.2.1 x.2.2.1 x.2.2.2.1)))
theorem Quz:EM 176 QjO:=mS (lk:=(by repeat first|exact trivial|exact QGO|constructor)) Eu QGJ [((.c 8 false 1),some tI)] false (Z2 _ (gA (gD QKU (gD QzH gN)))
 [(226,Qmf)] (by
 intro p hp
 simp only [BX,Dl,or_false] at hp
 rcases hp with rfl
 ·exact QDK)) fun m=>Qn m fun x _=>kT (s_f176 x.1 x.2.1 x.2.2.1 x.2.2.2.1)
end Go.Proofs.YtmjnnemhoeolgaaGreat.K
noncomputable section
namespace Go.Proofs.YtmjnnemhoeolgaaGreat.K
open Go.RowKit
def ZA {α:Type}(m:α->Bool):List α->Option Nat
 | []=>none
 |a::l=>match ZA m l with
  |some k=>some (k+1)
  |none=>if m a then some 0 else none
theorem QwJ {α:Type}{m:α->Bool}{l2:List α}: ∀ l1:List α,ZA m (l1++l2)=match ZA m l2 with|some k=>some (l1.length+k)|none=>ZA m l1
 | []=>by
  simp only [BR,BE,DN]
  cases ZA m l2<;>rfl
 |a::l1=>by
  simp only [Dv,ZA,QwJ l1,Bt]
  cases ZA m l2 with
  |none=>rfl
  |some k=>simp only [Bb];omega
theorem QwK {α:Type}{m:α->Bool}: ∀ {l:List α},ZA m l=none↔ ∀ a,a∈l->m a=false
 | []=>by simp [ZA]
 |a::l=>by
  have ih:=QwK (m:=m) (l:=l)
  simp only [ZA]
  cases h:ZA m l with
  |some k=>
   have: ¬ ∀ a,a∈l->m a=false:=fun g=>by rw [ih.2 g] at h;cases h
   simp only [BX,forall_eq_or_imp,reduceCtorEq,false_iff,not_and]
   exact fun _=>this
  |none=>
   have g:=ih.1 h
   cases hm:m a<;>simp_all
theorem Qk5 {α:Type}{m:α->Bool}: ∀ {l:List α} {k:Nat},ZA m l=some k↔ ∃ h:k<l.length,m l[k]=true∧ ∀ j (hj:j<l.length),k<j->m l[j]=false
 | [],k=>by simp [ZA]
 |a::l,k=>by
  have ih:= @Qk5 α m l
  simp only [ZA]
  cases h:ZA m l with
  |some i=>
   obtain ⟨h1,h2,h3⟩:=ih.1 h
   simp only [Bb]
   constructor
   ·rintro rfl
    refine ⟨by simp;omega,by simpa using h2,fun j hj hk=> ?_⟩
    cases j with
    |zero=>omega
    |succ j=>simpa using h3 j (by simpa using hj) (by omega)
   ·rintro ⟨g1,g2,g3⟩
    cases k with
    |zero=>
     have:=g3 (i+1) (by simp;omega) (by omega)
     simp [h2] at this
    |succ k=>
     have g1':k<l.length:=by simpa using g1
     simp only [DI] at g2
     have:ZA m l=some k:=ih.2 ⟨g1',g2,fun j hj hk=>by have:=g3 (j+1) (by rw [Bt];omega) (by omega);rwa [DI] at this⟩
     rw [this] at h
     injection h with h
     omega
  |none=>
   have g:=QwK.1 h
   cases hm:m a with
   |true=>
    simp only [if_true,Bb]
    constructor
    ·rintro rfl
     refine ⟨by simp,by simpa using hm,fun j hj hk=> ?_⟩
     cases j with
     |zero=>omega
     |succ j=>simp only [DI];exact g _ (Bu _)
    ·rintro ⟨g1,g2,g3⟩
     cases k with
     |zero=>rfl
     |succ k=>
      simp only [DI] at g2
      rw [g _ (Bu _)] at g2
      cases g2
   |false=>
    simp only [BK,Do,reduceCtorEq,false_iff]
    rintro ⟨g1,g2,g3⟩
    cases k with
    |zero=>simp [hm] at g2
    |succ k=>
     simp only [DI] at g2
     rw [g _ (Bu _)] at g2
     cases g2
theorem QIT {α:Type}(l:List α)(a:α):YX (l++[a])=((l.length:Int),(a,()))::YX l:=by
 unfold YX
 simp [List.zipIdx_append]
theorem QIU {α:Type}{P:List α->Prop}(h0:P [])(h1: ∀ l a,P l->P (l++[a]))(l:List α):P l:=by
 have: ∀ r:List α,P r.reverse:=by
  intro r
  induction r with
  |nil=>exact h0
  |cons a r ih=>rw [List.reverse_cons];exact h1 _ _ ih
 have h:=this l.reverse
 rwa [List.reverse_reverse] at h
theorem QIV {α:Type}{m:α->Bool}(l:List α):((YX l).find? fun z=>m z.2.1).map (·.1)=(ZA m l).map fun k:Nat=>(k:Int):=by
 induction l using QIU with
 |h0=>rfl
 |h1 l a ih=>
  rw [QIT,List.find?_cons,QwJ]
  simp only [ZA]
  cases hm:m a
  ·simpa using ih
  ·simp
def Va (rs:List Rule)(u:Keep)(p d:Int):Option Nat:=ZA (fun r=>Ic r u p d) rs
theorem QwL {y:Policy}{u:Keep}{p d:Int}:Yx y u p d=match Va y.1 u p d with|some k=>(k:Int)|none=> -1:=by
 unfold Yx Et Va
 rw [QIV (m:=fun r=>Ic r u p d)]
 cases ZA (fun r=>Ic r u p d) y.1<;>rfl
theorem QIW {y:Policy}{u:Keep}{p d:Int}: -1<=Yx y u p d/\Yx y u p d<y.1.length:=by
 rw [QwL]
 cases h:Va y.1 u p d with
 |none=>simp only;omega
 |some k=>
  obtain ⟨h1,_⟩:=Qk5.1 h
  simp only
  omega
def allL (rs:List Rule)(u:Keep)(p d:Int):Bool:=match Va rs u p d with
 |some k=>(rs[k]?.map fun r:Rule=>r.1).getD true
 |none=>true
def EI (y:Policy)(u:Keep)(p d:Int):Bool:=allL y.1 u p d
def ends (rs:List Rule):List Int:=rs.flatMap fun r=>[r.2.2.2.2.1,r.2.2.2.2.2.1]
end Go.Proofs.YtmjnnemhoeolgaaGreat.K
noncomputable section
namespace Go.Proofs.YtmjnnemhoeolgaaGreat.K
open Go.RowKit
def QGB:TC:=aF Tryz.f175 []
def g_f175:G:=gG 25 [(176,QjO)] (fun _ _=>none)
def Quq (p0:Policy)(p1:Keep)(p2 p3:Int):OV:=
 let a1:=Yx p0 p1 p2 p3
 br (ilt a1 0) (some (.t .bool true,[])) (br (cIx p0.1 a1) (some (.t .bool ((lgt JG p0.1 (Int.toNat a1)).1),[])) none)
theorem QGC (y:Policy)(u:Keep)(p d:Int):EI y u p d=(ilt (Yx y u p d) 0||(y.1.getD (Yx y u p d).toNat JG.zero).1):=by
 unfold EI allL
 have h:=QwL (y:=y) (u:=u) (p:=p) (d:=d)
 cases hq:Va y.1 u p d with
 |none=>
  rw [hq] at h
  simp only at h
  rw [h]
  rfl
 |some k=>
  rw [hq] at h
  simp only at h
  rw [h]
  obtain ⟨h1,_⟩:=Qk5.1 hq
  have e1:ilt (k:Int) 0=false:=by simp only [ilt,Bn];omega
  simp only [e1,Dk,Bd,Bh h1,B1,BI,Bk]
theorem QGD {y:Policy}{u:Keep}{p d:Int}(h:ilt (Yx y u p d) 0=false):cIx y.1 (Yx y u p d)=true:=by
 have h2:=QIW (y:=y) (u:=u) (p:=p) (d:=d)
 simp only [ilt,Bn] at h
 simp only [cIx,Ba]
 omega
theorem s_f175 (y:Policy)(u:Keep)(p d:Int):Quq y u p d=some (.t .bool (EI y u p d),[]):=by
 simp only [Quq,QGC]
 cases h:ilt (Yx y u p d) 0 with
 |true=>simp [Qd]
 |false=>
  rw [QGD h,Qh,Qd,Dk,lgt]
def Qur:Ent:=Ql (.pr Zw (.pr Qe (.pr tI (.pr tI .nil)))) (fun x=>true) (fun x=>(.t .bool (EI x.1 x.2.1 x.2.2.1 x.2.2.2.1)))
theorem QGE:EM 175 Qur:=mS g_f175 QGB [((.t 8),some .bool)] false (gB (gD Quz gN)) fun m=>Qn m fun x _=>kT (s_f175 x.1 x.2.1 x.2.2.1 x.2.2.2.1)
def UM (y:Policy)(u:Keep)(p d:Int):Int:=if FQ y=false then 25 else if JU u=false then 7 else if p<1∨4<p∨d<0∨40000<d then 2 else 0
def Es (y:Policy)(_u:Keep)(_p _d:Int):Bool:=Y8 y
def QGF:TC:=aF Tryz.f174 []
def g_f174:G:=gG 34 [(51,Qhx),(87,EZ)] (fun _ _=>none)
def Qus (p0:Policy)(p1:Keep)(p2 p3:Int):OV:=br (Y8 p0) (br (ine (Y7 p0) 0) (some (.t tI (Y7 p0),[])) (br (!(JU p1)) (some (.t tI 7,[])) (br (ilt p2 1) (some (.t tI 2,[])) (br (igt p2 4) (some (.t tI 2,[])) (br (ilt p3 0) (some (.t tI 2,[])) (br (igt p3 40000) (some (.t tI 2,[])) (some (.t tI 0,[])))))))) none
theorem s_f174 (y:Policy)(u:Keep)(p d:Int)(h:Es y u p d=true):Qus y u p d=some (.t tI (UM y u p d),[]):=by
 have h:Y8 y=true:=h
 simp only [Qus,h,Qd,Y7,UM]
 cases FQ y with
 |false=>rfl
 |true=>
  simp only [if_true,show ine 0 0=false from rfl,Qh,Bool.true_eq_false,Do]
  cases JU u with
  |false=>rfl
  |true=>
   simp only [BH,Qh,Bool.true_eq_false,Do]
   repeat' (refine QZ ?_ ?_<;>intro _)
   all_goals simp only [igt,ilt,Ba,Bn] at*
   all_goals first
    |rw [if_pos (by omega)]
    |rw [if_neg (by omega)]
def Qut:Ent:=Ql (.pr Zw (.pr Qe (.pr tI (.pr tI .nil)))) (fun x=>(Es x.1 x.2.1 x.2.2.1 x.2.2.2.1)) (fun x=>(.t tI (UM x.1 x.2.1 x.2.2.1 x.2.2.2.1)))
theorem QGG:EM 174 Qut:=mS g_f174 QGF [((.t 8),some tI)] false (gB (gD Qqq (gD VC gN))) fun m=>Qn m fun x hok=>kT (s_f174 x.1 x.2.1 x.2.2.1 x.2.2.2.1 hok)
def Zo (y:Policy)(u:Keep)(p d:Int):Bool×Int×Int:=if UM y u p d=0 then (EI y u p d,Yx y u p d,0) else (false,0,UM y u p d)
def QGH:TC:=aF Tryz.f137 [(14,pD [(0,[4]),(1,[5]),(2,[]),(3,[]),(4,[]),(5,[4]),(6,[5]),(7,[]),(8,[]),(9,[]),(10,[]),(11,[]),(12,[])] (.of [0,1,2,3,4,5,6,7,8,9,10,11,12]))]
def g_f137:G:=gG 30 [(174,Qut),(175,Qur),(176,QjO)] (fun _ _=>none)
def Quu (p0:Policy)(p1:Keep)(p2 p3:Int):OV:=br (Es p0 p1 p2 p3) (br (ine (UM p0 p1 p2 p3) 0) (some (.tu [(.t .bool false),(.t tI 0),(.t tI (UM p0 p1 p2 p3))],[])) (some (.tu [(.t .bool (EI p0 p1 p2 p3)),(.t tI (Yx p0 p1 p2 p3)),(.t tI 0)],[]))) none
theorem s_f137 (y:Policy)(u:Keep)(p d:Int)(h:Es y u p d=true):Quu y u p d=some (.tu [.t .bool (Zo y u p d).1,.t tI (Zo y u p d).2.1,.t tI (Zo y u p d).2.2],[]):=by
 simp only [Quu,h,Qd,Zo,QAb]
 by_cases h0:UM y u p d=0<;>simp [h0,Qd,Qh]
def Quv:Ent:=Ql (.pr Zw (.pr Qe (.pr tI (.pr tI .nil)))) (fun x=>(Es x.1 x.2.1 x.2.2.1 x.2.2.2.1)) (fun x=>(.tu [(.t .bool ((Zo x.1 x.2.1 x.2.2.1 x.2.2.2.1).1)),(.t tI (((Zo x.1 x.2.1 x.2.2.1 x.2.2.2.1).2).1)),(.t tI (((Zo x.1 x.2.1 x.2.2.1 x.2.2.2.1).2).2))]))
theorem QGI:EM 137 Quv:=mS g_f137 QGH [((.t 8),some .bool),((.t 9),some tI),((.t 10),some tI)] false (gB (gD QGG (gD QGE (gD Quz gN)))) fun m=>Qn m fun x hok=>kT (s_f137 x.1 x.2.1 x.2.2.1 x.2.2.2.1 hok)
end Go.Proofs.YtmjnnemhoeolgaaGreat.K
noncomputable section
namespace Go.Proofs.YtmjnnemhoeolgaaGreat.K
open Go.RowKit
noncomputable section
def Xc (_:Exception):Bool:=false
def exZ (_:Exception):Int:=0
def Eh (_:Exception):Bool:=false
abbrev QcS:Sh:=⟨[(1,.ptr 1 0),(51,.ty (.sl Qe)),(52,.ty tI),(53,.ty tI)],[(1,.box J8)]⟩
abbrev QcT:Sh:=⟨[],[]⟩
def Qjd:Fg:=QcS.f
def Qtk:TC:=aF Tryz.f54 [(122,pL 0 Qjd),(1957,.fg QcT.f),(15666,pD [(0,[4]),(1,[4]),(2,[]),(3,[]),(4,[]),(5,[4]),(6,[4]),(7,[]),(8,[]),(9,[]),(10,[4]),(11,[4]),(12,[]),(13,[]),(14,[]),(15,[]),(16,[]),(17,[]),(18,[1]),(19,[1]),(20,[]),(21,[]),(22,[]),(23,[]),(24,[]),(25,[4]),(26,[4]),(27,[]),(28,[]),(29,[])] (.of [0,1,2,3,4,5,6,7,8,9,10,11,12,13,14,15,16,17,18,19,20,21,22,23,24,25,26,27,28,29])),(62669,.fg ⟨[(2,some tI)],[]⟩)]
def Qtl:TC:=lb 0 Qtk
def QFb (x51:List Keep)(x52 x53:Int)(y1:Exception):VS:=QcS.st ((),x51,x52,x53,()) (y1,())
def Qtm  : VS:=QcT.st () ()
def QFc:VS->Option (Bool×List (Bool×Exit×VS)):=mkL QcS (fun x y=>(Xc y.1)) (fun x y=>[(true,.exit 0,Qtm)])
def Qje:G:=gG 89 [(83,Vb),(86,Ob),(87,EZ)] (Ls [QFc])
def QFd (x51:List Keep)(x52 x53:Int)(y1:Exception):OX:=Qv (QB Qje Qjd Qtl) (QFb x51 x52 x53 y1)
def QFe (x51:List Keep)(x52 x53:Int)(y1:Exception):OX:=some (.exit 0,Qtm)
def r_f54 (p0:Exception):OV:=br (!(JU p0.1)) (some (.t tI 26,[])) (br (ilt p0.2.1 1) (some (.t tI 26,[])) (br (igt p0.2.1 4) (some (.t tI 26,[])) (br (Jb p0.2.2.1) (br (!(Jv p0.2.2.1)) (some (.t tI 26,[])) (br (ilt p0.2.2.2.1.1 0) (some (.t tI 26,[])) (br (ige p0.2.2.2.1.1 p0.2.2.2.1.2.1) (some (.t tI 26,[])) (br (igt p0.2.2.2.1.2.1 40001) (some (.t tI 26,[])) (br (igt (Qa p0.2.2.2.2.1) 8) (some (.t tI 26,[])) (br (Xc p0) (some (.t tI 0,[])) none)))))) none)))
theorem QFf (x51:List Keep)(x52 x53:Int)(y1:Exception)(h:(Xc y1)=true):QFd x51 x52 x53 y1=QFe x51 x52 x53 y1:=by
 cases h
theorem QFg:LO Qje Qjd Qtl 0:=QH (s:=QcS) fun x y h _ q=>by simp only [QE,QF] at q;exact (QFf x.2.1 x.2.2.1 x.2.2.2.1 y.1 h).trans q
theorem s_f54 (x:Exception)(h:Xc x=true):r_f54 x=some (.t tI (exZ x),[]):=by cases h
def Qjf:Ent:=Ql (.pr J8 .nil) (fun x=>(Xc x.1)) (fun x=>(.t tI (exZ x.1)))
theorem Qtn:EM 54 Qjf:=mS (lk:=lkL (lkc QFg lkn)) Qje Qtk [((.t 2),some tI)] false (gB (gD Qef (gD Qcc (gD VC gN)))) fun m=>Qn m fun x hok=>kT (s_f54 x.1 hok)
def JN (l:List Exception):Bool:=l.isEmpty
def Ei (_:List Exception):Int:= -1
def Ej (_:List Exception):Bool:=false
theorem UI {l:List Exception}(h:JN l=true):l=[]:=DJ.1 h
def QFh:TC:=aF Tryz.f138 []
def g_f138:G:=gG 6 [(54,Qjf)] (fun _ _=>none)
def r_f138 (p0:Exception):OV:=br (Xc p0) (some (.t .bool (ine (exZ p0) 0),[])) none
theorem s_f138 (x:Exception)(h:Xc x=true):r_f138 x=some (.t .bool (Eh x),[]):=by cases h
def Qto:Ent:=ZP [.ty J8] [] (fun x d=>(Xc x.1)) (fun x d=>(.t .bool (Eh x.1)))
theorem QFi:EM 138 Qto:=mS g_f138 QFh [((.t 2),some .bool)] false (gB (gD Qtn gN)) fun m=>ZG m fun x d hok=>kT (s_f138 x.1 hok)
abbrev QcU:Sh:=⟨[(0,.ty (.sl J8)),(1,.cf 138),(7,.ty tI),(8,.ty tI)],[]⟩
abbrev Qtp:Sh:=⟨[(4,.ty tI)],[]⟩
def Qjg:Fg:=QcU.f
def Qtq:TC:=aF Tryz.f94 [(26,pL 0 Qjg),(421,.fg QcT.f),(13517,.fg Qtp.f)]
def Qtr:TC:=lb 0 Qtq
def Qts (x0:List Exception)(x7 x8:Int):VS:=QcU.st (x0,(),x7,x8,()) ()
def QFj (x4:Int):VS:=Qtp.st (x4,()) ()
def Qjh  : VS:=QcT.st () ()
def QFk:VS->Option (Bool×List (Bool×Exit×VS)):=mkL QcU (fun x y=>(JN x.1&&(ieq x.2.2.1 0&&ieq x.2.2.2.1 0))) (fun x y=>[(true,.exit 0,Qjh)])
def Qji:G:=gG 19 [(138,Qto)] (Ls [QFk])
def Qjj (x0:List Exception)(x7 x8:Int):OX:=Qv (QB Qji Qjg Qtr) (Qts x0 x7 x8)
def Qjk (kk:List Exception->Int->Int->OX)(x0:List Exception)(x7 x8:Int):OX:=
 let a1:=lgt J8 x0 (Int.toNat x8)
 br (ilt x8 x7) (br (cIx x0 x8) (br (Xc a1) (br (Eh a1) (some (.ret,QFj x8)) (kk x0 x7 (Qf .i64 x8 1))) none) none) (some (.exit 0,Qjh))
def QFl (x0:List Exception)(x7 x8:Int):OX:=some (.exit 0,Qjh)
theorem QFm (x0:List Exception)(x7 x8:Int):Qjj x0 x7 x8=Qjk Qjj x0 x7 x8:=lnT (x:=Qjk (fun x0 x7 x8=>some (.normal,Qts x0 x7 x8)) x0 x7 x8) (by simp only [Qjk,nxA];rfl)
def QFn (p0:List Exception):OV:=br (JN p0&&(ieq (Qa p0) 0&&ieq (0:Int) 0)) (some (.t tI (-1),[])) none
theorem QFo (x0:List Exception)(x7 x8:Int)(h:(JN x0&&(ieq x7 0&&ieq x8 0))=true):Qjj x0 x7 x8=QFl x0 x7 x8:=by
 simp only [Bc] at h
 obtain ⟨h1,h2,h3⟩:=h
 obtain rfl:=UI h1
 have h2:x7=0:=by simpa [ieq] using h2
 have h3:x8=0:=by simpa [ieq] using h3
 subst h2 h3
 rw [QFm]
 try rfl
theorem QFp:LO Qji Qjg Qtr 0:=QH (s:=QcU) fun x y h _ q=>by simp only [QE,QF] at q;exact (QFo x.1 x.2.2.1 x.2.2.2.1 h).trans q
theorem QFq (l:List Exception)(h:JN l=true):QFn l=some (.t tI (Ei l),[]):=by
 obtain rfl:=UI h
 rfl
def Qtt:Ent:=ZP [.ty (.sl J8),.cf 138] [] (fun x d=>(JN x.1)) (fun x d=>(.t tI (Ei x.1)))
theorem QFr:EM 94 Qtt:=mS (lk:=lkL (lkc QFp lkn)) Qji Qtq [((.t 4),some tI)] false (gB (gD QFi gN)) fun m=>ZG m fun x d hok=>kT (QFq x.1 hok)
def QFs:TC:=aF Tryz.f52 []
def QFt:G:=gG 9 [(94,Qtt)] (fun _ _=>none)
def QFu (p0:List Exception):OV:=br (JN p0) (some (.t .bool (ige (Ei p0) 0),[])) none
theorem QFv (l:List Exception)(h:JN l=true):QFu l=some (.t .bool (Ej l),[]):=by
 obtain rfl:=UI h
 rfl
def Qtu:Ent:=ZP [.ty (.sl J8),.cf 138] [] (fun x d=>(JN x.1)) (fun x d=>(.t .bool (Ej x.1)))
theorem QFw:EM 52 Qtu:=mS QFt QFs [((.t 4),some .bool)] false (gB (gD QFr gN)) fun m=>ZG m fun x d hok=>kT (QFv x.1 hok)
def Oy (_:List Exception)(_:Dice)(_:Keep)(_:Int)(_:ByteArray)(_:Int):Int×Bool:=(0,false)
def Qjl (l:List Exception)(_:Dice)(_:Keep)(_:Int)(_:ByteArray)(_:Int):Bool:=JN l
abbrev QcV:Sh:=⟨[(3,.ty tI),(4,.ty .str),(5,.ty tI),(7,.ptr 7 0),(8,.ptr 8 0),(14,.ty tI),(15,.ty .bool),(18,.ty (.sl J8)),(19,.ty tI),(20,.ty tI)],[(7,.box QI),(8,.box Qe)]⟩
abbrev Qtv:Sh:=⟨[(14,.ty tI),(15,.ty .bool)],[]⟩
def Qjm:Fg:=QcV.f
def Qtw:TC:=aF Tryz.f139 [(58,pL 0 Qjm),(933,.fg Qtv.f)]
def Qtx:TC:=lb 0 Qtw
def Qty (x3:Int)(x4:ByteArray)(x5 x14:Int)(x15:Bool)(x18:List Exception)(x19 x20:Int)(y7:Dice)(y8:Keep):VS:=QcV.st (x3,x4,x5,(),(),x14,x15,x18,x19,x20,()) (y7,y8,())
def Qjn (x14:Int)(x15:Bool):VS:=Qtv.st (x14,x15,()) ()
def QFx:VS->Option (Bool×List (Bool×Exit×VS)):=mkL QcV (fun x y=>(JN x.2.2.2.2.2.2.2.1&&(ieq x.2.2.2.2.2.2.2.2.1 0&&ieq x.2.2.2.2.2.2.2.2.2.1 0))) (fun x y=>[(true,.exit 0,Qjn (x.2.2.2.2.2.1) (x.2.2.2.2.2.2.1))])
def Qjo:G:=gG 43 [] (Ls [QFx])
def Qjp (x3:Int)(x4:ByteArray)(x5 x14:Int)(x15:Bool)(x18:List Exception)(x19 x20:Int)(y7:Dice)(y8:Keep):OX:=Qv (QB Qjo Qjm Qtx) (Qty x3 x4 x5 x14 x15 x18 x19 x20 y7 y8)
def Qjq (kk:Int->ByteArray->Int->Int->Bool->List Exception->Int->Int->Dice->Keep->OX)(x3:Int)(x4:ByteArray)(x5 x14:Int)(x15:Bool)(x18:List Exception)(x19 x20:Int)(y7:Dice)(y8:Keep):OX:=br (ilt x20 x19) (br (cIx x18 x20) none none) (some (.exit 0,Qjn x14 x15))
def QFy (x3:Int)(x4:ByteArray)(x5 x14:Int)(x15:Bool)(x18:List Exception)(x19 x20:Int)(y7:Dice)(y8:Keep):OX:=some (.exit 0,Qjn (x14) (x15))
theorem QFz (x3:Int)(x4:ByteArray)(x5 x14:Int)(x15:Bool)(x18:List Exception)(x19 x20:Int)(y7:Dice)(y8:Keep):Qjp x3 x4 x5 x14 x15 x18 x19 x20 y7 y8=Qjq Qjp x3 x4 x5 x14 x15 x18 x19 x20 y7 y8:=lnT (x:=Qjq (fun x3 x4 x5 x14 x15 x18 x19 x20 y7 y8=>some (.normal,Qty x3 x4 x5 x14 x15 x18 x19 x20 y7 y8)) x3 x4 x5 x14 x15 x18 x19 x20 y7 y8) (by
 simp only [Qjq,FE,IA,IB,IC,ID])
def r_f139 (p0:List Exception)(p1:Dice)(p2:Keep)(p3:Int)(p4:ByteArray)(p5:Int):OV:=br (JN p0&&(ieq (Qa p0) 0&&ieq (0:Int) 0)) (some (.tu [(.t tI (0:Int)),(.t .bool (false))],[])) none
theorem QFA (x3:Int)(x4:ByteArray)(x5 x14:Int)(x15:Bool)(x18:List Exception)(x19 x20:Int)(y7:Dice)(y8:Keep)(h:(JN x18&&(ieq x19 0&&ieq x20 0))=true):Qjp x3 x4 x5 x14 x15 x18 x19 x20 y7 y8=QFy x3 x4 x5 x14 x15 x18 x19 x20 y7 y8:=by
 simp only [Bc] at h
 obtain ⟨h1,h2,h3⟩:=h
 obtain rfl:=UI h1
 have h2:x19=0:=by simpa [ieq] using h2
 have h3:x20=0:=by simpa [ieq] using h3
 subst h2 h3
 rw [QFz]
 try rfl
theorem QFB:LO Qjo Qjm Qtx 0:=QH (s:=QcV) fun x y h _ q=>by simp only [QE,QF] at q;exact (QFA x.1 x.2.1 x.2.2.1 x.2.2.2.2.2.1 x.2.2.2.2.2.2.1 x.2.2.2.2.2.2.2.1 x.2.2.2.2.2.2.2.2.1 x.2.2.2.2.2.2.2.2.2.1 y.1 y.2.1 h).trans q
theorem s_f139 (l:List Exception)(o:Dice)(u:Keep)(p:Int)(e:ByteArray)(d:Int)(h:Qjl l o u p e d=true):r_f139 l o u p e d=some (.tu [.t tI (Oy l o u p e d).1,.t .bool (Oy l o u p e d).2],[]):=by
 obtain rfl:=UI h
 rfl
def Qtz:Ent:=Ql (.pr (.sl J8) (.pr QI (.pr Qe (.pr tI (.pr .str (.pr tI .nil)))))) (fun x=>(Qjl x.1 x.2.1 x.2.2.1 x.2.2.2.1 x.2.2.2.2.1 x.2.2.2.2.2.1)) (fun x=>(.tu [(.t tI ((Oy x.1 x.2.1 x.2.2.1 x.2.2.2.1 x.2.2.2.2.1 x.2.2.2.2.2.1).1)),(.t .bool ((Oy x.1 x.2.1 x.2.2.1 x.2.2.2.1 x.2.2.2.2.1 x.2.2.2.2.2.1).2))]))
theorem QFC:EM 139 Qtz:=mS (lk:=lkL (lkc QFB lkn)) Qjo Qtw [((.t 12),some tI),((.t 13),some .bool)] false (gB gN) fun m=>Qn m fun x hok=>kT (s_f139 x.1 x.2.1 x.2.2.1 x.2.2.2.1 x.2.2.2.2.1 x.2.2.2.2.2.1 hok)
def GE (y:Policy)(_:List Exception)(_:Dice)(u:Keep)(p:Int)(_:ByteArray)(d:Int):Bool×Int:=((Zo y u p d).1,(Zo y u p d).2.2)
def QcW (y:Policy)(l:List Exception)(_:Dice)(_:Keep)(_:Int)(_:ByteArray)(_:Int):Bool:=Y8 y&&JN l
theorem QFD {y:Policy}{u:Keep}{p d:Int}(h:ine (Zo y u p d).2.2 0=true):(Zo y u p d).1=false:=by
 unfold Zo at h ⊢
 split at h
 ·exact absurd (show false=true from h) (by decide)
 ·rename_i hn
  rw [if_neg hn]
theorem QFE {y:Policy}{u:Keep}{p d:Int}(h:ine (Zo y u p d).2.2 0=false):(Zo y u p d).2.2=0:=by
 simpa [ine] using h
def tc_f97:TC:=aF Tryz.f97 []
def g_f97:G:=gG 51 [(52,Qtu),(137,Quv),(139,Qtz)] (fun _ _=>none)
def r_f97 (p0:Policy)(p1:List Exception)(p2:Dice)(p3:Keep)(p4:Int)(p5:ByteArray)(p6:Int):OV:=
 let a1:=Zo p0 p3 p4 p6
 br (Es p0 p3 p4 p6) (br (ine ((a1.2).2) 0) (some (.tu [(.t .bool false),(.t tI ((a1.2).2))],[])) (br (JN p1) (br (Ej p1) (some (.tu [(.t .bool false),(.t tI 26)],[])) (br (Qjl p1 p2 p3 p4 p5 p6) (br (a1.1) (some (.tu [(.t .bool true),(.t tI 0)],[])) (some (.tu [(.t .bool ((Oy p1 p2 p3 p4 p5 p6).2)),(.t tI 0)],[]))) none)) none)) none
theorem s_f97 (y:Policy)(l:List Exception)(o:Dice)(u:Keep)(p:Int)(e:ByteArray)(d:Int)(h:QcW y l o u p e d=true):r_f97 y l o u p e d=some (.tu [.t .bool (GE y l o u p e d).1,.t tI (GE y l o u p e d).2],[]):=by
 obtain ⟨h1,h2⟩:=Bi.1 h
 unfold r_f97 GE
 refine brY h1 (QZ (fun k=>by rw [QFD k]) fun k=> ?_)
 refine brY h2 ?_
 show br false _ _=_
 rw [Qh]
 refine brY h2 ?_
 rw [QFE k]
 cases (Zo y u p d).1<;>rfl
def QtA:Ent:=Ql (.pr Zw (.pr (.sl J8) (.pr QI (.pr Qe (.pr tI (.pr .str (.pr tI .nil))))))) (fun x=>(QcW x.1 x.2.1 x.2.2.1 x.2.2.2.1 x.2.2.2.2.1 x.2.2.2.2.2.1 x.2.2.2.2.2.2.1)) (fun x=>(.tu [(.t .bool ((GE x.1 x.2.1 x.2.2.1 x.2.2.2.1 x.2.2.2.2.1 x.2.2.2.2.2.1 x.2.2.2.2.2.2.1).1)),(.t tI ((GE x.1 x.2.1 x.2.2.1 x.2.2.2.1 x.2.2.2.2.1 x.2.2.2.2.2.1 x.2.2.2.2.2.2.1).2))]))
theorem ms_f97:EM 97 QtA:=mS g_f97 tc_f97 [((.t 14),some .bool),((.t 15),some tI)] false (gB (gD QFw (gD QGI (gD QFC gN)))) fun m=>Qn m fun x hok=>kT (s_f97 x.1 x.2.1 x.2.2.1 x.2.2.2.1 x.2.2.2.2.1 x.2.2.2.2.2.1 x.2.2.2.2.2.2.1 hok)
def Qjr (y:Policy)(d:Int)(u:Keep):Bool:= !(Zo y u 1 d).1
def YR (y:Policy)(d:Int):List Keep->Bool->Bool×Int
 | [],b=>(b,0)
 |u::r,b=>bif ine (Zo y u 1 d).2.2 0 then (false,(Zo y u 1 d).2.2) else YR y d r (b||Qjr y d u)
def UJ (y:Policy)(_:List Exception)(_:Dice)(s:Endpoint)(o:Keep)(d:Int):Bool×Int:=
 bif ine (Ji s o).2 0 then (false,(Ji s o).2) else YR y d (Ji s o).1 false
def Oz (y:Policy)(l:List Exception)(_:Dice)(s:Endpoint)(_:Keep)(_:Int):Bool:=Y8 y&&(JN l&&Q0 s)
theorem QFF (s:Endpoint)(o:Keep):(Ji s o).1.length<=4:=by
 unfold Ji
 cases QN s with
 |false=>exact B3 _
 |true=>
  cases ine (QX o.2.1).2 0 with
  |true=>exact B3 _
  |false=>
   cases (Zc s o.2.1).2 with
   |false=>exact B3 _
   |true=>exact BL 4
theorem QtB {y:Policy}{d:Int}: ∀ {l:List Keep} {b:Bool},ine (YR y d l b).2 0=true->(YR y d l b).1=false
 | [],b,h=>by cases h
 |u::r,b,h=>by
  unfold YR at h ⊢
  cases hq:ine (Zo y u 1 d).2.2 0 with
  |true=>rfl
  |false=>
   rw [hq] at h
   exact QtB (l:=r) h
theorem ine_z {x:Int}(h:ine x 0=false):x=0:=by simpa [ine] using h
abbrev QcX:Sh:=⟨[(1,.ty (.sl J8)),(5,.ty tI),(6,.ptr 6 0),(8,.ptr 8 0),(9,.ptr 9 0),(16,.ty .bool),(30,.ty (.sl Qe)),(31,.ty tI),(32,.ty tI)],[(6,.box Zw),(8,.box QI),(9,.box Qo)]⟩
abbrev QtC:Sh:=⟨[(12,.ty .bool),(13,.ty tI)],[]⟩
abbrev QtD:Sh:=⟨[(16,.ty .bool)],[]⟩
def Qjs:Fg:=QcX.f
def QtE:TC:=aF Tryz.f56 [(250,pL 0 Qjs),(4005,.fg QtD.f),(512821,.fg QtC.f)]
def QtF:TC:=lb 0 QtE
def QtG (x1:List Exception)(x5:Int)(x16:Bool)(x30:List Keep)(x31 x32:Int)(y6:Policy)(y8:Dice)(y9:Endpoint):VS:=QcX.st (x1,x5,(),(),(),x16,x30,x31,x32,()) (y6,y8,y9,())
def Qjt (x12:Bool)(x13:Int):VS:=QtC.st (x12,x13,()) ()
def Qju (x16:Bool):VS:=QtD.st (x16,()) ()
def QFG:VS->Option (Bool×List (Bool×Exit×VS)):=mkL QcX (fun x y=>(Qz x.2.2.2.2.2.2.1 x.2.2.2.2.2.2.2.1 x.2.2.2.2.2.2.2.2.1&&(Y8 y.1&&JN x.1))) (fun x y=>[((ine (YR y.1 x.2.1 (x.2.2.2.2.2.2.1.drop x.2.2.2.2.2.2.2.2.1.toNat) x.2.2.2.2.2.1).2 0),.ret,Qjt (false) ((YR y.1 x.2.1 (x.2.2.2.2.2.2.1.drop x.2.2.2.2.2.2.2.2.1.toNat) x.2.2.2.2.2.1).2)),(true,.exit 0,Qju ((YR y.1 x.2.1 (x.2.2.2.2.2.2.1.drop x.2.2.2.2.2.2.2.2.1.toNat) x.2.2.2.2.2.1).1))])
def Qjv:G:=gG 57 [(96,QbS),(97,QtA)] (Ls [QFG])
def QcY (x1:List Exception)(x5:Int)(x16:Bool)(x30:List Keep)(x31 x32:Int)(y6:Policy)(y8:Dice)(y9:Endpoint):OX:=Qv (QB Qjv Qjs QtF) (QtG x1 x5 x16 x30 x31 x32 y6 y8 y9)
def OA (kk:List Exception->Int->Bool->List Keep->Int->Int->Policy->Dice->Endpoint->OX)(x1:List Exception)(x5:Int)(x16:Bool)(x30:List Keep)(x31 x32:Int)(y6:Policy)(y8:Dice)(y9:Endpoint):OX:=
 let a1:=GE y6 x1 y8 (lgt Qe x30 (Int.toNat x32)) 1 y9.1 x5
 br (ilt x32 x31) (br (cIx x30 x32) (br (QcW y6 x1 y8 (lgt Qe x30 (Int.toNat x32)) 1 y9.1 x5) (br (ine (a1.2) 0) (some (.ret,Qjt false (a1.2))) (br (x16) (kk x1 x5 true x30 x31 (Qf .i64 x32 1) y6 y8 y9) (kk x1 x5 (!(a1.1)) x30 x31 (Qf .i64 x32 1) y6 y8 y9))) none) none) (some (.exit 0,Qju x16))
def Ek (x1:List Exception)(x5:Int)(x16:Bool)(x30:List Keep)(x31 x32:Int)(y6:Policy)(y8:Dice)(y9:Endpoint):OX:=
 let a1:=YR y6 x5 (x30.drop x32.toNat) x16
 br (ine a1.2 0) (some (.ret,Qjt (false) (a1.2)))<|some (.exit 0,Qju (a1.1))
theorem QtH (x1:List Exception)(x5:Int)(x16:Bool)(x30:List Keep)(x31 x32:Int)(y6:Policy)(y8:Dice)(y9:Endpoint):QcY x1 x5 x16 x30 x31 x32 y6 y8 y9=OA QcY x1 x5 x16 x30 x31 x32 y6 y8 y9:=lnT (x:=OA (fun x1 x5 x16 x30 x31 x32 y6 y8 y9=>some (.normal,QtG x1 x5 x16 x30 x31 x32 y6 y8 y9)) x1 x5 x16 x30 x31 x32 y6 y8 y9) (by simp only [OA,nxA];rfl)
def r_f56 (p0:Policy)(p1:List Exception)(p2:Dice)(p3:Endpoint)(p4:Keep)(p5:Int):OV:=
 let a1:=(YR p0 p5 (((Ji p3 p4).1).drop (0:Int).toNat) false)
 br (Qh3 p3 p4) (br (ine ((Ji p3 p4).2) 0) (some (.tu [(.t .bool false),(.t tI ((Ji p3 p4).2))],[])) (br (Qz ((Ji p3 p4).1) (Qa ((Ji p3 p4).1)) (0:Int)&&(Y8 p0&&JN p1)) (br (ine a1.2 0) (some (.tu [(.t .bool (false)),(.t tI (a1.2))],[])) (some (.tu [(.t .bool (a1.1)),(.t tI 0)],[]))) none)) none
theorem QFH (x1:List Exception)(x5:Int)(x16:Bool)(x30:List Keep)(x31 x32:Int)(y6:Policy)(y8:Dice)(y9:Endpoint)(h:(Qz x30 x31 x32&&(Y8 y6&&JN x1))=true):QcY x1 x5 x16 x30 x31 x32 y6 y8 y9=Ek x1 x5 x16 x30 x31 x32 y6 y8 y9:=by
 simp only [Bc] at h
 obtain ⟨h,g1,g2⟩:=h
 obtain ⟨rfl,h3,k,rfl,hk⟩:=JJ h
 clear h
 revert x16
 refine QU x30 (fun k=> ∀ x16:Bool,QcY x1 x5 x16 x30 (x30.length:Int) (k:Int) y6 y8 y9=Ek x1 x5 x16 x30 (x30.length:Int) (k:Int) y6 y8 y9) ?_ ?_ k hk
 ·intro x16
  rw [QtH]
  simp only [OA,Ek,QD,B0,B4,Qh,Bd,BU,YR]
  rfl
 ·intro k hk ih x16
  rw [QtH]
  have e1: ∀ u p e,QcW y6 x1 y8 u p e x5=true:=fun _ _ _=>Bi.2 ⟨g1,g2⟩
  have hd:YR y6 x5 (x30.drop k) x16=bif ine (Zo y6 x30[k] 1 x5).2.2 0 then (false,(Zo y6 x30[k] 1 x5).2.2) else YR y6 x5 (x30.drop (k+1)) (x16||Qjr y6 x5 x30[k]):=by
   rw [Bj hk]
   rfl
  simp only [OA,QD,QJ,hk,Bv,Qd,Bd,QT (show k<4611686018427387904 by omega),e1,QS (y:=Qe) hk,GE]
  simp only [Ek,Bd,hd]
  cases hq:ine (Zo y6 x30[k] 1 x5).2.2 0 with
  |true=>simp only [Qd,Dh,hq]
  |false=>
   simp only [Qh,Da]
   cases x16 with
   |true=>
    rw [Qd,ih true]
    simp only [Ek,Bd,Bool.true_or]
   |false=>
    rw [Qh,ih]
    simp only [Ek,Bd,Dk,Qjr]
theorem QFI:LO Qjv Qjs QtF 0:=QH (s:=QcX) fun x y h _ q=>by simp only [QE,QF] at q;exact (QFH x.1 x.2.1 x.2.2.2.2.2.1 x.2.2.2.2.2.2.1 x.2.2.2.2.2.2.2.1 x.2.2.2.2.2.2.2.2.1 y.1 y.2.1 y.2.2.1 h).trans q
theorem s_f56 (y:Policy)(l:List Exception)(w:Dice)(s:Endpoint)(o:Keep)(d:Int)(h:Oz y l w s o d=true):r_f56 y l w s o d=some (.tu [.t .bool (UJ y l w s o d).1,.t tI (UJ y l w s o d).2],[]):=by
 simp only [Oz,Bc] at h
 obtain ⟨h1,h2,h3⟩:=h
 unfold r_f56 UJ
 refine brY h3 (QZ (fun k=>by rw [k];rfl) fun k=> ?_)
 have hl:=QFF s o
 rw [k,Da]
 refine brY ?_ ?_
 ·rw [JK (by omega),h1,h2]
  rfl
 ·rw [Bw,BD]
  cases hz:ine (YR y d (Ji s o).1 false).2 0 with
  |true=>rw [Qd,QtB hz]
  |false=>rw [Qh,ine_z hz]
def QtI:Ent:=Ql (.pr Zw (.pr (.sl J8) (.pr QI (.pr Qo (.pr Qe (.pr tI .nil)))))) (fun x=>(Oz x.1 x.2.1 x.2.2.1 x.2.2.2.1 x.2.2.2.2.1 x.2.2.2.2.2.1)) (fun x=>(.tu [(.t .bool ((UJ x.1 x.2.1 x.2.2.1 x.2.2.2.1 x.2.2.2.2.1 x.2.2.2.2.2.1).1)),(.t tI ((UJ x.1 x.2.1 x.2.2.1 x.2.2.2.1 x.2.2.2.2.1 x.2.2.2.2.2.1).2))]))
theorem ms_f56:EM 56 QtI:=mS (lk:=lkL (lkc QFI lkn)) Qjv QtE [((.t 12),some .bool),((.t 13),some tI)] false (gB (gD Qrc (gD ms_f97 gN))) fun m=>Qn m fun x hok=>kT (s_f56 x.1 x.2.1 x.2.2.1 x.2.2.2.1 x.2.2.2.2.1 x.2.2.2.2.2.1 hok)
end
end Go.Proofs.YtmjnnemhoeolgaaGreat.K
noncomputable section
namespace Go.Proofs.YtmjnnemhoeolgaaGreat.K
open Go.RowKit
noncomputable section
def W9 (a b:List Keep):Bool:=a==b
def QdG (a b:List Keep):Bool:=decide (a.length<=100000/\b.length<=100000)
abbrev QdH:Sh:=⟨[(0,.ty (.sl Qe)),(1,.ty (.sl Qe)),(12,.ty tI),(13,.ty tI)],[]⟩
abbrev Qvs:Sh:=⟨[(4,.ty .bool)],[]⟩
abbrev QdI:Sh:=⟨[],[]⟩
def Qkm:Fg:=QdH.f
def Qvt:TC:=aF Tryz.f57 [(58,pL 0 Qkm),(933,.fg QdI.f),(7474,pD [(0,[]),(1,[]),(2,[]),(3,[]),(4,[]),(5,[]),(6,[]),(7,[]),(8,[])] (.of [0,1,2,3,4,5,6,7,8])),(29901,.fg Qvs.f)]
def Qvu:TC:=lb 0 Qvt
def Qvv (x0 x1:List Keep)(x12 x13:Int):VS:=QdH.st (x0,x1,x12,x13,()) ()
def Qkn (x4:Bool):VS:=Qvs.st (x4,()) ()
def Qko  : VS:=QdI.st () ()
def QHN:VS->Option (Bool×List (Bool×Exit×VS)):=mkL QdH (fun x y=>(decide (0<=x.2.2.2.1/\x.2.2.2.1<=x.1.length/\x.1.length=x.2.1.length/\x.2.2.1=x.1.length/\x.1.length<=100000))) (fun x y=>[((!(x.1.drop x.2.2.2.1.toNat==x.2.1.drop x.2.2.2.1.toNat)),.ret,Qkn (false)),(true,.exit 0,Qko)])
def Qkp:G:=gG 26 [] (Ls [QHN])
def QdJ (x0 x1:List Keep)(x12 x13:Int):OX:=Qv (QB Qkp Qkm Qvu) (Qvv x0 x1 x12 x13)
def OR (kk:List Keep->List Keep->Int->Int->OX)(x0 x1:List Keep)(x12 x13:Int):OX:=
 let a1:=Int.toNat x13
 br (ilt x13 x12) (br (cIx x0 x13) (br (cIx x1 x13) (br (!(and (ieq ((lgt Qe x0 a1).1) ((lgt Qe x1 a1).1)) (and (ieq (((lgt Qe x0 a1).2).1) (((lgt Qe x1 a1).2).1)) true))) (some (.ret,Qkn false)) (kk x0 x1 x12 (Qf .i64 x13 1))) none) none) (some (.exit 0,Qko))
def QdK (x0 x1:List Keep)(x12 x13:Int):OX:=br (!(x0.drop x13.toNat==x1.drop x13.toNat)) (some (.ret,Qkn (false)))<|some (.exit 0,Qko)
theorem Qvw (x0 x1:List Keep)(x12 x13:Int):QdJ x0 x1 x12 x13=OR QdJ x0 x1 x12 x13:=lnT (x:=OR (fun x0 x1 x12 x13=>some (.normal,Qvv x0 x1 x12 x13)) x0 x1 x12 x13) (by simp only [OR,nxA];rfl)
def r_f57 (p0 p1:List Keep):OV:=br (ine (Qa p0) (Qa p1)) (some (.t .bool false,[])) (br (decide (0<=(0:Int)/\(0:Int)<=p0.length/\p0.length=p1.length/\(Qa p0)=p0.length/\p0.length<=100000)) (br (!(p0.drop (0:Int).toNat==p1.drop (0:Int).toNat)) (some (.t .bool (false),[])) (some (.t .bool true,[]))) none)
theorem QHO (x0 x1:List Keep)(x12 x13:Int)(h:(decide (0<=x13/\x13<=x0.length/\x0.length=x1.length/\x12=x0.length/\x0.length<=100000))=true):QdJ x0 x1 x12 x13=QdK x0 x1 x12 x13:=by
 simp only [Ba] at h
 obtain ⟨h0,h1,h2,rfl,h3⟩:=h
 obtain ⟨k,rfl⟩:=Bq h0
 refine QU x0 (fun k=>QdJ x0 x1 (x0.length:Int) (k:Int)=QdK x0 x1 (x0.length:Int) (k:Int)) ?_ ?_ k (by omega)
 ·rw [Qvw]
  simp only [OR,QdK,QD,B0,B4,Qh,Bd,BU]
  rw [h2,BU]
  rfl
 ·intro k hk ih
  rw [Qvw]
  have hk2:k<x1.length:=by omega
  have hq:(and (ieq x0[k].1 x1[k].1) (and (ieq x0[k].2.1 x1[k].2.1) true))=(x0[k]==x1[k]):=rfl
  simp only [OR,QD,QJ,hk,hk2,Bv,Qd,Bd,QT (show k<4611686018427387904 by omega),QS (y:=Qe) hk,QS (y:=Qe) hk2,ih]
  rw [hq]
  simp only [QdK,Bd,Bj hk,Bj hk2,List.cons_beq_cons]
  cases x0[k]==x1[k]<;>rfl
theorem QHP:LO Qkp Qkm Qvu 0:=QH (s:=QdH) fun x y h _ q=>by simp only [QE,QF] at q;exact (QHO x.1 x.2.1 x.2.2.1 x.2.2.2.1 h).trans q
theorem s_f57 (a b:List Keep)(h:QdG a b=true):r_f57 a b=some (.t .bool (W9 a b),[]):=by
 have h:=Bx h
 unfold r_f57 W9
 cases hl:ine (Qa a) (Qa b) with
 |true=>
  have hn:a.length≠b.length:=by
   simp only [ine,Qa,bne_iff_ne,ne_eq] at hl
   omega
  rw [Qd]
  have:(a==b)=false:=by
   rw [beq_eq_false_iff_ne]
   intro e
   exact hn (by rw [e])
  rw [this]
 |false=>
  have hn:a.length=b.length:=by
   simp only [ine,Qa,bne_eq_false_iff_eq] at hl
   omega
  rw [Qh]
  refine brY (Be ⟨BT 0,by omega,hn,rfl,h.1⟩) ?_
  rw [Bw,BD,BD]
  cases a==b<;>rfl
def Qvx:Ent:=Ql (.pr (.sl Qe) (.pr (.sl Qe) .nil)) (fun x=>(QdG x.1 x.2.1)) (fun x=>(.t .bool (W9 x.1 x.2.1)))
theorem ms_f57:EM 57 Qvx:=mS (lk:=lkL (lkc QHP lkn)) Qkp Qvt [((.t 4),some .bool)] false (gB gN) fun m=>Qn m fun x hok=>kT (s_f57 x.1 x.2.1 hok)
theorem Qkq {a b:List Keep}:W9 a b=true↔a=b:=by unfold W9;exact Dj
def Jc (e:Estate)(i:Int):List Keep×Endpoint:=(XC (Xj e i).1 (Xj e i).2,(Xj e i).2)
def YT (e:Estate)(i:Int):Bool:=Fa e i&&W4 (Xj e i).1 (Xj e i).2
theorem UP {e:Estate}{i:Int}(h:JC e=true)(hl:Jr e=true)(h0:0<=i)(h1:i<e.2.1.length):YT e i=true:=
 Bi.2 ⟨QmC h h0 h1,Qzh hl (QmC h h0 h1)⟩
def tc_f55:TC:=aF Tryz.f55 [(30,pD [(0,[2]),(1,[2]),(2,[6]),(3,[6]),(4,[]),(5,[]),(6,[7]),(7,[]),(8,[7]),(9,[]),(10,[5])] (.of [0,1,2,3,4,5,6,7,8,9,10]))]
def g_f55:G:=gG 28 [(95,Qv6)] (fun _ _=>none)
def r_f55 (p0:Estate)(p1:Int):OV:=
 let a1:=lgt Qe p0.2.1 (Int.toNat p1)
 let a2:=lgt Qo p0.1 (Int.toNat ((a1.2).1))
 let a3:=lgt Qo p0.1 (Int.toNat (a1.1))
 br (cIx p0.2.1 p1) (br (cIx p0.1 ((a1.2).1)) (br (cIx p0.1 (a1.1)) (br (W4 a3 a2) (some (.tu [(.t (.sl Qe) (XC a3 a2)),(.t Qo a2)],[])) none) none) none) none
theorem s_f55 (e:Estate)(i:Int)(h:YT e i=true):r_f55 e i=some (.tu [.t (.sl Qe) (Jc e i).1,.t Qo (Jc e i).2],[]):=by
 simp only [YT,Fa,Bc] at h
 obtain ⟨⟨h1,h2,h3⟩,h4⟩:=h
 exact brY h1 (brY h3 (brY h2 (brY h4 rfl)))
def EC:Ent:=Ql (.pr Qw (.pr tI .nil)) (fun x=>(YT x.1 x.2.1)) (fun x=>(.tu [(.t (.sl Qe) ((Jc x.1 x.2.1).1)),(.t Qo ((Jc x.1 x.2.1).2))]))
theorem Qkr:EM 55 EC:=mS g_f55 tc_f55 [((.t 4),some (.sl Qe)),((.c 5 true 9),some Qo)] false (gB (gD ms_f95 gN)) fun m=>Qn m fun x hok=>kT (s_f55 x.1 x.2.1 hok)
def tc_f53:TC:=aF Tryz.f53 []
def g_f53:G:=gG 6 [(54,Qjf)] (fun _ _=>none)
def r_f53 (p0:Exception):OV:=br (Xc p0) (some (.t .bool (ine (exZ p0) 0),[])) none
theorem s_f53 (x:Exception)(h:Xc x=true):r_f53 x=some (.t .bool (Eh x),[]):=by cases h
def Qvy:Ent:=ZP [.ty J8] [] (fun x d=>(Xc x.1)) (fun x d=>(.t .bool (Eh x.1)))
theorem ms_f53:EM 53 Qvy:=mS g_f53 tc_f53 [((.t 2),some .bool)] false (gB (gD Qtn gN)) fun m=>ZG m fun x d hok=>kT (s_f53 x.1 hok)
abbrev QdL:Sh:=⟨[(0,.ty (.sl J8)),(1,.cf 53),(7,.ty tI),(8,.ty tI)],[]⟩
abbrev Qvz:Sh:=⟨[(4,.ty tI)],[]⟩
def Qks:Fg:=QdL.f
def QvA:TC:=aF Tryz.f94 [(26,pL 0 Qks),(421,.fg QdI.f),(13517,.fg Qvz.f)]
def QvB:TC:=lb 0 QvA
def QvC (x0:List Exception)(x7 x8:Int):VS:=QdL.st (x0,(),x7,x8,()) ()
def QHQ (x4:Int):VS:=Qvz.st (x4,()) ()
def Qkt  : VS:=QdI.st () ()
def QHR:VS->Option (Bool×List (Bool×Exit×VS)):=mkL QdL (fun x y=>(JN x.1&&(ieq x.2.2.1 0&&ieq x.2.2.2.1 0))) (fun x y=>[(true,.exit 0,Qkt)])
def Qku:G:=gG 19 [(53,Qvy)] (Ls [QHR])
def Qkv (x0:List Exception)(x7 x8:Int):OX:=Qv (QB Qku Qks QvB) (QvC x0 x7 x8)
def Qkw (kk:List Exception->Int->Int->OX)(x0:List Exception)(x7 x8:Int):OX:=
 let a1:=lgt J8 x0 (Int.toNat x8)
 br (ilt x8 x7) (br (cIx x0 x8) (br (Xc a1) (br (Eh a1) (some (.ret,QHQ x8)) (kk x0 x7 (Qf .i64 x8 1))) none) none) (some (.exit 0,Qkt))
def QHS (x0:List Exception)(x7 x8:Int):OX:=some (.exit 0,Qkt)
theorem QHT (x0:List Exception)(x7 x8:Int):Qkv x0 x7 x8=Qkw Qkv x0 x7 x8:=lnT (x:=Qkw (fun x0 x7 x8=>some (.normal,QvC x0 x7 x8)) x0 x7 x8) (by simp only [Qkw,nxA];rfl)
def QHU (p0:List Exception):OV:=br (JN p0&&(ieq (Qa p0) 0&&ieq (0:Int) 0)) (some (.t tI (-1),[])) none
theorem QHV (x0:List Exception)(x7 x8:Int)(h:(JN x0&&(ieq x7 0&&ieq x8 0))=true):Qkv x0 x7 x8=QHS x0 x7 x8:=by
 simp only [Bc] at h
 obtain ⟨h1,h2,h3⟩:=h
 obtain rfl:=UI h1
 have h2:x7=0:=by simpa [ieq] using h2
 have h3:x8=0:=by simpa [ieq] using h3
 subst h2 h3
 rw [QHT]
 try rfl
theorem QHW:LO Qku Qks QvB 0:=QH (s:=QdL) fun x y h _ q=>by simp only [QE,QF] at q;exact (QHV x.1 x.2.2.1 x.2.2.2.1 h).trans q
theorem QHX (l:List Exception)(h:JN l=true):QHU l=some (.t tI (Ei l),[]):=by
 obtain rfl:=UI h
 rfl
def QvD:Ent:=ZP [.ty (.sl J8),.cf 53] [] (fun x d=>(JN x.1)) (fun x d=>(.t tI (Ei x.1)))
theorem QHY:EM 94 QvD:=mS (lk:=lkL (lkc QHW lkn)) Qku QvA [((.t 4),some tI)] false (gB (gD ms_f53 gN)) fun m=>ZG m fun x d hok=>kT (QHX x.1 hok)
def QHZ:TC:=aF Tryz.f52 []
def QH0:G:=gG 9 [(94,QvD)] (fun _ _=>none)
def QH1 (p0:List Exception):OV:=br (JN p0) (some (.t .bool (ige (Ei p0) 0),[])) none
theorem QH2 (l:List Exception)(h:JN l=true):QH1 l=some (.t .bool (Ej l),[]):=by
 obtain rfl:=UI h
 rfl
def QvE:Ent:=ZP [.ty (.sl J8),.cf 53] [] (fun x d=>(JN x.1)) (fun x d=>(.t .bool (Ej x.1)))
theorem QH3:EM 52 QvE:=mS QH0 QHZ [((.t 4),some .bool)] false (gB (gD QHY gN)) fun m=>ZG m fun x d hok=>kT (QH2 x.1 hok)
def rl (y:Policy)(l:List Exception)(o:Dice)(d:Int):Rules:=(y,(l,(o,(d,()))))
def ZW (r:Rules):Bool:=Y8 r.1&&JN r.2.1
def Jn (r:Rules):Int:=bif ine (Y7 r.1) 0 then 25 else bif ilt r.2.2.2.1 0||igt r.2.2.2.1 40000 then 2 else 0
def tc_f28:TC:=aF Tryz.f28 []
def g_f28:G:=gG 21 [(51,Qhx),(52,QvE)] (fun _ _=>none)
def r_f28 (p0:Rules):OV:=br (Y8 p0.1) (br (ine (Y7 p0.1) 0) (some (.t tI 25,[])) (br (JN p0.2.1) (br (Ej p0.2.1) (some (.t tI 26,[])) (br (ilt p0.2.2.2.1 0) (some (.t tI 2,[])) (br (igt p0.2.2.2.1 40000) (some (.t tI 2,[])) (some (.t tI 0,[]))))) none)) none
theorem s_f28 (r:Rules)(h:ZW r=true):r_f28 r=some (.t tI (Jn r),[]):=by
 obtain ⟨h1,h2⟩:=Bi.1 h
 unfold r_f28 Jn
 refine brY h1 ?_
 cases ine (Y7 r.1) 0 with
 |true=>rfl
 |false=>
  rw [Qh]
  refine brY h2 ?_
  show br false _ _=_
  rw [Qh]
  cases ilt r.2.2.2.1 0 with
  |true=>rfl
  |false=>cases igt r.2.2.2.1 40000<;>rfl
def OS:Ent:=Ql (.pr UR .nil) (fun x=>(ZW x.1)) (fun x=>(.t tI (Jn x.1)))
theorem QdM:EM 28 OS:=mS g_f28 tc_f28 [((.t 2),some tI)] false (gB (gD Qqq (gD QH3 gN))) fun m=>Qn m fun x hok=>kT (s_f28 x.1 hok)
def XX (r:Rules)(s:Endpoint)(o:Keep):Bool:=(UJ r.1 r.2.1 r.2.2.1 s o r.2.2.2.1).1
def OT (r:Rules)(s:Endpoint)(l m:List Keep)(k:Int):Bool:=ZW r&&(Q0 s&&decide (l.length<=1000/\(m.length:Int)<=k))
def ZX (r:Rules)(e:Estate)(i:Int):List Keep:=(Jc e i).1.filter (XX r (Jc e i).2)
def XB (r:Rules)(e:Estate)(i:Int):Bool:=ZW r&&YT e i
theorem Qkx (r:Rules)(e:Estate)(i:Int):(ZX r e i).length<=64:=Dc (List.length_filter_le _ _) I1
abbrev QdN:Sh:=⟨[(3,.ptr 3 0),(7,.ms 7),(9,.ptr 9 0),(20,.ty (.sl Qe)),(21,.ty tI),(22,.ty tI)],[(3,.box UR),(7,.arr 54 Qe),(9,.box Qo),(44,.no)]⟩
abbrev QvF:Sh:=⟨[(7,.ms 7)],[(7,.arr 54 Qe),(44,.no)]⟩
def Qky:Fg:=QdN.f
def QvG:TC:=aF Tryz.f29 [(122,.nw 7 54),(122,pL 0 Qky),(1957,.fg QvF.f)]
def QvH:TC:=lb 0 QvG
def QvI (x20:List Keep)(x21 x22:Int)(y3:Rules)(y7:List Keep)(y9:Endpoint):VS:=QdN.st ((),(),(),x20,x21,x22,()) (y3,y7,y9,(),())
def Qkz (y7:List Keep):VS:=QvF.st ((),()) (y7,(),())
def QH4:VS->Option (Bool×List (Bool×Exit×VS)):=mkL QdN (fun x y=>(Qz x.2.2.2.1 x.2.2.2.2.1 x.2.2.2.2.2.1&&OT y.1 y.2.2.1 x.2.2.2.1 y.2.1 x.2.2.2.2.2.1)) (fun x y=>[(true,.exit 0,Qkz (y.2.1++(x.2.2.2.1.drop x.2.2.2.2.2.1.toNat).filter (XX y.1 y.2.2.1)))])
def QkA:G:=gG 47 [(55,EC),(56,QtI)] (Ls [QH4])
def QdO (x20:List Keep)(x21 x22:Int)(y3:Rules)(y7:List Keep)(y9:Endpoint):OX:=Qv (QB QkA Qky QvH) (QvI x20 x21 x22 y3 y7 y9)
def OU (kk:List Keep->Int->Int->Rules->List Keep->Endpoint->OX)(x20:List Keep)(x21 x22:Int)(y3:Rules)(y7:List Keep)(y9:Endpoint):OX:=
 let a1:=lgt Qe x20 (Int.toNat x22)
 br (ilt x22 x21) (br (cIx x20 x22) (br (Oz y3.1 y3.2.1 y3.2.2.1 y9 a1 y3.2.2.2.1) (br ((UJ y3.1 y3.2.1 y3.2.2.1 y9 a1 y3.2.2.2.1).1) (br (QK y7 ([(a1.1,((a1.2).1,()))]) 16) (kk x20 x21 (Qf .i64 x22 1) y3 (y7++([(a1.1,((a1.2).1,()))])) y9) none) (kk x20 x21 (Qf .i64 x22 1) y3 y7 y9)) none) none) (some (.exit 0,Qkz y7))
def QdP (x20:List Keep)(x21 x22:Int)(y3:Rules)(y7:List Keep)(y9:Endpoint):OX:=some (.exit 0,Qkz (y7++(x20.drop x22.toNat).filter (XX y3 y9)))
theorem QvJ (x20:List Keep)(x21 x22:Int)(y3:Rules)(y7:List Keep)(y9:Endpoint):QdO x20 x21 x22 y3 y7 y9=OU QdO x20 x21 x22 y3 y7 y9:=lnT (x:=OU (fun x20 x21 x22 y3 y7 y9=>some (.normal,QvI x20 x21 x22 y3 y7 y9)) x20 x21 x22 y3 y7 y9) (by simp only [OU,nxA];rfl)
def r_f29 (p0:Rules)(p1:Estate)(p2:Int):OV:=
 let a1:=((Jc p1 p2).1)
 br (YT p1 p2) (br (Qz a1 (Qa a1) (0:Int)&&OT p0 ((Jc p1 p2).2) a1 ([]:List Keep) (0:Int)) (some (.t (.sl Qe) (([]:List Keep)++(a1.drop (0:Int).toNat).filter (XX p0 ((Jc p1 p2).2))),[])) none) none
theorem QH5 (x20:List Keep)(x21 x22:Int)(y3:Rules)(y7:List Keep)(y9:Endpoint)(h:(Qz x20 x21 x22&&OT y3 y9 x20 y7 x22)=true):QdO x20 x21 x22 y3 y7 y9=QdP x20 x21 x22 y3 y7 y9:=by
 simp only [OT,Bc,Ba] at h
 obtain ⟨h,g1,g2,g3,g4⟩:=h
 obtain ⟨rfl,h3,k,rfl,hk⟩:=JJ h
 clear h
 obtain ⟨r1,r2⟩:=Bi.1 g1
 revert y7
 refine QU x20 (fun k=> ∀ y7:List Keep,(y7.length:Int)<=(k:Int)->QdO x20 (x20.length:Int) (k:Int) y3 y7 y9=QdP x20 (x20.length:Int) (k:Int) y3 y7 y9) ?_ ?_ k hk
 ·intro y7 _
  rw [QvJ]
  simp only [OU,QdP,QD,B0,B4,Qh,Bd,BU,List.filter_nil,BO]
 ·intro k hk ih y7 g4
  rw [QvJ]
  have e1: ∀ o,Oz y3.1 y3.2.1 y3.2.2.1 y9 o y3.2.2.2.1=true:=fun _=>Bi.2 ⟨r1,Bi.2 ⟨r2,g2⟩⟩
  have hx:((x20[k].1,(x20[k].2.1,())):Keep)=x20[k]:=rfl
  have e2:QK y7 [x20[k]] 16=true:=Jj (by omega) (by simp only [Bp];omega)
  simp only [OU,QD,QJ,hk,Bv,Qd,Bd,QT (show k<4611686018427387904 by omega),e1,QS (y:=Qe) hk,hx,e2]
  rw [ih (y7++[x20[k]]) (by simp only [Bl,Bp];omega),ih y7 (by omega)]
  simp only [QdP,Bd,Bj hk,List.filter_cons]
  show br (XX y3 y9 x20[k]) _ _=_
  cases XX y3 y9 x20[k] with
  |true=>simp only [Qd,if_true,BQ,BN]
  |false=>simp only [Qh,BK,Do]
theorem QH6:LO QkA Qky QvH 0:=QH (s:=QdN) fun x y h _ q=>by simp only [QE,QF] at q;exact (QH5 x.2.2.2.1 x.2.2.2.2.1 x.2.2.2.2.2.1 y.1 y.2.1 y.2.2.1 h).trans q
theorem s_f29 (r:Rules)(e:Estate)(i:Int)(h:XB r e i=true):r_f29 r e i=some (.t (.sl Qe) (ZX r e i),[]):=by
 obtain ⟨h1,h2⟩:=Bi.1 h
 obtain ⟨h3,h4⟩:=Bi.1 h2
 have hs:Q0 (Xj e i).2=true:=(Bi.1 h4).2
 have hl:(Jc e i).1.length<=64:=I1
 unfold r_f29 ZX
 refine brY h2 (brY ?_ ?_)
 ·rw [JK (by omega),BC]
  unfold OT
  rw [h1,BC]
  exact Bi.2 ⟨hs,Be ⟨by omega,by simp⟩⟩
 ·rw [Bw,BD,BR]
def OW:Ent:=Ql (.pr UR (.pr Qw (.pr tI .nil))) (fun x=>(XB x.1 x.2.1 x.2.2.1)) (fun x=>(.t (.sl Qe) (ZX x.1 x.2.1 x.2.2.1)))
theorem QdQ:EM 29 OW:=mS (lk:=lkL (lkc QH6 lkn)) QkA QvG [((.t 6),some (.sl Qe))] false (gB (gD Qkr (gD ms_f56 gN))) fun m=>Qn m fun x hok=>kT (s_f29 x.1 x.2.1 x.2.2.1 hok)
def ED (e:Estate)(y:Policy)(l:List Exception)(o:Dice)(i d:Int):List Keep×Int:=
 bif !JC e then ([],31) else bif ine (Jn (rl y l o d)) 0 then ([],Jn (rl y l o d)) else bif ilt i 0||ige i (Qa e.2.1) then ([],4) else (ZX (rl y l o d) e i,0)
def QkB (e:Estate)(y:Policy)(l:List Exception)(o:Dice)(_i d:Int):Bool:=Jr e&&ZW (rl y l o d)
def tc_f15:TC:=aF Tryz.f15 []
def g_f15:G:=gG 42 [(27,Qfg),(28,OS),(29,OW)] (fun _ _=>none)
def r_f15 (p0:Estate)(p1:Policy)(p2:List Exception)(p3:Dice)(p4 p5:Int):OV:=
 let a1:=((p1.1,(p1.2.1,())),(p2,((p3.1,(p3.2.1,())),(p5,()))))
 br (Jr p0) (br (ine (Yt p0) 0) (some (.tu [(.t (.sl Qe) ([]:List Keep)),(.t tI 31)],[])) (br (ZW a1) (br (ine (Jn a1) 0) (some (.tu [(.t (.sl Qe) ([]:List Keep)),(.t tI (Jn a1))],[])) (br (ilt p4 0) (some (.tu [(.t (.sl Qe) ([]:List Keep)),(.t tI 4)],[])) (br (ige p4 (Qa p0.2.1)) (some (.tu [(.t (.sl Qe) ([]:List Keep)),(.t tI 4)],[])) (br (XB a1 p0 p4) (some (.tu [(.t (.sl Qe) (ZX a1 p0 p4)),(.t tI 0)],[])) none)))) none)) none
theorem s_f15 (e:Estate)(y:Policy)(l:List Exception)(o:Dice)(i d:Int)(h:QkB e y l o i d=true):r_f15 e y l o i d=some (.tu [.t (.sl Qe) (ED e y l o i d).1,.t tI (ED e y l o i d).2],[]):=by
 obtain ⟨h1,h2⟩:=Bi.1 h
 unfold r_f15 ED
 refine brY h1 ?_
 rw [Qfb]
 cases ho:JC e with
 |false=>rfl
 |true=>
  rw [BH,Qh]
  refine brY (show ZW (rl y l o d)=true from h2) ?_
  show br (ine (Jn (rl y l o d)) 0) (some (V.tu [V.t (.sl Qe) ([]:List Keep),V.t tI (Jn (rl y l o d))],[])) _=_
  cases ine (Jn (rl y l o d)) 0 with
  |true=>rfl
  |false=>
   rw [Qh]
   cases h3:ilt i 0 with
   |true=>rfl
   |false=>
    rw [Qh]
    cases h4:ige i (Qa e.2.1) with
    |true=>rfl
    |false=>
     rw [Qh]
     have h3:=DA h3
     have h4:=DA h4
     simp only [Qa] at h4
     exact brY (show XB (rl y l o d) e i=true from Bi.2 ⟨h2,UP ho h1 (by omega) (by omega)⟩) rfl
def QvK:Ent:=Ql (.pr Qw (.pr Zw (.pr (.sl J8) (.pr QI (.pr tI (.pr tI .nil)))))) (fun x=>(QkB x.1 x.2.1 x.2.2.1 x.2.2.2.1 x.2.2.2.2.1 x.2.2.2.2.2.1)) (fun x=>(.tu [(.t (.sl Qe) ((ED x.1 x.2.1 x.2.2.1 x.2.2.2.1 x.2.2.2.2.1 x.2.2.2.2.2.1).1)),(.t tI ((ED x.1 x.2.1 x.2.2.1 x.2.2.2.1 x.2.2.2.2.1 x.2.2.2.2.2.1).2))]))
theorem ms_f15:EM 15 QvK:=mS g_f15 tc_f15 [((.t 12),some (.sl Qe)),((.t 13),some tI)] false (gB (gD Qmq (gD QdM (gD QdQ gN)))) fun m=>Qn m fun x hok=>kT (s_f15 x.1 x.2.1 x.2.2.1 x.2.2.2.1 x.2.2.2.2.1 x.2.2.2.2.2.1 hok)
def Zd (a b:Estate):Int:=bif !JC a then 31 else bif !JC b then 31 else bif !W9 a.2.1 b.2.1 then 42 else 0
def GJ (a b:Estate):Bool:=Jr a&&Jr b
theorem QkC {a b:Estate}(h:ine (Zd a b) 0=false):JC a=true/\JC b=true/\a.2.1=b.2.1:=by
 unfold Zd at h
 cases h1:JC a with
 |false=>rw [h1] at h;cases h
 |true=>
  rw [h1] at h
  cases h2:JC b with
  |false=>rw [h2] at h;cases h
  |true=>
   rw [h2] at h
   cases h3:W9 a.2.1 b.2.1 with
   |false=>rw [h3] at h;cases h
   |true=>exact ⟨rfl,rfl,Qkq.1 h3⟩
def tc_f30:TC:=aF Tryz.f30 []
def g_f30:G:=gG 21 [(27,Qfg),(57,Qvx)] (fun _ _=>none)
def r_f30 (p0 p1:Estate):OV:=br (Jr p0) (br (ine (Yt p0) 0) (some (.t tI 31,[])) (br (Jr p1) (br (ine (Yt p1) 0) (some (.t tI 31,[])) (br (QdG p0.2.1 p1.2.1) (br (!(W9 p0.2.1 p1.2.1)) (some (.t tI 42,[])) (some (.t tI 0,[]))) none)) none)) none
theorem s_f30 (a b:Estate)(h:GJ a b=true):r_f30 a b=some (.t tI (Zd a b),[]):=by
 obtain ⟨h1,h2⟩:=Bi.1 h
 unfold r_f30 Zd
 refine brY h1 ?_
 rw [Qfb]
 cases g1:JC a with
 |false=>rfl
 |true=>
  rw [BH,Qh]
  refine brY h2 ?_
  rw [Qfb]
  cases g2:JC b with
  |false=>rfl
  |true=>
   rw [BH,Qh]
   have p1:=Un g1
   have p2:=Un g2
   refine brY (show QdG a.2.1 b.2.1=true from Be ⟨by have:a.2.1.length<=40:=p1.2.2.2.2.2;omega,by have:b.2.1.length<=40:=p2.2.2.2.2.2;omega⟩) ?_
   cases W9 a.2.1 b.2.1<;>rfl
def QdR:Ent:=Ql (.pr Qw (.pr Qw .nil)) (fun x=>(GJ x.1 x.2.1)) (fun x=>(.t tI (Zd x.1 x.2.1)))
theorem QkD:EM 30 QdR:=mS g_f30 tc_f30 [((.t 4),some tI)] false (gB (gD Qmq (gD ms_f57 gN))) fun m=>Qn m fun x hok=>kT (s_f30 x.1 x.2.1 hok)
end
end Go.Proofs.YtmjnnemhoeolgaaGreat.K
noncomputable section
namespace Go.Proofs.YtmjnnemhoeolgaaGreat.K
open Go.RowKit
def cU (l:List Keep):List Value:=l.flatMap fun u=>[.int .i64 u.1,.int .i64 u.2.1]
theorem QeV: ∀ l:List Keep,(cU l).length=l.length*2
 | []=>rfl
 |u::l=>by
  have:=QeV l
  simp only [cU,BJ,Bl,Bt,BE] at this ⊢
  omega
theorem Qyf (l:List Keep): ∀ v∈cU l,v.oneCell'=true:=by
 intro v hv
 simp only [cU,DK,BX,Dl,or_false] at hv
 obtain ⟨u,_,rfl|rfl⟩:=hv<;>rfl
theorem QeW {X:Nat->Nat->Prop}{w:World}{σ:Pl}: ∀ {l:List Keep} {vs:List Value},Cs X w σ (l.flatMap Qe.cells) vs->vs=cU l
 | [],vs,h=>by simpa [Cs,cU] using h
 |x::l,vs,h=>by
  have h:Cs X w σ (D.v (.int .i64 x.1)::D.v (.int .i64 x.2.1)::l.flatMap Qe.cells) vs:=h
  simp only [Cs] at h
  obtain ⟨u0,r0,rfl,c0,u1,r1,rfl,c1,h2⟩:=h
  simp only [C] at c0 c1
  rw [QeW h2,c0.1,c1.1]
  rfl
abbrev G3 (o:Keep):Value:= .agg #[.int .i64 o.1,.int .i64 o.2.1]
theorem keep_c {X:Nat->Nat->Prop}{w:World}{σ:Pl}(o:Keep):C X w σ (V.t Qe o).d (G3 o):=by
 simp only [V.d]
 rw [Ty.d_row Qe _ rfl]
 simp only [C]
 exact ⟨[.int .i64 o.1,.int .i64 o.2.1],rfl,_,_,rfl,⟨rfl,rfl⟩,_,_,rfl,⟨rfl,rfl⟩,rfl⟩
theorem Ql4 {X:Nat->Nat->Prop}{w:World}{σ:Pl}:Lent X w σ []:=⟨fun j o hj=>by simp at hj,fun i j b _ hi=>by simp at hi⟩
theorem Ql5 {X X':Nat->Nat->Prop}{w w':World}{σ σ':Pl}{os:List VO}(h:Ends X w σ 0 X' w' σ' os):Below w.heap.size w w':=
 ⟨h.fr.os,h.fr.tape,h.fr.output,h.fr.size,fun b hb=>h.fr.keep b hb (by simp [Xg])⟩
theorem QKB {X:Nat->Nat->Prop}{w:World}{σ:Pl}{s:Endpoint}{o:Keep}{sv:Value}(hfin: ∀ b q,X b q->b<w.heap.size)(hs:C X w σ (V.t Qo s).d sv)(hl:Q0 s=true):
  Calls Tryz.prog 96 #[sv,G3 o] w fun e w'=> ∃ A c er,e= .returned (.tuple #[.slice A (Ji s o).1.length c,.int .i64 er])/\(Ji s o).1.length<=c∧
   (0<(Ji s o).1.length→ ∃ b off,A=some ⟨b,off,none⟩∧ ∀ j v,(cU (Ji s o).1)[j]? = some v->w'.cell? ⟨b,off+j,none⟩=some v)/\Below w.heap.size w w':=by
 have hF:Qx QbS [.t Qo s,.t Qe o] []=some (.tu [.t (.sl Qe) (Ji s o).1,.t tI (Ji s o).2],[]):=by
  unfold QbS
  exact Qbb (a:= .pr Qo (.pr Qe .nil)) (x:=(s,(o,()))) (by simp [Ty.args,Qeu]) hl
 refine (UU (by decide) (Qrc.2 _ _ _ _ hF X w σ [sv,G3 o] hfin Ql4 ⟨sv,_,rfl,hs,G3 o,_,rfl,keep_c o,rfl⟩)).mono ?_
 rintro e w' ⟨u,X',σ',rfl,h1,h2⟩
 have h1:C X' w' σ' (.tu [.sl (Ji s o).1.length ((Ji s o).1.flatMap Qe.cells),.v (.int .i64 (Ji s o).2)]) u:=h1
 simp only [C,Cs] at h1
 obtain ⟨vs,rfl,u1,us,rfl,⟨A,c,rfl,g1,g2,g3,g4⟩,u2,us2,rfl,⟨rfl,_⟩,rfl⟩:=h1
 refine ⟨A,c,_,rfl,g1,fun hp=> ?_,Ql5 h2⟩
 obtain ⟨b,off,vs,rfl,k1,k2⟩:=g4 hp
 rw [QeW k1] at k2
 exact ⟨b,off,rfl,fun j v hv=>k2.at_ j v hv⟩
theorem QKC {P:Program}{w:World}{T ty elem:TypeId}(hu:P.underlying T=some (.slice elem))(hs:(P.info? elem).map (·.size)=some 2){b o n c:Nat}{A:Option Addr}{cs:List Value}(hn:n<=4)(hl:cs.length=n*2)
  (hp:0<n→ ∃ a,A=some a∧ ∀ j v,cs[j]? = some v->w.cell? (a.add j)=some v) (hc: ∀ j,j<cs.length->(w.cell? ⟨b,o+j,none⟩).isSome=true) (hf: ∀ j,j<cs.length->w.frozen? ⟨b,o+j,none⟩=false) (h1: ∀ v∈cs,v.oneCell'=true):
  (Builtin.copy_ #[T,T] ty #[.slice (some ⟨b,o,none⟩) 4 4,.slice A n c]).run P w= .ok (goInt n) (w.setCells b o cs):=by
 have hst:=run_storeCells_cells (P:=P) b o cs 0 w (by simpa using hc) (by simpa using hf) h1
 have hm:Nat.min n 4=n:=Nat.min_eq_left hn
 cases hq:P.info? elem with
 |none=>simp [hq] at hs
 |some i=>
  have hi:i.size=2:=by simpa [hq] using hs
  rcases DM n with rfl|h0
  ·have hcs:cs=[]:=By (by omega)
   subst hcs
   have hl0: ∀ (x:Addr),(loadCells x 0).run P w= .ok #[] w:=fun x=>by simpa using run_loadCells_list (P:=P) w x [] (by simp)
   cases A<;>simp [Builtin.copy_,run_underlying hu,Builtin.lenOf,Builtin.firstCells,sizeOf,typeInfo,hq,hi,hl0,storeCells,World.setCells]
  ·obtain ⟨a,rfl,hsrc⟩:=hp h0
   have hld:=run_loadCells_list (P:=P) w a cs hsrc
   rw [hl] at hld
   simp [Builtin.copy_,run_underlying hu,Builtin.lenOf,Builtin.firstCells,sizeOf,typeInfo,hq,hi,hm,hld,hst]
def G4 (l:List Keep):List Keep:=(l++List.replicate 4 zK).take 4
def mV (o:Keep)(us:List Keep):Array Value:=(.int .i64 o.1:: .int .i64 o.2.1::cU (G4 us)).toArray
set_option maxRecDepth 50000 in
set_option maxHeartbeats 1000000 in
theorem of_any {v0 v1 v2 v3 v4 v5 v6 v7 v8:Value}{o:Keep}{us:List Keep}{w:World}
  (o0:v0.oneCell'=true) (o1:v1.oneCell'=true) (o2:v2.oneCell'=true) (o3:v3.oneCell'=true) (o4:v4.oneCell'=true) (o5:v5.oneCell'=true) (o6:v6.oneCell'=true) (o7:v7.oneCell'=true) (o8:v8.oneCell'=true)
  (hU: ∀ W,Below w.heap.size w W->Calls Tryz.prog 96 #[.agg #[v0,v1,v2,v3,v4,v5,v6,v7,v8],G3 o] W fun e w'=> ∃ A c er,e= .returned (.tuple #[.slice A us.length c,.int .i64 er])/\us.length<=c∧
   (0<us.length→ ∃ b off,A=some ⟨b,off,none⟩∧ ∀ j v,(cU us)[j]? = some v->w'.cell? ⟨b,off+j,none⟩=some v)/\Below W.heap.size W w')
  (hn:us=[]∨ ∃ a b c d,us=[a,b,c,d]):
  Calls Tryz.prog 59 #[.agg #[v0,v1,v2,v3,v4,v5,v6,v7,v8],G3 o] w fun e w'=>e= .returned (.agg (mV o us))/\Below w.heap.size w w':=by
 go_enter Tryz.func59,Tryz.ntmps59
 go_wp2_with fail
 obtain ⟨Wa,ha⟩: ∃ Wa,Wa=w.alloc (.cells #[v0,v1,v2,v3,v4,v5,v6,v7,v8] 61):=⟨_,rfl⟩
 obtain ⟨Wb,hb⟩: ∃ Wb,Wb=Wa.alloc (.cells #[.int .i64 o.1,.int .i64 o.2.1] 54):=⟨_,rfl⟩
 obtain ⟨Wc,hc⟩: ∃ Wc,Wc=Wb.alloc (.cells #[.int .i64 0,.int .i64 0,.int .i64 0,.int .i64 0,.int .i64 0,.int .i64 0,.int .i64 0,.int .i64 0,.int .i64 0,.int .i64 0] 132):=⟨_,rfl⟩
 obtain ⟨Wd,hd⟩: ∃ Wd,Wd=Wc.alloc (.cells #[.int .i64 o.1,.int .i64 o.2.1,.int .i64 0,.int .i64 0,.int .i64 0,.int .i64 0,.int .i64 0,.int .i64 0,.int .i64 0,.int .i64 0] 132):=⟨_,rfl⟩
 obtain ⟨S,hS⟩: ∃ S,S=w.heap.size:=⟨_,rfl⟩
 rw [←ha, ← hb, ← hc, ← hd, ← hS]
 have sa:Wa.heap.size=S+1:=by rw [ha,World.size_alloc,hS]
 have sb:Wb.heap.size=S+1+1:=by rw [hb,World.size_alloc,sa]
 have sc:Wc.heap.size=S+1+1+1:=by rw [hc,World.size_alloc,sb]
 have sd:Wd.heap.size=S+1+1+1+1:=by rw [hd,World.size_alloc,sc]
 have b4:Below w.heap.size w Wd:=by
  rw [hd,hc,hb,ha]
  have e1:=(Below.refl w.heap.size w).alloc (BL _) (.cells #[v0,v1,v2,v3,v4,v5,v6,v7,v8] 61)
  have e2:=e1.alloc e1.size (.cells #[.int .i64 o.1,.int .i64 o.2.1] 54)
  have e3:=e2.alloc e2.size (.cells #[.int .i64 0,.int .i64 0,.int .i64 0,.int .i64 0,.int .i64 0,.int .i64 0,.int .i64 0,.int .i64 0,.int .i64 0,.int .i64 0] 132)
  exact e3.alloc e3.size _
 have k2:Go.Proofs.YtmjnnemhoeolgaaGreat.Blk Wd (S+1+1) 132 #[.int .i64 0,.int .i64 0,.int .i64 0,.int .i64 0,.int .i64 0,.int .i64 0,.int .i64 0,.int .i64 0,.int .i64 0,.int .i64 0]:=by
  rw [hd];refine Go.Proofs.YtmjnnemhoeolgaaGreat.Blk.alloc ?_ _;rw [hc, ← sb];exact Go.Proofs.YtmjnnemhoeolgaaGreat.Blk.new _ _ _
 have k3:Go.Proofs.YtmjnnemhoeolgaaGreat.Blk Wd (S+1+1+1) 132 #[.int .i64 o.1,.int .i64 o.2.1,.int .i64 0,.int .i64 0,.int .i64 0,.int .i64 0,.int .i64 0,.int .i64 0,.int .i64 0,.int .i64 0]:=by
  rw [hd, ← sc];exact Go.Proofs.YtmjnnemhoeolgaaGreat.Blk.new _ _ _
 clear ha hb hc hd sa sb sc
 refine (hU _ b4).mono ?_
 rintro e w1 ⟨A,c,er,rfl,hc,hp,hb1⟩
 have hsz:=hb1.size
 have k2:=k2.ext hb1
 have k3:=k3.ext hb1
 have b5:Below S w w1:=hS▸WJ b4 hb1 (by omega)
 have HP:=Lib.hid hp
 have HB:=Lib.hid b5
 clear hp hb1 hU b4 b5
 have hM: ∃ m0 m1 m2 m3 m4 m5 m6 m7:Int,QY [.int .i64 o.1,.int .i64 o.2.1,.int .i64 0,.int .i64 0,.int .i64 0,.int .i64 0,.int .i64 0,.int .i64 0,.int .i64 0,.int .i64 0] 2 (cU us)=[.int .i64 o.1,.int .i64 o.2.1,.int .i64 m0,.int .i64 m1,.int .i64 m2,.int .i64 m3,.int .i64 m4,.int .i64 m5,.int .i64 m6,.int .i64 m7]/\mV o us= #[.int .i64 o.1,.int .i64 o.2.1,.int .i64 m0,.int .i64 m1,.int .i64 m2,.int .i64 m3,.int .i64 m4,.int .i64 m5,.int .i64 m6,.int .i64 m7]:=by
  rcases hn with rfl|⟨a,b,c,d,rfl⟩<;>exact ⟨_,_,_,_,_,_,_,_,rfl,rfl⟩
 have hn4:us.length<=4:=by rcases hn with rfl|⟨a,b,c,d,rfl⟩<;>simp
 obtain ⟨m0,m1,m2,m3,m4,m5,m6,m7,hm1,hm2⟩:=hM
 have HM:=Lib.hid hm2
 have f3:=k3.frozen
 have hl8:=QeV us
 have hrun:=QKC (P:=Tryz.prog) (w:=w1) (T:=109) (ty:=3) (elem:=64) (by kernel_rfl) (by kernel_rfl) (b:=S+1+1+1) (o:=2) (n:=us.length) (c:=c) (A:=A) (cs:=cU us) hn4 hl8
  (fun h0=>by
   obtain ⟨b,off,rfl,h⟩:=HP.out h0
   exact ⟨_,rfl,fun j v hv=>by
    have:=h j v hv
    have ha:(Addr.mk b off none).add j=⟨b,off+j,none⟩:=by by_cases h0:j=0<;>simp [Addr.add,h0]
    rw [ha]
    exact this⟩)
  (fun j hj=>by
   rw [k3.cell,Array.getElem?_eq_getElem (by simp;omega)]
   rfl)
  (fun j _=>f3 _) (Qyf us)
 have k3':=Gu (S+1+1+1) 132 (0,0) (cU us) 2 w1 _ k3
 rw [hm1] at k3'
 have k2':Go.Proofs.YtmjnnemhoeolgaaGreat.Blk (w1.setCells (S+1+1+1) 2 (cU us)) (S+1+1) 132 #[.int .i64 0,.int .i64 0,.int .i64 0,.int .i64 0,.int .i64 0,.int .i64 0,.int .i64 0,.int .i64 0,.int .i64 0,.int .i64 0]:=(WN (S+1+1+1) (cU us) 2 w1 (S+1+1) (by omega)).trans k2
 have b6:Below S w (w1.setCells (S+1+1+1) 2 (cU us)):=by
  have fr:=WO (S+1+1+1) (cU us) 2 w1
  exact HB.out.trans ⟨fr.os,fr.tape,fr.output,fr.size,fun k hk=>WN (S+1+1+1) (cU us) 2 w1 k (by omega)⟩
 generalize w1.setCells (S+1+1+1) 2 (cU us)=w2 at*
 replace k3':Go.Proofs.YtmjnnemhoeolgaaGreat.Blk w2 (S+1+1+1) 132 #[.int .i64 o.1,.int .i64 o.2.1,.int .i64 m0,.int .i64 m1,.int .i64 m2,.int .i64 m3,.int .i64 m4,.int .i64 m5,.int .i64 m6,.int .i64 m7]:=k3'
 have HB2:=Lib.hid b6
 have K2:=Lib.hid k2'
 clear k2 k3 HB HP hn hn4 hm1 hm2 hl8 b6 sd hsz Wa Wb Wc hc
 have HS:=Lib.hid hS
 clear hS
 have q0:=k3'.cell 0
 have q1:=k3'.cell 1
 have q2:=k3'.cell 2
 have q3:=k3'.cell 3
 have q4:=k3'.cell 4
 have q5:=k3'.cell 5
 have q6:=k3'.cell 6
 have q7:=k3'.cell 7
 have q8:=k3'.cell 8
 have q9:=k3'.cell 9
 have p0:=k2'.cell 0
 have p1:=k2'.cell 1
 have p2:=k2'.cell 2
 have p3:=k2'.cell 3
 have p4:=k2'.cell 4
 have p5:=k2'.cell 5
 have p6:=k2'.cell 6
 have p7:=k2'.cell 7
 have p8:=k2'.cell 8
 have p9:=k2'.cell 9
 simp only [Ds,BY,BS] at q0 q1 q2 q3 q4 q5 q6 q7 q8 q9 p0 p1 p2 p3 p4 p5 p6 p7 p8 p9
 have f2:=k2'.frozen
 clear k3' k2' f3
 generalize us.length=n at*
 go_wp2_with fail
 have fr:=WO (S+1+1) [.int .i64 o.1,.int .i64 o.2.1,.int .i64 m0,.int .i64 m1,.int .i64 m2,.int .i64 m3,.int .i64 m4,.int .i64 m5,.int .i64 m6,.int .i64 m7] 0 w2
 have kF:=Gu (S+1+1) 132 (0,0) [.int .i64 o.1,.int .i64 o.2.1,.int .i64 m0,.int .i64 m1,.int .i64 m2,.int .i64 m3,.int .i64 m4,.int .i64 m5,.int .i64 m6,.int .i64 m7] 0 w2 _ K2.out
 change bodyPost _ _ _ _ _ (w2.setCells (S+1+1) 0 [.int .i64 o.1,.int .i64 o.2.1,.int .i64 m0,.int .i64 m1,.int .i64 m2,.int .i64 m3,.int .i64 m4,.int .i64 m5,.int .i64 m6,.int .i64 m7])
 have b7:Below S w (w2.setCells (S+1+1) 0 [.int .i64 o.1,.int .i64 o.2.1,.int .i64 m0,.int .i64 m1,.int .i64 m2,.int .i64 m3,.int .i64 m4,.int .i64 m5,.int .i64 m6,.int .i64 m7]):=HB2.out.trans ⟨fr.os,fr.tape,fr.output,fr.size,fun k hk=>WN (S+1+1) _ 0 w2 k (by omega)⟩
 clear fr q0 q1 q2 q3 q4 q5 q6 q7 q8 q9 p0 p1 p2 p3 p4 p5 p6 p7 p8 p9 f2 hrun
 generalize w2.setCells (S+1+1) 0 [.int .i64 o.1,.int .i64 o.2.1,.int .i64 m0,.int .i64 m1,.int .i64 m2,.int .i64 m3,.int .i64 m4,.int .i64 m5,.int .i64 m6,.int .i64 m7]=w3 at*
 replace kF:Go.Proofs.YtmjnnemhoeolgaaGreat.Blk w3 (S+1+1) 132 #[.int .i64 o.1,.int .i64 o.2.1,.int .i64 m0,.int .i64 m1,.int .i64 m2,.int .i64 m3,.int .i64 m4,.int .i64 m5,.int .i64 m6,.int .i64 m7]:=kF
 have r0:=kF.cell 0
 have r1:=kF.cell 1
 have r2:=kF.cell 2
 have r3:=kF.cell 3
 have r4:=kF.cell 4
 have r5:=kF.cell 5
 have r6:=kF.cell 6
 have r7:=kF.cell 7
 have r8:=kF.cell 8
 have r9:=kF.cell 9
 simp only [Ds,BY,BS] at r0 r1 r2 r3 r4 r5 r6 r7 r8 r9
 refine bodyPost_ret (by simp [results,Tryz.results59,go_sem,r0,r1,r2,r3,r4,r5,r6,r7,r8,r9];rfl) rfl ?_
 rw [HM.out]
 have hS:=HS.out
 subst hS
 exact ⟨rfl,b7⟩
end Go.Proofs.YtmjnnemhoeolgaaGreat.K
noncomputable section
namespace Go.Proofs.YtmjnnemhoeolgaaGreat.K
open Go.RowKit
theorem QFW:(Tryz.prog.fieldsOf 132).toList=[⟨"outcome", 54,0,false, "", "cipherplan/policy", 0⟩,⟨"uses", 130,2,false, "", "cipherplan/policy", 16⟩]:=by kernel_rfl
theorem flat54:Y9 Tryz.prog 3 54=some [0,0]:=by kernel_rfl
theorem flat64:Y9 Tryz.prog 3 64=some [0,0]:=by kernel_rfl
theorem und130:Tryz.prog.underlying 130=some (.array 4 64):=by kernel_rfl
theorem QFX:Tryz.prog.cellsOf 64=2:=by kernel_rfl
theorem eq2 (t:TypeId)(ht:t=54∨t=64)(w:World)(d:Nat)(hd:3<=d)(a b x y:Int):(Op.equalIn d t (.agg #[.int .i64 a,.int .i64 b]) (.agg #[.int .i64 x,.int .i64 y])).run Tryz.prog w= .ok ((a==x)&&((b==y)&&true)) w:=by
 rcases ht with rfl|rfl
 ·exact QhJ (P:=Tryz.prog) (w:=w) 3 d 54 _ [0,0] [.int .i64 a,.int .i64 b] [.int .i64 x,.int .i64 y] ((a==x)&&((b==y)&&true)) flat54 hd Tryz.underlying54 (by simp [Za,eqV])
 ·exact QhJ (P:=Tryz.prog) (w:=w) 3 d 64 _ [0,0] [.int .i64 a,.int .i64 b] [.int .i64 x,.int .i64 y] ((a==x)&&((b==y)&&true)) flat64 hd Tryz.underlying64 (by simp [Za,eqV])
theorem info64: ∃ i,Tryz.prog.info? 64=some i:=by
 have:=Tryz.underlying64
 unfold Program.underlying at this
 cases h:Tryz.prog.info? 64 with
 |none=>simp [h] at this
 |some i=>exact ⟨i,rfl⟩
theorem arr4 (w:World)(a0 a1 a2 a3 a4 a5 a6 a7 b0 b1 b2 b3 b4 b5 b6 b7:Int):
  (Op.equalIn 9999 130 (.agg #[.int .i64 a0,.int .i64 a1,.int .i64 a2,.int .i64 a3,.int .i64 a4,.int .i64 a5,.int .i64 a6,.int .i64 a7]) (.agg #[.int .i64 b0,.int .i64 b1,.int .i64 b2,.int .i64 b3,.int .i64 b4,.int .i64 b5,.int .i64 b6,.int .i64 b7])).run Tryz.prog w= .ok ([a0,a1,a2,a3,a4,a5,a6,a7]==[b0,b1,b2,b3,b4,b5,b6,b7]) w:=by
 obtain ⟨i,hi⟩:=info64
 rw [run_equalIn_array w 9998 _ _ und130 hi,QFX,show List.range 4=[0,1,2,3] from rfl]
 have e2: ∀ (w:World) (a b x y:Int),(Op.equalIn 9998 64 (.agg #[.int .i64 a,.int .i64 b]) (.agg #[.int .i64 x,.int .i64 y])).run Tryz.prog w= .ok ((a==x)&&((b==y)&&true)) w:=fun w a b x y=>eq2 64 (.inr rfl) w 9998 (by decide) a b x y
 simp [Op.eqItems,part,Tryz.isAgg64,Tryz.sizeOf64,e2]
 by_cases h0:a0=b0
 ·
  by_cases h1:a1=b1
  ·
   by_cases h2:a2=b2
   ·
    by_cases h3:a3=b3
    ·
     by_cases h4:a4=b4
     ·
      by_cases h5:a5=b5
      ·
       by_cases h6:a6=b6
       ·
        by_cases h7:a7=b7
        ·
         simp [h0,h1,h2,h3,h4,h5,h6,h7]
        ·simp [h0,h1,h2,h3,h4,h5,h6,h7]
       ·simp [h0,h1,h2,h3,h4,h5,h6]
      ·simp [h0,h1,h2,h3,h4,h5]
     ·simp [h0,h1,h2,h3,h4]
    ·simp [h0,h1,h2,h3]
   ·simp [h0,h1,h2]
  ·simp [h0,h1]
 ·simp [h0]
theorem meq (w:World)(a0 a1 a2 a3 a4 a5 a6 a7 a8 a9 b0 b1 b2 b3 b4 b5 b6 b7 b8 b9:Int):
  (Op.equal 132 (.agg #[.int .i64 a0,.int .i64 a1,.int .i64 a2,.int .i64 a3,.int .i64 a4,.int .i64 a5,.int .i64 a6,.int .i64 a7,.int .i64 a8,.int .i64 a9]) (.agg #[.int .i64 b0,.int .i64 b1,.int .i64 b2,.int .i64 b3,.int .i64 b4,.int .i64 b5,.int .i64 b6,.int .i64 b7,.int .i64 b8,.int .i64 b9])).run Tryz.prog w= .ok ([a0,a1,a2,a3,a4,a5,a6,a7,a8,a9]==[b0,b1,b2,b3,b4,b5,b6,b7,b8,b9]) w:=by
 show (Op.equalIn (9999+1) 132 _ _).run Tryz.prog w=_
 rw [run_equalIn_struct w 9999 132 _ _ (by kernel_rfl) (by kernel_rfl),QFW]
 have e2: ∀ (w:World) (a b x y:Int),(Op.equalIn 9999 54 (.agg #[.int .i64 a,.int .i64 b]) (.agg #[.int .i64 x,.int .i64 y])).run Tryz.prog w= .ok ((a==x)&&((b==y)&&true)) w:=fun w a b x y=>eq2 54 (.inl rfl) w 9999 (by decide) a b x y
 have e4:=fun w=>arr4 w a2 a3 a4 a5 a6 a7 a8 a9 b2 b3 b4 b5 b6 b7 b8 b9
 simp [Op.eqFields,part,Tryz.isAgg54,Tryz.sizeOf54,Tryz.isAgg130,Tryz.sizeOf130,e2,e4]
 by_cases h0:a0=b0
 ·by_cases h1:a1=b1
  ·simp [h0,h1]
   generalize (a2==b2&&(a3==b3&&(a4==b4&&(a5==b5&&(a6==b6&&(a7==b7&&(a8==b8&&a9==b9)))))))=q
   cases q<;>rfl
  ·simp [h0,h1]
 ·simp [h0]
def kV (z:List Int):Value:= .agg (z.map (Value.int .i64)).toArray
theorem ten {z:List Int}(h:z.length=10): ∃ a0 a1 a2 a3 a4 a5 a6 a7 a8 a9,z=[a0,a1,a2,a3,a4,a5,a6,a7,a8,a9]:=by
 match z,h with
 | [a0,a1,a2,a3,a4,a5,a6,a7,a8,a9],_=>exact ⟨_,_,_,_,_,_,_,_,_,_,rfl⟩
theorem keq (w:World){x y:List Int}(hx:x.length=10)(hy:y.length=10):(Op.equal 132 (kV x) (kV y)).run Tryz.prog w= .ok (x==y) w:=by
 obtain ⟨a0,a1,a2,a3,a4,a5,a6,a7,a8,a9,rfl⟩:=ten hx
 obtain ⟨b0,b1,b2,b3,b4,b5,b6,b7,b8,b9,rfl⟩:=ten hy
 exact meq w a0 a1 a2 a3 a4 a5 a6 a7 a8 a9 b0 b1 b2 b3 b4 b5 b6 b7 b8 b9
theorem QjD {x y:List Int}(h:kV x=kV y):x=y:=by
 have h:(x.map (Value.int .i64)).toArray=(y.map (Value.int .i64)).toArray:=by injection h
 have h:=congrArg Array.toList h
 simp only at h
 exact (List.map_inj_right (fun a b e=>by injection e)).1 h
def Qc3 (es:List MapEntry)(ks:List (List Int)):Prop:=(∀ e∈es,e.val= .bool true∧ ∃ z∈ks,z.length=10/\e.key=kV z)∧ ∀ z∈ks, ∃ e∈es,e.key=kV z
theorem Qt1 (w:World){z:List Int}(hz:z.length=10): ∀ (es:List MapEntry) (i:Nat),(∀ e∈es, ∃ y:List Int,y.length=10/\e.key=kV y)→
  ((Instr.findAsking 132 (kV z) es i).run Tryz.prog w= .ok none w∧ ∀ e∈es,e.key≠kV z)∨ ∃ j e,(Instr.findAsking 132 (kV z) es i).run Tryz.prog w= .ok (some (i+j,e.val)) w/\es[j]? = some e/\e.key=kV z
 | [],i,_=> .inl ⟨by simp [Instr.findAsking],by simp⟩
 |e::es,i,h=>by
  obtain ⟨y,hy,hk⟩:=h e B7
  have he:=keq w hz hy
  by_cases hq:z=y
  ·subst hq
   refine .inr ⟨0,e, ?_,rfl,hk⟩
   simp [Instr.findAsking,hk,he]
  ·rcases Qt1 w hz es (i+1) (fun e he=>h e (BZ _ he)) with ⟨h1,h2⟩|⟨j,e',h1,h2,h3⟩
   ·refine .inl ⟨by simp [Instr.findAsking,hk,he,hq,h1],fun e' he'=> ?_⟩
    rcases BX.1 he' with rfl|he'
    ·rw [hk]
     exact fun e=>hq (QjD e).symm
    ·exact h2 e' he'
   ·refine .inr ⟨j+1,e', ?_,by simpa using h2,h3⟩
    simp [Instr.findAsking,hk,he,hq,h1]
    omega
set_option maxRecDepth 100000 in
theorem Qt2 (w:World)(em:Bool){z:List Int}(hz:z.length=10):(Instr.checkKey em 10000 132 (kV z)).run Tryz.prog w= .ok () w:=by
 obtain ⟨a0,a1,a2,a3,a4,a5,a6,a7,a8,a9,rfl⟩:=ten hz
 kernel_rfl
theorem Qt3 (w:World){z:List Int}(hz:z.length=10)(es:List MapEntry)(h: ∀ e∈es, ∃ y:List Int,y.length=10/\e.key=kV y):
  ((Instr.findKey 132 (kV z) es).run Tryz.prog w= .ok none w∧ ∀ e∈es,e.key≠kV z)∨ ∃ j e,(Instr.findKey 132 (kV z) es).run Tryz.prog w= .ok (some (j,e.val)) w/\es[j]? = some e/\e.key=kV z:=by
 cases es with
 |nil=>
  refine .inl ⟨?_,by simp⟩
  simp [Instr.findKey,run_underlying Tryz.underlying132,Instr.findNow]
 |cons e es=>
  have:=Qt1 w hz (e::es) 0 h
  simp only [DN] at this
  have hn: ∀ k:Value,Instr.findNow (.struct (Tryz.prog.fieldsOf 132)) k (e::es) 0=none:=fun k=>by simp [Instr.findNow,Instr.sameNow]
  have e1:(Instr.findKey 132 (kV z) (e::es)).run Tryz.prog w=(Instr.findAsking 132 (kV z) (e::es) 0).run Tryz.prog w:=by
   simp [Instr.findKey,run_underlying Tryz.underlying132,Instr.findNow,Instr.sameNow]
  rw [e1]
  exact this
theorem QFY (w:World){bm clk:Nat}{es:Array MapEntry}{ks:List (List Int)}{z:List Int}(hz:z.length=10)(hb:w.heap[bm]? = some (.map es clk))(hE:Qc3 es.toList ks):
  (Instr.lookup 129 (.map (some bm)) (kV z) false).run Tryz.prog w= .ok (.bool (decide (z∈ks))) w:=by
 have hc:=Qt2 w es.isEmpty hz
 have hz0:(zeroValue 4).run Tryz.prog w= .ok (.bool false) w:=by kernel_rfl
 rcases Qt3 w hz es.toList (fun e he=>by obtain ⟨_,y,_,h1,h2⟩:=hE.1 e he;exact ⟨y,h1,h2⟩) with ⟨h1,h2⟩|⟨j,e,h1,h2,h3⟩
 ·have hn: ¬ z∈ks:=fun hm=>by obtain ⟨e,he,hk⟩:=hE.2 z hm;exact h2 e he hk
  have hg:(getObj bm).run Tryz.prog w= .ok (.map es clk) w:=by simp [getObj,Sem.run,hb]
  simp [Instr.lookup,run_underlying Tryz.underlying129,hg,hc,h1,hz0,hn]
 ·have he:=Dm h2
  obtain ⟨hv,y,hy,hyl,hyk⟩:=hE.1 e he
  have hm:z∈ks:=by rw [QjD (h3.symm.trans hyk)];exact hy
  have hg:(getObj bm).run Tryz.prog w= .ok (.map es clk) w:=by simp [getObj,Sem.run,hb]
  simp [Instr.lookup,run_underlying Tryz.underlying129,hg,hc,h1,hv,hm]
theorem QFZ (w:World){bm clk:Nat}{es:Array MapEntry}{ks:List (List Int)}{z:List Int}(hz:z.length=10)(hb:w.heap[bm]? = some (.map es clk))(hE:Qc3 es.toList ks):
  ∃ w',(Instr.mapUpdate 129 (.map (some bm)) (kV z) (.bool true)).run Tryz.prog w= .ok () w'/\(∃ es' clk',w'.heap[bm]? = some (.map es' clk')/\Qc3 es'.toList (ks++[z]))/\w.grownBy w' (some bm):=by
 have hc:=Qt2 w false hz
 have hg:(getObj bm).run Tryz.prog w= .ok (.map es clk) w:=by simp [getObj,Sem.run,hb]
 have hs: ∀ o,(setObj bm o).run Tryz.prog w= .ok () {w with heap:=w.heap.setIfInBounds bm o}:=fun o=>by simp [setObj,Sem.run,hb]
 have hlt:bm<w.heap.size:=(BW.1 hb).1
 have hgr: ∀ o,w.grownBy {w with heap:=w.heap.setIfInBounds bm o} (some bm):=fun o=>⟨rfl,rfl,rfl,by simp,fun i _ hi=>by
  have:bm≠i:=fun e=>hi (by rw [e])
  simp [Array.getElem?_setIfInBounds_ne this]⟩
 rcases Qt3 w hz es.toList (fun e he=>by obtain ⟨_,y,_,h1,h2⟩:=hE.1 e he;exact ⟨y,h1,h2⟩) with ⟨h1,h2⟩|⟨j,e,h1,h2,h3⟩
 ·refine ⟨{w with heap:=w.heap.setIfInBounds bm (.map (es.push {key:=kV z,val:= .bool true,born:=clk }) (clk+1)) }, ?_,⟨es.push {key:=kV z,val:= .bool true,born:=clk },clk+1,by simp [hlt], ?_⟩,hgr _⟩
  ·simp [Instr.mapUpdate,run_underlying Tryz.underlying129,hg,hc,h1,hs]
  ·rw [Array.toList_push]
   refine ⟨fun e he=> ?_,fun y hy=> ?_⟩
   ·rcases BA.1 he with he|he
    ·obtain ⟨a,y,b,c,d⟩:=hE.1 e he
     exact ⟨a,y,List.mem_append_left _ b,c,d⟩
    ·rw [Dq.1 he]
     exact ⟨rfl,z,Dz _ B7,hz,rfl⟩
   ·rcases BA.1 hy with hy|hy
    ·obtain ⟨e,he,hk⟩:=hE.2 y hy
     exact ⟨e,List.mem_append_left _ he,hk⟩
    ·rw [Dq.1 hy]
     exact ⟨_,Dz _ B7,rfl⟩
 ·have he:=Dm h2
  obtain ⟨hv,y,hy,hyl,hyk⟩:=hE.1 e he
  have hm:z∈ks:=by rw [QjD (h3.symm.trans hyk)];exact hy
  have hj:es[j]? = some e:=by rw [←Array.getElem?_toList];exact h2
  have hst:(Instr.keyThatStays (kV z) (kV z)).run Tryz.prog w= .ok (kV z) w:=by
   obtain ⟨a0,a1,a2,a3,a4,a5,a6,a7,a8,a9,rfl⟩:=ten hz
   simp [Instr.keyThatStays,Instr.sameBits,kV]
  have hmod:(es.modify j fun e=>{e with key:=kV z,val:= .bool true })=es:=by
   apply Array.ext
   ·simp
   ·intro i hi1 hi2
    rw [Array.getElem_modify]
    split
    ·rename_i hji
     subst hji
     have:es[j]=e:=by
      have:=BW.1 hj
      exact this.2
     rw [this]
     cases e
     simp only at h3 hv
     subst h3 hv
     rfl
    ·rfl
  refine ⟨{w with heap:=w.heap.setIfInBounds bm (.map (es.modify j fun e=>{e with key:=kV z,val:= .bool true }) clk) }, ?_,⟨es,clk,by rw [hmod];simp [hlt],fun e he=> ?_,fun y hy=> ?_⟩,hgr _⟩
  ·simp [Instr.mapUpdate,run_underlying Tryz.underlying129,hg,hc,h1,hs,hj,h3,hst]
  ·obtain ⟨a,y,b,c,d⟩:=hE.1 e he
   exact ⟨a,y,List.mem_append_left _ b,c,d⟩
  ·rcases BA.1 hy with hy|hy
   ·exact hE.2 y hy
   ·rw [Dq.1 hy]
    exact hE.2 z hm
end Go.Proofs.YtmjnnemhoeolgaaGreat.K
noncomputable section
namespace Go.Proofs.YtmjnnemhoeolgaaGreat.K
open Go.RowKit
noncomputable section
def JZ (s:Endpoint)(o:Keep):List Int:=o.1::o.2.1::(G4 (Ji s o).1).flatMap fun u=>[u.1,u.2.1]
def Qbt (b a:Estate)(i:Int)(o:Keep):Bool:=(Jc b i).1.any fun x=>JZ (Jc b i).2 x==JZ (Jc a i).2 o
def YL (b a:Estate)(i:Int):List Keep:=(Jc a i).1.filter fun o=> !Qbt b a i o
def Qbu (b a:Estate)(i:Int):Bool:=YT b i&&YT a i
theorem QCn (b a:Estate)(i:Int):(YL b a i).length<=64:=Dc (List.length_filter_le _ _) I1
end
end Go.Proofs.YtmjnnemhoeolgaaGreat.K
