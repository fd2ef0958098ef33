import Derived.Test.YtmjnnemhoeolgaaGreatQ7
import Derived.Test.YtmjnnemhoeolgaaGreatQ3
import Derived.Test.YtmjnnemhoeolgaaGreatQ4
import Derived.RangeFuncCalls
import Derived.RangeFuncBound
import Derived.Shelf.RegionOpen
import Derived.OwnWalkIn
import Derived.TacticsInMore
import Derived.LoopNIn
import Derived.LoopIn
set_option linter.unusedSimpArgs false
set_option linter.unusedVariables false
noncomputable section
namespace Go.Proofs.YtmjnnemhoeolgaaGreat.K
open Go.RowKit
noncomputable section
def ZD (n:Nat)(e:Endpoint):Bool:=(Ja e.1&&decide ((Qu e).length<=n/\(QA e).length<=n/\(Q3 e).length<=n/\(Q6 e).length<=n))&&(QA e).all Jm
theorem QgZ {n:Nat}{e:Endpoint}(h:ZD n e=true):Ja e.1=true/\((Qu e).length<=n/\(QA e).length<=n/\(Q3 e).length<=n/\(Q6 e).length<=n)/\(QA e).all Jm=true:=by
 simp only [ZD,Bc,Ba] at h
 exact ⟨h.1.1,h.1.2,h.2⟩
theorem Qg0 {n:Nat}{e:Endpoint}(h:ZD n e=true)(hn:n<=100000):QU e=true:=by
 obtain ⟨h1,⟨h2,h3,h4,h5⟩,h6⟩:=QgZ h
 unfold QU
 simp only [Bc,Ba]
 exact ⟨⟨h1,by omega,by omega,by omega,by omega⟩,h6⟩
theorem Qg1 {n m:Nat}{e:Endpoint}(h:ZD n e=true)(hn:n<=m):ZD m e=true:=by
 obtain ⟨h1,⟨h2,h3,h4,h5⟩,h6⟩:=QgZ h
 unfold ZD
 simp only [Bc,Ba]
 exact ⟨⟨h1,by omega,by omega,by omega,by omega⟩,h6⟩
def FB (e:Endpoint)(c:Change):Int:=bif ieq (QZ c) 6 then (bif ieq (JE e (Q8 c)).1 0 then 41 else bif igt (JE e (Q8 c)).1 1 then 5 else 0) else 0
def FC (e:Endpoint)(c:Change):Int:=bif ieq (QZ c) 5 then (bif igt (JE e (Z1 c).2.1).1 0 then 41 else FB e c) else FB e c
def Gg (e:Endpoint)(c:Change):Int:=bif (WC e (QZ c)).2 then (bif ieq (WC e (QZ c)).1 (Q8 c) then 41 else FC e c) else FC e c
def Y6 (e:Endpoint)(c:Change):Int:=bif (Zt e (QZ c)).2.2 then (bif Iy (ige (J6 (Zt e (QZ c)).1 (Q8 c)) 0) (Zt e (QZ c)).2.1 then 41 else Gg e c) else Gg e c
def IC (e:Endpoint)(c:Change):Int:=bif ine (Q8 c) 0 then (bif ine (Q8 c) 1 then 2 else Y6 e c) else Y6 e c
def J7 (e:Endpoint)(c:Change):Int:=
 bif ine (J2 e) 0 then 19 else bif !fmC c then 40 else
 bif ieq (QZ c) 1 then (bif ilt (ZQ c) 0 then 2 else bif igt (ZQ c) (Qa (Qu e)) then 2 else Y6 e c) else
 bif ieq (QZ c) 5 then (bif ilt (ZQ c) 0 then 2 else bif igt (ZQ c) (Qa (QA e)) then 2 else Y6 e c) else
 bif ieq (QZ c) 11 then IC e c else bif ieq (QZ c) 12 then IC e c else Y6 e c
def Qg2 (e:Endpoint)(c:Change):Bool:=QU e&&Jm (Z1 c)
def QBx:TC:=aF Tryz.f118 []
def g_f118:G:=gG 118 [(61,Qcu),(153,Qrb),(154,QnP),(155,Qga),(156,QnN),(157,QhT)] (fun _ _=>none)
def Qa5 (p0:Endpoint)(p1:Change):OV:=br (ieq p1.2.1 6) (br (Xx p0 p1.2.2.1) (br (ieq ((JE p0 p1.2.2.1).1) 0) (some (.t tI 41,[])) (br (igt ((JE p0 p1.2.2.1).1) 1) (some (.t tI 5,[])) (some (.t tI 0,[])))) none) (some (.t tI 0,[]))
def Qa6 (p0:Endpoint)(p1:Change):OV:=br (ieq p1.2.1 5) (br (Xx p0 p1.2.2.2.2.1.2.1) (br (igt ((JE p0 p1.2.2.2.2.1.2.1).1) 0) (some (.t tI 41,[])) (Qa5 p0 p1)) none) (Qa5 p0 p1)
def Qa7 (p0:Endpoint)(p1:Change):OV:=br ((WC p0 p1.2.1).2) (br (ieq ((WC p0 p1.2.1).1) p1.2.2.1) (some (.t tI 41,[])) (Qa6 p0 p1)) (Qa6 p0 p1)
def WH (p0:Endpoint)(p1:Change):OV:=
 let a1:=Zt p0 p1.2.1
 br ((a1.2).2) (br (Jk (a1.1) p1.2.2.1) (br (Iy (ige (J6 (a1.1) p1.2.2.1) 0) ((a1.2).1)) (some (.t tI 41,[])) (Qa7 p0 p1)) none) (Qa7 p0 p1)
def ID (p0:Endpoint)(p1:Change):OV:=br (ine p1.2.2.1 0) (br (ine p1.2.2.1 1) (some (.t tI 2,[])) (WH p0 p1)) (WH p0 p1)
def QpC (p0:Endpoint)(p1:Change):OV:=br (QU p0) (br (ine (J2 p0) 0) (some (.t tI 19,[])) (br (QhU p1) (br (!(fmC p1)) (some (.t tI 40,[])) (br (ieq p1.2.1 1) (br (ilt p1.2.2.2.1 0) (some (.t tI 2,[])) (br (igt p1.2.2.2.1 (Qa p0.2.2.2.1)) (some (.t tI 2,[])) (WH p0 p1))) (br (ieq p1.2.1 5) (br (ilt p1.2.2.2.1 0) (some (.t tI 2,[])) (br (igt p1.2.2.2.1 (Qa p0.2.2.2.2.2.1)) (some (.t tI 2,[])) (WH p0 p1))) (br (ieq p1.2.1 11) (br (ieq p1.2.1 11) (ID p0 p1) (WH p0 p1)) (br (ieq p1.2.1 12) (ID p0 p1) (WH p0 p1)))))) none)) none
theorem brC {c:Bool}{x y:Int}{A B:OV}(h1:A=some (.t tI x,[]))(h2:B=some (.t tI y,[])):br c A B=some (.t tI (bif c then x else y),[]):=by
 subst h1 h2
 cases c<;>rfl
theorem s_f118 (e:Endpoint)(c:Change)(h:Qg2 e c=true):QpC e c=some (.t tI (J7 e c),[]):=by
 obtain ⟨h1,h2⟩:=Bi.1 h
 have hb:=(Gm h1).2
 have hk: ∀ n,Xx e n=true:=fun n=>Be hb.2.1
 have hl: ∀ k n,Jk (Zt e k).1 n=true:=fun k n=>by
  have:(Zt e k).1.length<=100000:=by
   unfold Zt
   cases ieq k 1||ieq k 2 with
   |true=>exact hb.1
   |false=>
    cases ieq k 7||ieq k 8 with
    |true=>exact hb.2.2.1
    |false=>
     cases ieq k 9||ieq k 10 with
     |true=>exact hb.2.2.2.1
     |false=>exact B4 _
  exact Be this
 have g4:Qa5 e c=some (.t tI (FB e c),[]):=by
  unfold Qa5 FB
  exact brC (brY (hk _) (brC rfl (brC rfl rfl))) rfl
 have g3:Qa6 e c=some (.t tI (FC e c),[]):=by
  unfold Qa6 FC
  exact brC (brY (hk _) (brC rfl g4)) g4
 have g2:Qa7 e c=some (.t tI (Gg e c),[]):=by
  unfold Qa7 Gg
  exact brC (brC rfl g3) g3
 have g1:WH e c=some (.t tI (Y6 e c),[]):=by
  unfold WH Y6
  exact brC (brY (hl _ _) (brC rfl g2)) g2
 have g5:ID e c=some (.t tI (IC e c),[]):=by
  unfold ID IC
  exact brC (brC rfl g1) g1
 unfold QpC J7
 refine brY h1 (brC rfl (brY h2 (brC rfl (brC (brC rfl (brC rfl g1)) (brC (brC rfl (brC rfl g1)) ?_)))))
 cases h11:ieq (QZ c) 11 with
 |true=>exact g5
 |false=>exact (brC g5 g1:br (ieq (QZ c) 12) (ID e c) (WH e c)=some (.t tI (bif ieq (QZ c) 12 then IC e c else Y6 e c),[]))
def QpD:Ent:=Qk (.pr Qo (.pr UJ .nil)) (fun x=>(Qg2 x.1 x.2.1)) (fun x=>(.t tI (J7 x.1 x.2.1)))
theorem QBy:EM 118 QpD:=mS g_f118 QBx [((.t 4),some tI)] false (gB (gD QiB (gD QDt (gD Qz1 (gD QnJ (gD QzZ (gD Qq9 gN))))))) fun m=>Qm m fun x hok=>kT (s_f118 x.1 x.2.1 hok)
theorem YE {b:Bool}{x y:Int}(hx:x≠0)(h:(bif b then x else y)=0):b=false/\y=0:=by
 cases b with
 |true=>exact absurd h hx
 |false=>exact ⟨rfl,h⟩
theorem QBz {b:Bool}(h:Iy b false=false):b=true:=by
 cases b with
 |true=>rfl
 |false=>exact absurd h (by decide)
theorem plc_in {l:List Int}{n:Int}(h:ige (J6 l n) 0=true)(hl:l.length<=100000):Uz l (J6 l n)=true:=by
 unfold J6 at h ⊢
 cases hq:QD (fun y=>ieq y n) l with
 |none=>rw [hq] at h;exact absurd (show ige (-1) 0=true from h) (by decide)
 |some k=>
  obtain ⟨hk,_⟩:=QbS hq
  exact Be ⟨by show (0:Int)<=(k:Int);omega,by show (k:Int)<(l.length:Int);omega,hl⟩
theorem alw_1 {e:Endpoint}{c:Change}(h:J7 e c=0)(hk:QZ c=1):0<=ZQ c/\ZQ c<=(Qu e).length:=by
 unfold J7 at h
 obtain ⟨h1,h⟩:=YE (by decide) h
 obtain ⟨h2,h⟩:=YE (by decide) h
 rw [hk] at h
 simp only [show ieq (1:Int) 1=true from rfl,Dl] at h
 obtain ⟨h3,h⟩:=YE (by decide) h
 obtain ⟨h4,_⟩:=YE (by decide) h
 simp only [ilt,igt,Qa,Bo] at h3 h4
 omega
theorem alw_5 {e:Endpoint}{c:Change}(h:J7 e c=0)(hk:QZ c=5):0<=ZQ c/\ZQ c<=(QA e).length:=by
 unfold J7 at h
 obtain ⟨h1,h⟩:=YE (by decide) h
 obtain ⟨h2,h⟩:=YE (by decide) h
 rw [hk] at h
 simp only [show ieq (5:Int) 1=false from rfl,show ieq (5:Int) 5=true from rfl,Dl,Di] at h
 obtain ⟨h3,h⟩:=YE (by decide) h
 obtain ⟨h4,_⟩:=YE (by decide) h
 simp only [ilt,igt,Qa,Bo] at h3 h4
 omega
theorem FD {e:Endpoint}{c:Change}(h:J7 e c=0){k:Int}(hk:QZ c=k)(hd:k=2∨k=8∨k=10)(hl:(Zt e k).1.length<=100000):Uz (Zt e k).1 (J6 (Zt e k).1 (Q8 c))=true:=by
 unfold J7 at h
 obtain ⟨h1,h⟩:=YE (by decide) h
 obtain ⟨h2,h⟩:=YE (by decide) h
 rw [hk] at h
 have h:Y6 e c=0:=by rcases hd with rfl|rfl|rfl<;>exact h
 unfold Y6 at h
 rw [hk] at h
 have h5:(Zt e k).2.2=true/\(Zt e k).2.1=false:=by rcases hd with rfl|rfl|rfl<;>exact ⟨rfl,rfl⟩
 rw [h5.1,h5.2] at h
 obtain ⟨h6,_⟩:=YE (by decide) (show (bif Iy (ige (J6 (Zt e k).1 (Q8 c)) 0) false then 41 else Gg e c)=0 from h)
 exact plc_in (QBz h6) hl
theorem alw_6 {e:Endpoint}{c:Change}(h:J7 e c=0)(hk:QZ c=6):0<=(JE e (Q8 c)).2/\(JE e (Q8 c)).2<(QA e).length:=by
 unfold J7 at h
 obtain ⟨h1,h⟩:=YE (by decide) h
 obtain ⟨h2,h⟩:=YE (by decide) h
 rw [hk] at h
 have h:Y6 e c=0:=h
 unfold Y6 at h
 rw [hk] at h
 have h:Gg e c=0:=h
 unfold Gg at h
 rw [hk] at h
 have h:FC e c=0:=h
 unfold FC at h
 rw [hk] at h
 have h:FB e c=0:=h
 unfold FB at h
 rw [hk] at h
 obtain ⟨h3,_⟩:=YE (by decide) (show (bif ieq (JE e (Q8 c)).1 0 then 41 else bif igt (JE e (Q8 c)).1 1 then 5 else 0)=0 from h)
 have:=QhP (Q8 c) (QA e) 0 (0, -1) (BX _) (BX _) (fun h=>absurd h (by decide))
 have h4:0<(JE e (Q8 c)).1:=by
  simp only [YA,Bo] at h3
  have:=this.1
  unfold JE at h3 ⊢
  omega
 have h5:=this.2 h4
 rw [Int.zero_add] at h5
 exact h5
end
end Go.Proofs.YtmjnnemhoeolgaaGreat.K
noncomputable section
namespace Go.Proofs.YtmjnnemhoeolgaaGreat.K
open Go.RowKit
noncomputable section
def suE (e:Endpoint)(l:List Int):Endpoint:=(e.1,(e.2.1,(e.2.2.1,(l,e.2.2.2.2))))
def idE (e:Endpoint)(l:List Identity):Endpoint:=(e.1,(e.2.1,(e.2.2.1,(e.2.2.2.1,(e.2.2.2.2.1,(l,e.2.2.2.2.2.2))))))
def anE (e:Endpoint)(l:List Int):Endpoint:=(e.1,(e.2.1,(e.2.2.1,(e.2.2.2.1,(e.2.2.2.2.1,(e.2.2.2.2.2.1,(l,e.2.2.2.2.2.2.2)))))))
def hsE (e:Endpoint)(l:List Int):Endpoint:=(e.1,(e.2.1,(e.2.2.1,(e.2.2.2.1,(e.2.2.2.2.1,(e.2.2.2.2.2.1,(e.2.2.2.2.2.2.1,(l,e.2.2.2.2.2.2.2.2))))))))
def adI (e:Endpoint)(c:Change):List Identity:=((([]:List Identity)++(lsl (QA e) 0 (ZQ c)))++([Z1 c]))++(lsl (QA e) (ZQ c) ((List.length (QA e):Nat):Int))
def drI (e:Endpoint)(c:Change):List Identity:=(([]:List Identity)++(lsl (QA e) 0 (JE e (Q8 c)).2))++(lsl (QA e) (Qg .i64 (JE e (Q8 c)).2 1) ((List.length (QA e):Nat):Int))
def YW (e:Endpoint)(c:Change):Endpoint:=
 bif ieq (QZ c) 1 then suE e (Xq (Qu e) (ZQ c) (Q8 c)) else bif ieq (QZ c) 2 then suE e (woF (Qu e) (J6 (Qu e) (Q8 c))) else
 bif ieq (QZ c) 3 then (e.1,(e.2.1,(Q8 c,e.2.2.2))) else bif ieq (QZ c) 4 then (e.1,(Q8 c,e.2.2)) else
 bif ieq (QZ c) 5 then idE e (adI e c) else bif ieq (QZ c) 6 then idE e (drI e c) else
 bif ieq (QZ c) 7 then anE e (Gn (Q3 e) (Q8 c)) else bif ieq (QZ c) 8 then anE e (woF (Q3 e) (J6 (Q3 e) (Q8 c))) else
 bif ieq (QZ c) 9 then hsE e (Gn (Q6 e) (Q8 c)) else bif ieq (QZ c) 10 then hsE e (woF (Q6 e) (J6 (Q6 e) (Q8 c))) else
 bif ieq (QZ c) 11 then (e.1,(e.2.1,(e.2.2.1,(e.2.2.2.1,(e.2.2.2.2.1,(e.2.2.2.2.2.1,(e.2.2.2.2.2.2.1,(e.2.2.2.2.2.2.2.1,(ieq (Q8 c) 1,()))))))))) else
 bif ieq (QZ c) 12 then (e.1,(e.2.1,(e.2.2.1,(e.2.2.2.1,(ieq (Q8 c) 1,e.2.2.2.2.2))))) else e
def VU (e:Endpoint)(c:Change):Bool:=(QU e&&Jm (Z1 c))&&ieq (J7 e c) 0
def QyW:TC:=aF Tryz.f119 [(942,pD [(0,[2]),(1,[2]),(2,[2]),(3,[2]),(4,[3]),(5,[3]),(6,[]),(7,[]),(8,[5,52,58,65,80,87]),(9,[4,5,52,58,65,80,87])] (.of [0,1,2,3,4,5,6,7,8,9])),(3866622,pD [(0,[2]),(1,[2]),(2,[2]),(3,[2]),(4,[3]),(5,[3]),(6,[]),(7,[]),(8,[5,52,58,65,80,87]),(9,[4,5,52,58,65,80,87])] (.of [0,1,2,3,4,5,6,7,8,9])),(61865982,pD [(0,[2]),(1,[2]),(2,[2]),(3,[2]),(4,[3]),(5,[3]),(6,[]),(7,[]),(8,[5,52,58,65,80,87]),(9,[4,5,52,58,65,80,87])] (.of [0,1,2,3,4,5,6,7,8,9]))]
def g_f119:G:=gG 140 [(120,Qfx),(155,Qga),(157,QhT),(158,QhK),(159,QqX),(160,Qft),(161,Qq2)] (fun _ _=>none)
def Qmq (p0:Endpoint)(p1:Change):OV:=
 let a2:=(((JH p0).2).2)
 let a1:=((a2.2).2)
 let a3:=((((UY p1.2.2.2.2.1).1).1,((((UY p1.2.2.2.2.1).1).2).1,())),(((UY p1.2.2.2.2.1).2).1,((((UY p1.2.2.2.2.1).2).2).1,())))
 let a4:=(List.length ((a1.2).1):Nat)
 let a5:=((JE p0 p1.2.2.1).2)
 let a6:=lsl ((a1.2).1) 0 p1.2.2.2.1
 let a7:=(((a1.2).2).2)
 let a8:=(lsl ((a1.2).1) (Qg .i64 a5 1) (a4:Int))
 let a9:=lsl ((a1.2).1) 0 a5
 let a10:=(lsl ((a1.2).1) p1.2.2.2.1 (a4:Int))
 let a11:=(((a1.2).2).1,(a7.1,((a7.2).1,())))
 let a12:=Jk p0.2.2.2.2.2.2.2.1 p1.2.2.1
 let a13:=Jk p0.2.2.2.2.2.2.1 p1.2.2.1
 let a14:=J6 p0.2.2.2.2.2.2.2.1 p1.2.2.1
 let a15:=J6 p0.2.2.2.2.2.2.1 p1.2.2.1
 let a16:=J6 p0.2.2.2.1 p1.2.2.1
 br (QU p0) (br (ieq p1.2.1 1) (br (QbF p0.2.2.2.1 p1.2.2.2.1 p1.2.2.1) (some (.t Qo ((JH p0).1,(((JH p0).2).1,(a2.1,((Xq p0.2.2.2.1 p1.2.2.2.1 p1.2.2.1),(a2.2).2)))),[])) none) (br (ieq p1.2.1 2) (br (Jk p0.2.2.2.1 p1.2.2.1) (br (Uz p0.2.2.2.1 a16) (some (.t Qo ((JH p0).1,(((JH p0).2).1,(a2.1,((woF p0.2.2.2.1 a16),(a2.2).2)))),[])) none) none) (br (ieq p1.2.1 3) (some (.t Qo ((JH p0).1,(((JH p0).2).1,(p1.2.2.1,a2.2))),[])) (br (ieq p1.2.1 4) (some (.t Qo ((JH p0).1,(p1.2.2.1,((JH p0).2).2)),[])) (br (ieq p1.2.1 5) (br (cSl ((a1.2).1) 0 p1.2.2.2.1 (a4:Int)) (br (QJ ([]:List Identity) a6 48) (br (Jm p1.2.2.2.2.1) (br (QJ (([]:List Identity)++a6) ([a3]) 48) (br (cSl ((a1.2).1) p1.2.2.2.1 (a4:Int) (a4:Int)) (br (QJ ((([]:List Identity)++a6)++([a3])) a10 48) (some (.t Qo ((JH p0).1,(((JH p0).2).1,(a2.1,((a2.2).1,(a1.1,((((([]:List Identity)++a6)++([a3]))++a10),a11)))))),[])) none) none) none) none) none) none) (br (ieq p1.2.1 6) (br (Xx p0 p1.2.2.1) (br (cSl ((a1.2).1) 0 a5 (a4:Int)) (br (QJ ([]:List Identity) a9 48) (br (cSl ((a1.2).1) (Qg .i64 a5 1) (a4:Int) (a4:Int)) (br (QJ (([]:List Identity)++a9) a8 48) (some (.t Qo ((JH p0).1,(((JH p0).2).1,(a2.1,((a2.2).1,(a1.1,(((([]:List Identity)++a9)++a8),a11)))))),[])) none) none) none) none) none) (br (ieq p1.2.1 7) (br a13 (some (.t Qo ((JH p0).1,(((JH p0).2).1,(a2.1,((a2.2).1,(a1.1,((a1.2).1,((Gn p0.2.2.2.2.2.2.1 p1.2.2.1),((a1.2).2).2))))))),[])) none) (br (ieq p1.2.1 8) (br a13 (br (Uz p0.2.2.2.2.2.2.1 a15) (some (.t Qo ((JH p0).1,(((JH p0).2).1,(a2.1,((a2.2).1,(a1.1,((a1.2).1,((woF p0.2.2.2.2.2.2.1 a15),((a1.2).2).2))))))),[])) none) none) (br (ieq p1.2.1 9) (br a12 (some (.t Qo ((JH p0).1,(((JH p0).2).1,(a2.1,((a2.2).1,(a1.1,((a1.2).1,(((a1.2).2).1,((Gn p0.2.2.2.2.2.2.2.1 p1.2.2.1),a7.2)))))))),[])) none) (br (ieq p1.2.1 10) (br a12 (br (Uz p0.2.2.2.2.2.2.2.1 a14) (some (.t Qo ((JH p0).1,(((JH p0).2).1,(a2.1,((a2.2).1,(a1.1,((a1.2).1,(((a1.2).2).1,((woF p0.2.2.2.2.2.2.2.1 a14),a7.2)))))))),[])) none) none) (br (ieq p1.2.1 11) (some (.t Qo ((JH p0).1,(((JH p0).2).1,(a2.1,((a2.2).1,(a1.1,((a1.2).1,(((a1.2).2).1,(a7.1,((ieq p1.2.2.1 1),(a7.2).2))))))))),[])) (br (ieq p1.2.1 12) (some (.t Qo ((JH p0).1,(((JH p0).2).1,(a2.1,((a2.2).1,((ieq p1.2.2.1 1),a1.2))))),[])) (some (.t Qo (JH p0),[])))))))))))))) none
theorem brE {c:Bool}{x y:Endpoint}{A B:OV}(h1:c=true->A=some (.t Qo x,[]))(h2:B=some (.t Qo y,[])):br c A B=some (.t Qo (bif c then x else y),[]):=by
 cases c with
 |true=>exact h1 rfl
 |false=>exact h2
theorem E1 {l1 l2:List Identity}(h1:l1.length<=300000)(h2:l2.length<=300000):QJ l1 l2 48=true:=Ji (by decide) (by omega)
theorem YX {a b:Int}(h:ieq a b=true):a=b:=by
 simpa [YA] using h
theorem s_f119 (e:Endpoint)(c:Change)(h:VU e c=true):Qmq e c=some (.t Qo (YW e c),[]):=by
 obtain ⟨h,hz⟩:=Bi.1 h
 obtain ⟨h1,h2⟩:=Bi.1 h
 have hz:J7 e c=0:=YX hz
 obtain ⟨b1,b2,b3,b4,b5⟩:=(Gm h1).2
 unfold Qmq YW
 refine brY h1 (brE (fun g=> ?_) (brE (fun g=> ?_) (brE (fun _=>rfl) (brE (fun _=>rfl) (brE (fun g=> ?_) (brE (fun g=> ?_) (brE (fun _=> ?_) (brE (fun g=> ?_) (brE (fun _=> ?_) (brE (fun g=> ?_) (brE (fun _=>rfl) (brE (fun _=>rfl) rfl))))))))))))
 ·obtain ⟨p1,p2⟩:=alw_1 hz (YX g)
  exact brY (Be ⟨p1,p2,b1⟩) rfl
 ·exact brY (Be b1) (brY (FD hz (YX g) (.inl rfl) b1) rfl)
 ·obtain ⟨p1,p2⟩:=alw_5 hz (YX g)
  have e1:=Ux (y:=Q0) (l:=QA e) p1 p2
  have e2:=Uy (y:=Q0) (l:=QA e) p1 p2
  have a1:(lsl (QA e) 0 (ZQ c)).length<=300000:=by omega
  have a2:(lsl (QA e) (ZQ c) ((List.length (QA e):Nat):Int)).length<=300000:=by omega
  have a3:(([]:List Identity)++lsl (QA e) 0 (ZQ c)).length<=300000:=a1
  have a4:((([]:List Identity)++lsl (QA e) 0 (ZQ c))++[Z1 c]).length<=300000:=by
   rw [Bl,BT,Bp]
   omega
  exact brY (Be ⟨BX 0,p1,p2,BX _⟩) (brY (E1 (show 0<=300000 by decide) a1) (brY h2 (brY (E1 a3 (show 1<=300000 by decide)) (brY (Be ⟨p1,p2,BX _,BX _⟩) (brY (E1 a4 a2) rfl)))))
 ·obtain ⟨p1,p2⟩:=alw_6 hz (YX g)
  have e0:Qg .i64 (JE e (Q8 c)).2 1=(JE e (Q8 c)).2+1:=J5 (by omega)
  have e1:=Ux (y:=Q0) (l:=QA e) p1 (by omega)
  have e2:=Uy (y:=Q0) (l:=QA e) (a:=(JE e (Q8 c)).2+1) (by omega) (by omega)
  have a1:(lsl (QA e) 0 (JE e (Q8 c)).2).length<=300000:=by omega
  have a2:(lsl (QA e) (Qg .i64 (JE e (Q8 c)).2 1) ((List.length (QA e):Nat):Int)).length<=300000:=by rw [e0];omega
  have a3:(([]:List Identity)++lsl (QA e) 0 (JE e (Q8 c)).2).length<=300000:=a1
  have q:cSl (QA e) (Qg .i64 (JE e (Q8 c)).2 1) ((List.length (QA e):Nat):Int) ((List.length (QA e):Nat):Int)=true:=by
   rw [e0]
   exact Be ⟨by omega,by omega,BX _,BX _⟩
  exact brY (Be b2) (brY (Be ⟨BX 0,p1,(show (JE e (Q8 c)).2<=((QA e).length:Int) by omega),BX _⟩) (brY (E1 (show 0<=300000 by decide) a1) (brY q (brY (E1 a3 a2) rfl))))
 ·exact brY (Be b3) rfl
 ·exact brY (Be b3) (brY (FD hz (YX g) (.inr (.inl rfl)) b3) rfl)
 ·exact brY (Be b4) rfl
 ·exact brY (Be b4) (brY (FD hz (YX g) (.inr (.inr rfl)) b4) rfl)
def Qmr:Ent:=Qk (.pr Qo (.pr UJ .nil)) (fun x=>(VU x.1 x.2.1)) (fun x=>(.t Qo (YW x.1 x.2.1)))
theorem QyX:EM 119 Qmr:=mS g_f119 QyW [((.c 4 true 9),some Qo)] false (gB (gD QmJ (gD QnJ (gD Qq9 (gD QqV (gD QDk (gD QmD (gD QDo gN)))))))) fun m=>Qm m fun x hok=>kT (s_f119 x.1 x.2.1 hok)
theorem Qms {l:List Int}{n:Int}:(Gn l n).length=l.length+1:=by
 have:=QhM n l
 exact QqT (by omega) (by omega)
theorem VV {p:Identity->Bool}{l:List Identity}(h:l.all p=true)(a b:Int):(lsl l a b).all p=true:=by
 rw [Bg] at h ⊢
 exact fun x hx=>h x (List.mem_of_mem_drop (DQ hx))
theorem Qmt {n:Nat}{e:Endpoint}{c:Change}(h:ZD n e=true)(hn:n<=90000)(hi:Jm (Z1 c)=true)(hz:J7 e c=0):ZD (n+1) (YW e c)=true:=by
 obtain ⟨h1,⟨h2,h3,h4,h5⟩,h6⟩:=QgZ h
 have hm:=Qg1 h (Nat.le_succ n)
 have mk: ∀ x:Endpoint,x.1=e.1->(Qu x).length<=n+1->(QA x).length<=n+1->(Q3 x).length<=n+1->(Q6 x).length<=n+1->(QA x).all Jm=true->ZD (n+1) x=true:=fun x g0 g1 g2 g3 g4 g5=>by
  unfold ZD
  rw [g0]
  simp only [Bc,Ba]
  exact ⟨⟨h1,g1,g2,g3,g4⟩,g5⟩
 unfold YW
 cases g1:ieq (QZ c) 1 with
 |true=>
  obtain ⟨p1,p2⟩:=alw_1 hz (YX g1)
  have:=QqT (l:=Qu e) (n:=Q8 c) p1 p2
  exact mk _ rfl (by show (Xq (Qu e) (ZQ c) (Q8 c)).length<=n+1;omega) (by show (QA e).length<=n+1;omega) (by show (Q3 e).length<=n+1;omega) (by show (Q6 e).length<=n+1;omega) h6
 |false=>
  cases g2:ieq (QZ c) 2 with
  |true=>
   have:=QhL (FD hz (YX g2) (.inl rfl) (show (Qu e).length<=100000 by omega))
   have this:(woF (Qu e) (J6 (Qu e) (Q8 c))).length+1=(Qu e).length:=this
   exact mk _ rfl (by show (woF (Qu e) (J6 (Qu e) (Q8 c))).length<=n+1;omega) (by show (QA e).length<=n+1;omega) (by show (Q3 e).length<=n+1;omega) (by show (Q6 e).length<=n+1;omega) h6
  |false=>
   cases ieq (QZ c) 3 with
   |true=>exact hm
   |false=>
    cases ieq (QZ c) 4 with
    |true=>exact hm
    |false=>
     cases g5:ieq (QZ c) 5 with
     |true=>
      obtain ⟨p1,p2⟩:=alw_5 hz (YX g5)
      have e1:=Ux (y:=Q0) (l:=QA e) p1 p2
      have e2:=Uy (y:=Q0) (l:=QA e) p1 p2
      have hal:(adI e c).length=(QA e).length+1:=by
       unfold adI
       rw [Bl,Bl,BT,Bp]
       omega
      refine mk _ rfl (by show (Qu e).length<=n+1;omega) (by show (adI e c).length<=n+1;omega) (by show (Q3 e).length<=n+1;omega) (by show (Q6 e).length<=n+1;omega) ?_
      show (adI e c).all Jm=true
      unfold adI
      rw [List.all_append,List.all_append,BT,VV h6,VV h6]
      simp only [BU,Dw,hi,B3]
     |false=>
      cases g6:ieq (QZ c) 6 with
      |true=>
       obtain ⟨p1,p2⟩:=alw_6 hz (YX g6)
       have e0:Qg .i64 (JE e (Q8 c)).2 1=(JE e (Q8 c)).2+1:=J5 (by omega)
       have e1:=Ux (y:=Q0) (l:=QA e) p1 (by omega)
       have e2:=Uy (y:=Q0) (l:=QA e) (a:=(JE e (Q8 c)).2+1) (by omega) (by omega)
       have hal:(drI e c).length<=(QA e).length:=by
        unfold drI
        rw [e0,Bl,BT]
        omega
       refine mk _ rfl (by show (Qu e).length<=n+1;omega) (by show (drI e c).length<=n+1;omega) (by show (Q3 e).length<=n+1;omega) (by show (Q6 e).length<=n+1;omega) ?_
       show (drI e c).all Jm=true
       unfold drI
       rw [List.all_append,BT,VV h6,VV h6]
       rfl
      |false=>
       have fin: ∀ l m:List Int,l.length<=n+1->m.length<=n+1->ZD (n+1) (anE e l)=true/\ZD (n+1) (hsE e m)=true:=fun l m hl hm=>⟨mk _ rfl (by show (Qu e).length<=n+1;omega) (by show (QA e).length<=n+1;omega) hl (by show (Q6 e).length<=n+1;omega) h6,mk _ rfl (by show (Qu e).length<=n+1;omega) (by show (QA e).length<=n+1;omega) (by show (Q3 e).length<=n+1;omega) hm h6⟩
       cases ieq (QZ c) 7 with
       |true=>exact (fin _ [] (by rw [Qms];omega) (B4 _)).1
       |false=>
        cases g8:ieq (QZ c) 8 with
        |true=>
         have:=QhL (FD hz (YX g8) (.inr (.inl rfl)) (show (Q3 e).length<=100000 by omega))
         have this:(woF (Q3 e) (J6 (Q3 e) (Q8 c))).length+1=(Q3 e).length:=this
         exact (fin _ [] (by omega) (B4 _)).1
        |false=>
         cases ieq (QZ c) 9 with
         |true=>exact (fin [] _ (B4 _) (by rw [Qms];omega)).2
         |false=>
          cases g10:ieq (QZ c) 10 with
          |true=>
           have:=QhL (FD hz (YX g10) (.inr (.inr rfl)) (show (Q6 e).length<=100000 by omega))
           have this:(woF (Q6 e) (J6 (Q6 e) (Q8 c))).length+1=(Q6 e).length:=this
           exact (fin [] _ (B4 _) (by omega)).2
          |false=>
           cases ieq (QZ c) 11 with
           |true=>exact hm
           |false=>
            cases ieq (QZ c) 12 with
            |true=>exact hm
            |false=>exact hm
def Zs (e:Endpoint)(c:Change):Endpoint×Int:=bif ine (J7 e c) 0 then (zEp,J7 e c) else bif ine (J2 (YW e c)) 0 then (zEp,18) else (YW e c,0)
def VW (e:Endpoint)(c:Change):Bool:=ZD 80000 e&&Jm (Z1 c)
def tc_f70:TC:=aF Tryz.f70 []
def g_f70:G:=gG 23 [(61,Qcu),(118,QpD),(119,Qmr)] (fun _ _=>none)
def r_f70 (p0:Endpoint)(p1:Change):OV:=br (Qg2 p0 p1) (br (ine (J7 p0 p1) 0) (some (.tu [(.t Qo ((ByteArray.mk #[]),(0,(0,(([]:List Int),(false,(([]:List Identity),(([]:List Int),(([]:List Int),(false,())))))))))),(.t tI (J7 p0 p1))],[])) (br (VU p0 p1) (br (QU (YW p0 p1)) (br (ine (J2 (YW p0 p1)) 0) (some (.tu [(.t Qo ((ByteArray.mk #[]),(0,(0,(([]:List Int),(false,(([]:List Identity),(([]:List Int),(([]:List Int),(false,())))))))))),(.t tI 18)],[])) (some (.tu [(.t Qo (YW p0 p1)),(.t tI 0)],[]))) none) none)) none
theorem s_f70 (e:Endpoint)(c:Change)(h:VW e c=true):r_f70 e c=some (.tu [.t Qo (Zs e c).1,.t tI (Zs e c).2],[]):=by
 obtain ⟨hb,hi⟩:=Bi.1 h
 have hl:=Qg0 hb (by decide)
 unfold r_f70 Zs
 refine brY (Bi.2 ⟨hl,hi⟩) ?_
 cases hz:ine (J7 e c) 0 with
 |true=>rfl
 |false=>
  have hz0:J7 e c=0:=IS hz
  have hq:VU e c=true:=Bi.2 ⟨Bi.2 ⟨hl,hi⟩,by rw [hz0];rfl⟩
  rw [Qf]
  refine brY hq (brY (Qg0 (Qmt hb (by decide) hi hz0) (by decide)) ?_)
  cases ine (J2 (YW e c)) 0<;>rfl
def Qmu:Ent:=Qk (.pr Qo (.pr UJ .nil)) (fun x=>(VW x.1 x.2.1)) (fun x=>(.tu [(.t Qo ((Zs x.1 x.2.1).1)),(.t tI ((Zs x.1 x.2.1).2))]))
theorem ms_f70:EM 70 Qmu:=mS g_f70 tc_f70 [((.c 4 true 9),some Qo),((.t 5),some tI)] false (gB (gD QiB (gD QBy (gD QyX gN)))) fun m=>Qm m fun x hok=>kT (s_f70 x.1 x.2.1 hok)
theorem QyY {n:Nat}{e:Endpoint}{c:Change}(h:ZD n e=true)(hn:n<=80000)(hi:Jm (Z1 c)=true)(hz:(Zs e c).2=0):ZD (n+1) (Zs e c).1=true:=by
 unfold Zs at hz ⊢
 cases h1:ine (J7 e c) 0 with
 |true=>
  rw [h1] at hz
  have:J7 e c=0:=hz
  rw [this] at h1
  exact absurd h1 (by decide)
 |false=>
  cases h2:ine (J2 (YW e c)) 0 with
  |true=>
   rw [h1,h2] at hz
   exact absurd (show (18:Int)=0 from hz) (by decide)
  |false=>exact Qmt h (by omega) hi (IS h1)
end
end Go.Proofs.YtmjnnemhoeolgaaGreat.K
noncomputable section
namespace Go.Proofs.YtmjnnemhoeolgaaGreat.K
open Go.RowKit
noncomputable section
def vsOk (l:List Int)(n:Int)(k:Nat):Bool:= !ilt (l.getD k 0) 0&&(!ige (l.getD k 0) n&&(decide (k=0)|| !ige (l.getD (k-1) 0) (l.getD k 0)))
def vsUp (l:List Int)(n:Int)(k:Nat):Bool:=(List.range' k (l.length-k)).all (vsOk l n)
def vstF (l:List Int)(n:Int):Bool:=vsUp l n 0
theorem vs_in {l:List Int}{n:Int}(h:vstF l n=true): ∀ x∈l,0<=x/\x<n:=fun x hx=>by
 obtain ⟨k,hk⟩:=Dy.1 hx
 obtain ⟨hk1,rfl⟩:=BB.1 hk
 unfold vstF vsUp at h
 rw [Bg] at h
 have:=h k (by rw [List.mem_range'];exact ⟨k,by omega,by omega⟩)
 unfold vsOk at this
 rw [show l.getD k 0=l[k] by simp only [Bk,Bf hk1,BI]] at this
 simp only [Bc,Br,ilt,ige,Bo] at this
 omega
abbrev zX:Estate:=(([]:List Endpoint),(([]:List Keep),(([]:List Item),())))
def Yg (n:Nat)(x:Estate):Bool:=(Qw x).all (ZD n)&&(decide ((Qw x).length<=1000/\(QL x).length<=1000)&&(ZU (Zn x)&&(Zn x).all UZ))
theorem QbE {n:Nat}{x:Estate}(h:Yg n x=true):(Qw x).all (ZD n)=true/\((Qw x).length<=1000/\(QL x).length<=1000)/\ZU (Zn x)=true/\(Zn x).all UZ=true:=by
 simp only [Yg,Bc,Ba] at h
 exact ⟨h.1,h.2.1,h.2.2.1,h.2.2.2⟩
theorem QqQ {n:Nat}{x:Estate}(h:Yg n x=true)(hn:n<=90000):Jv x=true/\V4 x=true:=by
 obtain ⟨h1,⟨h2,h3⟩,h4,h5⟩:=QbE h
 have:Jv x=true:=by
  unfold Jv
  simp only [Bc,Ba]
  exact ⟨⟨by omega,by omega⟩,Bg.2 fun e he=>Qg0 (Bg.1 h1 e he) (by omega),h4⟩
 exact ⟨this,Bi.2 ⟨this,h5⟩⟩
def Xb (x:Estate)(c:Change):Estate×Int:=
 bif ilt c.1 0 then (zX,40) else bif ige c.1 (Qa (Qw x)) then (zX,40) else
 bif ine (Zs (Jo (Qw x) c.1.toNat) c).2 0 then (zX,(Zs (Jo (Qw x) c.1.toNat) c).2) else (((Qw x).set c.1.toNat (Zs (Jo (Qw x) c.1.toNat) c).1,(QL x,(Zn x,()))),0)
def XR (x:Estate)(c:Change):Bool:=Yg 80000 x&&Jm (Z1 c)
theorem QqR {p:Endpoint->Bool}{l:List Endpoint}(h:l.all p=true){k:Nat}(hk:k<l.length):p (Jo l k)=true:=by
 rw [show Jo l k=l[k] by simp only [Jo,Bk,Bf hk,BI]]
 exact Bg.1 h _ (Bw hk)
def tc_f43:TC:=aF Tryz.f43 [(14,pD [(0,[2]),(1,[2]),(2,[3]),(3,[3]),(4,[]),(5,[]),(6,[3]),(7,[]),(8,[]),(9,[]),(10,[]),(11,[6,5006,10006,15006]),(12,[6]),(13,[])] (.of [0,1,2,3,4,5,6,7,8,9,10,11,12,13]))]
def g_f43:G:=gG 45 [(70,Qmu),(71,QmQ)] (fun _ _=>none)
def r_f43 (p0:Estate)(p1:Change):OV:=
 let a1:=lgt Qo p0.1 (Int.toNat p1.1)
 br (ilt p1.1 0) (some (.tu [(.t QE (([]:List Endpoint),(([]:List Keep),(([]:List Item),())))),(.t tI 40)],[])) (br (ige p1.1 (Qa p0.1)) (some (.tu [(.t QE (([]:List Endpoint),(([]:List Keep),(([]:List Item),())))),(.t tI 40)],[])) (br (cIx p0.1 p1.1) (br (VW a1 p1) (br (ine ((Zs a1 p1).2) 0) (some (.tu [(.t QE (([]:List Endpoint),(([]:List Keep),(([]:List Item),())))),(.t tI ((Zs a1 p1).2))],[])) (br (V4 p0) (br (cIx ((XF p0).1) p1.1) (br (cLd ((XF p0).1) (Int.toNat p1.1)) (some (.tu [(.t QE ((List.set ((XF p0).1) (Int.toNat p1.1) ((Zs a1 p1).1)),(((XF p0).2).1,((((XF p0).2).2).1,())))),(.t tI 0)],[])) none) none) none)) none) none))
theorem s_f43 (x:Estate)(c:Change)(h:XR x c=true):r_f43 x c=some (.tu [.t QE (Xb x c).1,.t tI (Xb x c).2],[]):=by
 obtain ⟨hb,hi⟩:=Bi.1 h
 obtain ⟨_,hcp⟩:=QqQ hb (by decide)
 unfold r_f43 Xb
 cases h1:ilt c.1 0 with
 |true=>rfl
 |false=>
  cases h2:ige c.1 (Qa (Qw x)) with
  |true=>rfl
  |false=>
   simp only [ilt,ige,Qa,Bo] at h1 h2
   have hix:cIx (Qw x) c.1=true:=Be ⟨by omega,by omega⟩
   have hk:c.1.toNat<(Qw x).length:=by omega
   have ha:VW (Jo (Qw x) c.1.toNat) c=true:=Bi.2 ⟨QqR (QbE hb).1 hk,hi⟩
   rw [Qf,Qf]
   refine brY hix (brY ha ?_)
   cases h3:ine (Zs (Jo (Qw x) c.1.toNat) c).2 0 with
   |true=>rfl
   |false=>
    rw [Qf]
    exact brY hcp (brY hix (brY (Be hk) rfl))
def QqS:Ent:=Qk (.pr QE (.pr UJ .nil)) (fun x=>(XR x.1 x.2.1)) (fun x=>(.tu [(.t QE ((Xb x.1 x.2.1).1)),(.t tI ((Xb x.1 x.2.1).2))]))
theorem ms_f43:EM 43 QqS:=mS g_f43 tc_f43 [((.c 4 true 3),some QE),((.t 5),some tI)] false (gB (gD ms_f70 (gD ms_f71 gN))) fun m=>Qm m fun x hok=>kT (s_f43 x.1 x.2.1 hok)
end
end Go.Proofs.YtmjnnemhoeolgaaGreat.K
noncomputable section
namespace Go.Proofs.YtmjnnemhoeolgaaGreat.K
open Go.RowKit
noncomputable section
theorem Qs3 {n m:Nat}{x:Estate}(h:Yg n x=true)(hn:n<=m):Yg m x=true:=by
 obtain ⟨h1,h2,h3,h4⟩:=QbE h
 unfold Yg
 simp only [Bc,Ba]
 exact ⟨Bg.2 fun e he=>Qg1 (Bg.1 h1 e he) hn,h2,h3,h4⟩
theorem QiV (n:Nat):Yg n zX=true:=rfl
theorem QE4 {n:Nat}{x:Estate}{c:Change}(h:Yg n x=true)(hn:n<=80000)(hi:Jm (Z1 c)=true):Yg (n+1) (Xb x c).1=true:=by
 unfold Xb
 cases h1:ilt c.1 0 with
 |true=>exact QiV _
 |false=>
  cases h2:ige c.1 (Qa (Qw x)) with
  |true=>exact QiV _
  |false=>
   cases h3:ine (Zs (Jo (Qw x) c.1.toNat) c).2 0 with
   |true=>exact QiV _
   |false=>
    simp only [ilt,ige,Qa,Bo] at h1 h2
    have hk:c.1.toNat<(Qw x).length:=by omega
    obtain ⟨g1,g2,g3,g4⟩:=QbE h
    have ha:=QyY (QqR g1 hk) hn hi (IS h3)
    show Yg (n+1) ((Qw x).set c.1.toNat (Zs (Jo (Qw x) c.1.toNat) c).1,(QL x,(Zn x,())))=true
    unfold Yg
    simp only [Bc,Ba]
    refine ⟨Bg.2 fun e he=> ?_,⟨?_,g2.2⟩,g3,g4⟩
    ·rcases List.mem_or_eq_of_mem_set he with he|rfl
     ·exact Qg1 (Bg.1 g1 e he) (Nat.le_succ n)
     ·exact ha
    ·show ((Qw x).set c.1.toNat (Zs (Jo (Qw x) c.1.toNat) c).1).length<=1000
     rw [List.length_set]
     exact g2.1
end
end Go.Proofs.YtmjnnemhoeolgaaGreat.K
noncomputable section
namespace Go.Proofs.YtmjnnemhoeolgaaGreat.K
open Go.RowKit
def UX (r:Rule)(u:Keep)(p:Int):Bool:=(r.Alg==0||r.Alg==u.1)&&(r.Purpose==0||r.Purpose==p)&&(r.Below==0||(decide (u.2.1 > 0)&&decide (u.2.1<r.Below)))
def Qmv (r:Rule)(day:Int):Bool:=decide (r.From<=day)&&decide (day<r.To)
def E2 (r:Rule)(u:Keep)(p day:Int):Bool:=UX r u p&&Qmv r day
def Qy1:TC:=aF Tryz.f205 []
def g_f205:G:=gG 43 [] (fun _ _=>none)
def Qfo (p0:Rule)(p1:Keep)(p2:Int):OV:=br (ieq p0.2.2.1 0) (some (.t .bool true,[])) (br (igt p1.2.1 0) (some (.t .bool (ilt p1.2.1 p0.2.2.1),[])) (some (.t .bool false,[])))
def Qfp (p0:Rule)(p1:Keep)(p2:Int):OV:=br (ine p0.2.2.2.1 0) (br (ine p0.2.2.2.1 p2) (some (.t .bool false,[])) (Qfo p0 p1 p2)) (Qfo p0 p1 p2)
def Qmw (p0:Rule)(p1:Keep)(p2:Int):OV:=br (ine p0.2.1 0) (br (ine p0.2.1 p1.1) (some (.t .bool false,[])) (Qfp p0 p1 p2)) (Qfp p0 p1 p2)
theorem s_f205 (p0:Rule)(p1:Keep)(p2:Int):Qmw p0 p1 p2=some (.t .bool (UX p0 p1 p2),[]):=by
 simp only [Qmw,Qfp,Qfo]
 repeat' (refine QY ?_ ?_<;>intro _)
 all_goals (simp_all [UX,Estate.Endpoints,Estate.Edges,Estate.Items,Policy.Rules,Policy.Keeps,Dice.L,Dice.At,Keep.Client,Keep.Server,Endpoint.Name,Endpoint.Least,Endpoint.Most,Endpoint.Suites,Endpoint.OwnOrder,Endpoint.Identities,Endpoint.Anchors,Endpoint.Hashes,Endpoint.Fallback,Identity.Key,Identity.KeyId,Identity.Chain,Change.Endpoint,Change.Kind,Change.Number,Change.At,Change.Identity,Rule.Allow,Rule.Alg,Rule.Below,Rule.Purpose,Rule.From,Rule.To,Rules.p,Rules.l,Rules.o,Rules.day,Way.Outcome,Way.Most,Way.Suites,Item.Name,Item.Kind,Item.Purpose,Item.Links,Item.Until,Exception.Use,Exception.Purpose,Exception.Endpoint,Exception.Days,Exception.Seals,Method.outcome,Method.uses,Suite.Code,Suite.Name,Suite.Exchange,Suite.Sign,Suite.Cipher,Suite.Mac,Suite.Least,Suite.Most,Certificate.Serial,Certificate.Issuer,Certificate.Subject,Certificate.Key,Certificate.KeyId,Certificate.Hash,Certificate.From,Certificate.To,Certificate.Authority,Certificate.Path,Certificate.Names,Certificate.Seal,Link.Use,Link.Day,Talk.server,Talk.version,Talk.suites,Symbol.name,Symbol.kind,Row.name,Row.kind,Row.way,Row.sizes,Row.strengths]<;>omega)
def Qmx:Ent:=Qk (.pr JF (.pr Qd (.pr tI .nil))) (fun x=>true) (fun x=>(.t .bool (UX x.1 x.2.1 x.2.2.1)))
theorem Qy2:EM 205 Qmx:=mS g_f205 Qy1 [((.t 6),some .bool)] false (gB gN) fun m=>Qm m fun x _=>kT (s_f205 x.1 x.2.1 x.2.2.1)
def same (a b:List Keep):Bool:=a==b
end Go.Proofs.YtmjnnemhoeolgaaGreat.K
noncomputable section
namespace Go.Proofs.YtmjnnemhoeolgaaGreat.K
open Go.RowKit
def WI (r:Rule):Bool:=decide (0<=r.Alg/\r.Alg<=22/\0<=r.Below/\r.Below<=16384/\0<=r.Purpose/\r.Purpose<=4/\0<=r.From/\r.From<r.To/\r.To<=40001)
def Us (k:Keep):Bool:=decide (1<=k.1/\k.1<=4/\0<=k.2.1/\k.2.1<=40000)
def YF (r:Rule):Bool:= !WI r
def YG (k:Keep):Bool:= !Us k
def tc_f90:TC:=aF Tryz.f90 []
def g_f90:G:=gG 48 [] (fun _ _=>none)
def r_f90 (p0:Rule):OV:=br (ige p0.2.1 0) (br (ile p0.2.1 22) (br (ige p0.2.2.1 0) (br (ile p0.2.2.1 16384) (br (ige p0.2.2.2.1 0) (br (ile p0.2.2.2.1 4) (br (ige p0.2.2.2.2.1 0) (br (ilt p0.2.2.2.2.1 p0.2.2.2.2.2.1) (some (.t .bool (ile p0.2.2.2.2.2.1 40001),[])) (some (.t .bool false,[]))) (some (.t .bool false,[]))) (some (.t .bool false,[]))) (some (.t .bool false,[]))) (some (.t .bool false,[]))) (some (.t .bool false,[]))) (some (.t .bool false,[]))) (some (.t .bool false,[]))
theorem s_f90 (r:Rule):r_f90 r=some (.t .bool (WI r),[]):=by
 simp only [r_f90]
 repeat' (refine QY ?_ ?_<;>intro _)
 all_goals simp only [ige,ile,ilt,Ba,Bo,Estate.Endpoints,Estate.Edges,Estate.Items,Policy.Rules,Policy.Keeps,Dice.L,Dice.At,Keep.Client,Keep.Server,Endpoint.Name,Endpoint.Least,Endpoint.Most,Endpoint.Suites,Endpoint.OwnOrder,Endpoint.Identities,Endpoint.Anchors,Endpoint.Hashes,Endpoint.Fallback,Identity.Key,Identity.KeyId,Identity.Chain,Change.Endpoint,Change.Kind,Change.Number,Change.At,Change.Identity,Rule.Allow,Rule.Alg,Rule.Below,Rule.Purpose,Rule.From,Rule.To,Rules.p,Rules.l,Rules.o,Rules.day,Way.Outcome,Way.Most,Way.Suites,Item.Name,Item.Kind,Item.Purpose,Item.Links,Item.Until,Exception.Use,Exception.Purpose,Exception.Endpoint,Exception.Days,Exception.Seals,Method.outcome,Method.uses,Suite.Code,Suite.Name,Suite.Exchange,Suite.Sign,Suite.Cipher,Suite.Mac,Suite.Least,Suite.Most,Certificate.Serial,Certificate.Issuer,Certificate.Subject,Certificate.Key,Certificate.KeyId,Certificate.Hash,Certificate.From,Certificate.To,Certificate.Authority,Certificate.Path,Certificate.Names,Certificate.Seal,Link.Use,Link.Day,Talk.server,Talk.version,Talk.suites,Symbol.name,Symbol.kind,Row.name,Row.kind,Row.way,Row.sizes,Row.strengths] at*
 all_goals (apply G8;unfold WI;rw [DD];simp only [ige,ile,ilt,Ba,Estate.Endpoints,Estate.Edges,Estate.Items,Policy.Rules,Policy.Keeps,Dice.L,Dice.At,Keep.Client,Keep.Server,Endpoint.Name,Endpoint.Least,Endpoint.Most,Endpoint.Suites,Endpoint.OwnOrder,Endpoint.Identities,Endpoint.Anchors,Endpoint.Hashes,Endpoint.Fallback,Identity.Key,Identity.KeyId,Identity.Chain,Change.Endpoint,Change.Kind,Change.Number,Change.At,Change.Identity,Rule.Allow,Rule.Alg,Rule.Below,Rule.Purpose,Rule.From,Rule.To,Rules.p,Rules.l,Rules.o,Rules.day,Way.Outcome,Way.Most,Way.Suites,Item.Name,Item.Kind,Item.Purpose,Item.Links,Item.Until,Exception.Use,Exception.Purpose,Exception.Endpoint,Exception.Days,Exception.Seals,Method.outcome,Method.uses,Suite.Code,Suite.Name,Suite.Exchange,Suite.Sign,Suite.Cipher,Suite.Mac,Suite.Least,Suite.Most,Certificate.Serial,Certificate.Issuer,Certificate.Subject,Certificate.Key,Certificate.KeyId,Certificate.Hash,Certificate.From,Certificate.To,Certificate.Authority,Certificate.Path,Certificate.Names,Certificate.Seal,Link.Use,Link.Day,Talk.server,Talk.version,Talk.suites,Symbol.name,Symbol.kind,Row.name,Row.kind,Row.way,Row.sizes,Row.strengths,BK,false_iff];omega)
def QpE:Ent:=Qk (.pr JF .nil) (fun x=>true) (fun x=>(.t .bool (WI x.1)))
theorem ms_f90:EM 90 QpE:=mS g_f90 tc_f90 [((.t 2),some .bool)] false (gB gN) fun m=>Qm m fun x _=>kT (s_f90 x.1)
def tc_f93:TC:=aF Tryz.f93 []
def g_f93:G:=gG 21 [] (fun _ _=>none)
def r_f93 (p0:Keep):OV:=br (ige p0.1 1) (br (ile p0.1 4) (br (ige p0.2.1 0) (some (.t .bool (ile p0.2.1 40000),[])) (some (.t .bool false,[]))) (some (.t .bool false,[]))) (some (.t .bool false,[]))
theorem s_f93 (r:Keep):r_f93 r=some (.t .bool (Us r),[]):=by
 simp only [r_f93]
 repeat' (refine QY ?_ ?_<;>intro _)
 all_goals simp only [ige,ile,ilt,Ba,Bo,Estate.Endpoints,Estate.Edges,Estate.Items,Policy.Rules,Policy.Keeps,Dice.L,Dice.At,Keep.Client,Keep.Server,Endpoint.Name,Endpoint.Least,Endpoint.Most,Endpoint.Suites,Endpoint.OwnOrder,Endpoint.Identities,Endpoint.Anchors,Endpoint.Hashes,Endpoint.Fallback,Identity.Key,Identity.KeyId,Identity.Chain,Change.Endpoint,Change.Kind,Change.Number,Change.At,Change.Identity,Rule.Allow,Rule.Alg,Rule.Below,Rule.Purpose,Rule.From,Rule.To,Rules.p,Rules.l,Rules.o,Rules.day,Way.Outcome,Way.Most,Way.Suites,Item.Name,Item.Kind,Item.Purpose,Item.Links,Item.Until,Exception.Use,Exception.Purpose,Exception.Endpoint,Exception.Days,Exception.Seals,Method.outcome,Method.uses,Suite.Code,Suite.Name,Suite.Exchange,Suite.Sign,Suite.Cipher,Suite.Mac,Suite.Least,Suite.Most,Certificate.Serial,Certificate.Issuer,Certificate.Subject,Certificate.Key,Certificate.KeyId,Certificate.Hash,Certificate.From,Certificate.To,Certificate.Authority,Certificate.Path,Certificate.Names,Certificate.Seal,Link.Use,Link.Day,Talk.server,Talk.version,Talk.suites,Symbol.name,Symbol.kind,Row.name,Row.kind,Row.way,Row.sizes,Row.strengths] at*
 all_goals (apply G8;unfold Us;rw [DD];simp only [ige,ile,ilt,Ba,Estate.Endpoints,Estate.Edges,Estate.Items,Policy.Rules,Policy.Keeps,Dice.L,Dice.At,Keep.Client,Keep.Server,Endpoint.Name,Endpoint.Least,Endpoint.Most,Endpoint.Suites,Endpoint.OwnOrder,Endpoint.Identities,Endpoint.Anchors,Endpoint.Hashes,Endpoint.Fallback,Identity.Key,Identity.KeyId,Identity.Chain,Change.Endpoint,Change.Kind,Change.Number,Change.At,Change.Identity,Rule.Allow,Rule.Alg,Rule.Below,Rule.Purpose,Rule.From,Rule.To,Rules.p,Rules.l,Rules.o,Rules.day,Way.Outcome,Way.Most,Way.Suites,Item.Name,Item.Kind,Item.Purpose,Item.Links,Item.Until,Exception.Use,Exception.Purpose,Exception.Endpoint,Exception.Days,Exception.Seals,Method.outcome,Method.uses,Suite.Code,Suite.Name,Suite.Exchange,Suite.Sign,Suite.Cipher,Suite.Mac,Suite.Least,Suite.Most,Certificate.Serial,Certificate.Issuer,Certificate.Subject,Certificate.Key,Certificate.KeyId,Certificate.Hash,Certificate.From,Certificate.To,Certificate.Authority,Certificate.Path,Certificate.Names,Certificate.Seal,Link.Use,Link.Day,Talk.server,Talk.version,Talk.suites,Symbol.name,Symbol.kind,Row.name,Row.kind,Row.way,Row.sizes,Row.strengths,BK,false_iff];omega)
def QpF:Ent:=Qk (.pr Qd .nil) (fun x=>true) (fun x=>(.t .bool (Us x.1)))
theorem ms_f93:EM 93 QpF:=mS g_f93 tc_f93 [((.t 2),some .bool)] false (gB gN) fun m=>Qm m fun x _=>kT (s_f93 x.1)
def tc_f89:TC:=aF Tryz.f89 []
def g_f89:G:=gG 6 [(90,QpE)] (fun _ _=>none)
def r_f89 (p0:Rule):OV:=some (.t .bool (!(WI p0)),[])
theorem s_f89 (r:Rule):r_f89 r=some (.t .bool (YF r),[]):=rfl
def QpG:Ent:=Qk (.pr JF .nil) (fun x=>true) (fun x=>(.t .bool (YF x.1)))
theorem ms_f89:EM 89 QpG:=mS g_f89 tc_f89 [((.t 2),some .bool)] false (gB (gD ms_f90 gN)) fun m=>Qm m fun x _=>kT (s_f89 x.1)
def tc_f92:TC:=aF Tryz.f92 []
def g_f92:G:=gG 6 [(93,QpF)] (fun _ _=>none)
def r_f92 (p0:Keep):OV:=some (.t .bool (!(Us p0)),[])
theorem s_f92 (r:Keep):r_f92 r=some (.t .bool (YG r),[]):=rfl
def QpH:Ent:=Qk (.pr Qd .nil) (fun x=>true) (fun x=>(.t .bool (YG x.1)))
theorem ms_f92:EM 92 QpH:=mS g_f92 tc_f92 [((.t 2),some .bool)] false (gB (gD ms_f93 gN)) fun m=>Qm m fun x _=>kT (s_f92 x.1)
def J0 {α:Type}(m:α->Bool):List α->Option Nat
 | []=>none
 |a::l=>if m a then some 0 else (J0 m l).map (· + 1)
theorem Qa8 {α:Type}{m:α->Bool}: ∀ {l:List α},J0 m l=none↔l.any m=false
 | []=>by simp [J0]
 |a::l=>by
  have ih:=Qa8 (m:=m) (l:=l)
  unfold J0
  cases h:m a with
  |true=>simp [h]
  |false=>simpa [h] using ih
theorem QpI {α:Type}{m:α->Bool}{l:List α}{k:Nat}(h:J0 m l=some k):l.any m=true:=by
 cases hq:l.any m with
 |true=>rfl
 |false=>rw [Qa8.2 hq] at h;cases h
def Ye {α:Type}(l:List α):Bool:=decide (l.length<=100000)
def IE (l:List Rule):Int:=match J0 YF l with|some k=>(k:Int)|none=> -1
def IF (l:List Keep):Int:=match J0 YG l with|some k=>(k:Int)|none=> -1
abbrev Qa9:Sh:=⟨[(0,.ty (.sl JF)),(1,.cf 89),(7,.ty tI),(8,.ty tI)],[]⟩
abbrev Qg3:Sh:=⟨[(4,.ty tI)],[]⟩
abbrev Qba:Sh:=⟨[],[]⟩
def Qg4:Fg:=Qa9.f
def QpJ:TC:=aF Tryz.f130 [(26,pL 0 Qg4),(421,.fg Qba.f),(13517,.fg Qg3.f)]
def QpK:TC:=lb 0 QpJ
def QpL (x0:List Rule)(x7 x8:Int):VS:=Qa9.st (x0,(),x7,x8,()) ()
def FE (x4:Int):VS:=Qg3.st (x4,()) ()
def Qg5  : VS:=Qba.st () ()
def QBA:VS->Option (Bool×List (Bool×Exit×VS)):=mkL Qa9 (fun x y=>(Qt x.1 x.2.2.1 x.2.2.2.1)) (fun x y=>[(((J0 YF (x.1.drop x.2.2.2.1.toNat)).isSome),.ret,FE (x.2.2.2.1+((J0 YF (x.1.drop x.2.2.2.1.toNat)).getD 0:Nat))),(true,.exit 0,Qg5)])
def Qg6:G:=gG 19 [(89,QpG)] (Ls [QBA])
def Qbb (x0:List Rule)(x7 x8:Int):OX:=Qv (QB Qg6 Qg4 QpK) (QpL x0 x7 x8)
def IG (kk:List Rule->Int->Int->OX)(x0:List Rule)(x7 x8:Int):OX:=br (ilt x8 x7) (br (cIx x0 x8) (br (YF (lgt JF x0 (Int.toNat x8))) (some (.ret,FE x8)) (kk x0 x7 (Qg .i64 x8 1))) none) (some (.exit 0,Qg5))
def Qbc (x0:List Rule)(x7 x8:Int):OX:=
 let a1:=J0 YF (x0.drop x8.toNat)
 br (a1.isSome) (some (.ret,FE (x8+(a1.getD 0:Nat))))<|some (.exit 0,Qg5)
theorem QpM (x0:List Rule)(x7 x8:Int):Qbb x0 x7 x8=IG Qbb x0 x7 x8:=lnT (x:=IG (fun x0 x7 x8=>some (.normal,QpL x0 x7 x8)) x0 x7 x8) (by simp only [IG,nxA];rfl)
def QpN (p0:List Rule):OV:=
 let a1:=(J0 YF (p0.drop (0:Int).toNat))
 br (Qt p0 (Qa p0) (0:Int)) (br (a1.isSome) (some (.t tI ((0:Int)+(a1.getD 0:Nat)),[])) (some (.t tI (-1),[]))) none
theorem QBB (x0:List Rule)(x7 x8:Int)(h:(Qt x0 x7 x8)=true):Qbb x0 x7 x8=Qbc x0 x7 x8:=by
 obtain ⟨rfl,h3,k,rfl,hk⟩:=Jy h
 clear h
 refine QR x0 (fun k=>Qbb x0 (x0.length:Int) (k:Int)=Qbc x0 (x0.length:Int) (k:Int)) ?_ ?_ k hk
 ·rw [QpM]
  simp [IG,Qbc,QC,Qf,J0]
 ·intro k hk ih
  rw [QpM]
  simp only [IG,QC,QI,hk,Bv,Qc,Bd,QQ (show k<4611686018427387904 by omega),ih,QP (y:=JF) hk]
  simp only [Qbc,Bd,Bj hk,J0]
  cases h:YF x0[k] with
  |true=>simp [Qc]
  |false=>
   simp only [Qf,BK,Do]
   cases hq:J0 YF (x0.drop (k+1)) with
   |none=>rfl
   |some j=>
    simp only [B0,B8,BI,Qc]
    congr 3
    omega
theorem QBC:LO Qg6 Qg4 QpK 0:=QH (s:=Qa9) fun x y h _ q=>by simp only [QF,QG] at q;exact (QBB x.1 x.2.2.1 x.2.2.2.1 h).trans q
theorem QBD (l:List Rule)(h:Ye l=true):QpN l=some (.t tI (IE l),[]):=by
 simp only [Ye,Ba] at h
 simp only [QpN,Jz h,Qc,Bu,BA,IE]
 cases J0 YF l<;>simp [Qc,Qf]
def QpO:Ent:=ZM [.ty (.sl JF),.cf 89] [] (fun x d=>(Ye x.1)) (fun x d=>(.t tI (IE x.1)))
theorem QBE:EM 130 QpO:=mS (lk:=lkL (lkc QBC lkn)) Qg6 QpJ [((.t 4),some tI)] false (gB (gD ms_f89 gN)) fun m=>ZC m fun x d hok=>kT (QBD x.1 hok)
def FF (l:List Rule):Bool:=l.any YF
def QBF:TC:=aF Tryz.f88 []
def QBG:G:=gG 9 [(130,QpO)] (fun _ _=>none)
def QpP (p0:List Rule):OV:=br (Ye p0) (some (.t .bool (ige (IE p0) 0),[])) none
theorem QBH (l:List Rule)(h:Ye l=true):QpP l=some (.t .bool (FF l),[]):=by
 simp only [QpP,h,Qc]
 congr 3
 unfold IE FF
 cases hq:J0 YF l with
 |none=>rw [Qa8.1 hq];rfl
 |some k=>rw [QpI hq];simp only [ige,Ba];omega
def QpQ:Ent:=ZM [.ty (.sl JF),.cf 89] [] (fun x d=>(Ye x.1)) (fun x d=>(.t .bool (FF x.1)))
theorem QBI:EM 88 QpQ:=mS QBG QBF [((.t 4),some .bool)] false (gB (gD QBE gN)) fun m=>ZC m fun x d hok=>kT (QBH x.1 hok)
abbrev Qbd:Sh:=⟨[(0,.ty (.sl Qd)),(1,.cf 92),(7,.ty tI),(8,.ty tI)],[]⟩
def Qg7:Fg:=Qbd.f
def QpR:TC:=aF Tryz.f131 [(26,pL 0 Qg7),(421,.fg Qba.f),(13517,.fg Qg3.f)]
def QpS:TC:=lb 0 QpR
def QpT (x0:List Keep)(x7 x8:Int):VS:=Qbd.st (x0,(),x7,x8,()) ()
def Qg8  : VS:=Qba.st () ()
def QBJ:VS->Option (Bool×List (Bool×Exit×VS)):=mkL Qbd (fun x y=>(Qt x.1 x.2.2.1 x.2.2.2.1)) (fun x y=>[(((J0 YG (x.1.drop x.2.2.2.1.toNat)).isSome),.ret,FE (x.2.2.2.1+((J0 YG (x.1.drop x.2.2.2.1.toNat)).getD 0:Nat))),(true,.exit 0,Qg8)])
def Qg9:G:=gG 19 [(92,QpH)] (Ls [QBJ])
def Qbe (x0:List Keep)(x7 x8:Int):OX:=Qv (QB Qg9 Qg7 QpS) (QpT x0 x7 x8)
def IH (kk:List Keep->Int->Int->OX)(x0:List Keep)(x7 x8:Int):OX:=br (ilt x8 x7) (br (cIx x0 x8) (br (YG (lgt Qd x0 (Int.toNat x8))) (some (.ret,FE x8)) (kk x0 x7 (Qg .i64 x8 1))) none) (some (.exit 0,Qg8))
def Qbf (x0:List Keep)(x7 x8:Int):OX:=
 let a1:=J0 YG (x0.drop x8.toNat)
 br (a1.isSome) (some (.ret,FE (x8+(a1.getD 0:Nat))))<|some (.exit 0,Qg8)
theorem QpU (x0:List Keep)(x7 x8:Int):Qbe x0 x7 x8=IH Qbe x0 x7 x8:=lnT (x:=IH (fun x0 x7 x8=>some (.normal,QpT x0 x7 x8)) x0 x7 x8) (by simp only [IH,nxA];rfl)
def QpV (p0:List Keep):OV:=
 let a1:=(J0 YG (p0.drop (0:Int).toNat))
 br (Qt p0 (Qa p0) (0:Int)) (br (a1.isSome) (some (.t tI ((0:Int)+(a1.getD 0:Nat)),[])) (some (.t tI (-1),[]))) none
theorem QBK (x0:List Keep)(x7 x8:Int)(h:(Qt x0 x7 x8)=true):Qbe x0 x7 x8=Qbf x0 x7 x8:=by
 obtain ⟨rfl,h3,k,rfl,hk⟩:=Jy h
 clear h
 refine QR x0 (fun k=>Qbe x0 (x0.length:Int) (k:Int)=Qbf x0 (x0.length:Int) (k:Int)) ?_ ?_ k hk
 ·rw [QpU]
  simp [IH,Qbf,QC,Qf,J0]
 ·intro k hk ih
  rw [QpU]
  simp only [IH,QC,QI,hk,Bv,Qc,Bd,QQ (show k<4611686018427387904 by omega),ih,QP (y:=Qd) hk]
  simp only [Qbf,Bd,Bj hk,J0]
  cases h:YG x0[k] with
  |true=>simp [Qc]
  |false=>
   simp only [Qf,BK,Do]
   cases hq:J0 YG (x0.drop (k+1)) with
   |none=>rfl
   |some j=>
    simp only [B0,B8,BI,Qc]
    congr 3
    omega
theorem QBL:LO Qg9 Qg7 QpS 0:=QH (s:=Qbd) fun x y h _ q=>by simp only [QF,QG] at q;exact (QBK x.1 x.2.2.1 x.2.2.2.1 h).trans q
theorem QBM (l:List Keep)(h:Ye l=true):QpV l=some (.t tI (IF l),[]):=by
 simp only [Ye,Ba] at h
 simp only [QpV,Jz h,Qc,Bu,BA,IF]
 cases J0 YG l<;>simp [Qc,Qf]
def QpW:Ent:=ZM [.ty (.sl Qd),.cf 92] [] (fun x d=>(Ye x.1)) (fun x d=>(.t tI (IF x.1)))
theorem QBN:EM 131 QpW:=mS (lk:=lkL (lkc QBL lkn)) Qg9 QpR [((.t 4),some tI)] false (gB (gD ms_f92 gN)) fun m=>ZC m fun x d hok=>kT (QBM x.1 hok)
def FG (l:List Keep):Bool:=l.any YG
def QBO:TC:=aF Tryz.f91 []
def QBP:G:=gG 9 [(131,QpW)] (fun _ _=>none)
def QpX (p0:List Keep):OV:=br (Ye p0) (some (.t .bool (ige (IF p0) 0),[])) none
theorem QBQ (l:List Keep)(h:Ye l=true):QpX l=some (.t .bool (FG l),[]):=by
 simp only [QpX,h,Qc]
 congr 3
 unfold IF FG
 cases hq:J0 YG l with
 |none=>rw [Qa8.1 hq];rfl
 |some k=>rw [QpI hq];simp only [ige,Ba];omega
def QpY:Ent:=ZM [.ty (.sl Qd),.cf 92] [] (fun x d=>(Ye x.1)) (fun x d=>(.t .bool (FG x.1)))
theorem QBR:EM 91 QpY:=mS QBP QBO [((.t 4),some .bool)] false (gB (gD QBN gN)) fun m=>ZC m fun x d hok=>kT (QBQ x.1 hok)
theorem igt60 {α:Type}{l:List α}:igt (Qa l) 60= !decide (l.length<=60):=by
 have:igt (Qa l) 60=decide (60<l.length):=Qzu
 rw [this]
 by_cases h:l.length<=60
 ·rw [Be h,BG,Bo];omega
 ·rw [Bn h,Bool.not_false,Ba];omega
def FH (y:Policy):Bool:=y.1.all WI&&y.2.1.all Us&&decide (y.1.length<=60/\y.2.1.length<=60)
def XL (y:Policy):Int:=if FH y then 0 else 25
def Y7 (y:Policy):Bool:=Ye y.1&&Ye y.2.1
def tc_f51:TC:=aF Tryz.f51 []
def g_f51:G:=gG 25 [(88,QpQ),(91,QpY)] (fun _ _=>none)
def r_f51 (p0:Policy):OV:=br (Ye p0.1) (br (FF p0.1) (some (.t tI 25,[])) (br (Ye p0.2.1) (br (FG p0.2.1) (some (.t tI 25,[])) (br (igt (Qa p0.1) 60) (some (.t tI 25,[])) (br (igt (Qa p0.2.1) 60) (some (.t tI 25,[])) (some (.t tI 0,[]))))) none)) none
theorem s_f51 (y:Policy)(h:Y7 y=true):r_f51 y=some (.t tI (XL y),[]):=by
 simp only [Y7,Bc] at h
 simp only [r_f51,h.1,h.2,Qc]
 have e1:FF y.1= !y.1.all WI:=by simp [FF,List.any_eq_not_all_not,YF]
 have e2:FG y.2.1= !y.2.1.all Us:=by simp [FG,List.any_eq_not_all_not,YG]
 rw [e1,e2]
 unfold XL FH
 rw [igt60,igt60]
 by_cases h1:y.1.length<=60<;>by_cases h2:y.2.1.length<=60<;>cases y.1.all WI<;>cases y.2.1.all Us<;>simp [Qc,Qf,h1,h2]
def Qha:Ent:=Qk (.pr YO .nil) (fun x=>(Y7 x.1)) (fun x=>(.t tI (XL x.1)))
theorem QpZ:EM 51 Qha:=mS g_f51 tc_f51 [((.t 2),some tI)] false (gB (gD QBI (gD QBR gN))) fun m=>Qm m fun x hok=>kT (s_f51 x.1 hok)
end Go.Proofs.YtmjnnemhoeolgaaGreat.K
noncomputable section
namespace Go.Proofs.YtmjnnemhoeolgaaGreat.K
open Go.RowKit
def YT {α:Type}(l:List α):List (Int×(α×Unit)):=(l.zipIdx.map fun p=>((p.2:Int),(p.1,()))).reverse
def QlC:Itr:=Fa [.ptr 50000 0] [(.sl JF)] (.pr tI (.pr JF .nil)) (fun d=>true) (fun d=>(YT d.1))
def QKd:TC:=aF Tryz.f204 []
def g_f204:G:=gG 4 [] (fun _ _=>none)
def r_f204 (p0:List Rule):OV:=some (.fn 226 [(.ptr 50000 0)],[.box (.t (.sl JF) p0)])
def QxO:Ent:=WD (.pr (.sl JF) .nil) (fun _=>true) (fun x=> .fn 226 [.ptr 50000 0]) (fun x=>[.box (.t (.sl JF) x.1)])
theorem QKe:EM 204 QxO:=mS g_f204 QKd [((.t 2),none)] true (gB gN) fun m=>QgM m fun x _=>by kernel_rfl
end Go.Proofs.YtmjnnemhoeolgaaGreat.K
noncomputable section
namespace Go.Proofs.YtmjnnemhoeolgaaGreat.K
open Go.RowKit Go.Shelf
attribute [local go_sem] Oper.semAt_some
def YJ (vs:List Value)(sz:Nat):Nat->List (Array Value)
 |0=>[]
 |k+1=> #[.int .i64 (k:Int),.agg ((vs.drop (k*sz)).take sz).toArray]::YJ vs sz k
theorem QDa (vs:List Value)(sz:Nat): ∀ n k,k<n->(YJ vs sz n).drop k=YJ vs sz (n-k)
 |0,k,h=>by omega
 |n+1,0,_=>rfl
 |n+1,k+1,h=>by
  rw [YJ,List.drop_succ_cons,QDa vs sz n k (by omega)]
  congr 1
  omega
theorem w64 (m:Nat)(h:m<=maxLen):wrap64 ((m:Int)-1)=(m:Int)-1:=by
 simp only [maxLen] at h
 unfold wrap64
 omega
set_option maxRecDepth 100000 in
set_option maxHeartbeats 1000000 in
theorem QDb (Bs b0 off c n:Nat)(A:Option Addr)(vs:List Value)(Xf:Nat->Nat->Prop)(w:World)(hnc:n<=c)(hcm:c<=maxLen)
  (hBs:w.cell? ⟨Bs,0,none⟩=some (.slice A n c)) (hBl:Bs<w.heap.size) (hBx: ∀ q, ¬ Xf Bs q)
  (hA:0<n->A=some ⟨b0,off,none⟩/\vs.length=n*6/\b0<w.heap.size/\(∀ j,j<vs.length→ ¬ Xf b0 (off+j))∧ ∀ j v,vs[j]? = some v->w.cell? ⟨b0,off+j,none⟩=some v):
  UO Tryz.prog 226 [.pointer (some ⟨Bs,0,none⟩)] (YJ vs 6 n) Xf w:=by
 intro l J Jx W hJ hJx hK hY h0 _
 have HA:=Lib.hid hA
 clear hA
 refine callsIn_of_wp (F:=Fw none) Tryz.func226 rfl trivial ?_ rfl
 simp only [Tryz.ntmps226,List.size_toArray,Bt,BD,Nat.reduceAdd,Nat.reduceSub,Array.replicate_succ,Array.replicate_zero,List.push_toArray,List.append_toArray,BT,Dv]
 have hb0:W.cell? ⟨Bs,0,none⟩=some (.slice A n c):=((hK _ W h0).2 Bs 0 hBl (hBx 0)).trans hBs
 gi_wp2
 gi_loopw [3] (fun i wr=> ∃ k:Nat,k<=n/\i= .int .i64 ((k:Int)-1)/\J (YJ vs 6 k) wr)
  (fun i _=>(intOf i+1).toNat)
 case atStart=>exact ⟨n,BJ _,congrArg (Value.int .i64) (w64 n (by omega)),h0⟩
 case round=>
  obtain ⟨k,hk,rfl,hJs⟩:=hrel
  have hbx:wr.cell? ⟨Bs,0,none⟩=some (.slice A n c):=((hK _ wr hJs).2 Bs 0 hBl (hBx 0)).trans hBs
  cases k with
  |zero=>
   gi_wp2
   go_end0
   exact ⟨⟨_,rfl⟩,.inl hJs⟩
  |succ q=>
   obtain ⟨rfl,hvl,hbl,hnx,hcl⟩:=HA.out (by omega)
   obtain ⟨fn,tmps,assign,body,hy,hR⟩:=hY _ _ wr hJs
   have cel: ∀ i,i<6→ ∃ v,vs[q*6+i]? = some v/\wr.cell? ⟨b0,off+(q*6+i),none⟩=some v:=by
    intro i hi
    have hlt:q*6+i<vs.length:=by omega
    exact ⟨_,Bf hlt,((hK _ wr hJs).2 b0 _ hbl (hnx _ hlt)).trans (hcl _ _ (Bf hlt))⟩
   obtain ⟨v0,e0,c0⟩:=cel 0 (by omega)
   obtain ⟨v1,e1,c1⟩:=cel 1 (by omega)
   obtain ⟨v2,e2,c2⟩:=cel 2 (by omega)
   obtain ⟨v3,e3,c3⟩:=cel 3 (by omega)
   obtain ⟨v4,e4,c4⟩:=cel 4 (by omega)
   obtain ⟨v5,e5,c5⟩:=cel 5 (by omega)
   rw [DI] at e0 c0
   rw [←DC] at c1 c2 c3 c4 c5
   have hag:((vs.drop (q*6)).take 6)=[v0,v1,v2,v3,v4,v5]:=by
    apply List.ext_getElem?
    intro i
    rcases B9 i 6 with hi|hi
    ·rw [List.getElem?_take_of_lt hi,Dg]
     rcases i with _|_|_|_|_|_|i
     ·rw [DI,e0];rfl
     ·rw [e1];rfl
     ·rw [e2];rfl
     ·rw [e3];rfl
     ·rw [e4];rfl
     ·rw [e5];rfl
     ·omega
    ·rw [List.getElem?_take_eq_none hi,DN (by simpa using hi)]
   rw [hag] at hy
   have q1:((q+1:Nat):Int)-1=(q:Int):=by omega
   rw [q1]
   clear hnx hcl cel hY
   gi_wp2
   refine hR.mono ?_
   rintro e W3 (⟨rfl,hJ3⟩|⟨rfl,hJx3⟩)
   ·gi_wp2
    go_roundw
    case rel=>exact ⟨q,by omega,congrArg (Value.int .i64) (w64 q (by omega)),hJ3⟩
    case measure=>simp [intOf,w64 q (by omega)]
   ·gi_wp2
    refine bodyPost_ret (results_none rfl _ _ _) rfl ?_
    exact ⟨⟨_,rfl⟩,.inr hJx3⟩
theorem QhH (vs:List Value)(sz:Nat): ∀ n,(YJ vs sz n).length=n
 |0=>rfl
 |n+1=>by rw [YJ,Bt,QhH vs sz n]
theorem QqN (vs:List Value)(sz:Nat): ∀ n i,i<n->(YJ vs sz n)[i]? = some #[.int .i64 ((n-1-i:Nat):Int),.agg ((vs.drop ((n-1-i)*sz)).take sz).toArray]
 |0,i,h=>by omega
 |n+1,0,_=>by simp [YJ]
 |n+1,i+1,h=>by
  rw [YJ,BS,QqN vs sz n i (by omega)]
  have:n-1-i=n+1-1-(i+1):=by omega
  rw [this]
theorem QDc {α:Type}(l:List α)(i:Nat)(h:i<l.length):(YT l)[i]? = some (((l.length-1-i:Nat):Int),(l[l.length-1-i]'(by omega),())):=by
 unfold YT
 rw [List.getElem?_reverse (by simpa using h)]
 simp
theorem QDd {P:Program}{gf:FuncId}{y:Ty}{sz:Nat}(hgf:gf<1000000)(hrow:y.row=true)(hsz:y.sz=sz)(eg: ∀ args w,(callFunc gf args).run P w= .ok (.enter gf args) w)
  (hw: ∀ (Bs b0 off c n:Nat) (A:Option Addr) (vs:List Value) (Xf:Nat->Nat->Prop) (w:World),n<=c->c<=maxLen->w.cell? ⟨Bs,0,none⟩=some (.slice A n c)->Bs<w.heap.size->(∀ q, ¬ Xf Bs q)→
   (0<n->A=some ⟨b0,off,none⟩/\vs.length=n*sz/\b0<w.heap.size/\(∀ j,j<vs.length→ ¬ Xf b0 (off+j))∧ ∀ j v,vs[j]? = some v->w.cell? ⟨b0,off+j,none⟩=some v)->UO P gf [.pointer (some ⟨Bs,0,none⟩)] (YJ vs sz n) Xf w):
  Iters P gf (Fa [.ptr 50000 0] [.sl y] (.pr (.int .i64) (.pr y .nil)) (fun _=>true) (fun d=>YT d.1)):=by
 refine Iters.weak hgf eg fun caps objs yr rows h X w σ lb hfin hl hc=> ?_
 unfold Fa at h
 split at h
 ·rename_i x d hx hd
  simp only [Bb,Bm,true_and] at h
  cases h
  have hcaps:=Fu hx
  subst hcaps
  cases objs with
  |nil=>simp [ZB] at hd
  |cons o os=>
   cases o with
   |box cv=>
    cases os with
    |cons o2 os=>simp [ZB] at hd
    |nil=>
     simp only [ZB] at hd
     split at hd
     ·rename_i l u hl1 _
      simp only [Bb] at hd
      subst hd
      have hcv:=SV.rd_mk (s:= .ty (.sl y)) (v:=cv) (x:=l) (by simpa [Iz,Ty.row] using hl1)
      subst hcv
      obtain ⟨⟨Bs,ty,us,h1,h2,h3,h4⟩,_⟩:=hl.at_ 0 _ rfl
      have h3':Cs X w σ [.sl (List.length l) (List.flatMap y.cells l)] us:=h3
      obtain ⟨uv,rfl,h5⟩:=h3'.one
      simp only [C] at h5
      obtain ⟨A,c,rfl,g1,g2,g3,g4⟩:=h5
      simp only [Ur,SV.mk,V.ds,V.d,Cs,C] at hc
      obtain ⟨p,ps,rfl,⟨b',e1,rfl⟩,rfl⟩:=hc
      have h1:σ 50000= .box Bs:=h1
      rw [h1] at e1
      injection e1 with e1
      subst e1
      have hcell:w.cell? ⟨Bs,0,none⟩=some (.slice A (List.length l) c):=by simp [World.cell?, h2]
      have hBl:=(BW.1 h2).1
      have hBx: ∀ q, ¬ (X Bs q∧ ∀ j,j<[VO.box ((SV.ty (.sl y)).mk l)].length->(σ (50000+j)).blk≠some Bs):=fun q hq=>hq.2 0 (by simp) (by rw [h1];rfl)
      rcases DP (List.length l) with h0|hp
      ·have hl0:l=[]:=By h0
       subst hl0
       exact ⟨YJ [] sz 0,⟨rfl,fun i r v hr=>by simp [YT] at hr⟩,hw Bs 0 0 c 0 A [] _ w g1 g2 hcell hBl hBx (fun h=>absurd h (by omega))⟩
      ·obtain ⟨b0,off,vs,rfl,g5,g6⟩:=g4 hp
       have hvl:=g5.len
       rw [WM,hsz] at hvl
       refine ⟨YJ vs sz (List.length l),⟨by rw [QhH];simp [YT],fun i r v hr hv=> ?_⟩,hw Bs b0 off c (List.length l) _ vs _ w g1 g2 hcell hBl hBx (fun _=>⟨rfl,hvl,g6.lt,fun j hj hx=>g6.nx j hj hx.1,fun j v hv=>g6.at_ j v hv⟩)⟩
       have hi:i<List.length l:=by
        have:=(BB.1 hv).1
        rwa [QhH] at this
       rw [QDc _ _ hi] at hr
       rw [QqN _ _ _ _ hi] at hv
       injection hr with hr
       injection hv with hv
       subst hr hv
       simp only [Ty.canon,V.ds,V.d,Cs]
       refine ⟨_,_,rfl,(by simp only [Ty.d,C];exact ⟨trivial,rfl⟩),_,_,rfl, ?_,rfl⟩
       rw [Ty.d_row _ _ hrow]
       simp only [C]
       refine ⟨_,rfl, ?_⟩
       have k1:=(g5.drop_ ((List.length l-1-i)*y.sz))
       rw [Gj,Bj (by omega),BL] at k1
       have k2:=k1.take_ y.sz
       rw [List.take_left' (y.cells_len _),hsz] at k2
       exact k2
     ·cases hd
   |no=>simp [ZB] at hd
   |arr e t l=>simp [ZB] at hd
 ·cases h
theorem QDe:Iters Tryz.prog 226 QlC:=
 QDd (y:=JF) (sz:=6) (by decide) rfl rfl (enters_of Tryz.func226 (by kernel_rfl) rfl) QDb
end Go.Proofs.YtmjnnemhoeolgaaGreat.K
noncomputable section
namespace Go.Proofs.YtmjnnemhoeolgaaGreat.K
open Go.RowKit
def Ej (zs:List (Int×(Rule×Unit)))(u:Keep)(p d:Int):Option Int:=(zs.find? fun z=>E2 z.2.1 u p d).map (·.1)
def Ov (zs:List (Int×(Rule×Unit)))(u:Keep)(p d _x:Int):Bool:=(Ej zs u p d).isSome
def Ow (zs:List (Int×(Rule×Unit)))(u:Keep)(p d _x:Int):Int:=(Ej zs u p d).getD 0
def Yr (y:Policy)(u:Keep)(p d:Int):Int:=(Ej (YT y.1) u p d).getD (-1)
abbrev QcU:Sh:=⟨[(5,.ptr 60000 0),(6,.ptr 60001 0),(7,.ptr 60002 0),(8,.ptr 60003 0)],[(60000,.box Qd),(60001,.box tI),(60002,.box tI),(60003,.bag [.ty tI])]⟩
def UF:Fg:=QcU.f
def QcV:TC:=(.sq (.reg (rT Tryz.f176 2)) (.reg (rT Tryz.f176 3)))
def QcW:TC:=(.bk 1 (.sq (.reg (rT Tryz.f176 4)) (.cd (.t 31) (.sq (.reg (rT Tryz.f176 5)) (.fg ⟨[],[(60000,some Qd),(60001,some tI),(60002,some tI),(60003,none)]⟩ .rt)) .sk)))
def QF5:TC:=(.sq (.reg (rT Tryz.f176 0)) (.sq (.sq (.reg (rT Tryz.f176 1)) (.bk 0 (.rf 0 UF (.t 13) (.pr tI (.pr JF .nil)) [14,15] [5,6,7,8] QcV QcW))) (.sq (.reg (rT Tryz.f176 6)) .rt)))
def Xy (Jr:Keep)(Jq Jl JT:Int):VS:=QcU.st ((),(),(),(),()) (Jr,Jq,Jl,(JT,()),())
def QcX:VS->List (Ty.T (.pr tI (.pr JF .nil)))->Option (Bool×List (Bool×Exit×VS)):=mkR QcU (fun zs x y=>true) (fun zs x y=>[((Ov zs y.1 y.2.1 y.2.2.1 y.2.2.2.1.1),.ret,Xy (y.1) (y.2.1) (y.2.2.1) (Ow zs y.1 y.2.1 y.2.2.1 y.2.2.2.1.1)),(true,.normal,Xy (y.1) (y.2.1) (y.2.2.1) (y.2.2.2.1.1))])
def Ek:G:=⟨TYs,[],33,EL [(204,QxO),(205,Qmx)],Wp,(Ls [fun _=>none]),IL [(226,QlC)],(RL [⟨(.pr tI (.pr JF .nil)),QcX⟩])⟩
def QtP (z:(Int×(Rule×Unit)))(Jr:Keep)(Jq Jl JT:Int):OX:=br (UX z.2.1 Jr Jq) (br (ile z.2.1.2.2.2.2.1 Jl) (br (ilt Jl z.2.1.2.2.2.2.2.1) (some (.ret,Xy Jr Jq Jl z.1)) (some (.normal,Xy Jr Jq Jl JT))) (some (.normal,Xy Jr Jq Jl JT))) (some (.normal,Xy Jr Jq Jl JT))
def El (zs:List (Int×(Rule×Unit)))(Jr:Keep)(Jq Jl JT:Int):OX:=YR (X5 Ek UF (.pr tI (.pr JF .nil)) [14,15] QcV QcW) zs (Xy Jr Jq Jl JT)
def Qjc (z:(Int×(Rule×Unit)))(zs:List (Int×(Rule×Unit)))(Jr:Keep)(Jq Jl JT:Int):OX:=br (UX z.2.1 Jr Jq) (br (ile z.2.1.2.2.2.2.1 Jl) (br (ilt Jl z.2.1.2.2.2.2.2.1) (some (.ret,Xy Jr Jq Jl z.1)) (El zs Jr Jq Jl JT)) (El zs Jr Jq Jl JT)) (El zs Jr Jq Jl JT)
def QtQ (zs:List (Int×(Rule×Unit)))(Jr:Keep)(Jq Jl JT:Int):OX:=br (Ov zs Jr Jq Jl JT) (some (.ret,Xy (Jr) (Jq) (Jl) (Ow zs Jr Jq Jl JT)))<|some (.normal,Xy (Jr) (Jq) (Jl) (JT))
theorem QF6 (z:(Int×(Rule×Unit)))(Jr:Keep)(Jq Jl JT:Int):X5 Ek UF (.pr tI (.pr JF .nil)) [14,15] QcV QcW z (Xy Jr Jq Jl JT)=QtP z Jr Jq Jl JT:=by kernel_rfl
theorem QF7 (Jr:Keep)(Jq:Int)(Jl:Int)(JT:Int):El [] Jr Jq Jl JT=some (.normal,Xy Jr Jq Jl JT):=rfl
theorem QF8 (z:(Int×(Rule×Unit)))(zs:List (Int×(Rule×Unit)))(Jr:Keep)(Jq Jl JT:Int):El (z::zs) Jr Jq Jl JT=Qjc z zs Jr Jq Jl JT:=(Qpm _ _ _ _).trans (by
 rw [QF6]
 simp only [QtP,Qjc,Fv,Iu,Iv,Iw,Ix]
 rfl)
def QtR (p0:Policy)(p1:Keep)(p2 p3:Int):OV:=br (Ov (YT p0.1) p1 p2 p3 0) (some (.t tI (Ow (YT p0.1) p1 p2 p3 0),[])) (some (.t tI (-1),[]))
theorem QF9 (zs:List (Int×(Rule×Unit)))(Jr:Keep)(Jq Jl JT:Int)(h:true=true):El zs Jr Jq Jl JT=QtQ zs Jr Jq Jl JT:=by
 clear h
 induction zs with
 |nil=>
  rw [QF7]
  rfl
 |cons z zs ih=>
  rw [QF8]
  simp only [Qjc,ih,QtQ,Ov,Ow,Ej,List.find?_cons,E2,Qmv,ile,ilt,Estate.Endpoints,Estate.Edges,Estate.Items,Policy.Rules,Policy.Keeps,Dice.L,Dice.At,Keep.Client,Keep.Server,Endpoint.Name,Endpoint.Least,Endpoint.Most,Endpoint.Suites,Endpoint.OwnOrder,Endpoint.Identities,Endpoint.Anchors,Endpoint.Hashes,Endpoint.Fallback,Identity.Key,Identity.KeyId,Identity.Chain,Change.Endpoint,Change.Kind,Change.Number,Change.At,Change.Identity,Rule.Allow,Rule.Alg,Rule.Below,Rule.Purpose,Rule.From,Rule.To,Rules.p,Rules.l,Rules.o,Rules.day,Way.Outcome,Way.Most,Way.Suites,Item.Name,Item.Kind,Item.Purpose,Item.Links,Item.Until,Exception.Use,Exception.Purpose,Exception.Endpoint,Exception.Days,Exception.Seals,Method.outcome,Method.uses,Suite.Code,Suite.Name,Suite.Exchange,Suite.Sign,Suite.Cipher,Suite.Mac,Suite.Least,Suite.Most,Certificate.Serial,Certificate.Issuer,Certificate.Subject,Certificate.Key,Certificate.KeyId,Certificate.Hash,Certificate.From,Certificate.To,Certificate.Authority,Certificate.Path,Certificate.Names,Certificate.Seal,Link.Use,Link.Day,Talk.server,Talk.version,Talk.suites,Symbol.name,Symbol.kind,Row.name,Row.kind,Row.way,Row.sizes,Row.strengths]
  cases h1:UX z.2.1 Jr Jq<;>cases h2:decide (z.2.1.2.2.2.2.1<=Jl)<;>cases h3:decide (Jl<z.2.1.2.2.2.2.2.1)<;>simp [Qc,Qf]
theorem QGa: ∀ S (rows:List (Ty.T (.pr tI (.pr JF .nil)))) l p,Ek.R 0 (fgt UF S) (.pr tI (.pr JF .nil)) rows=some (true,l)->Z8 l=some p->YR (X5 Ek UF (.pr tI (.pr JF .nil)) [14,15] QcV QcW) rows (fgt UF S)=some p:=by
 intro S rows l p hR hp
 rw [show Ek.R 0 (fgt UF S) (.pr tI (.pr JF .nil)) rows=QcX (fgt UF S) rows from RL_at (l:=[⟨(.pr tI (.pr JF .nil)),QcX⟩]) (j:=0) (F:=QcX) rfl _ _] at hR
 refine Qpl (s:=QcU) ⟨by decide,by decide⟩ (by kernel_rfl) (fun zs x y hok p hp=> ?_) S rows l p hR hp
 simp only [QF,QG] at hp
 exact (QF9 zs y.1 y.2.1 y.2.2.1 y.2.2.2.1.1 (by first|rfl|simpa using hok)).trans hp
theorem s_f176 (p0:Policy)(p1:Keep)(p2 p3:Int):QtR p0 p1 p2 p3=some (.t tI (Yr p0 p1 p2 p3),[]):=by
 simp only [QtR,Yr,Ov,Ow]
 cases Ej (YT p0.1) p1 p2 p3<;>simp [Qc,Qf]
def Qjd:Ent:=Qk (.pr YO (.pr Qd (.pr tI (.pr tI .nil)))) (fun x=>true) (fun x=>(.t tI (Yr x.1 x.2.1 x.2.2.1 x.2.2.2.1)))
theorem QtS:EM 176 Qjd:=mS (lk:=(by repeat first|exact trivial|exact QGa|constructor)) Ek QF5 [((.c 8 false 1),some tI)] false (ZW _ (gA (gD QKe (gD Qy2 gN)))
 [(226,QlC)] (by
 intro p hp
 simp only [BY,Dk,or_false] at hp
 rcases hp with rfl
 ·exact QDe)) fun m=>Qm m fun x _=>kT (s_f176 x.1 x.2.1 x.2.2.1 x.2.2.2.1)
end Go.Proofs.YtmjnnemhoeolgaaGreat.K
noncomputable section
namespace Go.Proofs.YtmjnnemhoeolgaaGreat.K
open Go.RowKit
def Zv {α:Type}(m:α->Bool):List α->Option Nat
 | []=>none
 |a::l=>match Zv m l with
  |some k=>some (k+1)
  |none=>if m a then some 0 else none
theorem QvZ {α:Type}{m:α->Bool}{l2:List α}: ∀ l1:List α,Zv m (l1++l2)=match Zv m l2 with|some k=>some (l1.length+k)|none=>Zv m l1
 | []=>by
  simp only [BT,BD,DR]
  cases Zv m l2<;>rfl
 |a::l1=>by
  simp only [Dv,Zv,QvZ l1,Bt]
  cases Zv m l2 with
  |none=>rfl
  |some k=>simp only [Bb];omega
theorem Qv0 {α:Type}{m:α->Bool}: ∀ {l:List α},Zv m l=none↔ ∀ a,a∈l->m a=false
 | []=>by simp [Zv]
 |a::l=>by
  have ih:=Qv0 (m:=m) (l:=l)
  simp only [Zv]
  cases h:Zv m l with
  |some k=>
   have: ¬ ∀ a,a∈l->m a=false:=fun g=>by rw [ih.2 g] at h;cases h
   simp only [BY,forall_eq_or_imp,reduceCtorEq,false_iff,not_and]
   exact fun _=>this
  |none=>
   have g:=ih.1 h
   cases hm:m a<;>simp_all
theorem Qkv {α:Type}{m:α->Bool}: ∀ {l:List α} {k:Nat},Zv m l=some k↔ ∃ h:k<l.length,m l[k]=true∧ ∀ j (hj:j<l.length),k<j->m l[j]=false
 | [],k=>by simp [Zv]
 |a::l,k=>by
  have ih:= @Qkv α m l
  simp only [Zv]
  cases h:Zv m l with
  |some i=>
   obtain ⟨h1,h2,h3⟩:=ih.1 h
   simp only [Bb]
   constructor
   ·rintro rfl
    refine ⟨by simp;omega,by simpa using h2,fun j hj hk=> ?_⟩
    cases j with
    |zero=>omega
    |succ j=>simpa using h3 j (by simpa using hj) (by omega)
   ·rintro ⟨g1,g2,g3⟩
    cases k with
    |zero=>
     have:=g3 (i+1) (by simp;omega) (by omega)
     simp [h2] at this
    |succ k=>
     have g1':k<l.length:=by simpa using g1
     simp only [DJ] at g2
     have:Zv m l=some k:=ih.2 ⟨g1',g2,fun j hj hk=>by have:=g3 (j+1) (by rw [Bt];omega) (by omega);rwa [DJ] at this⟩
     rw [this] at h
     injection h with h
     omega
  |none=>
   have g:=Qv0.1 h
   cases hm:m a with
   |true=>
    simp only [if_true,Bb]
    constructor
    ·rintro rfl
     refine ⟨by simp,by simpa using hm,fun j hj hk=> ?_⟩
     cases j with
     |zero=>omega
     |succ j=>simp only [DJ];exact g _ (Bw _)
    ·rintro ⟨g1,g2,g3⟩
     cases k with
     |zero=>rfl
     |succ k=>
      simp only [DJ] at g2
      rw [g _ (Bw _)] at g2
      cases g2
   |false=>
    simp only [BK,Do,reduceCtorEq,false_iff]
    rintro ⟨g1,g2,g3⟩
    cases k with
    |zero=>simp [hm] at g2
    |succ k=>
     simp only [DJ] at g2
     rw [g _ (Bw _)] at g2
     cases g2
theorem QId {α:Type}(l:List α)(a:α):YT (l++[a])=((l.length:Int),(a,()))::YT l:=by
 unfold YT
 simp [List.zipIdx_append]
theorem QIe {α:Type}{P:List α->Prop}(h0:P [])(h1: ∀ l a,P l->P (l++[a]))(l:List α):P l:=by
 have: ∀ r:List α,P r.reverse:=by
  intro r
  induction r with
  |nil=>exact h0
  |cons a r ih=>rw [List.reverse_cons];exact h1 _ _ ih
 have h:=this l.reverse
 rwa [List.reverse_reverse] at h
theorem QIf {α:Type}{m:α->Bool}(l:List α):((YT l).find? fun z=>m z.2.1).map (·.1)=(Zv m l).map fun k:Nat=>(k:Int):=by
 induction l using QIe with
 |h0=>rfl
 |h1 l a ih=>
  rw [QId,List.find?_cons,QvZ]
  simp only [Zv]
  cases hm:m a
  ·simpa using ih
  ·simp
def OY (rs:List Rule)(u:Keep)(p d:Int):Option Nat:=Zv (fun r=>E2 r u p d) rs
theorem Qv1 {y:Policy}{u:Keep}{p d:Int}:Yr y u p d=match OY y.1 u p d with|some k=>(k:Int)|none=> -1:=by
 unfold Yr Ej OY
 rw [QIf (m:=fun r=>E2 r u p d)]
 cases Zv (fun r=>E2 r u p d) y.1<;>rfl
theorem QIg {y:Policy}{u:Keep}{p d:Int}: -1<=Yr y u p d/\Yr y u p d<y.1.length:=by
 rw [Qv1]
 cases h:OY y.1 u p d with
 |none=>simp only;omega
 |some k=>
  obtain ⟨h1,_⟩:=Qkv.1 h
  simp only
  omega
def allL (rs:List Rule)(u:Keep)(p d:Int):Bool:=match OY rs u p d with
 |some k=>(rs[k]?.map fun r:Rule=>r.1).getD true
 |none=>true
def Ey (y:Policy)(u:Keep)(p d:Int):Bool:=allL y.1 u p d
def ends (rs:List Rule):List Int:=rs.flatMap fun r=>[r.2.2.2.2.1,r.2.2.2.2.2.1]
end Go.Proofs.YtmjnnemhoeolgaaGreat.K
noncomputable section
namespace Go.Proofs.YtmjnnemhoeolgaaGreat.K
open Go.RowKit
def QFX:TC:=aF Tryz.f175 []
def g_f175:G:=gG 25 [(176,Qjd)] (fun _ _=>none)
def QtJ (p0:Policy)(p1:Keep)(p2 p3:Int):OV:=
 let a1:=Yr p0 p1 p2 p3
 br (ilt a1 0) (some (.t .bool true,[])) (br (cIx p0.1 a1) (some (.t .bool ((lgt JF p0.1 (Int.toNat a1)).1),[])) none)
theorem QFY (y:Policy)(u:Keep)(p d:Int):Ey y u p d=(ilt (Yr y u p d) 0||(y.1.getD (Yr y u p d).toNat JF.zero).1):=by
 unfold Ey allL
 have h:=Qv1 (y:=y) (u:=u) (p:=p) (d:=d)
 cases hq:OY y.1 u p d with
 |none=>
  rw [hq] at h
  simp only at h
  rw [h]
  rfl
 |some k=>
  rw [hq] at h
  simp only at h
  rw [h]
  obtain ⟨h1,_⟩:=Qkv.1 hq
  have e1:ilt (k:Int) 0=false:=by simp only [ilt,Bo];omega
  simp only [e1,Df,Bd,Bf h1,B0,BI,Bk]
theorem QFZ {y:Policy}{u:Keep}{p d:Int}(h:ilt (Yr y u p d) 0=false):cIx y.1 (Yr y u p d)=true:=by
 have h2:=QIg (y:=y) (u:=u) (p:=p) (d:=d)
 simp only [ilt,Bo] at h
 simp only [cIx,Ba]
 omega
theorem s_f175 (y:Policy)(u:Keep)(p d:Int):QtJ y u p d=some (.t .bool (Ey y u p d),[]):=by
 simp only [QtJ,QFY]
 cases h:ilt (Yr y u p d) 0 with
 |true=>simp [Qc]
 |false=>
  rw [QFZ h,Qf,Qc,Df,lgt]
def QtK:Ent:=Qk (.pr YO (.pr Qd (.pr tI (.pr tI .nil)))) (fun x=>true) (fun x=>(.t .bool (Ey x.1 x.2.1 x.2.2.1 x.2.2.2.1)))
theorem QF0:EM 175 QtK:=mS g_f175 QFX [((.t 8),some .bool)] false (gB (gD QtS gN)) fun m=>Qm m fun x _=>kT (s_f175 x.1 x.2.1 x.2.2.1 x.2.2.2.1)
def UE (y:Policy)(u:Keep)(p d:Int):Int:=if FH y=false then 25 else if JR u=false then 7 else if p<1∨4<p∨d<0∨40000<d then 2 else 0
def Ei (y:Policy)(_u:Keep)(_p _d:Int):Bool:=Y7 y
def QF1:TC:=aF Tryz.f174 []
def g_f174:G:=gG 34 [(51,Qha),(87,EO)] (fun _ _=>none)
def QtL (p0:Policy)(p1:Keep)(p2 p3:Int):OV:=br (Y7 p0) (br (ine (XL p0) 0) (some (.t tI (XL p0),[])) (br (!(JR p1)) (some (.t tI 7,[])) (br (ilt p2 1) (some (.t tI 2,[])) (br (igt p2 4) (some (.t tI 2,[])) (br (ilt p3 0) (some (.t tI 2,[])) (br (igt p3 40000) (some (.t tI 2,[])) (some (.t tI 0,[])))))))) none
theorem s_f174 (y:Policy)(u:Keep)(p d:Int)(h:Ei y u p d=true):QtL y u p d=some (.t tI (UE y u p d),[]):=by
 have h:Y7 y=true:=h
 simp only [QtL,h,Qc,XL,UE]
 cases FH y with
 |false=>rfl
 |true=>
  simp only [if_true,show ine 0 0=false from rfl,Qf,Bool.true_eq_false,Do]
  cases JR u with
  |false=>rfl
  |true=>
   simp only [BG,Qf,Bool.true_eq_false,Do]
   repeat' (refine QY ?_ ?_<;>intro _)
   all_goals simp only [igt,ilt,Ba,Bo] at*
   all_goals first
    |rw [if_pos (by omega)]
    |rw [if_neg (by omega)]
def QtM:Ent:=Qk (.pr YO (.pr Qd (.pr tI (.pr tI .nil)))) (fun x=>(Ei x.1 x.2.1 x.2.2.1 x.2.2.2.1)) (fun x=>(.t tI (UE x.1 x.2.1 x.2.2.1 x.2.2.2.1)))
theorem QF2:EM 174 QtM:=mS g_f174 QF1 [((.t 8),some tI)] false (gB (gD QpZ (gD Vr gN))) fun m=>Qm m fun x hok=>kT (s_f174 x.1 x.2.1 x.2.2.1 x.2.2.2.1 hok)
def Zj (y:Policy)(u:Keep)(p d:Int):Bool×Int×Int:=if UE y u p d=0 then (Ey y u p d,Yr y u p d,0) else (false,0,UE y u p d)
def QF3:TC:=aF Tryz.f137 [(14,pD [(0,[4]),(1,[5]),(2,[]),(3,[]),(4,[]),(5,[4]),(6,[5]),(7,[]),(8,[]),(9,[]),(10,[]),(11,[]),(12,[])] (.of [0,1,2,3,4,5,6,7,8,9,10,11,12]))]
def g_f137:G:=gG 30 [(174,QtM),(175,QtK),(176,Qjd)] (fun _ _=>none)
def QtN (p0:Policy)(p1:Keep)(p2 p3:Int):OV:=br (Ei p0 p1 p2 p3) (br (ine (UE p0 p1 p2 p3) 0) (some (.tu [(.t .bool false),(.t tI 0),(.t tI (UE p0 p1 p2 p3))],[])) (some (.tu [(.t .bool (Ey p0 p1 p2 p3)),(.t tI (Yr p0 p1 p2 p3)),(.t tI 0)],[]))) none
theorem s_f137 (y:Policy)(u:Keep)(p d:Int)(h:Ei y u p d=true):QtN y u p d=some (.tu [.t .bool (Zj y u p d).1,.t tI (Zj y u p d).2.1,.t tI (Zj y u p d).2.2],[]):=by
 simp only [QtN,h,Qc,Zj,Qzw]
 by_cases h0:UE y u p d=0<;>simp [h0,Qc,Qf]
def QtO:Ent:=Qk (.pr YO (.pr Qd (.pr tI (.pr tI .nil)))) (fun x=>(Ei x.1 x.2.1 x.2.2.1 x.2.2.2.1)) (fun x=>(.tu [(.t .bool ((Zj x.1 x.2.1 x.2.2.1 x.2.2.2.1).1)),(.t tI (((Zj x.1 x.2.1 x.2.2.1 x.2.2.2.1).2).1)),(.t tI (((Zj x.1 x.2.1 x.2.2.1 x.2.2.2.1).2).2))]))
theorem QF4:EM 137 QtO:=mS g_f137 QF3 [((.t 8),some .bool),((.t 9),some tI),((.t 10),some tI)] false (gB (gD QF2 (gD QF0 (gD QtS gN)))) fun m=>Qm m fun x hok=>kT (s_f137 x.1 x.2.1 x.2.2.1 x.2.2.2.1 hok)
end Go.Proofs.YtmjnnemhoeolgaaGreat.K
noncomputable section
namespace Go.Proofs.YtmjnnemhoeolgaaGreat.K
open Go.RowKit
noncomputable section
def Xd (_:Exception):Bool:=false
def exZ (_:Exception):Int:=0
def F8 (_:Exception):Bool:=false
abbrev Qcv:Sh:=⟨[(1,.ptr 1 0),(51,.ty (.sl Qd)),(52,.ty tI),(53,.ty tI)],[(1,.box Za)]⟩
abbrev Qcw:Sh:=⟨[],[]⟩
def QiC:Fg:=Qcv.f
def QsE:TC:=aF Tryz.f54 [(122,pL 0 QiC),(1957,.fg Qcw.f),(15666,pD [(0,[4]),(1,[4]),(2,[]),(3,[]),(4,[]),(5,[4]),(6,[4]),(7,[]),(8,[]),(9,[]),(10,[4]),(11,[4]),(12,[]),(13,[]),(14,[]),(15,[]),(16,[]),(17,[]),(18,[1]),(19,[1]),(20,[]),(21,[]),(22,[]),(23,[]),(24,[]),(25,[4]),(26,[4]),(27,[]),(28,[]),(29,[])] (.of [0,1,2,3,4,5,6,7,8,9,10,11,12,13,14,15,16,17,18,19,20,21,22,23,24,25,26,27,28,29])),(62669,.fg ⟨[(2,some tI)],[]⟩)]
def QsF:TC:=lb 0 QsE
def QEw (x51:List Keep)(x52 x53:Int)(y1:Exception):VS:=Qcv.st ((),x51,x52,x53,()) (y1,())
def QsG  : VS:=Qcw.st () ()
def QEx:VS->Option (Bool×List (Bool×Exit×VS)):=mkL Qcv (fun x y=>(Xd y.1)) (fun x y=>[(true,.exit 0,QsG)])
def QiD:G:=gG 89 [(83,OZ),(86,I3),(87,EO)] (Ls [QEx])
def QEy (x51:List Keep)(x52 x53:Int)(y1:Exception):OX:=Qv (QB QiD QiC QsF) (QEw x51 x52 x53 y1)
def QEz (x51:List Keep)(x52 x53:Int)(y1:Exception):OX:=some (.exit 0,QsG)
def r_f54 (p0:Exception):OV:=br (!(JR p0.1)) (some (.t tI 26,[])) (br (ilt p0.2.1 1) (some (.t tI 26,[])) (br (igt p0.2.1 4) (some (.t tI 26,[])) (br (Ja p0.2.2.1) (br (!(Jt p0.2.2.1)) (some (.t tI 26,[])) (br (ilt p0.2.2.2.1.1 0) (some (.t tI 26,[])) (br (ige p0.2.2.2.1.1 p0.2.2.2.1.2.1) (some (.t tI 26,[])) (br (igt p0.2.2.2.1.2.1 40001) (some (.t tI 26,[])) (br (igt (Qa p0.2.2.2.2.1) 8) (some (.t tI 26,[])) (br (Xd p0) (some (.t tI 0,[])) none)))))) none)))
theorem QEA (x51:List Keep)(x52 x53:Int)(y1:Exception)(h:(Xd y1)=true):QEy x51 x52 x53 y1=QEz x51 x52 x53 y1:=by
 cases h
theorem QEB:LO QiD QiC QsF 0:=QH (s:=Qcv) fun x y h _ q=>by simp only [QF,QG] at q;exact (QEA x.2.1 x.2.2.1 x.2.2.2.1 y.1 h).trans q
theorem s_f54 (x:Exception)(h:Xd x=true):r_f54 x=some (.t tI (exZ x),[]):=by cases h
def QiE:Ent:=Qk (.pr Za .nil) (fun x=>(Xd x.1)) (fun x=>(.t tI (exZ x.1)))
theorem QsH:EM 54 QiE:=mS (lk:=lkL (lkc QEB lkn)) QiD QsE [((.t 2),some tI)] false (gB (gD QdT (gD QbX (gD Vr gN)))) fun m=>Qm m fun x hok=>kT (s_f54 x.1 hok)
def JL (l:List Exception):Bool:=l.isEmpty
def F9 (_:List Exception):Int:= -1
def Ea (_:List Exception):Bool:=false
theorem UB {l:List Exception}(h:JL l=true):l=[]:=DK.1 h
def QEC:TC:=aF Tryz.f138 []
def g_f138:G:=gG 6 [(54,QiE)] (fun _ _=>none)
def r_f138 (p0:Exception):OV:=br (Xd p0) (some (.t .bool (ine (exZ p0) 0),[])) none
theorem s_f138 (x:Exception)(h:Xd x=true):r_f138 x=some (.t .bool (F8 x),[]):=by cases h
def QsI:Ent:=ZM [.ty Za] [] (fun x d=>(Xd x.1)) (fun x d=>(.t .bool (F8 x.1)))
theorem QED:EM 138 QsI:=mS g_f138 QEC [((.t 2),some .bool)] false (gB (gD QsH gN)) fun m=>ZC m fun x d hok=>kT (s_f138 x.1 hok)
abbrev Qcx:Sh:=⟨[(0,.ty (.sl Za)),(1,.cf 138),(7,.ty tI),(8,.ty tI)],[]⟩
abbrev QsJ:Sh:=⟨[(4,.ty tI)],[]⟩
def QiF:Fg:=Qcx.f
def QsK:TC:=aF Tryz.f94 [(26,pL 0 QiF),(421,.fg Qcw.f),(13517,.fg QsJ.f)]
def QsL:TC:=lb 0 QsK
def QsM (x0:List Exception)(x7 x8:Int):VS:=Qcx.st (x0,(),x7,x8,()) ()
def QEE (x4:Int):VS:=QsJ.st (x4,()) ()
def QiG  : VS:=Qcw.st () ()
def QEF:VS->Option (Bool×List (Bool×Exit×VS)):=mkL Qcx (fun x y=>(JL x.1&&(ieq x.2.2.1 0&&ieq x.2.2.2.1 0))) (fun x y=>[(true,.exit 0,QiG)])
def QiH:G:=gG 19 [(138,QsI)] (Ls [QEF])
def QiI (x0:List Exception)(x7 x8:Int):OX:=Qv (QB QiH QiF QsL) (QsM x0 x7 x8)
def QiJ (kk:List Exception->Int->Int->OX)(x0:List Exception)(x7 x8:Int):OX:=
 let a1:=lgt Za x0 (Int.toNat x8)
 br (ilt x8 x7) (br (cIx x0 x8) (br (Xd a1) (br (F8 a1) (some (.ret,QEE x8)) (kk x0 x7 (Qg .i64 x8 1))) none) none) (some (.exit 0,QiG))
def QEG (x0:List Exception)(x7 x8:Int):OX:=some (.exit 0,QiG)
theorem QEH (x0:List Exception)(x7 x8:Int):QiI x0 x7 x8=QiJ QiI x0 x7 x8:=lnT (x:=QiJ (fun x0 x7 x8=>some (.normal,QsM x0 x7 x8)) x0 x7 x8) (by simp only [QiJ,nxA];rfl)
def QEI (p0:List Exception):OV:=br (JL p0&&(ieq (Qa p0) 0&&ieq (0:Int) 0)) (some (.t tI (-1),[])) none
theorem QEJ (x0:List Exception)(x7 x8:Int)(h:(JL x0&&(ieq x7 0&&ieq x8 0))=true):QiI x0 x7 x8=QEG x0 x7 x8:=by
 simp only [Bc] at h
 obtain ⟨h1,h2,h3⟩:=h
 obtain rfl:=UB h1
 have h2:x7=0:=by simpa [ieq] using h2
 have h3:x8=0:=by simpa [ieq] using h3
 subst h2 h3
 rw [QEH]
 try rfl
theorem QEK:LO QiH QiF QsL 0:=QH (s:=Qcx) fun x y h _ q=>by simp only [QF,QG] at q;exact (QEJ x.1 x.2.2.1 x.2.2.2.1 h).trans q
theorem QEL (l:List Exception)(h:JL l=true):QEI l=some (.t tI (F9 l),[]):=by
 obtain rfl:=UB h
 rfl
def QsN:Ent:=ZM [.ty (.sl Za),.cf 138] [] (fun x d=>(JL x.1)) (fun x d=>(.t tI (F9 x.1)))
theorem QEM:EM 94 QsN:=mS (lk:=lkL (lkc QEK lkn)) QiH QsK [((.t 4),some tI)] false (gB (gD QED gN)) fun m=>ZC m fun x d hok=>kT (QEL x.1 hok)
def QEN:TC:=aF Tryz.f52 []
def QEO:G:=gG 9 [(94,QsN)] (fun _ _=>none)
def QEP (p0:List Exception):OV:=br (JL p0) (some (.t .bool (ige (F9 p0) 0),[])) none
theorem QEQ (l:List Exception)(h:JL l=true):QEP l=some (.t .bool (Ea l),[]):=by
 obtain rfl:=UB h
 rfl
def QsO:Ent:=ZM [.ty (.sl Za),.cf 138] [] (fun x d=>(JL x.1)) (fun x d=>(.t .bool (Ea x.1)))
theorem QER:EM 52 QsO:=mS QEO QEN [((.t 4),some .bool)] false (gB (gD QEM gN)) fun m=>ZC m fun x d hok=>kT (QEQ x.1 hok)
def Oj (_:List Exception)(_:Dice)(_:Keep)(_:Int)(_:ByteArray)(_:Int):Int×Bool:=(0,false)
def QiK (l:List Exception)(_:Dice)(_:Keep)(_:Int)(_:ByteArray)(_:Int):Bool:=JL l
abbrev Qcy:Sh:=⟨[(3,.ty tI),(4,.ty .str),(5,.ty tI),(7,.ptr 7 0),(8,.ptr 8 0),(14,.ty tI),(15,.ty .bool),(18,.ty (.sl Za)),(19,.ty tI),(20,.ty tI)],[(7,.box Q1),(8,.box Qd)]⟩
abbrev QsP:Sh:=⟨[(14,.ty tI),(15,.ty .bool)],[]⟩
def QiL:Fg:=Qcy.f
def QsQ:TC:=aF Tryz.f139 [(58,pL 0 QiL),(933,.fg QsP.f)]
def QsR:TC:=lb 0 QsQ
def QsS (x3:Int)(x4:ByteArray)(x5 x14:Int)(x15:Bool)(x18:List Exception)(x19 x20:Int)(y7:Dice)(y8:Keep):VS:=Qcy.st (x3,x4,x5,(),(),x14,x15,x18,x19,x20,()) (y7,y8,())
def QiM (x14:Int)(x15:Bool):VS:=QsP.st (x14,x15,()) ()
def QES:VS->Option (Bool×List (Bool×Exit×VS)):=mkL Qcy (fun x y=>(JL x.2.2.2.2.2.2.2.1&&(ieq x.2.2.2.2.2.2.2.2.1 0&&ieq x.2.2.2.2.2.2.2.2.2.1 0))) (fun x y=>[(true,.exit 0,QiM (x.2.2.2.2.2.1) (x.2.2.2.2.2.2.1))])
def QiN:G:=gG 43 [] (Ls [QES])
def QiO (x3:Int)(x4:ByteArray)(x5 x14:Int)(x15:Bool)(x18:List Exception)(x19 x20:Int)(y7:Dice)(y8:Keep):OX:=Qv (QB QiN QiL QsR) (QsS x3 x4 x5 x14 x15 x18 x19 x20 y7 y8)
def QiP (kk:Int->ByteArray->Int->Int->Bool->List Exception->Int->Int->Dice->Keep->OX)(x3:Int)(x4:ByteArray)(x5 x14:Int)(x15:Bool)(x18:List Exception)(x19 x20:Int)(y7:Dice)(y8:Keep):OX:=br (ilt x20 x19) (br (cIx x18 x20) none none) (some (.exit 0,QiM x14 x15))
def QET (x3:Int)(x4:ByteArray)(x5 x14:Int)(x15:Bool)(x18:List Exception)(x19 x20:Int)(y7:Dice)(y8:Keep):OX:=some (.exit 0,QiM (x14) (x15))
theorem QEU (x3:Int)(x4:ByteArray)(x5 x14:Int)(x15:Bool)(x18:List Exception)(x19 x20:Int)(y7:Dice)(y8:Keep):QiO x3 x4 x5 x14 x15 x18 x19 x20 y7 y8=QiP QiO x3 x4 x5 x14 x15 x18 x19 x20 y7 y8:=lnT (x:=QiP (fun x3 x4 x5 x14 x15 x18 x19 x20 y7 y8=>some (.normal,QsS x3 x4 x5 x14 x15 x18 x19 x20 y7 y8)) x3 x4 x5 x14 x15 x18 x19 x20 y7 y8) (by
 simp only [QiP,Fv,Iu,Iv,Iw,Ix])
def r_f139 (p0:List Exception)(p1:Dice)(p2:Keep)(p3:Int)(p4:ByteArray)(p5:Int):OV:=br (JL p0&&(ieq (Qa p0) 0&&ieq (0:Int) 0)) (some (.tu [(.t tI (0:Int)),(.t .bool (false))],[])) none
theorem QEV (x3:Int)(x4:ByteArray)(x5 x14:Int)(x15:Bool)(x18:List Exception)(x19 x20:Int)(y7:Dice)(y8:Keep)(h:(JL x18&&(ieq x19 0&&ieq x20 0))=true):QiO x3 x4 x5 x14 x15 x18 x19 x20 y7 y8=QET x3 x4 x5 x14 x15 x18 x19 x20 y7 y8:=by
 simp only [Bc] at h
 obtain ⟨h1,h2,h3⟩:=h
 obtain rfl:=UB h1
 have h2:x19=0:=by simpa [ieq] using h2
 have h3:x20=0:=by simpa [ieq] using h3
 subst h2 h3
 rw [QEU]
 try rfl
theorem QEW:LO QiN QiL QsR 0:=QH (s:=Qcy) fun x y h _ q=>by simp only [QF,QG] at q;exact (QEV x.1 x.2.1 x.2.2.1 x.2.2.2.2.2.1 x.2.2.2.2.2.2.1 x.2.2.2.2.2.2.2.1 x.2.2.2.2.2.2.2.2.1 x.2.2.2.2.2.2.2.2.2.1 y.1 y.2.1 h).trans q
theorem s_f139 (l:List Exception)(o:Dice)(u:Keep)(p:Int)(e:ByteArray)(d:Int)(h:QiK l o u p e d=true):r_f139 l o u p e d=some (.tu [.t tI (Oj l o u p e d).1,.t .bool (Oj l o u p e d).2],[]):=by
 obtain rfl:=UB h
 rfl
def QsT:Ent:=Qk (.pr (.sl Za) (.pr Q1 (.pr Qd (.pr tI (.pr .str (.pr tI .nil)))))) (fun x=>(QiK x.1 x.2.1 x.2.2.1 x.2.2.2.1 x.2.2.2.2.1 x.2.2.2.2.2.1)) (fun x=>(.tu [(.t tI ((Oj x.1 x.2.1 x.2.2.1 x.2.2.2.1 x.2.2.2.2.1 x.2.2.2.2.2.1).1)),(.t .bool ((Oj x.1 x.2.1 x.2.2.1 x.2.2.2.1 x.2.2.2.2.1 x.2.2.2.2.2.1).2))]))
theorem QEX:EM 139 QsT:=mS (lk:=lkL (lkc QEW lkn)) QiN QsQ [((.t 12),some tI),((.t 13),some .bool)] false (gB gN) fun m=>Qm m fun x hok=>kT (s_f139 x.1 x.2.1 x.2.2.1 x.2.2.2.1 x.2.2.2.2.1 x.2.2.2.2.2.1 hok)
def Gs (y:Policy)(_:List Exception)(_:Dice)(u:Keep)(p:Int)(_:ByteArray)(d:Int):Bool×Int:=((Zj y u p d).1,(Zj y u p d).2.2)
def Qcz (y:Policy)(l:List Exception)(_:Dice)(_:Keep)(_:Int)(_:ByteArray)(_:Int):Bool:=Y7 y&&JL l
theorem QEY {y:Policy}{u:Keep}{p d:Int}(h:ine (Zj y u p d).2.2 0=true):(Zj y u p d).1=false:=by
 unfold Zj at h ⊢
 split at h
 ·exact absurd (show false=true from h) (by decide)
 ·rename_i hn
  rw [if_neg hn]
theorem QEZ {y:Policy}{u:Keep}{p d:Int}(h:ine (Zj y u p d).2.2 0=false):(Zj y u p d).2.2=0:=by
 simpa [ine] using h
def tc_f97:TC:=aF Tryz.f97 []
def g_f97:G:=gG 51 [(52,QsO),(137,QtO),(139,QsT)] (fun _ _=>none)
def r_f97 (p0:Policy)(p1:List Exception)(p2:Dice)(p3:Keep)(p4:Int)(p5:ByteArray)(p6:Int):OV:=
 let a1:=Zj p0 p3 p4 p6
 br (Ei p0 p3 p4 p6) (br (ine ((a1.2).2) 0) (some (.tu [(.t .bool false),(.t tI ((a1.2).2))],[])) (br (JL p1) (br (Ea p1) (some (.tu [(.t .bool false),(.t tI 26)],[])) (br (QiK p1 p2 p3 p4 p5 p6) (br (a1.1) (some (.tu [(.t .bool true),(.t tI 0)],[])) (some (.tu [(.t .bool ((Oj p1 p2 p3 p4 p5 p6).2)),(.t tI 0)],[]))) none)) none)) none
theorem s_f97 (y:Policy)(l:List Exception)(o:Dice)(u:Keep)(p:Int)(e:ByteArray)(d:Int)(h:Qcz y l o u p e d=true):r_f97 y l o u p e d=some (.tu [.t .bool (Gs y l o u p e d).1,.t tI (Gs y l o u p e d).2],[]):=by
 obtain ⟨h1,h2⟩:=Bi.1 h
 unfold r_f97 Gs
 refine brY h1 (QY (fun k=>by rw [QEY k]) fun k=> ?_)
 refine brY h2 ?_
 show br false _ _=_
 rw [Qf]
 refine brY h2 ?_
 rw [QEZ k]
 cases (Zj y u p d).1<;>rfl
def QsU:Ent:=Qk (.pr YO (.pr (.sl Za) (.pr Q1 (.pr Qd (.pr tI (.pr .str (.pr tI .nil))))))) (fun x=>(Qcz x.1 x.2.1 x.2.2.1 x.2.2.2.1 x.2.2.2.2.1 x.2.2.2.2.2.1 x.2.2.2.2.2.2.1)) (fun x=>(.tu [(.t .bool ((Gs x.1 x.2.1 x.2.2.1 x.2.2.2.1 x.2.2.2.2.1 x.2.2.2.2.2.1 x.2.2.2.2.2.2.1).1)),(.t tI ((Gs x.1 x.2.1 x.2.2.1 x.2.2.2.1 x.2.2.2.2.1 x.2.2.2.2.2.1 x.2.2.2.2.2.2.1).2))]))
theorem ms_f97:EM 97 QsU:=mS g_f97 tc_f97 [((.t 14),some .bool),((.t 15),some tI)] false (gB (gD QER (gD QF4 (gD QEX gN)))) fun m=>Qm m fun x hok=>kT (s_f97 x.1 x.2.1 x.2.2.1 x.2.2.2.1 x.2.2.2.2.1 x.2.2.2.2.2.1 x.2.2.2.2.2.2.1 hok)
def QiQ (y:Policy)(d:Int)(u:Keep):Bool:= !(Zj y u 1 d).1
def Yp (y:Policy)(d:Int):List Keep->Bool->Bool×Int
 | [],b=>(b,0)
 |u::r,b=>bif ine (Zj y u 1 d).2.2 0 then (false,(Zj y u 1 d).2.2) else Yp y d r (b||QiQ y d u)
def WV (y:Policy)(_:List Exception)(_:Dice)(s:Endpoint)(o:Keep)(d:Int):Bool×Int:=
 bif ine (Jg s o).2 0 then (false,(Jg s o).2) else Yp y d (Jg s o).1 false
def Ok (y:Policy)(l:List Exception)(_:Dice)(s:Endpoint)(_:Keep)(_:Int):Bool:=Y7 y&&(JL l&&QU s)
theorem QE0 (s:Endpoint)(o:Keep):(Jg s o).1.length<=4:=by
 unfold Jg
 cases QT s with
 |false=>exact B4 _
 |true=>
  cases ine (QW o.2.1).2 0 with
  |true=>exact B4 _
  |false=>
   cases (Zh s o.2.1).2 with
   |false=>exact B4 _
   |true=>exact BJ 4
theorem QsV {y:Policy}{d:Int}: ∀ {l:List Keep} {b:Bool},ine (Yp y d l b).2 0=true->(Yp y d l b).1=false
 | [],b,h=>by cases h
 |u::r,b,h=>by
  unfold Yp at h ⊢
  cases hq:ine (Zj y u 1 d).2.2 0 with
  |true=>rfl
  |false=>
   rw [hq] at h
   exact QsV (l:=r) h
theorem ine_z {x:Int}(h:ine x 0=false):x=0:=by simpa [ine] using h
abbrev QcA:Sh:=⟨[(1,.ty (.sl Za)),(5,.ty tI),(6,.ptr 6 0),(8,.ptr 8 0),(9,.ptr 9 0),(16,.ty .bool),(30,.ty (.sl Qd)),(31,.ty tI),(32,.ty tI)],[(6,.box YO),(8,.box Q1),(9,.box Qo)]⟩
abbrev QsW:Sh:=⟨[(12,.ty .bool),(13,.ty tI)],[]⟩
abbrev QsX:Sh:=⟨[(16,.ty .bool)],[]⟩
def QiR:Fg:=QcA.f
def QsY:TC:=aF Tryz.f56 [(250,pL 0 QiR),(4005,.fg QsX.f),(512821,.fg QsW.f)]
def QsZ:TC:=lb 0 QsY
def Qs0 (x1:List Exception)(x5:Int)(x16:Bool)(x30:List Keep)(x31 x32:Int)(y6:Policy)(y8:Dice)(y9:Endpoint):VS:=QcA.st (x1,x5,(),(),(),x16,x30,x31,x32,()) (y6,y8,y9,())
def QiS (x12:Bool)(x13:Int):VS:=QsW.st (x12,x13,()) ()
def QiT (x16:Bool):VS:=QsX.st (x16,()) ()
def QE1:VS->Option (Bool×List (Bool×Exit×VS)):=mkL QcA (fun x y=>(Qt x.2.2.2.2.2.2.1 x.2.2.2.2.2.2.2.1 x.2.2.2.2.2.2.2.2.1&&(Y7 y.1&&JL x.1))) (fun x y=>[((ine (Yp y.1 x.2.1 (x.2.2.2.2.2.2.1.drop x.2.2.2.2.2.2.2.2.1.toNat) x.2.2.2.2.2.1).2 0),.ret,QiS (false) ((Yp y.1 x.2.1 (x.2.2.2.2.2.2.1.drop x.2.2.2.2.2.2.2.2.1.toNat) x.2.2.2.2.2.1).2)),(true,.exit 0,QiT ((Yp y.1 x.2.1 (x.2.2.2.2.2.2.1.drop x.2.2.2.2.2.2.2.2.1.toNat) x.2.2.2.2.2.1).1))])
def QiU:G:=gG 57 [(96,QbD),(97,QsU)] (Ls [QE1])
def QcB (x1:List Exception)(x5:Int)(x16:Bool)(x30:List Keep)(x31 x32:Int)(y6:Policy)(y8:Dice)(y9:Endpoint):OX:=Qv (QB QiU QiR QsZ) (Qs0 x1 x5 x16 x30 x31 x32 y6 y8 y9)
def Ol (kk:List Exception->Int->Bool->List Keep->Int->Int->Policy->Dice->Endpoint->OX)(x1:List Exception)(x5:Int)(x16:Bool)(x30:List Keep)(x31 x32:Int)(y6:Policy)(y8:Dice)(y9:Endpoint):OX:=
 let a1:=Gs y6 x1 y8 (lgt Qd x30 (Int.toNat x32)) 1 y9.1 x5
 br (ilt x32 x31) (br (cIx x30 x32) (br (Qcz y6 x1 y8 (lgt Qd x30 (Int.toNat x32)) 1 y9.1 x5) (br (ine (a1.2) 0) (some (.ret,QiS false (a1.2))) (br (x16) (kk x1 x5 true x30 x31 (Qg .i64 x32 1) y6 y8 y9) (kk x1 x5 (!(a1.1)) x30 x31 (Qg .i64 x32 1) y6 y8 y9))) none) none) (some (.exit 0,QiT x16))
def Eb (x1:List Exception)(x5:Int)(x16:Bool)(x30:List Keep)(x31 x32:Int)(y6:Policy)(y8:Dice)(y9:Endpoint):OX:=
 let a1:=Yp y6 x5 (x30.drop x32.toNat) x16
 br (ine a1.2 0) (some (.ret,QiS (false) (a1.2)))<|some (.exit 0,QiT (a1.1))
theorem Qs1 (x1:List Exception)(x5:Int)(x16:Bool)(x30:List Keep)(x31 x32:Int)(y6:Policy)(y8:Dice)(y9:Endpoint):QcB x1 x5 x16 x30 x31 x32 y6 y8 y9=Ol QcB x1 x5 x16 x30 x31 x32 y6 y8 y9:=lnT (x:=Ol (fun x1 x5 x16 x30 x31 x32 y6 y8 y9=>some (.normal,Qs0 x1 x5 x16 x30 x31 x32 y6 y8 y9)) x1 x5 x16 x30 x31 x32 y6 y8 y9) (by simp only [Ol,nxA];rfl)
def r_f56 (p0:Policy)(p1:List Exception)(p2:Dice)(p3:Endpoint)(p4:Keep)(p5:Int):OV:=
 let a1:=(Yp p0 p5 (((Jg p3 p4).1).drop (0:Int).toNat) false)
 br (QhG p3 p4) (br (ine ((Jg p3 p4).2) 0) (some (.tu [(.t .bool false),(.t tI ((Jg p3 p4).2))],[])) (br (Qt ((Jg p3 p4).1) (Qa ((Jg p3 p4).1)) (0:Int)&&(Y7 p0&&JL p1)) (br (ine a1.2 0) (some (.tu [(.t .bool (false)),(.t tI (a1.2))],[])) (some (.tu [(.t .bool (a1.1)),(.t tI 0)],[]))) none)) none
theorem QE2 (x1:List Exception)(x5:Int)(x16:Bool)(x30:List Keep)(x31 x32:Int)(y6:Policy)(y8:Dice)(y9:Endpoint)(h:(Qt x30 x31 x32&&(Y7 y6&&JL x1))=true):QcB x1 x5 x16 x30 x31 x32 y6 y8 y9=Eb x1 x5 x16 x30 x31 x32 y6 y8 y9:=by
 simp only [Bc] at h
 obtain ⟨h,g1,g2⟩:=h
 obtain ⟨rfl,h3,k,rfl,hk⟩:=Jy h
 clear h
 revert x16
 refine QR x30 (fun k=> ∀ x16:Bool,QcB x1 x5 x16 x30 (x30.length:Int) (k:Int) y6 y8 y9=Eb x1 x5 x16 x30 (x30.length:Int) (k:Int) y6 y8 y9) ?_ ?_ k hk
 ·intro x16
  rw [Qs1]
  simp only [Ol,Eb,QC,BV,B2,Qf,Bd,BQ,Yp]
  rfl
 ·intro k hk ih x16
  rw [Qs1]
  have e1: ∀ u p e,Qcz y6 x1 y8 u p e x5=true:=fun _ _ _=>Bi.2 ⟨g1,g2⟩
  have hd:Yp y6 x5 (x30.drop k) x16=bif ine (Zj y6 x30[k] 1 x5).2.2 0 then (false,(Zj y6 x30[k] 1 x5).2.2) else Yp y6 x5 (x30.drop (k+1)) (x16||QiQ y6 x5 x30[k]):=by
   rw [Bj hk]
   rfl
  simp only [Ol,QC,QI,hk,Bv,Qc,Bd,QQ (show k<4611686018427387904 by omega),e1,QP (y:=Qd) hk,Gs]
  simp only [Eb,Bd,hd]
  cases hq:ine (Zj y6 x30[k] 1 x5).2.2 0 with
  |true=>simp only [Qc,Dl,hq]
  |false=>
   simp only [Qf,Di]
   cases x16 with
   |true=>
    rw [Qc,ih true]
    simp only [Eb,Bd,Bool.true_or]
   |false=>
    rw [Qf,ih]
    simp only [Eb,Bd,Df,QiQ]
theorem QE3:LO QiU QiR QsZ 0:=QH (s:=QcA) fun x y h _ q=>by simp only [QF,QG] at q;exact (QE2 x.1 x.2.1 x.2.2.2.2.2.1 x.2.2.2.2.2.2.1 x.2.2.2.2.2.2.2.1 x.2.2.2.2.2.2.2.2.1 y.1 y.2.1 y.2.2.1 h).trans q
theorem s_f56 (y:Policy)(l:List Exception)(w:Dice)(s:Endpoint)(o:Keep)(d:Int)(h:Ok y l w s o d=true):r_f56 y l w s o d=some (.tu [.t .bool (WV y l w s o d).1,.t tI (WV y l w s o d).2],[]):=by
 simp only [Ok,Bc] at h
 obtain ⟨h1,h2,h3⟩:=h
 unfold r_f56 WV
 refine brY h3 (QY (fun k=>by rw [k];rfl) fun k=> ?_)
 have hl:=QE0 s o
 rw [k,Di]
 refine brY ?_ ?_
 ·rw [Jz (by omega),h1,h2]
  rfl
 ·rw [Bu,BA]
  cases hz:ine (Yp y d (Jg s o).1 false).2 0 with
  |true=>rw [Qc,QsV hz]
  |false=>rw [Qf,ine_z hz]
def Qs2:Ent:=Qk (.pr YO (.pr (.sl Za) (.pr Q1 (.pr Qo (.pr Qd (.pr tI .nil)))))) (fun x=>(Ok x.1 x.2.1 x.2.2.1 x.2.2.2.1 x.2.2.2.2.1 x.2.2.2.2.2.1)) (fun x=>(.tu [(.t .bool ((WV x.1 x.2.1 x.2.2.1 x.2.2.2.1 x.2.2.2.2.1 x.2.2.2.2.2.1).1)),(.t tI ((WV x.1 x.2.1 x.2.2.1 x.2.2.2.1 x.2.2.2.2.1 x.2.2.2.2.2.1).2))]))
theorem ms_f56:EM 56 Qs2:=mS (lk:=lkL (lkc QE3 lkn)) QiU QsY [((.t 12),some .bool),((.t 13),some tI)] false (gB (gD QqM (gD ms_f97 gN))) fun m=>Qm m fun x hok=>kT (s_f56 x.1 x.2.1 x.2.2.1 x.2.2.2.1 x.2.2.2.2.1 x.2.2.2.2.2.1 hok)
end
end Go.Proofs.YtmjnnemhoeolgaaGreat.K
noncomputable section
namespace Go.Proofs.YtmjnnemhoeolgaaGreat.K
open Go.RowKit
noncomputable section
def Wm (a b:List Keep):Bool:=a==b
def Qdl (a b:List Keep):Bool:=decide (a.length<=100000/\b.length<=100000)
abbrev Qdm:Sh:=⟨[(0,.ty (.sl Qd)),(1,.ty (.sl Qd)),(12,.ty tI),(13,.ty tI)],[]⟩
abbrev QuF:Sh:=⟨[(4,.ty .bool)],[]⟩
abbrev Qdn:Sh:=⟨[],[]⟩
def QjN:Fg:=Qdm.f
def QuG:TC:=aF Tryz.f57 [(58,pL 0 QjN),(933,.fg Qdn.f),(7474,pD [(0,[]),(1,[]),(2,[]),(3,[]),(4,[]),(5,[]),(6,[]),(7,[]),(8,[])] (.of [0,1,2,3,4,5,6,7,8])),(29901,.fg QuF.f)]
def QuH:TC:=lb 0 QuG
def QuI (x0 x1:List Keep)(x12 x13:Int):VS:=Qdm.st (x0,x1,x12,x13,()) ()
def QjO (x4:Bool):VS:=QuF.st (x4,()) ()
def QjP  : VS:=Qdn.st () ()
def QG6:VS->Option (Bool×List (Bool×Exit×VS)):=mkL Qdm (fun x y=>(decide (0<=x.2.2.2.1/\x.2.2.2.1<=x.1.length/\x.1.length=x.2.1.length/\x.2.2.1=x.1.length/\x.1.length<=100000))) (fun x y=>[((!(x.1.drop x.2.2.2.1.toNat==x.2.1.drop x.2.2.2.1.toNat)),.ret,QjO (false)),(true,.exit 0,QjP)])
def QjQ:G:=gG 26 [] (Ls [QG6])
def Qdo (x0 x1:List Keep)(x12 x13:Int):OX:=Qv (QB QjQ QjN QuH) (QuI x0 x1 x12 x13)
def OH (kk:List Keep->List Keep->Int->Int->OX)(x0 x1:List Keep)(x12 x13:Int):OX:=
 let a1:=Int.toNat x13
 br (ilt x13 x12) (br (cIx x0 x13) (br (cIx x1 x13) (br (!(and (ieq ((lgt Qd x0 a1).1) ((lgt Qd x1 a1).1)) (and (ieq (((lgt Qd x0 a1).2).1) (((lgt Qd x1 a1).2).1)) true))) (some (.ret,QjO false)) (kk x0 x1 x12 (Qg .i64 x13 1))) none) none) (some (.exit 0,QjP))
def Qdp (x0 x1:List Keep)(x12 x13:Int):OX:=br (!(x0.drop x13.toNat==x1.drop x13.toNat)) (some (.ret,QjO (false)))<|some (.exit 0,QjP)
theorem QuJ (x0 x1:List Keep)(x12 x13:Int):Qdo x0 x1 x12 x13=OH Qdo x0 x1 x12 x13:=lnT (x:=OH (fun x0 x1 x12 x13=>some (.normal,QuI x0 x1 x12 x13)) x0 x1 x12 x13) (by simp only [OH,nxA];rfl)
def r_f57 (p0 p1:List Keep):OV:=br (ine (Qa p0) (Qa p1)) (some (.t .bool false,[])) (br (decide (0<=(0:Int)/\(0:Int)<=p0.length/\p0.length=p1.length/\(Qa p0)=p0.length/\p0.length<=100000)) (br (!(p0.drop (0:Int).toNat==p1.drop (0:Int).toNat)) (some (.t .bool (false),[])) (some (.t .bool true,[]))) none)
theorem QG7 (x0 x1:List Keep)(x12 x13:Int)(h:(decide (0<=x13/\x13<=x0.length/\x0.length=x1.length/\x12=x0.length/\x0.length<=100000))=true):Qdo x0 x1 x12 x13=Qdp x0 x1 x12 x13:=by
 simp only [Ba] at h
 obtain ⟨h0,h1,h2,rfl,h3⟩:=h
 obtain ⟨k,rfl⟩:=Bq h0
 refine QR x0 (fun k=>Qdo x0 x1 (x0.length:Int) (k:Int)=Qdp x0 x1 (x0.length:Int) (k:Int)) ?_ ?_ k (by omega)
 ·rw [QuJ]
  simp only [OH,Qdp,QC,BV,B2,Qf,Bd,BQ]
  rw [h2,BQ]
  rfl
 ·intro k hk ih
  rw [QuJ]
  have hk2:k<x1.length:=by omega
  have hq:(and (ieq x0[k].1 x1[k].1) (and (ieq x0[k].2.1 x1[k].2.1) true))=(x0[k]==x1[k]):=rfl
  simp only [OH,QC,QI,hk,hk2,Bv,Qc,Bd,QQ (show k<4611686018427387904 by omega),QP (y:=Qd) hk,QP (y:=Qd) hk2,ih]
  rw [hq]
  simp only [Qdp,Bd,Bj hk,Bj hk2,List.cons_beq_cons]
  cases x0[k]==x1[k]<;>rfl
theorem QG8:LO QjQ QjN QuH 0:=QH (s:=Qdm) fun x y h _ q=>by simp only [QF,QG] at q;exact (QG7 x.1 x.2.1 x.2.2.1 x.2.2.2.1 h).trans q
theorem s_f57 (a b:List Keep)(h:Qdl a b=true):r_f57 a b=some (.t .bool (Wm a b),[]):=by
 have h:=Bx h
 unfold r_f57 Wm
 cases hl:ine (Qa a) (Qa b) with
 |true=>
  have hn:a.length≠b.length:=by
   simp only [ine,Qa,bne_iff_ne,ne_eq] at hl
   omega
  rw [Qc]
  have:(a==b)=false:=by
   rw [beq_eq_false_iff_ne]
   intro e
   exact hn (by rw [e])
  rw [this]
 |false=>
  have hn:a.length=b.length:=by
   simp only [ine,Qa,bne_eq_false_iff_eq] at hl
   omega
  rw [Qf]
  refine brY (Be ⟨BX 0,by omega,hn,rfl,h.1⟩) ?_
  rw [Bu,BA,BA]
  cases a==b<;>rfl
def QuK:Ent:=Qk (.pr (.sl Qd) (.pr (.sl Qd) .nil)) (fun x=>(Qdl x.1 x.2.1)) (fun x=>(.t .bool (Wm x.1 x.2.1)))
theorem ms_f57:EM 57 QuK:=mS (lk:=lkL (lkc QG8 lkn)) QjQ QuG [((.t 4),some .bool)] false (gB gN) fun m=>Qm m fun x hok=>kT (s_f57 x.1 x.2.1 hok)
theorem QuL {a b:List Keep}:Wm a b=true↔a=b:=by unfold Wm;exact Dj
def Q4 (e:Estate)(i:Int):List Keep×Endpoint:=(ZS (X7 e i).1 (X7 e i).2,(X7 e i).2)
def YM (e:Estate)(i:Int):Bool:=G0 e i&&WX (X7 e i).1 (X7 e i).2
theorem Es {e:Estate}{i:Int}(h:JO e=true)(hl:Jv e=true)(h0:0<=i)(h1:i<e.2.1.length):YM e i=true:=
 Bi.2 ⟨QlY h h0 h1,QyA hl (QlY h h0 h1)⟩
def tc_f55:TC:=aF Tryz.f55 [(30,pD [(0,[2]),(1,[2]),(2,[6]),(3,[6]),(4,[]),(5,[]),(6,[7]),(7,[]),(8,[7]),(9,[]),(10,[5])] (.of [0,1,2,3,4,5,6,7,8,9,10]))]
def g_f55:G:=gG 28 [(95,Qvm)] (fun _ _=>none)
def r_f55 (p0:Estate)(p1:Int):OV:=
 let a1:=lgt Qd p0.2.1 (Int.toNat p1)
 let a2:=lgt Qo p0.1 (Int.toNat ((a1.2).1))
 let a3:=lgt Qo p0.1 (Int.toNat (a1.1))
 br (cIx p0.2.1 p1) (br (cIx p0.1 ((a1.2).1)) (br (cIx p0.1 (a1.1)) (br (WX a3 a2) (some (.tu [(.t (.sl Qd) (ZS a3 a2)),(.t Qo a2)],[])) none) none) none) none
theorem s_f55 (e:Estate)(i:Int)(h:YM e i=true):r_f55 e i=some (.tu [.t (.sl Qd) (Q4 e i).1,.t Qo (Q4 e i).2],[]):=by
 simp only [YM,G0,Bc] at h
 obtain ⟨⟨h1,h2,h3⟩,h4⟩:=h
 exact brY h1 (brY h3 (brY h2 (brY h4 rfl)))
def Et:Ent:=Qk (.pr QE (.pr tI .nil)) (fun x=>(YM x.1 x.2.1)) (fun x=>(.tu [(.t (.sl Qd) ((Q4 x.1 x.2.1).1)),(.t Qo ((Q4 x.1 x.2.1).2))]))
theorem QjR:EM 55 Et:=mS g_f55 tc_f55 [((.t 4),some (.sl Qd)),((.c 5 true 9),some Qo)] false (gB (gD ms_f95 gN)) fun m=>Qm m fun x hok=>kT (s_f55 x.1 x.2.1 hok)
def tc_f53:TC:=aF Tryz.f53 []
def g_f53:G:=gG 6 [(54,QiE)] (fun _ _=>none)
def r_f53 (p0:Exception):OV:=br (Xd p0) (some (.t .bool (ine (exZ p0) 0),[])) none
theorem s_f53 (x:Exception)(h:Xd x=true):r_f53 x=some (.t .bool (F8 x),[]):=by cases h
def QuM:Ent:=ZM [.ty Za] [] (fun x d=>(Xd x.1)) (fun x d=>(.t .bool (F8 x.1)))
theorem ms_f53:EM 53 QuM:=mS g_f53 tc_f53 [((.t 2),some .bool)] false (gB (gD QsH gN)) fun m=>ZC m fun x d hok=>kT (s_f53 x.1 hok)
abbrev Qdq:Sh:=⟨[(0,.ty (.sl Za)),(1,.cf 53),(7,.ty tI),(8,.ty tI)],[]⟩
abbrev QuN:Sh:=⟨[(4,.ty tI)],[]⟩
def QjS:Fg:=Qdq.f
def QuO:TC:=aF Tryz.f94 [(26,pL 0 QjS),(421,.fg Qdn.f),(13517,.fg QuN.f)]
def QuP:TC:=lb 0 QuO
def QuQ (x0:List Exception)(x7 x8:Int):VS:=Qdq.st (x0,(),x7,x8,()) ()
def QG9 (x4:Int):VS:=QuN.st (x4,()) ()
def QjT  : VS:=Qdn.st () ()
def QHa:VS->Option (Bool×List (Bool×Exit×VS)):=mkL Qdq (fun x y=>(JL x.1&&(ieq x.2.2.1 0&&ieq x.2.2.2.1 0))) (fun x y=>[(true,.exit 0,QjT)])
def QjU:G:=gG 19 [(53,QuM)] (Ls [QHa])
def QjV (x0:List Exception)(x7 x8:Int):OX:=Qv (QB QjU QjS QuP) (QuQ x0 x7 x8)
def QjW (kk:List Exception->Int->Int->OX)(x0:List Exception)(x7 x8:Int):OX:=
 let a1:=lgt Za x0 (Int.toNat x8)
 br (ilt x8 x7) (br (cIx x0 x8) (br (Xd a1) (br (F8 a1) (some (.ret,QG9 x8)) (kk x0 x7 (Qg .i64 x8 1))) none) none) (some (.exit 0,QjT))
def QHb (x0:List Exception)(x7 x8:Int):OX:=some (.exit 0,QjT)
theorem QHc (x0:List Exception)(x7 x8:Int):QjV x0 x7 x8=QjW QjV x0 x7 x8:=lnT (x:=QjW (fun x0 x7 x8=>some (.normal,QuQ x0 x7 x8)) x0 x7 x8) (by simp only [QjW,nxA];rfl)
def QHd (p0:List Exception):OV:=br (JL p0&&(ieq (Qa p0) 0&&ieq (0:Int) 0)) (some (.t tI (-1),[])) none
theorem QHe (x0:List Exception)(x7 x8:Int)(h:(JL x0&&(ieq x7 0&&ieq x8 0))=true):QjV x0 x7 x8=QHb x0 x7 x8:=by
 simp only [Bc] at h
 obtain ⟨h1,h2,h3⟩:=h
 obtain rfl:=UB h1
 have h2:x7=0:=by simpa [ieq] using h2
 have h3:x8=0:=by simpa [ieq] using h3
 subst h2 h3
 rw [QHc]
 try rfl
theorem QHf:LO QjU QjS QuP 0:=QH (s:=Qdq) fun x y h _ q=>by simp only [QF,QG] at q;exact (QHe x.1 x.2.2.1 x.2.2.2.1 h).trans q
theorem QHg (l:List Exception)(h:JL l=true):QHd l=some (.t tI (F9 l),[]):=by
 obtain rfl:=UB h
 rfl
def QuR:Ent:=ZM [.ty (.sl Za),.cf 53] [] (fun x d=>(JL x.1)) (fun x d=>(.t tI (F9 x.1)))
theorem QHh:EM 94 QuR:=mS (lk:=lkL (lkc QHf lkn)) QjU QuO [((.t 4),some tI)] false (gB (gD ms_f53 gN)) fun m=>ZC m fun x d hok=>kT (QHg x.1 hok)
def QHi:TC:=aF Tryz.f52 []
def QHj:G:=gG 9 [(94,QuR)] (fun _ _=>none)
def QHk (p0:List Exception):OV:=br (JL p0) (some (.t .bool (ige (F9 p0) 0),[])) none
theorem QHl (l:List Exception)(h:JL l=true):QHk l=some (.t .bool (Ea l),[]):=by
 obtain rfl:=UB h
 rfl
def QuS:Ent:=ZM [.ty (.sl Za),.cf 53] [] (fun x d=>(JL x.1)) (fun x d=>(.t .bool (Ea x.1)))
theorem QHm:EM 52 QuS:=mS QHj QHi [((.t 4),some .bool)] false (gB (gD QHh gN)) fun m=>ZC m fun x d hok=>kT (QHl x.1 hok)
def rl (y:Policy)(l:List Exception)(o:Dice)(d:Int):Rules:=(y,(l,(o,(d,()))))
def Yt (r:Rules):Bool:=Y7 r.1&&JL r.2.1
def J3 (r:Rules):Int:=bif ine (XL r.1) 0 then 25 else bif ilt r.2.2.2.1 0||igt r.2.2.2.1 40000 then 2 else 0
def tc_f28:TC:=aF Tryz.f28 []
def g_f28:G:=gG 21 [(51,Qha),(52,QuS)] (fun _ _=>none)
def r_f28 (p0:Rules):OV:=br (Y7 p0.1) (br (ine (XL p0.1) 0) (some (.t tI 25,[])) (br (JL p0.2.1) (br (Ea p0.2.1) (some (.t tI 26,[])) (br (ilt p0.2.2.2.1 0) (some (.t tI 2,[])) (br (igt p0.2.2.2.1 40000) (some (.t tI 2,[])) (some (.t tI 0,[]))))) none)) none
theorem s_f28 (r:Rules)(h:Yt r=true):r_f28 r=some (.t tI (J3 r),[]):=by
 obtain ⟨h1,h2⟩:=Bi.1 h
 unfold r_f28 J3
 refine brY h1 ?_
 cases ine (XL r.1) 0 with
 |true=>rfl
 |false=>
  rw [Qf]
  refine brY h2 ?_
  show br false _ _=_
  rw [Qf]
  cases ilt r.2.2.2.1 0 with
  |true=>rfl
  |false=>cases igt r.2.2.2.1 40000<;>rfl
def Qdr:Ent:=Qk (.pr GB .nil) (fun x=>(Yt x.1)) (fun x=>(.t tI (J3 x.1)))
theorem QjX:EM 28 Qdr:=mS g_f28 tc_f28 [((.t 2),some tI)] false (gB (gD QpZ (gD QHm gN))) fun m=>Qm m fun x hok=>kT (s_f28 x.1 hok)
def Gx (r:Rules)(s:Endpoint)(o:Keep):Bool:=(WV r.1 r.2.1 r.2.2.1 s o r.2.2.2.1).1
def OI (r:Rules)(s:Endpoint)(l m:List Keep)(k:Int):Bool:=Yt r&&(QU s&&decide (l.length<=1000/\(m.length:Int)<=k))
def YN (r:Rules)(e:Estate)(i:Int):List Keep:=(Q4 e i).1.filter (Gx r (Q4 e i).2)
def UG (r:Rules)(e:Estate)(i:Int):Bool:=Yt r&&YM e i
theorem QHn (r:Rules)(e:Estate)(i:Int):(YN r e i).length<=64:=Da (List.length_filter_le _ _) IT
abbrev Qds:Sh:=⟨[(3,.ptr 3 0),(7,.ms 7),(9,.ptr 9 0),(20,.ty (.sl Qd)),(21,.ty tI),(22,.ty tI)],[(3,.box GB),(7,.arr 54 Qd),(9,.box Qo),(44,.no)]⟩
abbrev QuT:Sh:=⟨[(7,.ms 7)],[(7,.arr 54 Qd),(44,.no)]⟩
def QjY:Fg:=Qds.f
def QuU:TC:=aF Tryz.f29 [(122,.nw 7 54),(122,pL 0 QjY),(1957,.fg QuT.f)]
def QuV:TC:=lb 0 QuU
def QuW (x20:List Keep)(x21 x22:Int)(y3:Rules)(y7:List Keep)(y9:Endpoint):VS:=Qds.st ((),(),(),x20,x21,x22,()) (y3,y7,y9,(),())
def QjZ (y7:List Keep):VS:=QuT.st ((),()) (y7,(),())
def QHo:VS->Option (Bool×List (Bool×Exit×VS)):=mkL Qds (fun x y=>(Qt x.2.2.2.1 x.2.2.2.2.1 x.2.2.2.2.2.1&&OI y.1 y.2.2.1 x.2.2.2.1 y.2.1 x.2.2.2.2.2.1)) (fun x y=>[(true,.exit 0,QjZ (y.2.1++(x.2.2.2.1.drop x.2.2.2.2.2.1.toNat).filter (Gx y.1 y.2.2.1)))])
def Qj0:G:=gG 47 [(55,Et),(56,Qs2)] (Ls [QHo])
def Qdt (x20:List Keep)(x21 x22:Int)(y3:Rules)(y7:List Keep)(y9:Endpoint):OX:=Qv (QB Qj0 QjY QuV) (QuW x20 x21 x22 y3 y7 y9)
def OJ (kk:List Keep->Int->Int->Rules->List Keep->Endpoint->OX)(x20:List Keep)(x21 x22:Int)(y3:Rules)(y7:List Keep)(y9:Endpoint):OX:=
 let a1:=lgt Qd x20 (Int.toNat x22)
 br (ilt x22 x21) (br (cIx x20 x22) (br (Ok y3.1 y3.2.1 y3.2.2.1 y9 a1 y3.2.2.2.1) (br ((WV y3.1 y3.2.1 y3.2.2.1 y9 a1 y3.2.2.2.1).1) (br (QJ y7 ([(a1.1,((a1.2).1,()))]) 16) (kk x20 x21 (Qg .i64 x22 1) y3 (y7++([(a1.1,((a1.2).1,()))])) y9) none) (kk x20 x21 (Qg .i64 x22 1) y3 y7 y9)) none) none) (some (.exit 0,QjZ y7))
def Qdu (x20:List Keep)(x21 x22:Int)(y3:Rules)(y7:List Keep)(y9:Endpoint):OX:=some (.exit 0,QjZ (y7++(x20.drop x22.toNat).filter (Gx y3 y9)))
theorem QuX (x20:List Keep)(x21 x22:Int)(y3:Rules)(y7:List Keep)(y9:Endpoint):Qdt x20 x21 x22 y3 y7 y9=OJ Qdt x20 x21 x22 y3 y7 y9:=lnT (x:=OJ (fun x20 x21 x22 y3 y7 y9=>some (.normal,QuW x20 x21 x22 y3 y7 y9)) x20 x21 x22 y3 y7 y9) (by simp only [OJ,nxA];rfl)
def r_f29 (p0:Rules)(p1:Estate)(p2:Int):OV:=
 let a1:=((Q4 p1 p2).1)
 br (YM p1 p2) (br (Qt a1 (Qa a1) (0:Int)&&OI p0 ((Q4 p1 p2).2) a1 ([]:List Keep) (0:Int)) (some (.t (.sl Qd) (([]:List Keep)++(a1.drop (0:Int).toNat).filter (Gx p0 ((Q4 p1 p2).2))),[])) none) none
theorem QHp (x20:List Keep)(x21 x22:Int)(y3:Rules)(y7:List Keep)(y9:Endpoint)(h:(Qt x20 x21 x22&&OI y3 y9 x20 y7 x22)=true):Qdt x20 x21 x22 y3 y7 y9=Qdu x20 x21 x22 y3 y7 y9:=by
 simp only [OI,Bc,Ba] at h
 obtain ⟨h,g1,g2,g3,g4⟩:=h
 obtain ⟨rfl,h3,k,rfl,hk⟩:=Jy h
 clear h
 obtain ⟨r1,r2⟩:=Bi.1 g1
 revert y7
 refine QR x20 (fun k=> ∀ y7:List Keep,(y7.length:Int)<=(k:Int)->Qdt x20 (x20.length:Int) (k:Int) y3 y7 y9=Qdu x20 (x20.length:Int) (k:Int) y3 y7 y9) ?_ ?_ k hk
 ·intro y7 _
  rw [QuX]
  simp only [OJ,Qdu,QC,BV,B2,Qf,Bd,BQ,List.filter_nil,BO]
 ·intro k hk ih y7 g4
  rw [QuX]
  have e1: ∀ o,Ok y3.1 y3.2.1 y3.2.2.1 y9 o y3.2.2.2.1=true:=fun _=>Bi.2 ⟨r1,Bi.2 ⟨r2,g2⟩⟩
  have hx:((x20[k].1,(x20[k].2.1,())):Keep)=x20[k]:=rfl
  have e2:QJ y7 [x20[k]] 16=true:=Ji (by omega) (by simp only [Bp];omega)
  simp only [OJ,QC,QI,hk,Bv,Qc,Bd,QQ (show k<4611686018427387904 by omega),e1,QP (y:=Qd) hk,hx,e2]
  rw [ih (y7++[x20[k]]) (by simp only [Bl,Bp];omega),ih y7 (by omega)]
  simp only [Qdu,Bd,Bj hk,List.filter_cons]
  show br (Gx y3 y9 x20[k]) _ _=_
  cases Gx y3 y9 x20[k] with
  |true=>simp only [Qc,if_true,BR,BN]
  |false=>simp only [Qf,BK,Do]
theorem QHq:LO Qj0 QjY QuV 0:=QH (s:=Qds) fun x y h _ q=>by simp only [QF,QG] at q;exact (QHp x.2.2.2.1 x.2.2.2.2.1 x.2.2.2.2.2.1 y.1 y.2.1 y.2.2.1 h).trans q
theorem s_f29 (r:Rules)(e:Estate)(i:Int)(h:UG r e i=true):r_f29 r e i=some (.t (.sl Qd) (YN r e i),[]):=by
 obtain ⟨h1,h2⟩:=Bi.1 h
 obtain ⟨h3,h4⟩:=Bi.1 h2
 have hs:QU (X7 e i).2=true:=(Bi.1 h4).2
 have hl:(Q4 e i).1.length<=64:=IT
 unfold r_f29 YN
 refine brY h2 (brY ?_ ?_)
 ·rw [Jz (by omega),BE]
  unfold OI
  rw [h1,BE]
  exact Bi.2 ⟨hs,Be ⟨by omega,by simp⟩⟩
 ·rw [Bu,BA,BT]
def Qdv:Ent:=Qk (.pr GB (.pr QE (.pr tI .nil))) (fun x=>(UG x.1 x.2.1 x.2.2.1)) (fun x=>(.t (.sl Qd) (YN x.1 x.2.1 x.2.2.1)))
theorem Qj1:EM 29 Qdv:=mS (lk:=lkL (lkc QHq lkn)) Qj0 QuU [((.t 6),some (.sl Qd))] false (gB (gD QjR (gD ms_f56 gN))) fun m=>Qm m fun x hok=>kT (s_f29 x.1 x.2.1 x.2.2.1 hok)
def Eu (e:Estate)(y:Policy)(l:List Exception)(o:Dice)(i d:Int):List Keep×Int:=
 bif !JO e then ([],31) else bif ine (J3 (rl y l o d)) 0 then ([],J3 (rl y l o d)) else bif ilt i 0||ige i (Qa e.2.1) then ([],4) else (YN (rl y l o d) e i,0)
def Qj2 (e:Estate)(y:Policy)(l:List Exception)(o:Dice)(_i d:Int):Bool:=Jv e&&Yt (rl y l o d)
def tc_f15:TC:=aF Tryz.f15 []
def g_f15:G:=gG 42 [(27,QeT),(28,Qdr),(29,Qdv)] (fun _ _=>none)
def r_f15 (p0:Estate)(p1:Policy)(p2:List Exception)(p3:Dice)(p4 p5:Int):OV:=
 let a1:=((p1.1,(p1.2.1,())),(p2,((p3.1,(p3.2.1,())),(p5,()))))
 br (Jv p0) (br (ine (Z9 p0) 0) (some (.tu [(.t (.sl Qd) ([]:List Keep)),(.t tI 31)],[])) (br (Yt a1) (br (ine (J3 a1) 0) (some (.tu [(.t (.sl Qd) ([]:List Keep)),(.t tI (J3 a1))],[])) (br (ilt p4 0) (some (.tu [(.t (.sl Qd) ([]:List Keep)),(.t tI 4)],[])) (br (ige p4 (Qa p0.2.1)) (some (.tu [(.t (.sl Qd) ([]:List Keep)),(.t tI 4)],[])) (br (UG a1 p0 p4) (some (.tu [(.t (.sl Qd) (YN a1 p0 p4)),(.t tI 0)],[])) none)))) none)) none
theorem s_f15 (e:Estate)(y:Policy)(l:List Exception)(o:Dice)(i d:Int)(h:Qj2 e y l o i d=true):r_f15 e y l o i d=some (.tu [.t (.sl Qd) (Eu e y l o i d).1,.t tI (Eu e y l o i d).2],[]):=by
 obtain ⟨h1,h2⟩:=Bi.1 h
 unfold r_f15 Eu
 refine brY h1 ?_
 rw [ER]
 cases ho:JO e with
 |false=>rfl
 |true=>
  rw [BG,Qf]
  refine brY (show Yt (rl y l o d)=true from h2) ?_
  show br (ine (J3 (rl y l o d)) 0) (some (V.tu [V.t (.sl Qd) ([]:List Keep),V.t tI (J3 (rl y l o d))],[])) _=_
  cases ine (J3 (rl y l o d)) 0 with
  |true=>rfl
  |false=>
   rw [Qf]
   cases h3:ilt i 0 with
   |true=>rfl
   |false=>
    rw [Qf]
    cases h4:ige i (Qa e.2.1) with
    |true=>rfl
    |false=>
     rw [Qf]
     have h3:=DB h3
     have h4:=DB h4
     simp only [Qa] at h4
     exact brY (show UG (rl y l o d) e i=true from Bi.2 ⟨h2,Es ho h1 (by omega) (by omega)⟩) rfl
def QuY:Ent:=Qk (.pr QE (.pr YO (.pr (.sl Za) (.pr Q1 (.pr tI (.pr tI .nil)))))) (fun x=>(Qj2 x.1 x.2.1 x.2.2.1 x.2.2.2.1 x.2.2.2.2.1 x.2.2.2.2.2.1)) (fun x=>(.tu [(.t (.sl Qd) ((Eu x.1 x.2.1 x.2.2.1 x.2.2.2.1 x.2.2.2.2.1 x.2.2.2.2.2.1).1)),(.t tI ((Eu x.1 x.2.1 x.2.2.1 x.2.2.2.1 x.2.2.2.2.1 x.2.2.2.2.2.1).2))]))
theorem ms_f15:EM 15 QuY:=mS g_f15 tc_f15 [((.t 12),some (.sl Qd)),((.t 13),some tI)] false (gB (gD QlN (gD QjX (gD Qj1 gN)))) fun m=>Qm m fun x hok=>kT (s_f15 x.1 x.2.1 x.2.2.1 x.2.2.2.1 x.2.2.2.2.1 x.2.2.2.2.2.1 hok)
def Z4 (a b:Estate):Int:=bif !JO a then 31 else bif !JO b then 31 else bif !Wm a.2.1 b.2.1 then 42 else 0
def Gy (a b:Estate):Bool:=Jv a&&Jv b
theorem QuZ {a b:Estate}(h:ine (Z4 a b) 0=false):JO a=true/\JO b=true/\a.2.1=b.2.1:=by
 unfold Z4 at h
 cases h1:JO a with
 |false=>rw [h1] at h;cases h
 |true=>
  rw [h1] at h
  cases h2:JO b with
  |false=>rw [h2] at h;cases h
  |true=>
   rw [h2] at h
   cases h3:Wm a.2.1 b.2.1 with
   |false=>rw [h3] at h;cases h
   |true=>exact ⟨rfl,rfl,QuL.1 h3⟩
def tc_f30:TC:=aF Tryz.f30 []
def g_f30:G:=gG 21 [(27,QeT),(57,QuK)] (fun _ _=>none)
def r_f30 (p0 p1:Estate):OV:=br (Jv p0) (br (ine (Z9 p0) 0) (some (.t tI 31,[])) (br (Jv p1) (br (ine (Z9 p1) 0) (some (.t tI 31,[])) (br (Qdl p0.2.1 p1.2.1) (br (!(Wm p0.2.1 p1.2.1)) (some (.t tI 42,[])) (some (.t tI 0,[]))) none)) none)) none
theorem s_f30 (a b:Estate)(h:Gy a b=true):r_f30 a b=some (.t tI (Z4 a b),[]):=by
 obtain ⟨h1,h2⟩:=Bi.1 h
 unfold r_f30 Z4
 refine brY h1 ?_
 rw [ER]
 cases g1:JO a with
 |false=>rfl
 |true=>
  rw [BG,Qf]
  refine brY h2 ?_
  rw [ER]
  cases g2:JO b with
  |false=>rfl
  |true=>
   rw [BG,Qf]
   have p1:=UW g1
   have p2:=UW g2
   refine brY (show Qdl a.2.1 b.2.1=true from Be ⟨by have:a.2.1.length<=40:=p1.2.2.2.2.2;omega,by have:b.2.1.length<=40:=p2.2.2.2.2.2;omega⟩) ?_
   cases Wm a.2.1 b.2.1<;>rfl
def Qj3:Ent:=Qk (.pr QE (.pr QE .nil)) (fun x=>(Gy x.1 x.2.1)) (fun x=>(.t tI (Z4 x.1 x.2.1)))
theorem Qu0:EM 30 Qj3:=mS g_f30 tc_f30 [((.t 4),some tI)] false (gB (gD QlN (gD ms_f57 gN))) fun m=>Qm m fun x hok=>kT (s_f30 x.1 x.2.1 hok)
end
end Go.Proofs.YtmjnnemhoeolgaaGreat.K
noncomputable section
namespace Go.Proofs.YtmjnnemhoeolgaaGreat.K
open Go.RowKit
def cU (l:List Keep):List Value:=l.flatMap fun u=>[.int .i64 u.1,.int .i64 u.2.1]
theorem Qez: ∀ l:List Keep,(cU l).length=l.length*2
 | []=>rfl
 |u::l=>by
  have:=Qez l
  simp only [cU,BL,Bl,Bt,BD] at this ⊢
  omega
theorem Qxy (l:List Keep): ∀ v∈cU l,v.oneCell'=true:=by
 intro v hv
 simp only [cU,Dt,BY,Dk,or_false] at hv
 obtain ⟨u,_,rfl|rfl⟩:=hv<;>rfl
theorem QeA {X:Nat->Nat->Prop}{w:World}{σ:Pl}: ∀ {l:List Keep} {vs:List Value},Cs X w σ (l.flatMap Qd.cells) vs->vs=cU l
 | [],vs,h=>by simpa [Cs,cU] using h
 |x::l,vs,h=>by
  have h:Cs X w σ (D.v (.int .i64 x.1)::D.v (.int .i64 x.2.1)::l.flatMap Qd.cells) vs:=h
  simp only [Cs] at h
  obtain ⟨u0,r0,rfl,c0,u1,r1,rfl,c1,h2⟩:=h
  simp only [C] at c0 c1
  rw [QeA h2,c0.1,c1.1]
  rfl
abbrev GT (o:Keep):Value:= .agg #[.int .i64 o.1,.int .i64 o.2.1]
theorem keep_c {X:Nat->Nat->Prop}{w:World}{σ:Pl}(o:Keep):C X w σ (V.t Qd o).d (GT o):=by
 simp only [V.d]
 rw [Ty.d_row Qd _ rfl]
 simp only [C]
 exact ⟨[.int .i64 o.1,.int .i64 o.2.1],rfl,_,_,rfl,⟨rfl,rfl⟩,_,_,rfl,⟨rfl,rfl⟩,rfl⟩
theorem Qlr {X:Nat->Nat->Prop}{w:World}{σ:Pl}:Lent X w σ []:=⟨fun j o hj=>by simp at hj,fun i j b _ hi=>by simp at hi⟩
theorem Qls {X X':Nat->Nat->Prop}{w w':World}{σ σ':Pl}{os:List VO}(h:Ends X w σ 0 X' w' σ' os):Below w.heap.size w w':=
 ⟨h.fr.os,h.fr.tape,h.fr.output,h.fr.size,fun b hb=>h.fr.keep b hb (by simp [Xi])⟩
theorem QJV {X:Nat->Nat->Prop}{w:World}{σ:Pl}{s:Endpoint}{o:Keep}{sv:Value}(hfin: ∀ b q,X b q->b<w.heap.size)(hs:C X w σ (V.t Qo s).d sv)(hl:QU s=true):
  Calls Tryz.prog 96 #[sv,GT o] w fun e w'=> ∃ A c er,e= .returned (.tuple #[.slice A (Jg s o).1.length c,.int .i64 er])/\(Jg s o).1.length<=c∧
   (0<(Jg s o).1.length→ ∃ b off,A=some ⟨b,off,none⟩∧ ∀ j v,(cU (Jg s o).1)[j]? = some v->w'.cell? ⟨b,off+j,none⟩=some v)/\Below w.heap.size w w':=by
 have hF:Qy QbD [.t Qo s,.t Qd o] []=some (.tu [.t (.sl Qd) (Jg s o).1,.t tI (Jg s o).2],[]):=by
  unfold QbD
  exact Qa3 (a:= .pr Qo (.pr Qd .nil)) (x:=(s,(o,()))) (by simp [Ty.args,Qd8]) hl
 refine (UM (by decide) (QqM.2 _ _ _ _ hF X w σ [sv,GT o] hfin Qlr ⟨sv,_,rfl,hs,GT o,_,rfl,keep_c o,rfl⟩)).mono ?_
 rintro e w' ⟨u,X',σ',rfl,h1,h2⟩
 have h1:C X' w' σ' (.tu [.sl (Jg s o).1.length ((Jg s o).1.flatMap Qd.cells),.v (.int .i64 (Jg s o).2)]) u:=h1
 simp only [C,Cs] at h1
 obtain ⟨vs,rfl,u1,us,rfl,⟨A,c,rfl,g1,g2,g3,g4⟩,u2,us2,rfl,⟨rfl,_⟩,rfl⟩:=h1
 refine ⟨A,c,_,rfl,g1,fun hp=> ?_,Qls h2⟩
 obtain ⟨b,off,vs,rfl,k1,k2⟩:=g4 hp
 rw [QeA k1] at k2
 exact ⟨b,off,rfl,fun j v hv=>k2.at_ j v hv⟩
theorem QJW {P:Program}{w:World}{T ty elem:TypeId}(hu:P.underlying T=some (.slice elem))(hs:(P.info? elem).map (·.size)=some 2){b o n c:Nat}{A:Option Addr}{cs:List Value}(hn:n<=4)(hl:cs.length=n*2)
  (hp:0<n→ ∃ a,A=some a∧ ∀ j v,cs[j]? = some v->w.cell? (a.add j)=some v) (hc: ∀ j,j<cs.length->(w.cell? ⟨b,o+j,none⟩).isSome=true) (hf: ∀ j,j<cs.length->w.frozen? ⟨b,o+j,none⟩=false) (h1: ∀ v∈cs,v.oneCell'=true):
  (Builtin.copy_ #[T,T] ty #[.slice (some ⟨b,o,none⟩) 4 4,.slice A n c]).run P w= .ok (goInt n) (w.setCells b o cs):=by
 have hst:=run_storeCells_cells (P:=P) b o cs 0 w (by simpa using hc) (by simpa using hf) h1
 have hm:Nat.min n 4=n:=Nat.min_eq_left hn
 cases hq:P.info? elem with
 |none=>simp [hq] at hs
 |some i=>
  have hi:i.size=2:=by simpa [hq] using hs
  rcases DP n with rfl|h0
  ·have hcs:cs=[]:=By (by omega)
   subst hcs
   have hl0: ∀ (x:Addr),(loadCells x 0).run P w= .ok #[] w:=fun x=>by simpa using run_loadCells_list (P:=P) w x [] (by simp)
   cases A<;>simp [Builtin.copy_,run_underlying hu,Builtin.lenOf,Builtin.firstCells,sizeOf,typeInfo,hq,hi,hl0,storeCells,World.setCells]
  ·obtain ⟨a,rfl,hsrc⟩:=hp h0
   have hld:=run_loadCells_list (P:=P) w a cs hsrc
   rw [hl] at hld
   simp [Builtin.copy_,run_underlying hu,Builtin.lenOf,Builtin.firstCells,sizeOf,typeInfo,hq,hi,hm,hld,hst]
def GU (l:List Keep):List Keep:=(l++List.replicate 4 zK).take 4
def mV (o:Keep)(us:List Keep):Array Value:=(.int .i64 o.1:: .int .i64 o.2.1::cU (GU us)).toArray
set_option maxRecDepth 50000 in
set_option maxHeartbeats 1000000 in
theorem of_any {v0 v1 v2 v3 v4 v5 v6 v7 v8:Value}{o:Keep}{us:List Keep}{w:World}
  (o0:v0.oneCell'=true) (o1:v1.oneCell'=true) (o2:v2.oneCell'=true) (o3:v3.oneCell'=true) (o4:v4.oneCell'=true) (o5:v5.oneCell'=true) (o6:v6.oneCell'=true) (o7:v7.oneCell'=true) (o8:v8.oneCell'=true)
  (hU: ∀ W,Below w.heap.size w W->Calls Tryz.prog 96 #[.agg #[v0,v1,v2,v3,v4,v5,v6,v7,v8],GT o] W fun e w'=> ∃ A c er,e= .returned (.tuple #[.slice A us.length c,.int .i64 er])/\us.length<=c∧
   (0<us.length→ ∃ b off,A=some ⟨b,off,none⟩∧ ∀ j v,(cU us)[j]? = some v->w'.cell? ⟨b,off+j,none⟩=some v)/\Below W.heap.size W w')
  (hn:us=[]∨ ∃ a b c d,us=[a,b,c,d]):
  Calls Tryz.prog 59 #[.agg #[v0,v1,v2,v3,v4,v5,v6,v7,v8],GT o] w fun e w'=>e= .returned (.agg (mV o us))/\Below w.heap.size w w':=by
 go_enter Tryz.func59,Tryz.ntmps59
 go_wp2_with fail
 obtain ⟨Wa,ha⟩: ∃ Wa,Wa=w.alloc (.cells #[v0,v1,v2,v3,v4,v5,v6,v7,v8] 61):=⟨_,rfl⟩
 obtain ⟨Wb,hb⟩: ∃ Wb,Wb=Wa.alloc (.cells #[.int .i64 o.1,.int .i64 o.2.1] 54):=⟨_,rfl⟩
 obtain ⟨Wc,hc⟩: ∃ Wc,Wc=Wb.alloc (.cells #[.int .i64 0,.int .i64 0,.int .i64 0,.int .i64 0,.int .i64 0,.int .i64 0,.int .i64 0,.int .i64 0,.int .i64 0,.int .i64 0] 132):=⟨_,rfl⟩
 obtain ⟨Wd,hd⟩: ∃ Wd,Wd=Wc.alloc (.cells #[.int .i64 o.1,.int .i64 o.2.1,.int .i64 0,.int .i64 0,.int .i64 0,.int .i64 0,.int .i64 0,.int .i64 0,.int .i64 0,.int .i64 0] 132):=⟨_,rfl⟩
 obtain ⟨S,hS⟩: ∃ S,S=w.heap.size:=⟨_,rfl⟩
 rw [←ha, ← hb, ← hc, ← hd, ← hS]
 have sa:Wa.heap.size=S+1:=by rw [ha,World.size_alloc,hS]
 have sb:Wb.heap.size=S+1+1:=by rw [hb,World.size_alloc,sa]
 have sc:Wc.heap.size=S+1+1+1:=by rw [hc,World.size_alloc,sb]
 have sd:Wd.heap.size=S+1+1+1+1:=by rw [hd,World.size_alloc,sc]
 have b4:Below w.heap.size w Wd:=by
  rw [hd,hc,hb,ha]
  have e1:=(Below.refl w.heap.size w).alloc (BJ _) (.cells #[v0,v1,v2,v3,v4,v5,v6,v7,v8] 61)
  have e2:=e1.alloc e1.size (.cells #[.int .i64 o.1,.int .i64 o.2.1] 54)
  have e3:=e2.alloc e2.size (.cells #[.int .i64 0,.int .i64 0,.int .i64 0,.int .i64 0,.int .i64 0,.int .i64 0,.int .i64 0,.int .i64 0,.int .i64 0,.int .i64 0] 132)
  exact e3.alloc e3.size _
 have k2:Go.Proofs.YtmjnnemhoeolgaaGreat.Blk Wd (S+1+1) 132 #[.int .i64 0,.int .i64 0,.int .i64 0,.int .i64 0,.int .i64 0,.int .i64 0,.int .i64 0,.int .i64 0,.int .i64 0,.int .i64 0]:=by
  rw [hd];refine Go.Proofs.YtmjnnemhoeolgaaGreat.Blk.alloc ?_ _;rw [hc, ← sb];exact Go.Proofs.YtmjnnemhoeolgaaGreat.Blk.new _ _ _
 have k3:Go.Proofs.YtmjnnemhoeolgaaGreat.Blk Wd (S+1+1+1) 132 #[.int .i64 o.1,.int .i64 o.2.1,.int .i64 0,.int .i64 0,.int .i64 0,.int .i64 0,.int .i64 0,.int .i64 0,.int .i64 0,.int .i64 0]:=by
  rw [hd, ← sc];exact Go.Proofs.YtmjnnemhoeolgaaGreat.Blk.new _ _ _
 clear ha hb hc hd sa sb sc
 refine (hU _ b4).mono ?_
 rintro e w1 ⟨A,c,er,rfl,hc,hp,hb1⟩
 have hsz:=hb1.size
 have k2:=k2.ext hb1
 have k3:=k3.ext hb1
 have b5:Below S w w1:=hS▸WJ b4 hb1 (by omega)
 have HP:=Lib.hid hp
 have HB:=Lib.hid b5
 clear hp hb1 hU b4 b5
 have hM: ∃ m0 m1 m2 m3 m4 m5 m6 m7:Int,QX [.int .i64 o.1,.int .i64 o.2.1,.int .i64 0,.int .i64 0,.int .i64 0,.int .i64 0,.int .i64 0,.int .i64 0,.int .i64 0,.int .i64 0] 2 (cU us)=[.int .i64 o.1,.int .i64 o.2.1,.int .i64 m0,.int .i64 m1,.int .i64 m2,.int .i64 m3,.int .i64 m4,.int .i64 m5,.int .i64 m6,.int .i64 m7]/\mV o us= #[.int .i64 o.1,.int .i64 o.2.1,.int .i64 m0,.int .i64 m1,.int .i64 m2,.int .i64 m3,.int .i64 m4,.int .i64 m5,.int .i64 m6,.int .i64 m7]:=by
  rcases hn with rfl|⟨a,b,c,d,rfl⟩<;>exact ⟨_,_,_,_,_,_,_,_,rfl,rfl⟩
 have hn4:us.length<=4:=by rcases hn with rfl|⟨a,b,c,d,rfl⟩<;>simp
 obtain ⟨m0,m1,m2,m3,m4,m5,m6,m7,hm1,hm2⟩:=hM
 have HM:=Lib.hid hm2
 have f3:=k3.frozen
 have hl8:=Qez us
 have hrun:=QJW (P:=Tryz.prog) (w:=w1) (T:=109) (ty:=3) (elem:=64) (by kernel_rfl) (by kernel_rfl) (b:=S+1+1+1) (o:=2) (n:=us.length) (c:=c) (A:=A) (cs:=cU us) hn4 hl8
  (fun h0=>by
   obtain ⟨b,off,rfl,h⟩:=HP.out h0
   exact ⟨_,rfl,fun j v hv=>by
    have:=h j v hv
    have ha:(Addr.mk b off none).add j=⟨b,off+j,none⟩:=by by_cases h0:j=0<;>simp [Addr.add,h0]
    rw [ha]
    exact this⟩)
  (fun j hj=>by
   rw [k3.cell,Array.getElem?_eq_getElem (by simp;omega)]
   rfl)
  (fun j _=>f3 _) (Qxy us)
 have k3':=Gk (S+1+1+1) 132 (0,0) (cU us) 2 w1 _ k3
 rw [hm1] at k3'
 have k2':Go.Proofs.YtmjnnemhoeolgaaGreat.Blk (w1.setCells (S+1+1+1) 2 (cU us)) (S+1+1) 132 #[.int .i64 0,.int .i64 0,.int .i64 0,.int .i64 0,.int .i64 0,.int .i64 0,.int .i64 0,.int .i64 0,.int .i64 0,.int .i64 0]:=(WN (S+1+1+1) (cU us) 2 w1 (S+1+1) (by omega)).trans k2
 have b6:Below S w (w1.setCells (S+1+1+1) 2 (cU us)):=by
  have fr:=WO (S+1+1+1) (cU us) 2 w1
  exact HB.out.trans ⟨fr.os,fr.tape,fr.output,fr.size,fun k hk=>WN (S+1+1+1) (cU us) 2 w1 k (by omega)⟩
 generalize w1.setCells (S+1+1+1) 2 (cU us)=w2 at*
 replace k3':Go.Proofs.YtmjnnemhoeolgaaGreat.Blk w2 (S+1+1+1) 132 #[.int .i64 o.1,.int .i64 o.2.1,.int .i64 m0,.int .i64 m1,.int .i64 m2,.int .i64 m3,.int .i64 m4,.int .i64 m5,.int .i64 m6,.int .i64 m7]:=k3'
 have HB2:=Lib.hid b6
 have K2:=Lib.hid k2'
 clear k2 k3 HB HP hn hn4 hm1 hm2 hl8 b6 sd hsz Wa Wb Wc hc
 have HS:=Lib.hid hS
 clear hS
 have q0:=k3'.cell 0
 have q1:=k3'.cell 1
 have q2:=k3'.cell 2
 have q3:=k3'.cell 3
 have q4:=k3'.cell 4
 have q5:=k3'.cell 5
 have q6:=k3'.cell 6
 have q7:=k3'.cell 7
 have q8:=k3'.cell 8
 have q9:=k3'.cell 9
 have p0:=k2'.cell 0
 have p1:=k2'.cell 1
 have p2:=k2'.cell 2
 have p3:=k2'.cell 3
 have p4:=k2'.cell 4
 have p5:=k2'.cell 5
 have p6:=k2'.cell 6
 have p7:=k2'.cell 7
 have p8:=k2'.cell 8
 have p9:=k2'.cell 9
 simp only [Ds,BZ,BS] at q0 q1 q2 q3 q4 q5 q6 q7 q8 q9 p0 p1 p2 p3 p4 p5 p6 p7 p8 p9
 have f2:=k2'.frozen
 clear k3' k2' f3
 generalize us.length=n at*
 go_wp2_with fail
 have fr:=WO (S+1+1) [.int .i64 o.1,.int .i64 o.2.1,.int .i64 m0,.int .i64 m1,.int .i64 m2,.int .i64 m3,.int .i64 m4,.int .i64 m5,.int .i64 m6,.int .i64 m7] 0 w2
 have kF:=Gk (S+1+1) 132 (0,0) [.int .i64 o.1,.int .i64 o.2.1,.int .i64 m0,.int .i64 m1,.int .i64 m2,.int .i64 m3,.int .i64 m4,.int .i64 m5,.int .i64 m6,.int .i64 m7] 0 w2 _ K2.out
 change bodyPost _ _ _ _ _ (w2.setCells (S+1+1) 0 [.int .i64 o.1,.int .i64 o.2.1,.int .i64 m0,.int .i64 m1,.int .i64 m2,.int .i64 m3,.int .i64 m4,.int .i64 m5,.int .i64 m6,.int .i64 m7])
 have b7:Below S w (w2.setCells (S+1+1) 0 [.int .i64 o.1,.int .i64 o.2.1,.int .i64 m0,.int .i64 m1,.int .i64 m2,.int .i64 m3,.int .i64 m4,.int .i64 m5,.int .i64 m6,.int .i64 m7]):=HB2.out.trans ⟨fr.os,fr.tape,fr.output,fr.size,fun k hk=>WN (S+1+1) _ 0 w2 k (by omega)⟩
 clear fr q0 q1 q2 q3 q4 q5 q6 q7 q8 q9 p0 p1 p2 p3 p4 p5 p6 p7 p8 p9 f2 hrun
 generalize w2.setCells (S+1+1) 0 [.int .i64 o.1,.int .i64 o.2.1,.int .i64 m0,.int .i64 m1,.int .i64 m2,.int .i64 m3,.int .i64 m4,.int .i64 m5,.int .i64 m6,.int .i64 m7]=w3 at*
 replace kF:Go.Proofs.YtmjnnemhoeolgaaGreat.Blk w3 (S+1+1) 132 #[.int .i64 o.1,.int .i64 o.2.1,.int .i64 m0,.int .i64 m1,.int .i64 m2,.int .i64 m3,.int .i64 m4,.int .i64 m5,.int .i64 m6,.int .i64 m7]:=kF
 have r0:=kF.cell 0
 have r1:=kF.cell 1
 have r2:=kF.cell 2
 have r3:=kF.cell 3
 have r4:=kF.cell 4
 have r5:=kF.cell 5
 have r6:=kF.cell 6
 have r7:=kF.cell 7
 have r8:=kF.cell 8
 have r9:=kF.cell 9
 simp only [Ds,BZ,BS] at r0 r1 r2 r3 r4 r5 r6 r7 r8 r9
 refine bodyPost_ret (by simp [results,Tryz.results59,go_sem,r0,r1,r2,r3,r4,r5,r6,r7,r8,r9];rfl) rfl ?_
 rw [HM.out]
 have hS:=HS.out
 subst hS
 exact ⟨rfl,b7⟩
end Go.Proofs.YtmjnnemhoeolgaaGreat.K
