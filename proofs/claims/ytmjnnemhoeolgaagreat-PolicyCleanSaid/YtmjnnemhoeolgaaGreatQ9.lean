import Derived.Test.YtmjnnemhoeolgaaGreatQ8
import Derived.Test.YtmjnnemhoeolgaaGreatQ3
import Derived.Maps.OwnIn
import Derived.ChangeKeysEq
set_option linter.unusedSimpArgs false
set_option linter.unusedVariables false
noncomputable section
namespace Go.Proofs.YtmjnnemhoeolgaaGreat.K
open Go.RowKit
def Io (zs:List (Int×(Rule×Unit)))(u:Keep)(p d:Int):Option Int:=(zs.find? fun z=>Wj z.2.1 u p d).map (·.1)
def VP (zs:List (Int×(Rule×Unit)))(u:Keep)(p d _x:Int):Bool:=(Io zs u p d).isSome
def VQ (zs:List (Int×(Rule×Unit)))(u:Keep)(p d _x:Int):Int:=(Io zs u p d).getD 0
def ZP (y:Policy)(u:Keep)(p d:Int):Int:=(Io (Xn y.1) u p d).getD (-1)
abbrev Qfd:Sh:=⟨[(5,.ptr 60000 0),(6,.ptr 60001 0),(7,.ptr 60002 0),(8,.ptr 60003 0)],[(60000,.box Qd),(60001,.box tI),(60002,.box tI),(60003,.bag [.ty tI])]⟩
def Gr:Fg:=Qfd.f
def Qfe:TC:=(.sq (.reg (rT Tryz.f176 2)) (.reg (rT Tryz.f176 3)))
def Qff:TC:=(.bk 1 (.sq (.reg (rT Tryz.f176 4)) (.cd (.t 31) (.sq (.reg (rT Tryz.f176 5)) (.fg ⟨[],[(60000,some Qd),(60001,some tI),(60002,some tI),(60003,none)]⟩ .rt)) .sk)))
def QNH:TC:=(.sq (.reg (rT Tryz.f176 0)) (.sq (.sq (.reg (rT Tryz.f176 1)) (.bk 0 (.rf 0 Gr (.t 13) (.pr tI (.pr Ju .nil)) [14,15] [5,6,7,8] Qfe Qff))) (.sq (.reg (rT Tryz.f176 6)) .rt)))
def X6 (JG:Keep)(JH Jw J5:Int):VS:=Qfd.st ((),(),(),(),()) (JG,JH,Jw,(J5,()),())
def Qfg:VS->List (Ty.T (.pr tI (.pr Ju .nil)))->Option (Bool×List (Bool×Exit×VS)):=mkR Qfd (fun zs x y=>true) (fun zs x y=>[((VP zs y.1 y.2.1 y.2.2.1 y.2.2.2.1.1),.ret,X6 (y.1) (y.2.1) (y.2.2.1) (VQ zs y.1 y.2.1 y.2.2.1 y.2.2.2.1.1)),(true,.normal,X6 (y.1) (y.2.1) (y.2.2.1) (y.2.2.2.1.1))])
def Ip:G:=⟨TYs,[],33,EL [(204,QEi),(205,Qrb)],X9,(Ls [fun _=>none]),IL [(226,Qp0)],(RL [⟨(.pr tI (.pr Ju .nil)),Qfg⟩])⟩
def QzI (z:(Int×(Rule×Unit)))(JG:Keep)(JH Jw J5:Int):OX:=br (U5 z.2.1 JG JH) (br (ile z.2.1.2.2.2.2.1 Jw) (br (ilt Jw z.2.1.2.2.2.2.2.1) (some (.ret,X6 JG JH Jw z.1)) (some (.normal,X6 JG JH Jw J5))) (some (.normal,X6 JG JH Jw J5))) (some (.normal,X6 JG JH Jw J5))
def Iq (zs:List (Int×(Rule×Unit)))(JG:Keep)(JH Jw J5:Int):OX:=Xm (WD Ip Gr (.pr tI (.pr Ju .nil)) [14,15] Qfe Qff) zs (X6 JG JH Jw J5)
def Qm7 (z:(Int×(Rule×Unit)))(zs:List (Int×(Rule×Unit)))(JG:Keep)(JH Jw J5:Int):OX:=br (U5 z.2.1 JG JH) (br (ile z.2.1.2.2.2.2.1 Jw) (br (ilt Jw z.2.1.2.2.2.2.2.1) (some (.ret,X6 JG JH Jw z.1)) (Iq zs JG JH Jw J5)) (Iq zs JG JH Jw J5)) (Iq zs JG JH Jw J5)
def QzJ (zs:List (Int×(Rule×Unit)))(JG:Keep)(JH Jw J5:Int):OX:=br (VP zs JG JH Jw J5) (some (.ret,X6 (JG) (JH) (Jw) (VQ zs JG JH Jw J5)))<|some (.normal,X6 (JG) (JH) (Jw) (J5))
theorem QNI (z:(Int×(Rule×Unit)))(JG:Keep)(JH Jw J5:Int):WD Ip Gr (.pr tI (.pr Ju .nil)) [14,15] Qfe Qff z (X6 JG JH Jw J5)=QzI z JG JH Jw J5:=by kernel_rfl
theorem QNJ (JG:Keep)(JH:Int)(Jw:Int)(J5:Int):Iq [] JG JH Jw J5=some (.normal,X6 JG JH Jw J5):=rfl
theorem QNK (z:(Int×(Rule×Unit)))(zs:List (Int×(Rule×Unit)))(JG:Keep)(JH Jw J5:Int):Iq (z::zs) JG JH Jw J5=Qm7 z zs JG JH Jw J5:=(QuJ _ _ _ _).trans (by
 rw [QNI]
 simp only [QzI,Qm7,Gf,G3,G4,G5,G6]
 rfl)
def QzK (p0:Policy)(p1:Keep)(p2 p3:Int):OV:=br (VP (Xn p0.1) p1 p2 p3 0) (some (.t tI (VQ (Xn p0.1) p1 p2 p3 0),[])) (some (.t tI (-1),[]))
theorem QNL (zs:List (Int×(Rule×Unit)))(JG:Keep)(JH Jw J5:Int)(h:true=true):Iq zs JG JH Jw J5=QzJ zs JG JH Jw J5:=by
 clear h
 induction zs with
 |nil=>
  rw [QNJ]
  rfl
 |cons z zs ih=>
  rw [QNK]
  simp only [Qm7,ih,QzJ,VP,VQ,Io,List.find?_cons,Wj,Qie,ile,ilt,Estate.Endpoints,Estate.Edges,Estate.Items,Policy.Rules,Policy.Keeps,Dice.L,Dice.At,Keep.Client,Keep.Server,Endpoint.Name,Endpoint.Least,Endpoint.Most,Endpoint.Suites,Endpoint.OwnOrder,Endpoint.Identities,Endpoint.Anchors,Endpoint.Hashes,Endpoint.Fallback,Identity.Key,Identity.KeyId,Identity.Chain,Change.Endpoint,Change.Kind,Change.Number,Change.At,Change.Identity,Rule.Allow,Rule.Alg,Rule.Below,Rule.Purpose,Rule.From,Rule.To,Rules.p,Rules.l,Rules.o,Rules.day,Way.Outcome,Way.Most,Way.Suites,Item.Name,Item.Kind,Item.Purpose,Item.Links,Item.Until,Exception.Use,Exception.Purpose,Exception.Endpoint,Exception.Days,Exception.Seals,Method.outcome,Method.uses,Suite.Code,Suite.Name,Suite.Exchange,Suite.Sign,Suite.Cipher,Suite.Mac,Suite.Least,Suite.Most,Certificate.Serial,Certificate.Issuer,Certificate.Subject,Certificate.Key,Certificate.KeyId,Certificate.Hash,Certificate.From,Certificate.To,Certificate.Authority,Certificate.Path,Certificate.Names,Certificate.Seal,Link.Use,Link.Day,Talk.server,Talk.version,Talk.suites,Symbol.name,Symbol.kind,Row.name,Row.kind,Row.way,Row.sizes,Row.strengths]
  cases h1:U5 z.2.1 JG JH<;>cases h2:decide (z.2.1.2.2.2.2.1<=Jw)<;>cases h3:decide (Jw<z.2.1.2.2.2.2.2.1)<;>simp [Qb,Qf]
theorem QNM: ∀ S (rows:List (Ty.T (.pr tI (.pr Ju .nil)))) l p,Ip.R 0 (fgt Gr S) (.pr tI (.pr Ju .nil)) rows=some (true,l)->Yz l=some p->Xm (WD Ip Gr (.pr tI (.pr Ju .nil)) [14,15] Qfe Qff) rows (fgt Gr S)=some p:=by
 intro S rows l p hR hp
 rw [show Ip.R 0 (fgt Gr S) (.pr tI (.pr Ju .nil)) rows=Qfg (fgt Gr S) rows from RL_at (l:=[⟨(.pr tI (.pr Ju .nil)),Qfg⟩]) (j:=0) (F:=Qfg) rfl _ _] at hR
 refine QuI (s:=Qfd) ⟨by decide,by decide⟩ (by kernel_rfl) (fun zs x y hok p hp=> ?_) S rows l p hR hp
 simp only [QE,QF] at hp
 exact (QNL zs y.1 y.2.1 y.2.2.1 y.2.2.2.1.1 (by first|rfl|simpa using hok)).trans hp
theorem s_f176 (p0:Policy)(p1:Keep)(p2 p3:Int):QzK p0 p1 p2 p3=some (.t tI (ZP p0 p1 p2 p3),[]):=by
 simp only [QzK,ZP,VP,VQ]
 cases Io (Xn p0.1) p1 p2 p3<;>simp [Qb,Qf]
def Qm8:Ent:=Qi (.pr Jz (.pr Qd (.pr tI (.pr tI .nil)))) (fun x=>true) (fun x=>(.t tI (ZP x.1 x.2.1 x.2.2.1 x.2.2.2.1)))
theorem QzL:EM 176 Qm8:=mS (lk:=(by repeat first|exact trivial|exact QNM|constructor)) Ip QNH [((.c 8 false 1),some tI)] false (ZX _ (gA (gD QSs (gD QFR gN)))
 [(226,Qp0)] (by
 intro p hp
 simp only [B5,Do,or_false] at hp
 rcases hp with rfl
 ·exact QKS)) fun m=>Qm m fun x _=>kT (s_f176 x.1 x.2.1 x.2.2.1 x.2.2.2.1)
end Go.Proofs.YtmjnnemhoeolgaaGreat.K
noncomputable section
namespace Go.Proofs.YtmjnnemhoeolgaaGreat.K
open Go.RowKit
def ZF {α:Type}(m:α->Bool):List α->Option Nat
 | []=>none
 |a::l=>match ZF m l with
  |some k=>some (k+1)
  |none=>if m a then some 0 else none
theorem QoJ {α:Type}{m:α->Bool}{l2:List α}: ∀ l1:List α,ZF m (l1++l2)=match ZF m l2 with|some k=>some (l1.length+k)|none=>ZF m l1
 | []=>by
  simp only [BP,BB,DW]
  cases ZF m l2<;>rfl
 |a::l1=>by
  simp only [DB,ZF,QoJ l1,Bv]
  cases ZF m l2 with
  |none=>rfl
  |some k=>simp only [Bd];omega
theorem QCm {α:Type}{m:α->Bool}: ∀ {l:List α},ZF m l=none↔ ∀ a,a∈l->m a=false
 | []=>by simp [ZF]
 |a::l=>by
  have ih:=QCm (m:=m) (l:=l)
  simp only [ZF]
  cases h:ZF m l with
  |some k=>
   have: ¬ ∀ a,a∈l->m a=false:=fun g=>by rw [ih.2 g] at h;cases h
   simp only [B5,forall_eq_or_imp,reduceCtorEq,false_iff,not_and]
   exact fun _=>this
  |none=>
   have g:=ih.1 h
   cases hm:m a<;>simp_all
theorem QoK {α:Type}{m:α->Bool}: ∀ {l:List α} {k:Nat},ZF m l=some k↔ ∃ h:k<l.length,m l[k]=true∧ ∀ j (hj:j<l.length),k<j->m l[j]=false
 | [],k=>by simp [ZF]
 |a::l,k=>by
  have ih:= @QoK α m l
  simp only [ZF]
  cases h:ZF m l with
  |some i=>
   obtain ⟨h1,h2,h3⟩:=ih.1 h
   simp only [Bd]
   constructor
   ·rintro rfl
    refine ⟨by simp;omega,by simpa using h2,fun j hj hk=> ?_⟩
    cases j with
    |zero=>omega
    |succ j=>simpa using h3 j (by simpa using hj) (by omega)
   ·rintro ⟨g1,g2,g3⟩
    cases k with
    |zero=>
     have:=g3 (i+1) (by simp;omega) (by omega)
     simp [h2] at this
    |succ k=>
     have g1':k<l.length:=by simpa using g1
     simp only [DQ] at g2
     have:ZF m l=some k:=ih.2 ⟨g1',g2,fun j hj hk=>by have:=g3 (j+1) (by rw [Bv];omega) (by omega);rwa [DQ] at this⟩
     rw [this] at h
     injection h with h
     omega
  |none=>
   have g:=QCm.1 h
   cases hm:m a with
   |true=>
    simp only [if_true,Bd]
    constructor
    ·rintro rfl
     refine ⟨by simp,by simpa using hm,fun j hj hk=> ?_⟩
     cases j with
     |zero=>omega
     |succ j=>simp only [DQ];exact g _ (Bw _)
    ·rintro ⟨g1,g2,g3⟩
     cases k with
     |zero=>rfl
     |succ k=>
      simp only [DQ] at g2
      rw [g _ (Bw _)] at g2
      cases g2
   |false=>
    simp only [BF,Dd,reduceCtorEq,false_iff]
    rintro ⟨g1,g2,g3⟩
    cases k with
    |zero=>simp [hm] at g2
    |succ k=>
     simp only [DQ] at g2
     rw [g _ (Bw _)] at g2
     cases g2
theorem QQi {α:Type}(l:List α)(a:α):Xn (l++[a])=((l.length:Int),(a,()))::Xn l:=by
 unfold Xn
 simp [List.zipIdx_append]
theorem QQj {α:Type}{P:List α->Prop}(h0:P [])(h1: ∀ l a,P l->P (l++[a]))(l:List α):P l:=by
 have: ∀ r:List α,P r.reverse:=by
  intro r
  induction r with
  |nil=>exact h0
  |cons a r ih=>rw [List.reverse_cons];exact h1 _ _ ih
 have h:=this l.reverse
 rwa [List.reverse_reverse] at h
theorem QQk {α:Type}{m:α->Bool}(l:List α):((Xn l).find? fun z=>m z.2.1).map (·.1)=(ZF m l).map fun k:Nat=>(k:Int):=by
 induction l using QQj with
 |h0=>rfl
 |h1 l a ih=>
  rw [QQi,List.find?_cons,QoJ]
  simp only [ZF]
  cases hm:m a
  ·simpa using ih
  ·simp
def XD (rs:List Rule)(u:Keep)(p d:Int):Option Nat:=ZF (fun r=>Wj r u p d) rs
theorem QoL {y:Policy}{u:Keep}{p d:Int}:ZP y u p d=match XD y.1 u p d with|some k=>(k:Int)|none=> -1:=by
 unfold ZP Io XD
 rw [QQk (m:=fun r=>Wj r u p d)]
 cases ZF (fun r=>Wj r u p d) y.1<;>rfl
theorem QQl {y:Policy}{u:Keep}{p d:Int}: -1<=ZP y u p d/\ZP y u p d<y.1.length:=by
 rw [QoL]
 cases h:XD y.1 u p d with
 |none=>simp only;omega
 |some k=>
  obtain ⟨h1,_⟩:=QoK.1 h
  simp only
  omega
def allL (rs:List Rule)(u:Keep)(p d:Int):Bool:=match XD rs u p d with
 |some k=>(rs[k]?.map fun r:Rule=>r.1).getD true
 |none=>true
def UR (y:Policy)(u:Keep)(p d:Int):Bool:=allL y.1 u p d
def ends (rs:List Rule):List Int:=rs.flatMap fun r=>[r.2.2.2.2.1,r.2.2.2.2.2.1]
end Go.Proofs.YtmjnnemhoeolgaaGreat.K
noncomputable section
namespace Go.Proofs.YtmjnnemhoeolgaaGreat.K
open Go.RowKit
def QNB:TC:=aF Tryz.f175 []
def g_f175:G:=gG 25 [(176,Qm8)] (fun _ _=>none)
def QzA (p0:Policy)(p1:Keep)(p2 p3:Int):OV:=
 let a1:=ZP p0 p1 p2 p3
 br (ilt a1 0) (some (.t .bool true,[])) (br (cIx p0.1 a1) (some (.t .bool ((lgt Ju p0.1 (Int.toNat a1)).1),[])) none)
theorem QzB (y:Policy)(u:Keep)(p d:Int):UR y u p d=(ilt (ZP y u p d) 0||(y.1.getD (ZP y u p d).toNat Ju.zero).1):=by
 unfold UR allL
 have h:=QoL (y:=y) (u:=u) (p:=p) (d:=d)
 cases hq:XD y.1 u p d with
 |none=>
  rw [hq] at h
  simp only at h
  rw [h]
  rfl
 |some k=>
  rw [hq] at h
  simp only at h
  rw [h]
  obtain ⟨h1,_⟩:=QoK.1 hq
  have e1:ilt (k:Int) 0=false:=by simp only [ilt,Bn];omega
  simp only [e1,Da,Bc,Bh h1,B3,BH,Bk]
theorem QzC {y:Policy}{u:Keep}{p d:Int}(h:ilt (ZP y u p d) 0=false):cIx y.1 (ZP y u p d)=true:=by
 have h2:=QQl (y:=y) (u:=u) (p:=p) (d:=d)
 simp only [ilt,Bn] at h
 simp only [cIx,Ba]
 omega
theorem s_f175 (y:Policy)(u:Keep)(p d:Int):QzA y u p d=some (.t .bool (UR y u p d),[]):=by
 simp only [QzA,QzB]
 cases h:ilt (ZP y u p d) 0 with
 |true=>simp [Qb]
 |false=>
  rw [QzC h,Qf,Qb,Da,lgt]
def QzD:Ent:=Qi (.pr Jz (.pr Qd (.pr tI (.pr tI .nil)))) (fun x=>true) (fun x=>(.t .bool (UR x.1 x.2.1 x.2.2.1 x.2.2.2.1)))
theorem QNC:EM 175 QzD:=mS g_f175 QNB [((.t 8),some .bool)] false (gB (gD QzL gN)) fun m=>Qm m fun x _=>kT (s_f175 x.1 x.2.1 x.2.2.1 x.2.2.2.1)
def Yt (y:Policy)(u:Keep)(p d:Int):Int:=if YU y=false then 25 else if Jq u=false then 7 else if p<1∨4<p∨d<0∨40000<d then 2 else 0
def UJ (y:Policy)(_u:Keep)(_p _d:Int):Bool:=J4 y
def Qfc (y:Policy)(_u:Keep)(_p:Int):Bool:=J4 y
def QND:TC:=aF Tryz.f174 []
def g_f174:G:=gG 34 [(51,QkK),(87,I3)] (fun _ _=>none)
def QzE (p0:Policy)(p1:Keep)(p2 p3:Int):OV:=br (J4 p0) (br (ine (ZM p0) 0) (some (.t tI (ZM p0),[])) (br (!(Jq p1)) (some (.t tI 7,[])) (br (ilt p2 1) (some (.t tI 2,[])) (br (igt p2 4) (some (.t tI 2,[])) (br (ilt p3 0) (some (.t tI 2,[])) (br (igt p3 40000) (some (.t tI 2,[])) (some (.t tI 0,[])))))))) none
theorem s_f174 (y:Policy)(u:Keep)(p d:Int)(h:UJ y u p d=true):QzE y u p d=some (.t tI (Yt y u p d),[]):=by
 have h:J4 y=true:=h
 simp only [QzE,h,Qb,ZM,Yt]
 cases YU y with
 |false=>rfl
 |true=>
  simp only [if_true,show ine 0 0=false from rfl,Qf,Bool.true_eq_false,Dd]
  cases Jq u with
  |false=>rfl
  |true=>
   simp only [BC,Qf,Bool.true_eq_false,Dd]
   repeat' (refine QX ?_ ?_<;>intro _)
   all_goals simp only [igt,ilt,Ba,Bn] at*
   all_goals first
    |rw [if_pos (by omega)]
    |rw [if_neg (by omega)]
def QzF:Ent:=Qi (.pr Jz (.pr Qd (.pr tI (.pr tI .nil)))) (fun x=>(UJ x.1 x.2.1 x.2.2.1 x.2.2.2.1)) (fun x=>(.t tI (Yt x.1 x.2.1 x.2.2.1 x.2.2.2.1)))
theorem QNE:EM 174 QzF:=mS g_f174 QND [((.t 8),some tI)] false (gB (gD Qvu (gD QaV gN))) fun m=>Qm m fun x hok=>kT (s_f174 x.1 x.2.1 x.2.2.1 x.2.2.2.1 hok)
def Jt (y:Policy)(u:Keep)(p d:Int):Bool×Int×Int:=if Yt y u p d=0 then (UR y u p d,ZP y u p d,0) else (false,0,Yt y u p d)
def QNF:TC:=aF Tryz.f137 [(14,pD [(0,[4]),(1,[5]),(2,[]),(3,[]),(4,[]),(5,[4]),(6,[5]),(7,[]),(8,[]),(9,[]),(10,[]),(11,[]),(12,[])] (.of [0,1,2,3,4,5,6,7,8,9,10,11,12]))]
def g_f137:G:=gG 30 [(174,QzF),(175,QzD),(176,Qm8)] (fun _ _=>none)
def QzG (p0:Policy)(p1:Keep)(p2 p3:Int):OV:=br (UJ p0 p1 p2 p3) (br (ine (Yt p0 p1 p2 p3) 0) (some (.tu [(.t .bool false),(.t tI 0),(.t tI (Yt p0 p1 p2 p3))],[])) (some (.tu [(.t .bool (UR p0 p1 p2 p3)),(.t tI (ZP p0 p1 p2 p3)),(.t tI 0)],[]))) none
theorem s_f137 (y:Policy)(u:Keep)(p d:Int)(h:UJ y u p d=true):QzG y u p d=some (.tu [.t .bool (Jt y u p d).1,.t tI (Jt y u p d).2.1,.t tI (Jt y u p d).2.2],[]):=by
 simp only [QzG,h,Qb,Jt,QrV]
 by_cases h0:Yt y u p d=0<;>simp [h0,Qb,Qf]
def QzH:Ent:=Qi (.pr Jz (.pr Qd (.pr tI (.pr tI .nil)))) (fun x=>(UJ x.1 x.2.1 x.2.2.1 x.2.2.2.1)) (fun x=>(.tu [(.t .bool ((Jt x.1 x.2.1 x.2.2.1 x.2.2.2.1).1)),(.t tI (((Jt x.1 x.2.1 x.2.2.1 x.2.2.2.1).2).1)),(.t tI (((Jt x.1 x.2.1 x.2.2.1 x.2.2.2.1).2).2))]))
theorem QNG:EM 137 QzH:=mS g_f137 QNF [((.t 8),some .bool),((.t 9),some tI),((.t 10),some tI)] false (gB (gD QNE (gD QNC (gD QzL gN)))) fun m=>Qm m fun x hok=>kT (s_f137 x.1 x.2.1 x.2.2.1 x.2.2.2.1 hok)
end Go.Proofs.YtmjnnemhoeolgaaGreat.K
noncomputable section
namespace Go.Proofs.YtmjnnemhoeolgaaGreat.K
open Go.RowKit
noncomputable section
def Za (_:Exception):Bool:=false
def exZ (_:Exception):Int:=0
def Ib (_:Exception):Bool:=false
abbrev QeI:Sh:=⟨[(1,.ptr 1 0),(51,.ty (.sl Qd)),(52,.ty tI),(53,.ty tI)],[(1,.box Jm)]⟩
abbrev QeJ:Sh:=⟨[],[]⟩
def Qmt:Fg:=QeI.f
def Qyk:TC:=aF Tryz.f54 [(122,pL 0 Qmt),(1957,.fg QeJ.f),(15666,pD [(0,[4]),(1,[4]),(2,[]),(3,[]),(4,[]),(5,[4]),(6,[4]),(7,[]),(8,[]),(9,[]),(10,[4]),(11,[4]),(12,[]),(13,[]),(14,[]),(15,[]),(16,[]),(17,[]),(18,[1]),(19,[1]),(20,[]),(21,[]),(22,[]),(23,[]),(24,[]),(25,[4]),(26,[4]),(27,[]),(28,[]),(29,[])] (.of [0,1,2,3,4,5,6,7,8,9,10,11,12,13,14,15,16,17,18,19,20,21,22,23,24,25,26,27,28,29])),(62669,.fg ⟨[(2,some tI)],[]⟩)]
def Qyl:TC:=lb 0 Qyk
def QMa (x51:List Keep)(x52 x53:Int)(y1:Exception):VS:=QeI.st ((),x51,x52,x53,()) (y1,())
def Qym  : VS:=QeJ.st () ()
def QMb:VS->Option (Bool×List (Bool×Exit×VS)):=mkL QeI (fun x y=>(Za y.1)) (fun x y=>[(true,.exit 0,Qym)])
def Qmu:G:=gG 89 [(83,Qau),(86,Vn),(87,I3)] (Ls [QMb])
def QMc (x51:List Keep)(x52 x53:Int)(y1:Exception):OX:=Qr (Qv Qmu Qmt Qyl) (QMa x51 x52 x53 y1)
def QMd (x51:List Keep)(x52 x53:Int)(y1:Exception):OX:=some (.exit 0,Qym)
def r_f54 (p0:Exception):OV:=br (!(Jq p0.1)) (some (.t tI 26,[])) (br (ilt p0.2.1 1) (some (.t tI 26,[])) (br (igt p0.2.1 4) (some (.t tI 26,[])) (br (Jg p0.2.2.1) (br (!(JD p0.2.2.1)) (some (.t tI 26,[])) (br (ilt p0.2.2.2.1.1 0) (some (.t tI 26,[])) (br (ige p0.2.2.2.1.1 p0.2.2.2.1.2.1) (some (.t tI 26,[])) (br (igt p0.2.2.2.1.2.1 40001) (some (.t tI 26,[])) (br (igt (Qa p0.2.2.2.2.1) 8) (some (.t tI 26,[])) (br (Za p0) (some (.t tI 0,[])) none)))))) none)))
theorem QMe (x51:List Keep)(x52 x53:Int)(y1:Exception)(h:(Za y1)=true):QMc x51 x52 x53 y1=QMd x51 x52 x53 y1:=by
 cases h
theorem QMf:LO Qmu Qmt Qyl 0:=QH (s:=QeI) fun x y h _ q=>by simp only [QE,QF] at q;exact (QMe x.2.1 x.2.2.1 x.2.2.2.1 y.1 h).trans q
theorem s_f54 (x:Exception)(h:Za x=true):r_f54 x=some (.t tI (exZ x),[]):=by cases h
def Qmv:Ent:=Qi (.pr Jm .nil) (fun x=>(Za x.1)) (fun x=>(.t tI (exZ x.1)))
theorem Qyn:EM 54 Qmv:=mS (lk:=lkL (lkc QMf lkn)) Qmu Qyk [((.t 2),some tI)] false (gB (gD QgA (gD Qea (gD QaV gN)))) fun m=>Qm m fun x hok=>kT (s_f54 x.1 hok)
def Jj (l:List Exception):Bool:=l.isEmpty
def Ic (_:List Exception):Int:= -1
def Id (_:List Exception):Bool:=false
theorem XY {l:List Exception}(h:Jj l=true):l=[]:=DR.1 h
def QMg:TC:=aF Tryz.f138 []
def g_f138:G:=gG 6 [(54,Qmv)] (fun _ _=>none)
def r_f138 (p0:Exception):OV:=br (Za p0) (some (.t .bool (ine (exZ p0) 0),[])) none
theorem s_f138 (x:Exception)(h:Za x=true):r_f138 x=some (.t .bool (Ib x),[]):=by cases h
def Qyo:Ent:=Ye [.ty Jm] [] (fun x d=>(Za x.1)) (fun x d=>(.t .bool (Ib x.1)))
theorem QMh:EM 138 Qyo:=mS g_f138 QMg [((.t 2),some .bool)] false (gB (gD Qyn gN)) fun m=>ZZ m fun x d hok=>kT (s_f138 x.1 hok)
abbrev QeK:Sh:=⟨[(0,.ty (.sl Jm)),(1,.cf 138),(7,.ty tI),(8,.ty tI)],[]⟩
abbrev Qyp:Sh:=⟨[(4,.ty tI)],[]⟩
def Qmw:Fg:=QeK.f
def Qyq:TC:=aF Tryz.f94 [(26,pL 0 Qmw),(421,.fg QeJ.f),(13517,.fg Qyp.f)]
def Qyr:TC:=lb 0 Qyq
def Qys (x0:List Exception)(x7 x8:Int):VS:=QeK.st (x0,(),x7,x8,()) ()
def QMi (x4:Int):VS:=Qyp.st (x4,()) ()
def Qmx  : VS:=QeJ.st () ()
def QMj:VS->Option (Bool×List (Bool×Exit×VS)):=mkL QeK (fun x y=>(Jj x.1&&(ieq x.2.2.1 0&&ieq x.2.2.2.1 0))) (fun x y=>[(true,.exit 0,Qmx)])
def Qmy:G:=gG 19 [(138,Qyo)] (Ls [QMj])
def Qmz (x0:List Exception)(x7 x8:Int):OX:=Qr (Qv Qmy Qmw Qyr) (Qys x0 x7 x8)
def QmA (kk:List Exception->Int->Int->OX)(x0:List Exception)(x7 x8:Int):OX:=
 let a1:=lgt Jm x0 (Int.toNat x8)
 br (ilt x8 x7) (br (cIx x0 x8) (br (Za a1) (br (Ib a1) (some (.ret,QMi x8)) (kk x0 x7 (Qg .i64 x8 1))) none) none) (some (.exit 0,Qmx))
def QMk (x0:List Exception)(x7 x8:Int):OX:=some (.exit 0,Qmx)
theorem QMl (x0:List Exception)(x7 x8:Int):Qmz x0 x7 x8=QmA Qmz x0 x7 x8:=lnT (x:=QmA (fun x0 x7 x8=>some (.normal,Qys x0 x7 x8)) x0 x7 x8) (by simp only [QmA,nxA];rfl)
def QMm (p0:List Exception):OV:=br (Jj p0&&(ieq (Qa p0) 0&&ieq (0:Int) 0)) (some (.t tI (-1),[])) none
theorem QMn (x0:List Exception)(x7 x8:Int)(h:(Jj x0&&(ieq x7 0&&ieq x8 0))=true):Qmz x0 x7 x8=QMk x0 x7 x8:=by
 simp only [Bb] at h
 obtain ⟨h1,h2,h3⟩:=h
 obtain rfl:=XY h1
 have h2:x7=0:=by simpa [ieq] using h2
 have h3:x8=0:=by simpa [ieq] using h3
 subst h2 h3
 rw [QMl]
 try rfl
theorem QMo:LO Qmy Qmw Qyr 0:=QH (s:=QeK) fun x y h _ q=>by simp only [QE,QF] at q;exact (QMn x.1 x.2.2.1 x.2.2.2.1 h).trans q
theorem QMp (l:List Exception)(h:Jj l=true):QMm l=some (.t tI (Ic l),[]):=by
 obtain rfl:=XY h
 rfl
def Qyt:Ent:=Ye [.ty (.sl Jm),.cf 138] [] (fun x d=>(Jj x.1)) (fun x d=>(.t tI (Ic x.1)))
theorem QMq:EM 94 Qyt:=mS (lk:=lkL (lkc QMo lkn)) Qmy Qyq [((.t 4),some tI)] false (gB (gD QMh gN)) fun m=>ZZ m fun x d hok=>kT (QMp x.1 hok)
def QMr:TC:=aF Tryz.f52 []
def QMs:G:=gG 9 [(94,Qyt)] (fun _ _=>none)
def QMt (p0:List Exception):OV:=br (Jj p0) (some (.t .bool (ige (Ic p0) 0),[])) none
theorem QMu (l:List Exception)(h:Jj l=true):QMt l=some (.t .bool (Id l),[]):=by
 obtain rfl:=XY h
 rfl
def Qyu:Ent:=Ye [.ty (.sl Jm),.cf 138] [] (fun x d=>(Jj x.1)) (fun x d=>(.t .bool (Id x.1)))
theorem QMv:EM 52 Qyu:=mS QMs QMr [((.t 4),some .bool)] false (gB (gD QMq gN)) fun m=>ZZ m fun x d hok=>kT (QMu x.1 hok)
def VD (_:List Exception)(_:Dice)(_:Keep)(_:Int)(_:ByteArray)(_:Int):Int×Bool:=(0,false)
def Ie (l:List Exception)(_:Dice)(_:Keep)(_:Int)(_:ByteArray)(_:Int):Bool:=Jj l
abbrev QeL:Sh:=⟨[(3,.ty tI),(4,.ty .str),(5,.ty tI),(7,.ptr 7 0),(8,.ptr 8 0),(14,.ty tI),(15,.ty .bool),(18,.ty (.sl Jm)),(19,.ty tI),(20,.ty tI)],[(7,.box QK),(8,.box Qd)]⟩
abbrev Qyv:Sh:=⟨[(14,.ty tI),(15,.ty .bool)],[]⟩
def QmB:Fg:=QeL.f
def Qyw:TC:=aF Tryz.f139 [(58,pL 0 QmB),(933,.fg Qyv.f)]
def Qyx:TC:=lb 0 Qyw
def Qyy (x3:Int)(x4:ByteArray)(x5 x14:Int)(x15:Bool)(x18:List Exception)(x19 x20:Int)(y7:Dice)(y8:Keep):VS:=QeL.st (x3,x4,x5,(),(),x14,x15,x18,x19,x20,()) (y7,y8,())
def QmC (x14:Int)(x15:Bool):VS:=Qyv.st (x14,x15,()) ()
def QMw:VS->Option (Bool×List (Bool×Exit×VS)):=mkL QeL (fun x y=>(Jj x.2.2.2.2.2.2.2.1&&(ieq x.2.2.2.2.2.2.2.2.1 0&&ieq x.2.2.2.2.2.2.2.2.2.1 0))) (fun x y=>[(true,.exit 0,QmC (x.2.2.2.2.2.1) (x.2.2.2.2.2.2.1))])
def QmD:G:=gG 43 [] (Ls [QMw])
def QmE (x3:Int)(x4:ByteArray)(x5 x14:Int)(x15:Bool)(x18:List Exception)(x19 x20:Int)(y7:Dice)(y8:Keep):OX:=Qr (Qv QmD QmB Qyx) (Qyy x3 x4 x5 x14 x15 x18 x19 x20 y7 y8)
def QmF (kk:Int->ByteArray->Int->Int->Bool->List Exception->Int->Int->Dice->Keep->OX)(x3:Int)(x4:ByteArray)(x5 x14:Int)(x15:Bool)(x18:List Exception)(x19 x20:Int)(y7:Dice)(y8:Keep):OX:=br (ilt x20 x19) (br (cIx x18 x20) none none) (some (.exit 0,QmC x14 x15))
def QMx (x3:Int)(x4:ByteArray)(x5 x14:Int)(x15:Bool)(x18:List Exception)(x19 x20:Int)(y7:Dice)(y8:Keep):OX:=some (.exit 0,QmC (x14) (x15))
theorem QMy (x3:Int)(x4:ByteArray)(x5 x14:Int)(x15:Bool)(x18:List Exception)(x19 x20:Int)(y7:Dice)(y8:Keep):QmE x3 x4 x5 x14 x15 x18 x19 x20 y7 y8=QmF QmE x3 x4 x5 x14 x15 x18 x19 x20 y7 y8:=lnT (x:=QmF (fun x3 x4 x5 x14 x15 x18 x19 x20 y7 y8=>some (.normal,Qyy x3 x4 x5 x14 x15 x18 x19 x20 y7 y8)) x3 x4 x5 x14 x15 x18 x19 x20 y7 y8) (by
 simp only [QmF,Gf,G3,G4,G5,G6])
def r_f139 (p0:List Exception)(p1:Dice)(p2:Keep)(p3:Int)(p4:ByteArray)(p5:Int):OV:=br (Jj p0&&(ieq (Qa p0) 0&&ieq (0:Int) 0)) (some (.tu [(.t tI (0:Int)),(.t .bool (false))],[])) none
theorem QMz (x3:Int)(x4:ByteArray)(x5 x14:Int)(x15:Bool)(x18:List Exception)(x19 x20:Int)(y7:Dice)(y8:Keep)(h:(Jj x18&&(ieq x19 0&&ieq x20 0))=true):QmE x3 x4 x5 x14 x15 x18 x19 x20 y7 y8=QMx x3 x4 x5 x14 x15 x18 x19 x20 y7 y8:=by
 simp only [Bb] at h
 obtain ⟨h1,h2,h3⟩:=h
 obtain rfl:=XY h1
 have h2:x19=0:=by simpa [ieq] using h2
 have h3:x20=0:=by simpa [ieq] using h3
 subst h2 h3
 rw [QMy]
 try rfl
theorem QMA:LO QmD QmB Qyx 0:=QH (s:=QeL) fun x y h _ q=>by simp only [QE,QF] at q;exact (QMz x.1 x.2.1 x.2.2.1 x.2.2.2.2.2.1 x.2.2.2.2.2.2.1 x.2.2.2.2.2.2.2.1 x.2.2.2.2.2.2.2.2.1 x.2.2.2.2.2.2.2.2.2.1 y.1 y.2.1 h).trans q
theorem s_f139 (l:List Exception)(o:Dice)(u:Keep)(p:Int)(e:ByteArray)(d:Int)(h:Ie l o u p e d=true):r_f139 l o u p e d=some (.tu [.t tI (VD l o u p e d).1,.t .bool (VD l o u p e d).2],[]):=by
 obtain rfl:=XY h
 rfl
def Qyz:Ent:=Qi (.pr (.sl Jm) (.pr QK (.pr Qd (.pr tI (.pr .str (.pr tI .nil)))))) (fun x=>(Ie x.1 x.2.1 x.2.2.1 x.2.2.2.1 x.2.2.2.2.1 x.2.2.2.2.2.1)) (fun x=>(.tu [(.t tI ((VD x.1 x.2.1 x.2.2.1 x.2.2.2.1 x.2.2.2.2.1 x.2.2.2.2.2.1).1)),(.t .bool ((VD x.1 x.2.1 x.2.2.1 x.2.2.2.1 x.2.2.2.2.1 x.2.2.2.2.2.1).2))]))
theorem QMB:EM 139 Qyz:=mS (lk:=lkL (lkc QMA lkn)) QmD Qyw [((.t 12),some tI),((.t 13),some .bool)] false (gB gN) fun m=>Qm m fun x hok=>kT (s_f139 x.1 x.2.1 x.2.2.1 x.2.2.2.1 x.2.2.2.2.1 x.2.2.2.2.2.1 hok)
def Xh (y:Policy)(_:List Exception)(_:Dice)(u:Keep)(p:Int)(_:ByteArray)(d:Int):Bool×Int:=((Jt y u p d).1,(Jt y u p d).2.2)
def Gn (y:Policy)(l:List Exception)(_:Dice)(_:Keep)(_:Int)(_:ByteArray)(_:Int):Bool:=J4 y&&Jj l
theorem QyA {y:Policy}{u:Keep}{p d:Int}(h:ine (Jt y u p d).2.2 0=true):(Jt y u p d).1=false:=by
 unfold Jt at h ⊢
 split at h
 ·exact absurd (show false=true from h) (by decide)
 ·rename_i hn
  rw [if_neg hn]
theorem QyB {y:Policy}{u:Keep}{p d:Int}(h:ine (Jt y u p d).2.2 0=false):(Jt y u p d).2.2=0:=by
 simpa [ine] using h
def tc_f97:TC:=aF Tryz.f97 []
def g_f97:G:=gG 51 [(52,Qyu),(137,QzH),(139,Qyz)] (fun _ _=>none)
def r_f97 (p0:Policy)(p1:List Exception)(p2:Dice)(p3:Keep)(p4:Int)(p5:ByteArray)(p6:Int):OV:=
 let a1:=Jt p0 p3 p4 p6
 br (UJ p0 p3 p4 p6) (br (ine ((a1.2).2) 0) (some (.tu [(.t .bool false),(.t tI ((a1.2).2))],[])) (br (Jj p1) (br (Id p1) (some (.tu [(.t .bool false),(.t tI 26)],[])) (br (Ie p1 p2 p3 p4 p5 p6) (br (a1.1) (some (.tu [(.t .bool true),(.t tI 0)],[])) (some (.tu [(.t .bool ((VD p1 p2 p3 p4 p5 p6).2)),(.t tI 0)],[]))) none)) none)) none
theorem s_f97 (y:Policy)(l:List Exception)(o:Dice)(u:Keep)(p:Int)(e:ByteArray)(d:Int)(h:Gn y l o u p e d=true):r_f97 y l o u p e d=some (.tu [.t .bool (Xh y l o u p e d).1,.t tI (Xh y l o u p e d).2],[]):=by
 obtain ⟨h1,h2⟩:=Bg.1 h
 unfold r_f97 Xh
 refine brY h1 (QX (fun k=>by rw [QyA k]) fun k=> ?_)
 refine brY h2 ?_
 show br false _ _=_
 rw [Qf]
 refine brY h2 ?_
 rw [QyB k]
 cases (Jt y u p d).1<;>rfl
def QyC:Ent:=Qi (.pr Jz (.pr (.sl Jm) (.pr QK (.pr Qd (.pr tI (.pr .str (.pr tI .nil))))))) (fun x=>(Gn x.1 x.2.1 x.2.2.1 x.2.2.2.1 x.2.2.2.2.1 x.2.2.2.2.2.1 x.2.2.2.2.2.2.1)) (fun x=>(.tu [(.t .bool ((Xh x.1 x.2.1 x.2.2.1 x.2.2.2.1 x.2.2.2.2.1 x.2.2.2.2.2.1 x.2.2.2.2.2.2.1).1)),(.t tI ((Xh x.1 x.2.1 x.2.2.1 x.2.2.2.1 x.2.2.2.2.1 x.2.2.2.2.2.1 x.2.2.2.2.2.2.1).2))]))
theorem ms_f97:EM 97 QyC:=mS g_f97 tc_f97 [((.t 14),some .bool),((.t 15),some tI)] false (gB (gD QMv (gD QNG (gD QMB gN)))) fun m=>Qm m fun x hok=>kT (s_f97 x.1 x.2.1 x.2.2.1 x.2.2.2.1 x.2.2.2.2.1 x.2.2.2.2.2.1 x.2.2.2.2.2.2.1 hok)
def VE (y:Policy)(d:Int)(u:Keep):Bool:= !(Jt y u 1 d).1
def Zj (y:Policy)(d:Int):List Keep->Bool->Bool×Int
 | [],b=>(b,0)
 |u::r,b=>bif ine (Jt y u 1 d).2.2 0 then (false,(Jt y u 1 d).2.2) else Zj y d r (b||VE y d u)
def ZO (y:Policy)(_:List Exception)(_:Dice)(s:Endpoint)(o:Keep)(d:Int):Bool×Int:=
 bif ine (Q5 s o).2 0 then (false,(Q5 s o).2) else Zj y d (Q5 s o).1 false
def WV (y:Policy)(l:List Exception)(_:Dice)(s:Endpoint)(_:Keep)(_:Int):Bool:=J4 y&&(Jj l&&QS s)
theorem QyD (s:Endpoint)(o:Keep):(Q5 s o).1.length<=4:=by
 unfold Q5
 cases QN s with
 |false=>exact BX _
 |true=>
  cases ine (QB o.2.1).2 0 with
  |true=>exact BX _
  |false=>
   cases (Jp s o.2.1).2 with
   |false=>exact BX _
   |true=>exact BL 4
theorem QmG {y:Policy}{d:Int}: ∀ {l:List Keep} {b:Bool},ine (Zj y d l b).2 0=true->(Zj y d l b).1=false
 | [],b,h=>by cases h
 |u::r,b,h=>by
  unfold Zj at h ⊢
  cases hq:ine (Jt y u 1 d).2.2 0 with
  |true=>rfl
  |false=>
   rw [hq] at h
   exact QmG (l:=r) h
theorem ine_z {x:Int}(h:ine x 0=false):x=0:=by simpa [ine] using h
abbrev QeM:Sh:=⟨[(1,.ty (.sl Jm)),(5,.ty tI),(6,.ptr 6 0),(8,.ptr 8 0),(9,.ptr 9 0),(16,.ty .bool),(30,.ty (.sl Qd)),(31,.ty tI),(32,.ty tI)],[(6,.box Jz),(8,.box QK),(9,.box Qo)]⟩
abbrev QyE:Sh:=⟨[(12,.ty .bool),(13,.ty tI)],[]⟩
abbrev QyF:Sh:=⟨[(16,.ty .bool)],[]⟩
def QmH:Fg:=QeM.f
def QyG:TC:=aF Tryz.f56 [(250,pL 0 QmH),(4005,.fg QyF.f),(512821,.fg QyE.f)]
def QyH:TC:=lb 0 QyG
def QyI (x1:List Exception)(x5:Int)(x16:Bool)(x30:List Keep)(x31 x32:Int)(y6:Policy)(y8:Dice)(y9:Endpoint):VS:=QeM.st (x1,x5,(),(),(),x16,x30,x31,x32,()) (y6,y8,y9,())
def QmI (x12:Bool)(x13:Int):VS:=QyE.st (x12,x13,()) ()
def QmJ (x16:Bool):VS:=QyF.st (x16,()) ()
def QMC:VS->Option (Bool×List (Bool×Exit×VS)):=mkL QeM (fun x y=>(QA x.2.2.2.2.2.2.1 x.2.2.2.2.2.2.2.1 x.2.2.2.2.2.2.2.2.1&&(J4 y.1&&Jj x.1))) (fun x y=>[((ine (Zj y.1 x.2.1 (x.2.2.2.2.2.2.1.drop x.2.2.2.2.2.2.2.2.1.toNat) x.2.2.2.2.2.1).2 0),.ret,QmI (false) ((Zj y.1 x.2.1 (x.2.2.2.2.2.2.1.drop x.2.2.2.2.2.2.2.2.1.toNat) x.2.2.2.2.2.1).2)),(true,.exit 0,QmJ ((Zj y.1 x.2.1 (x.2.2.2.2.2.2.1.drop x.2.2.2.2.2.2.2.2.1.toNat) x.2.2.2.2.2.1).1))])
def QmK:G:=gG 57 [(96,QdO),(97,QyC)] (Ls [QMC])
def QeN (x1:List Exception)(x5:Int)(x16:Bool)(x30:List Keep)(x31 x32:Int)(y6:Policy)(y8:Dice)(y9:Endpoint):OX:=Qr (Qv QmK QmH QyH) (QyI x1 x5 x16 x30 x31 x32 y6 y8 y9)
def VF (kk:List Exception->Int->Bool->List Keep->Int->Int->Policy->Dice->Endpoint->OX)(x1:List Exception)(x5:Int)(x16:Bool)(x30:List Keep)(x31 x32:Int)(y6:Policy)(y8:Dice)(y9:Endpoint):OX:=
 let a1:=Xh y6 x1 y8 (lgt Qd x30 (Int.toNat x32)) 1 y9.1 x5
 br (ilt x32 x31) (br (cIx x30 x32) (br (Gn y6 x1 y8 (lgt Qd x30 (Int.toNat x32)) 1 y9.1 x5) (br (ine (a1.2) 0) (some (.ret,QmI false (a1.2))) (br (x16) (kk x1 x5 true x30 x31 (Qg .i64 x32 1) y6 y8 y9) (kk x1 x5 (!(a1.1)) x30 x31 (Qg .i64 x32 1) y6 y8 y9))) none) none) (some (.exit 0,QmJ x16))
def If (x1:List Exception)(x5:Int)(x16:Bool)(x30:List Keep)(x31 x32:Int)(y6:Policy)(y8:Dice)(y9:Endpoint):OX:=
 let a1:=Zj y6 x5 (x30.drop x32.toNat) x16
 br (ine a1.2 0) (some (.ret,QmI (false) (a1.2)))<|some (.exit 0,QmJ (a1.1))
theorem QyJ (x1:List Exception)(x5:Int)(x16:Bool)(x30:List Keep)(x31 x32:Int)(y6:Policy)(y8:Dice)(y9:Endpoint):QeN x1 x5 x16 x30 x31 x32 y6 y8 y9=VF QeN x1 x5 x16 x30 x31 x32 y6 y8 y9:=lnT (x:=VF (fun x1 x5 x16 x30 x31 x32 y6 y8 y9=>some (.normal,QyI x1 x5 x16 x30 x31 x32 y6 y8 y9)) x1 x5 x16 x30 x31 x32 y6 y8 y9) (by simp only [VF,nxA];rfl)
def r_f56 (p0:Policy)(p1:List Exception)(p2:Dice)(p3:Endpoint)(p4:Keep)(p5:Int):OV:=
 let a1:=(Zj p0 p5 (((Q5 p3 p4).1).drop (0:Int).toNat) false)
 br (E0 p3 p4) (br (ine ((Q5 p3 p4).2) 0) (some (.tu [(.t .bool false),(.t tI ((Q5 p3 p4).2))],[])) (br (QA ((Q5 p3 p4).1) (Qa ((Q5 p3 p4).1)) (0:Int)&&(J4 p0&&Jj p1)) (br (ine a1.2 0) (some (.tu [(.t .bool (false)),(.t tI (a1.2))],[])) (some (.tu [(.t .bool (a1.1)),(.t tI 0)],[]))) none)) none
theorem QMD (x1:List Exception)(x5:Int)(x16:Bool)(x30:List Keep)(x31 x32:Int)(y6:Policy)(y8:Dice)(y9:Endpoint)(h:(QA x30 x31 x32&&(J4 y6&&Jj x1))=true):QeN x1 x5 x16 x30 x31 x32 y6 y8 y9=If x1 x5 x16 x30 x31 x32 y6 y8 y9:=by
 simp only [Bb] at h
 obtain ⟨h,g1,g2⟩:=h
 obtain ⟨rfl,h3,k,rfl,hk⟩:=JB h
 clear h
 revert x16
 refine QP x30 (fun k=> ∀ x16:Bool,QeN x1 x5 x16 x30 (x30.length:Int) (k:Int) y6 y8 y9=If x1 x5 x16 x30 (x30.length:Int) (k:Int) y6 y8 y9) ?_ ?_ k hk
 ·intro x16
  rw [QyJ]
  simp only [VF,If,Qz,BT,B0,Qf,Bc,BK,Zj]
  rfl
 ·intro k hk ih x16
  rw [QyJ]
  have e1: ∀ u p e,Gn y6 x1 y8 u p e x5=true:=fun _ _ _=>Bg.2 ⟨g1,g2⟩
  have hd:Zj y6 x5 (x30.drop k) x16=bif ine (Jt y6 x30[k] 1 x5).2.2 0 then (false,(Jt y6 x30[k] 1 x5).2.2) else Zj y6 x5 (x30.drop (k+1)) (x16||VE y6 x5 x30[k]):=by
   rw [Bi hk]
   rfl
  simp only [VF,Qz,QJ,hk,Bt,Qb,Bc,QO (show k<4611686018427387904 by omega),e1,QL (y:=Qd) hk,Xh]
  simp only [If,Bc,hd]
  cases hq:ine (Jt y6 x30[k] 1 x5).2.2 0 with
  |true=>simp only [Qb,B2,hq]
  |false=>
   simp only [Qf,BM]
   cases x16 with
   |true=>
    rw [Qb,ih true]
    simp only [If,Bc,Bool.true_or]
   |false=>
    rw [Qf,ih]
    simp only [If,Bc,Da,VE]
theorem QME:LO QmK QmH QyH 0:=QH (s:=QeM) fun x y h _ q=>by simp only [QE,QF] at q;exact (QMD x.1 x.2.1 x.2.2.2.2.2.1 x.2.2.2.2.2.2.1 x.2.2.2.2.2.2.2.1 x.2.2.2.2.2.2.2.2.1 y.1 y.2.1 y.2.2.1 h).trans q
theorem s_f56 (y:Policy)(l:List Exception)(w:Dice)(s:Endpoint)(o:Keep)(d:Int)(h:WV y l w s o d=true):r_f56 y l w s o d=some (.tu [.t .bool (ZO y l w s o d).1,.t tI (ZO y l w s o d).2],[]):=by
 simp only [WV,Bb] at h
 obtain ⟨h1,h2,h3⟩:=h
 unfold r_f56 ZO
 refine brY h3 (QX (fun k=>by rw [k];rfl) fun k=> ?_)
 have hl:=QyD s o
 rw [k,BM]
 refine brY ?_ ?_
 ·rw [JC (by omega),h1,h2]
  rfl
 ·rw [Br,By]
  cases hz:ine (Zj y d (Q5 s o).1 false).2 0 with
  |true=>rw [Qb,QmG hz]
  |false=>rw [Qf,ine_z hz]
def QyK:Ent:=Qi (.pr Jz (.pr (.sl Jm) (.pr QK (.pr Qo (.pr Qd (.pr tI .nil)))))) (fun x=>(WV x.1 x.2.1 x.2.2.1 x.2.2.2.1 x.2.2.2.2.1 x.2.2.2.2.2.1)) (fun x=>(.tu [(.t .bool ((ZO x.1 x.2.1 x.2.2.1 x.2.2.2.1 x.2.2.2.2.1 x.2.2.2.2.2.1).1)),(.t tI ((ZO x.1 x.2.1 x.2.2.1 x.2.2.2.1 x.2.2.2.2.1 x.2.2.2.2.2.1).2))]))
theorem ms_f56:EM 56 QyK:=mS (lk:=lkL (lkc QME lkn)) QmK QyG [((.t 12),some .bool),((.t 13),some tI)] false (gB (gD Qwy (gD ms_f97 gN))) fun m=>Qm m fun x hok=>kT (s_f56 x.1 x.2.1 x.2.2.1 x.2.2.2.1 x.2.2.2.2.1 x.2.2.2.2.2.1 hok)
end
end Go.Proofs.YtmjnnemhoeolgaaGreat.K
noncomputable section
namespace Go.Proofs.YtmjnnemhoeolgaaGreat.K
open Go.RowKit
noncomputable section
def UM (a b:List Keep):Bool:=a==b
def QfD (a b:List Keep):Bool:=decide (a.length<=100000/\b.length<=100000)
abbrev QfE:Sh:=⟨[(0,.ty (.sl Qd)),(1,.ty (.sl Qd)),(12,.ty tI),(13,.ty tI)],[]⟩
abbrev QAz:Sh:=⟨[(4,.ty .bool)],[]⟩
abbrev QfF:Sh:=⟨[],[]⟩
def QnK:Fg:=QfE.f
def QAA:TC:=aF Tryz.f57 [(58,pL 0 QnK),(933,.fg QfF.f),(7474,pD [(0,[]),(1,[]),(2,[]),(3,[]),(4,[]),(5,[]),(6,[]),(7,[]),(8,[])] (.of [0,1,2,3,4,5,6,7,8])),(29901,.fg QAz.f)]
def QAB:TC:=lb 0 QAA
def QAC (x0 x1:List Keep)(x12 x13:Int):VS:=QfE.st (x0,x1,x12,x13,()) ()
def QnL (x4:Bool):VS:=QAz.st (x4,()) ()
def QnM  : VS:=QfF.st () ()
def QON:VS->Option (Bool×List (Bool×Exit×VS)):=mkL QfE (fun x y=>(decide (0<=x.2.2.2.1/\x.2.2.2.1<=x.1.length/\x.1.length=x.2.1.length/\x.2.2.1=x.1.length/\x.1.length<=100000))) (fun x y=>[((!(x.1.drop x.2.2.2.1.toNat==x.2.1.drop x.2.2.2.1.toNat)),.ret,QnL (false)),(true,.exit 0,QnM)])
def QnN:G:=gG 26 [] (Ls [QON])
def QfG (x0 x1:List Keep)(x12 x13:Int):OX:=Qr (Qv QnN QnK QAB) (QAC x0 x1 x12 x13)
def V1 (kk:List Keep->List Keep->Int->Int->OX)(x0 x1:List Keep)(x12 x13:Int):OX:=
 let a1:=Int.toNat x13
 br (ilt x13 x12) (br (cIx x0 x13) (br (cIx x1 x13) (br (!(and (ieq ((lgt Qd x0 a1).1) ((lgt Qd x1 a1).1)) (and (ieq (((lgt Qd x0 a1).2).1) (((lgt Qd x1 a1).2).1)) true))) (some (.ret,QnL false)) (kk x0 x1 x12 (Qg .i64 x13 1))) none) none) (some (.exit 0,QnM))
def QfH (x0 x1:List Keep)(x12 x13:Int):OX:=br (!(x0.drop x13.toNat==x1.drop x13.toNat)) (some (.ret,QnL (false)))<|some (.exit 0,QnM)
theorem QAD (x0 x1:List Keep)(x12 x13:Int):QfG x0 x1 x12 x13=V1 QfG x0 x1 x12 x13:=lnT (x:=V1 (fun x0 x1 x12 x13=>some (.normal,QAC x0 x1 x12 x13)) x0 x1 x12 x13) (by simp only [V1,nxA];rfl)
def r_f57 (p0 p1:List Keep):OV:=br (ine (Qa p0) (Qa p1)) (some (.t .bool false,[])) (br (decide (0<=(0:Int)/\(0:Int)<=p0.length/\p0.length=p1.length/\(Qa p0)=p0.length/\p0.length<=100000)) (br (!(p0.drop (0:Int).toNat==p1.drop (0:Int).toNat)) (some (.t .bool (false),[])) (some (.t .bool true,[]))) none)
theorem QOO (x0 x1:List Keep)(x12 x13:Int)(h:(decide (0<=x13/\x13<=x0.length/\x0.length=x1.length/\x12=x0.length/\x0.length<=100000))=true):QfG x0 x1 x12 x13=QfH x0 x1 x12 x13:=by
 simp only [Ba] at h
 obtain ⟨h0,h1,h2,rfl,h3⟩:=h
 obtain ⟨k,rfl⟩:=Bo h0
 refine QP x0 (fun k=>QfG x0 x1 (x0.length:Int) (k:Int)=QfH x0 x1 (x0.length:Int) (k:Int)) ?_ ?_ k (by omega)
 ·rw [QAD]
  simp only [V1,QfH,Qz,BT,B0,Qf,Bc,BK]
  rw [h2,BK]
  rfl
 ·intro k hk ih
  rw [QAD]
  have hk2:k<x1.length:=by omega
  have hq:(and (ieq x0[k].1 x1[k].1) (and (ieq x0[k].2.1 x1[k].2.1) true))=(x0[k]==x1[k]):=rfl
  simp only [V1,Qz,QJ,hk,hk2,Bt,Qb,Bc,QO (show k<4611686018427387904 by omega),QL (y:=Qd) hk,QL (y:=Qd) hk2,ih]
  rw [hq]
  simp only [QfH,Bc,Bi hk,Bi hk2,List.cons_beq_cons]
  cases x0[k]==x1[k]<;>rfl
theorem QOP:LO QnN QnK QAB 0:=QH (s:=QfE) fun x y h _ q=>by simp only [QE,QF] at q;exact (QOO x.1 x.2.1 x.2.2.1 x.2.2.2.1 h).trans q
theorem s_f57 (a b:List Keep)(h:QfD a b=true):r_f57 a b=some (.t .bool (UM a b),[]):=by
 have h:=Bx h
 unfold r_f57 UM
 cases hl:ine (Qa a) (Qa b) with
 |true=>
  have hn:a.length≠b.length:=by
   simp only [ine,Qa,bne_iff_ne,ne_eq] at hl
   omega
  rw [Qb]
  have:(a==b)=false:=by
   rw [DJ]
   intro e
   exact hn (by rw [e])
  rw [this]
 |false=>
  have hn:a.length=b.length:=by
   simp only [ine,Qa,bne_eq_false_iff_eq] at hl
   omega
  rw [Qf]
  refine brY (Be ⟨BV 0,by omega,hn,rfl,h.1⟩) ?_
  rw [Br,By,By]
  cases a==b<;>rfl
def QAE:Ent:=Qi (.pr (.sl Qd) (.pr (.sl Qd) .nil)) (fun x=>(QfD x.1 x.2.1)) (fun x=>(.t .bool (UM x.1 x.2.1)))
theorem ms_f57:EM 57 QAE:=mS (lk:=lkL (lkc QOP lkn)) QnN QAA [((.t 4),some .bool)] false (gB gN) fun m=>Qm m fun x hok=>kT (s_f57 x.1 x.2.1 hok)
theorem QAF {a b:List Keep}:UM a b=true↔a=b:=by unfold UM;exact Dc
def Jh (e:Estate)(i:Int):List Keep×Endpoint:=(Z4 (Uc e i).1 (Uc e i).2,(Uc e i).2)
def Xj (e:Estate)(i:Int):Bool:=FV e i&&WW (Uc e i).1 (Uc e i).2
theorem Ix {e:Estate}{i:Int}(h:J0 e=true)(hl:JN e=true)(h0:0<=i)(h1:i<e.2.1.length):Xj e i=true:=
 Bg.2 ⟨QqB h h0 h1,QFq hl (QqB h h0 h1)⟩
def tc_f55:TC:=aF Tryz.f55 [(30,pD [(0,[2]),(1,[2]),(2,[6]),(3,[6]),(4,[]),(5,[]),(6,[7]),(7,[]),(8,[7]),(9,[]),(10,[5])] (.of [0,1,2,3,4,5,6,7,8,9,10]))]
def g_f55:G:=gG 28 [(95,QBy)] (fun _ _=>none)
def r_f55 (p0:Estate)(p1:Int):OV:=
 let a1:=lgt Qd p0.2.1 (Int.toNat p1)
 let a2:=lgt Qo p0.1 (Int.toNat ((a1.2).1))
 let a3:=lgt Qo p0.1 (Int.toNat (a1.1))
 br (cIx p0.2.1 p1) (br (cIx p0.1 ((a1.2).1)) (br (cIx p0.1 (a1.1)) (br (WW a3 a2) (some (.tu [(.t (.sl Qd) (Z4 a3 a2)),(.t Qo a2)],[])) none) none) none) none
theorem s_f55 (e:Estate)(i:Int)(h:Xj e i=true):r_f55 e i=some (.tu [.t (.sl Qd) (Jh e i).1,.t Qo (Jh e i).2],[]):=by
 simp only [Xj,FV,Bb] at h
 obtain ⟨⟨h1,h2,h3⟩,h4⟩:=h
 exact brY h1 (brY h3 (brY h2 (brY h4 rfl)))
def Iy:Ent:=Qi (.pr Qx (.pr tI .nil)) (fun x=>(Xj x.1 x.2.1)) (fun x=>(.tu [(.t (.sl Qd) ((Jh x.1 x.2.1).1)),(.t Qo ((Jh x.1 x.2.1).2))]))
theorem QnO:EM 55 Iy:=mS g_f55 tc_f55 [((.t 4),some (.sl Qd)),((.c 5 true 9),some Qo)] false (gB (gD ms_f95 gN)) fun m=>Qm m fun x hok=>kT (s_f55 x.1 x.2.1 hok)
def tc_f53:TC:=aF Tryz.f53 []
def g_f53:G:=gG 6 [(54,Qmv)] (fun _ _=>none)
def r_f53 (p0:Exception):OV:=br (Za p0) (some (.t .bool (ine (exZ p0) 0),[])) none
theorem s_f53 (x:Exception)(h:Za x=true):r_f53 x=some (.t .bool (Ib x),[]):=by cases h
def QAG:Ent:=Ye [.ty Jm] [] (fun x d=>(Za x.1)) (fun x d=>(.t .bool (Ib x.1)))
theorem ms_f53:EM 53 QAG:=mS g_f53 tc_f53 [((.t 2),some .bool)] false (gB (gD Qyn gN)) fun m=>ZZ m fun x d hok=>kT (s_f53 x.1 hok)
abbrev QfI:Sh:=⟨[(0,.ty (.sl Jm)),(1,.cf 53),(7,.ty tI),(8,.ty tI)],[]⟩
abbrev QAH:Sh:=⟨[(4,.ty tI)],[]⟩
def QnP:Fg:=QfI.f
def QAI:TC:=aF Tryz.f94 [(26,pL 0 QnP),(421,.fg QfF.f),(13517,.fg QAH.f)]
def QAJ:TC:=lb 0 QAI
def QAK (x0:List Exception)(x7 x8:Int):VS:=QfI.st (x0,(),x7,x8,()) ()
def QOQ (x4:Int):VS:=QAH.st (x4,()) ()
def QnQ  : VS:=QfF.st () ()
def QOR:VS->Option (Bool×List (Bool×Exit×VS)):=mkL QfI (fun x y=>(Jj x.1&&(ieq x.2.2.1 0&&ieq x.2.2.2.1 0))) (fun x y=>[(true,.exit 0,QnQ)])
def QnR:G:=gG 19 [(53,QAG)] (Ls [QOR])
def QnS (x0:List Exception)(x7 x8:Int):OX:=Qr (Qv QnR QnP QAJ) (QAK x0 x7 x8)
def QnT (kk:List Exception->Int->Int->OX)(x0:List Exception)(x7 x8:Int):OX:=
 let a1:=lgt Jm x0 (Int.toNat x8)
 br (ilt x8 x7) (br (cIx x0 x8) (br (Za a1) (br (Ib a1) (some (.ret,QOQ x8)) (kk x0 x7 (Qg .i64 x8 1))) none) none) (some (.exit 0,QnQ))
def QOS (x0:List Exception)(x7 x8:Int):OX:=some (.exit 0,QnQ)
theorem QOT (x0:List Exception)(x7 x8:Int):QnS x0 x7 x8=QnT QnS x0 x7 x8:=lnT (x:=QnT (fun x0 x7 x8=>some (.normal,QAK x0 x7 x8)) x0 x7 x8) (by simp only [QnT,nxA];rfl)
def QOU (p0:List Exception):OV:=br (Jj p0&&(ieq (Qa p0) 0&&ieq (0:Int) 0)) (some (.t tI (-1),[])) none
theorem QOV (x0:List Exception)(x7 x8:Int)(h:(Jj x0&&(ieq x7 0&&ieq x8 0))=true):QnS x0 x7 x8=QOS x0 x7 x8:=by
 simp only [Bb] at h
 obtain ⟨h1,h2,h3⟩:=h
 obtain rfl:=XY h1
 have h2:x7=0:=by simpa [ieq] using h2
 have h3:x8=0:=by simpa [ieq] using h3
 subst h2 h3
 rw [QOT]
 try rfl
theorem QOW:LO QnR QnP QAJ 0:=QH (s:=QfI) fun x y h _ q=>by simp only [QE,QF] at q;exact (QOV x.1 x.2.2.1 x.2.2.2.1 h).trans q
theorem QOX (l:List Exception)(h:Jj l=true):QOU l=some (.t tI (Ic l),[]):=by
 obtain rfl:=XY h
 rfl
def QAL:Ent:=Ye [.ty (.sl Jm),.cf 53] [] (fun x d=>(Jj x.1)) (fun x d=>(.t tI (Ic x.1)))
theorem QOY:EM 94 QAL:=mS (lk:=lkL (lkc QOW lkn)) QnR QAI [((.t 4),some tI)] false (gB (gD ms_f53 gN)) fun m=>ZZ m fun x d hok=>kT (QOX x.1 hok)
def QOZ:TC:=aF Tryz.f52 []
def QO0:G:=gG 9 [(94,QAL)] (fun _ _=>none)
def QO1 (p0:List Exception):OV:=br (Jj p0) (some (.t .bool (ige (Ic p0) 0),[])) none
theorem QO2 (l:List Exception)(h:Jj l=true):QO1 l=some (.t .bool (Id l),[]):=by
 obtain rfl:=XY h
 rfl
def QAM:Ent:=Ye [.ty (.sl Jm),.cf 53] [] (fun x d=>(Jj x.1)) (fun x d=>(.t .bool (Id x.1)))
theorem QO3:EM 52 QAM:=mS QO0 QOZ [((.t 4),some .bool)] false (gB (gD QOY gN)) fun m=>ZZ m fun x d hok=>kT (QO2 x.1 hok)
def rl (y:Policy)(l:List Exception)(o:Dice)(d:Int):Rules:=(y,(l,(o,(d,()))))
def YV (r:Rules):Bool:=J4 r.1&&Jj r.2.1
def Zc (r:Rules):Int:=bif ine (ZM r.1) 0 then 25 else bif ilt r.2.2.2.1 0||igt r.2.2.2.1 40000 then 2 else 0
def tc_f28:TC:=aF Tryz.f28 []
def g_f28:G:=gG 21 [(51,QkK),(52,QAM)] (fun _ _=>none)
def r_f28 (p0:Rules):OV:=br (J4 p0.1) (br (ine (ZM p0.1) 0) (some (.t tI 25,[])) (br (Jj p0.2.1) (br (Id p0.2.1) (some (.t tI 26,[])) (br (ilt p0.2.2.2.1 0) (some (.t tI 2,[])) (br (igt p0.2.2.2.1 40000) (some (.t tI 2,[])) (some (.t tI 0,[]))))) none)) none
theorem s_f28 (r:Rules)(h:YV r=true):r_f28 r=some (.t tI (Zc r),[]):=by
 obtain ⟨h1,h2⟩:=Bg.1 h
 unfold r_f28 Zc
 refine brY h1 ?_
 cases ine (ZM r.1) 0 with
 |true=>rfl
 |false=>
  rw [Qf]
  refine brY h2 ?_
  show br false _ _=_
  rw [Qf]
  cases ilt r.2.2.2.1 0 with
  |true=>rfl
  |false=>cases igt r.2.2.2.1 40000<;>rfl
def QfJ:Ent:=Qi (.pr Ft .nil) (fun x=>(YV x.1)) (fun x=>(.t tI (Zc x.1)))
theorem QnU:EM 28 QfJ:=mS g_f28 tc_f28 [((.t 2),some tI)] false (gB (gD Qvu (gD QO3 gN))) fun m=>Qm m fun x hok=>kT (s_f28 x.1 hok)
def Iz (r:Rules)(s:Endpoint)(o:Keep):Bool:=(ZO r.1 r.2.1 r.2.2.1 s o r.2.2.2.1).1
def V2 (r:Rules)(s:Endpoint)(l m:List Keep)(k:Int):Bool:=YV r&&(QS s&&decide (l.length<=1000/\(m.length:Int)<=k))
def ZQ (r:Rules)(e:Estate)(i:Int):List Keep:=(Jh e i).1.filter (Iz r (Jh e i).2)
def Gs (r:Rules)(e:Estate)(i:Int):Bool:=YV r&&Xj e i
theorem QAN (r:Rules)(e:Estate)(i:Int):(ZQ r e i).length<=64:=Dg (List.length_filter_le _ _) Ve
abbrev QfK:Sh:=⟨[(3,.ptr 3 0),(7,.ms 7),(9,.ptr 9 0),(20,.ty (.sl Qd)),(21,.ty tI),(22,.ty tI)],[(3,.box Ft),(7,.arr 54 Qd),(9,.box Qo),(44,.no)]⟩
abbrev QAO:Sh:=⟨[(7,.ms 7)],[(7,.arr 54 Qd),(44,.no)]⟩
def QnV:Fg:=QfK.f
def QAP:TC:=aF Tryz.f29 [(122,.nw 7 54),(122,pL 0 QnV),(1957,.fg QAO.f)]
def QAQ:TC:=lb 0 QAP
def QAR (x20:List Keep)(x21 x22:Int)(y3:Rules)(y7:List Keep)(y9:Endpoint):VS:=QfK.st ((),(),(),x20,x21,x22,()) (y3,y7,y9,(),())
def QnW (y7:List Keep):VS:=QAO.st ((),()) (y7,(),())
def QO4:VS->Option (Bool×List (Bool×Exit×VS)):=mkL QfK (fun x y=>(QA x.2.2.2.1 x.2.2.2.2.1 x.2.2.2.2.2.1&&V2 y.1 y.2.2.1 x.2.2.2.1 y.2.1 x.2.2.2.2.2.1)) (fun x y=>[(true,.exit 0,QnW (y.2.1++(x.2.2.2.1.drop x.2.2.2.2.2.1.toNat).filter (Iz y.1 y.2.2.1)))])
def QnX:G:=gG 47 [(55,Iy),(56,QyK)] (Ls [QO4])
def QfL (x20:List Keep)(x21 x22:Int)(y3:Rules)(y7:List Keep)(y9:Endpoint):OX:=Qr (Qv QnX QnV QAQ) (QAR x20 x21 x22 y3 y7 y9)
def V3 (kk:List Keep->Int->Int->Rules->List Keep->Endpoint->OX)(x20:List Keep)(x21 x22:Int)(y3:Rules)(y7:List Keep)(y9:Endpoint):OX:=
 let a1:=lgt Qd x20 (Int.toNat x22)
 br (ilt x22 x21) (br (cIx x20 x22) (br (WV y3.1 y3.2.1 y3.2.2.1 y9 a1 y3.2.2.2.1) (br ((ZO y3.1 y3.2.1 y3.2.2.1 y9 a1 y3.2.2.2.1).1) (br (QM y7 ([(a1.1,((a1.2).1,()))]) 16) (kk x20 x21 (Qg .i64 x22 1) y3 (y7++([(a1.1,((a1.2).1,()))])) y9) none) (kk x20 x21 (Qg .i64 x22 1) y3 y7 y9)) none) none) (some (.exit 0,QnW y7))
def QfM (x20:List Keep)(x21 x22:Int)(y3:Rules)(y7:List Keep)(y9:Endpoint):OX:=some (.exit 0,QnW (y7++(x20.drop x22.toNat).filter (Iz y3 y9)))
theorem QAS (x20:List Keep)(x21 x22:Int)(y3:Rules)(y7:List Keep)(y9:Endpoint):QfL x20 x21 x22 y3 y7 y9=V3 QfL x20 x21 x22 y3 y7 y9:=lnT (x:=V3 (fun x20 x21 x22 y3 y7 y9=>some (.normal,QAR x20 x21 x22 y3 y7 y9)) x20 x21 x22 y3 y7 y9) (by simp only [V3,nxA];rfl)
def r_f29 (p0:Rules)(p1:Estate)(p2:Int):OV:=
 let a1:=((Jh p1 p2).1)
 br (Xj p1 p2) (br (QA a1 (Qa a1) (0:Int)&&V2 p0 ((Jh p1 p2).2) a1 ([]:List Keep) (0:Int)) (some (.t (.sl Qd) (([]:List Keep)++(a1.drop (0:Int).toNat).filter (Iz p0 ((Jh p1 p2).2))),[])) none) none
theorem QO5 (x20:List Keep)(x21 x22:Int)(y3:Rules)(y7:List Keep)(y9:Endpoint)(h:(QA x20 x21 x22&&V2 y3 y9 x20 y7 x22)=true):QfL x20 x21 x22 y3 y7 y9=QfM x20 x21 x22 y3 y7 y9:=by
 simp only [V2,Bb,Ba] at h
 obtain ⟨h,g1,g2,g3,g4⟩:=h
 obtain ⟨rfl,h3,k,rfl,hk⟩:=JB h
 clear h
 obtain ⟨r1,r2⟩:=Bg.1 g1
 revert y7
 refine QP x20 (fun k=> ∀ y7:List Keep,(y7.length:Int)<=(k:Int)->QfL x20 (x20.length:Int) (k:Int) y3 y7 y9=QfM x20 (x20.length:Int) (k:Int) y3 y7 y9) ?_ ?_ k hk
 ·intro y7 _
  rw [QAS]
  simp only [V3,QfM,Qz,BT,B0,Qf,Bc,BK,List.filter_nil,BQ]
 ·intro k hk ih y7 g4
  rw [QAS]
  have e1: ∀ o,WV y3.1 y3.2.1 y3.2.2.1 y9 o y3.2.2.2.1=true:=fun _=>Bg.2 ⟨r1,Bg.2 ⟨r2,g2⟩⟩
  have hx:((x20[k].1,(x20[k].2.1,())):Keep)=x20[k]:=rfl
  have e2:QM y7 [x20[k]] 16=true:=Jk (by omega) (by simp only [Bq];omega)
  simp only [V3,Qz,QJ,hk,Bt,Qb,Bc,QO (show k<4611686018427387904 by omega),e1,QL (y:=Qd) hk,hx,e2]
  rw [ih (y7++[x20[k]]) (by simp only [Bm,Bq];omega),ih y7 (by omega)]
  simp only [QfM,Bc,Bi hk,List.filter_cons]
  show br (Iz y3 y9 x20[k]) _ _=_
  cases Iz y3 y9 x20[k] with
  |true=>simp only [Qb,if_true,BU,BN]
  |false=>simp only [Qf,BF,Dd]
theorem QO6:LO QnX QnV QAQ 0:=QH (s:=QfK) fun x y h _ q=>by simp only [QE,QF] at q;exact (QO5 x.2.2.2.1 x.2.2.2.2.1 x.2.2.2.2.2.1 y.1 y.2.1 y.2.2.1 h).trans q
theorem s_f29 (r:Rules)(e:Estate)(i:Int)(h:Gs r e i=true):r_f29 r e i=some (.t (.sl Qd) (ZQ r e i),[]):=by
 obtain ⟨h1,h2⟩:=Bg.1 h
 obtain ⟨h3,h4⟩:=Bg.1 h2
 have hs:QS (Uc e i).2=true:=(Bg.1 h4).2
 have hl:(Jh e i).1.length<=64:=Ve
 unfold r_f29 ZQ
 refine brY h2 (brY ?_ ?_)
 ·rw [JC (by omega),BA]
  unfold V2
  rw [h1,BA]
  exact Bg.2 ⟨hs,Be ⟨by omega,by simp⟩⟩
 ·rw [Br,By,BP]
def QfN:Ent:=Qi (.pr Ft (.pr Qx (.pr tI .nil))) (fun x=>(Gs x.1 x.2.1 x.2.2.1)) (fun x=>(.t (.sl Qd) (ZQ x.1 x.2.1 x.2.2.1)))
theorem QnY:EM 29 QfN:=mS (lk:=lkL (lkc QO6 lkn)) QnX QAP [((.t 6),some (.sl Qd))] false (gB (gD QnO (gD ms_f56 gN))) fun m=>Qm m fun x hok=>kT (s_f29 x.1 x.2.1 x.2.2.1 hok)
def UN (e:Estate)(y:Policy)(l:List Exception)(o:Dice)(i d:Int):List Keep×Int:=
 bif !J0 e then ([],31) else bif ine (Zc (rl y l o d)) 0 then ([],Zc (rl y l o d)) else bif ilt i 0||ige i (Qa e.2.1) then ([],4) else (ZQ (rl y l o d) e i,0)
def V4 (e:Estate)(y:Policy)(l:List Exception)(o:Dice)(_i d:Int):Bool:=JN e&&YV (rl y l o d)
def tc_f15:TC:=aF Tryz.f15 []
def g_f15:G:=gG 42 [(27,QhA),(28,QfJ),(29,QfN)] (fun _ _=>none)
def r_f15 (p0:Estate)(p1:Policy)(p2:List Exception)(p3:Dice)(p4 p5:Int):OV:=
 let a1:=((p1.1,(p1.2.1,())),(p2,((p3.1,(p3.2.1,())),(p5,()))))
 br (JN p0) (br (ine (YQ p0) 0) (some (.tu [(.t (.sl Qd) ([]:List Keep)),(.t tI 31)],[])) (br (YV a1) (br (ine (Zc a1) 0) (some (.tu [(.t (.sl Qd) ([]:List Keep)),(.t tI (Zc a1))],[])) (br (ilt p4 0) (some (.tu [(.t (.sl Qd) ([]:List Keep)),(.t tI 4)],[])) (br (ige p4 (Qa p0.2.1)) (some (.tu [(.t (.sl Qd) ([]:List Keep)),(.t tI 4)],[])) (br (Gs a1 p0 p4) (some (.tu [(.t (.sl Qd) (ZQ a1 p0 p4)),(.t tI 0)],[])) none)))) none)) none
theorem s_f15 (e:Estate)(y:Policy)(l:List Exception)(o:Dice)(i d:Int)(h:V4 e y l o i d=true):r_f15 e y l o i d=some (.tu [.t (.sl Qd) (UN e y l o i d).1,.t tI (UN e y l o i d).2],[]):=by
 obtain ⟨h1,h2⟩:=Bg.1 h
 unfold r_f15 UN
 refine brY h1 ?_
 rw [Qhv]
 cases ho:J0 e with
 |false=>rfl
 |true=>
  rw [BC,Qf]
  refine brY (show YV (rl y l o d)=true from h2) ?_
  show br (ine (Zc (rl y l o d)) 0) (some (V.tu [V.t (.sl Qd) ([]:List Keep),V.t tI (Zc (rl y l o d))],[])) _=_
  cases ine (Zc (rl y l o d)) 0 with
  |true=>rfl
  |false=>
   rw [Qf]
   cases h3:ilt i 0 with
   |true=>rfl
   |false=>
    rw [Qf]
    cases h4:ige i (Qa e.2.1) with
    |true=>rfl
    |false=>
     rw [Qf]
     have h3:=Dn h3
     have h4:=Dn h4
     simp only [Qa] at h4
     exact brY (show Gs (rl y l o d) e i=true from Bg.2 ⟨h2,Ix ho h1 (by omega) (by omega)⟩) rfl
def QnZ:Ent:=Qi (.pr Qx (.pr Jz (.pr (.sl Jm) (.pr QK (.pr tI (.pr tI .nil)))))) (fun x=>(V4 x.1 x.2.1 x.2.2.1 x.2.2.2.1 x.2.2.2.2.1 x.2.2.2.2.2.1)) (fun x=>(.tu [(.t (.sl Qd) ((UN x.1 x.2.1 x.2.2.1 x.2.2.2.1 x.2.2.2.2.1 x.2.2.2.2.2.1).1)),(.t tI ((UN x.1 x.2.1 x.2.2.1 x.2.2.2.1 x.2.2.2.2.1 x.2.2.2.2.2.1).2))]))
theorem QAT:EM 15 QnZ:=mS g_f15 tc_f15 [((.t 12),some (.sl Qd)),((.t 13),some tI)] false (gB (gD Qqb (gD QnU (gD QnY gN)))) fun m=>Qm m fun x hok=>kT (s_f15 x.1 x.2.1 x.2.2.1 x.2.2.2.1 x.2.2.2.2.1 x.2.2.2.2.2.1 hok)
def Yv (a b:Estate):Int:=bif !J0 a then 31 else bif !J0 b then 31 else bif !UM a.2.1 b.2.1 then 42 else 0
def IA (a b:Estate):Bool:=JN a&&JN b
theorem QAU {a b:Estate}(h:ine (Yv a b) 0=false):J0 a=true/\J0 b=true/\a.2.1=b.2.1:=by
 unfold Yv at h
 cases h1:J0 a with
 |false=>rw [h1] at h;cases h
 |true=>
  rw [h1] at h
  cases h2:J0 b with
  |false=>rw [h2] at h;cases h
  |true=>
   rw [h2] at h
   cases h3:UM a.2.1 b.2.1 with
   |false=>rw [h3] at h;cases h
   |true=>exact ⟨rfl,rfl,QAF.1 h3⟩
def tc_f30:TC:=aF Tryz.f30 []
def g_f30:G:=gG 21 [(27,QhA),(57,QAE)] (fun _ _=>none)
def r_f30 (p0 p1:Estate):OV:=br (JN p0) (br (ine (YQ p0) 0) (some (.t tI 31,[])) (br (JN p1) (br (ine (YQ p1) 0) (some (.t tI 31,[])) (br (QfD p0.2.1 p1.2.1) (br (!(UM p0.2.1 p1.2.1)) (some (.t tI 42,[])) (some (.t tI 0,[]))) none)) none)) none
theorem s_f30 (a b:Estate)(h:IA a b=true):r_f30 a b=some (.t tI (Yv a b),[]):=by
 obtain ⟨h1,h2⟩:=Bg.1 h
 unfold r_f30 Yv
 refine brY h1 ?_
 rw [Qhv]
 cases g1:J0 a with
 |false=>rfl
 |true=>
  rw [BC,Qf]
  refine brY h2 ?_
  rw [Qhv]
  cases g2:J0 b with
  |false=>rfl
  |true=>
   rw [BC,Qf]
   have p1:=Ud g1
   have p2:=Ud g2
   refine brY (show QfD a.2.1 b.2.1=true from Be ⟨by have:a.2.1.length<=40:=p1.2.2.2.2.2;omega,by have:b.2.1.length<=40:=p2.2.2.2.2.2;omega⟩) ?_
   cases UM a.2.1 b.2.1<;>rfl
def Qn0:Ent:=Qi (.pr Qx (.pr Qx .nil)) (fun x=>(IA x.1 x.2.1)) (fun x=>(.t tI (Yv x.1 x.2.1)))
theorem QAV:EM 30 Qn0:=mS g_f30 tc_f30 [((.t 4),some tI)] false (gB (gD Qqb (gD ms_f57 gN))) fun m=>Qm m fun x hok=>kT (s_f30 x.1 x.2.1 hok)
end
end Go.Proofs.YtmjnnemhoeolgaaGreat.K
noncomputable section
namespace Go.Proofs.YtmjnnemhoeolgaaGreat.K
open Go.RowKit
def cU (l:List Keep):List Value:=l.flatMap fun u=>[.int .i64 u.1,.int .i64 u.2.1]
theorem Qhg: ∀ l:List Keep,(cU l).length=l.length*2
 | []=>rfl
 |u::l=>by
  have:=Qhg l
  simp only [cU,BO,Bm,Bv,BB] at this ⊢
  omega
theorem QD2 (l:List Keep): ∀ v∈cU l,v.oneCell'=true:=by
 intro v hv
 simp only [cU,DA,B5,Do,or_false] at hv
 obtain ⟨u,_,rfl|rfl⟩:=hv<;>rfl
theorem Qhh {X:Nat->Nat->Prop}{w:World}{σ:Pl}: ∀ {l:List Keep} {vs:List Value},Cs X w σ (l.flatMap Qd.cells) vs->vs=cU l
 | [],vs,h=>by simpa [Cs,cU] using h
 |x::l,vs,h=>by
  have h:Cs X w σ (D.v (.int .i64 x.1)::D.v (.int .i64 x.2.1)::l.flatMap Qd.cells) vs:=h
  simp only [Cs] at h
  obtain ⟨u0,r0,rfl,c0,u1,r1,rfl,c1,h2⟩:=h
  simp only [C] at c0 c1
  rw [Qhh h2,c0.1,c1.1]
  rfl
abbrev FM (o:Keep):Value:= .agg #[.int .i64 o.1,.int .i64 o.2.1]
theorem keep_c {X:Nat->Nat->Prop}{w:World}{σ:Pl}(o:Keep):C X w σ (V.t Qd o).d (FM o):=by
 simp only [V.d]
 rw [Ty.d_row Qd _ rfl]
 simp only [C]
 exact ⟨[.int .i64 o.1,.int .i64 o.2.1],rfl,_,_,rfl,⟨rfl,rfl⟩,_,_,rfl,⟨rfl,rfl⟩,rfl⟩
theorem QpP {X:Nat->Nat->Prop}{w:World}{σ:Pl}:Lent X w σ []:=⟨fun j o hj=>by simp at hj,fun i j b _ hi=>by simp at hi⟩
theorem QpQ {X X':Nat->Nat->Prop}{w w':World}{σ σ':Pl}{os:List VO}(h:Ends X w σ 0 X' w' σ' os):Below w.heap.size w w':=
 ⟨h.fr.os,h.fr.tape,h.fr.output,h.fr.size,fun b hb=>h.fr.keep b hb (by simp [XH])⟩
theorem QR9 {X:Nat->Nat->Prop}{w:World}{σ:Pl}{s:Endpoint}{o:Keep}{sv:Value}(hfin: ∀ b q,X b q->b<w.heap.size)(hs:C X w σ (V.t Qo s).d sv)(hl:QS s=true):
  Calls Tryz.prog 96 #[sv,FM o] w fun e w'=> ∃ A c er,e= .returned (.tuple #[.slice A (Q5 s o).1.length c,.int .i64 er])/\(Q5 s o).1.length<=c∧
   (0<(Q5 s o).1.length→ ∃ b off,A=some ⟨b,off,none⟩∧ ∀ j v,(cU (Q5 s o).1)[j]? = some v->w'.cell? ⟨b,off+j,none⟩=some v)/\Below w.heap.size w w':=by
 have hF:QG QdO [.t Qo s,.t Qd o] []=some (.tu [.t (.sl Qd) (Q5 s o).1,.t tI (Q5 s o).2],[]):=by
  unfold QdO
  exact QcW (a:= .pr Qo (.pr Qd .nil)) (x:=(s,(o,()))) (by simp [Ty.args,QgP]) hl
 refine (Gz (by decide) (Qwy.2 _ _ _ _ hF X w σ [sv,FM o] hfin QpP ⟨sv,_,rfl,hs,FM o,_,rfl,keep_c o,rfl⟩)).mono ?_
 rintro e w' ⟨u,X',σ',rfl,h1,h2⟩
 have h1:C X' w' σ' (.tu [.sl (Q5 s o).1.length ((Q5 s o).1.flatMap Qd.cells),.v (.int .i64 (Q5 s o).2)]) u:=h1
 simp only [C,Cs] at h1
 obtain ⟨vs,rfl,u1,us,rfl,⟨A,c,rfl,g1,g2,g3,g4⟩,u2,us2,rfl,⟨rfl,_⟩,rfl⟩:=h1
 refine ⟨A,c,_,rfl,g1,fun hp=> ?_,QpQ h2⟩
 obtain ⟨b,off,vs,rfl,k1,k2⟩:=g4 hp
 rw [Qhh k1] at k2
 exact ⟨b,off,rfl,fun j v hv=>k2.at_ j v hv⟩
theorem QSa {P:Program}{w:World}{T ty elem:TypeId}(hu:P.underlying T=some (.slice elem))(hs:(P.info? elem).map (·.size)=some 2){b o n c:Nat}{A:Option Addr}{cs:List Value}(hn:n<=4)(hl:cs.length=n*2)
  (hp:0<n→ ∃ a,A=some a∧ ∀ j v,cs[j]? = some v->w.cell? (a.add j)=some v) (hc: ∀ j,j<cs.length->(w.cell? ⟨b,o+j,none⟩).isSome=true) (hf: ∀ j,j<cs.length->w.frozen? ⟨b,o+j,none⟩=false) (h1: ∀ v∈cs,v.oneCell'=true):
  (Builtin.copy_ #[T,T] ty #[.slice (some ⟨b,o,none⟩) 4 4,.slice A n c]).run P w= .ok (goInt n) (w.setCells b o cs):=by
 have hst:=run_storeCells_cells (P:=P) b o cs 0 w (by simpa using hc) (by simpa using hf) h1
 have hm:Nat.min n 4=n:=Nat.min_eq_left hn
 cases hq:P.info? elem with
 |none=>simp [hq] at hs
 |some i=>
  have hi:i.size=2:=by simpa [hq] using hs
  rcases DT n with rfl|h0
  ·have hcs:cs=[]:=BD (by omega)
   subst hcs
   have hl0: ∀ (x:Addr),(loadCells x 0).run P w= .ok #[] w:=fun x=>by simpa using run_loadCells_list (P:=P) w x [] (by simp)
   cases A<;>simp [Builtin.copy_,run_underlying hu,Builtin.lenOf,Builtin.firstCells,sizeOf,typeInfo,hq,hi,hl0,storeCells,World.setCells]
  ·obtain ⟨a,rfl,hsrc⟩:=hp h0
   have hld:=run_loadCells_list (P:=P) w a cs hsrc
   rw [hl] at hld
   simp [Builtin.copy_,run_underlying hu,Builtin.lenOf,Builtin.firstCells,sizeOf,typeInfo,hq,hi,hm,hld,hst]
def FN (l:List Keep):List Keep:=(l++List.replicate 4 zK).take 4
def mV (o:Keep)(us:List Keep):Array Value:=(.int .i64 o.1:: .int .i64 o.2.1::cU (FN us)).toArray
set_option maxRecDepth 50000 in
set_option maxHeartbeats 1000000 in
theorem of_any {v0 v1 v2 v3 v4 v5 v6 v7 v8:Value}{o:Keep}{us:List Keep}{w:World}
  (o0:v0.oneCell'=true) (o1:v1.oneCell'=true) (o2:v2.oneCell'=true) (o3:v3.oneCell'=true) (o4:v4.oneCell'=true) (o5:v5.oneCell'=true) (o6:v6.oneCell'=true) (o7:v7.oneCell'=true) (o8:v8.oneCell'=true)
  (hU: ∀ W,Below w.heap.size w W->Calls Tryz.prog 96 #[.agg #[v0,v1,v2,v3,v4,v5,v6,v7,v8],FM o] W fun e w'=> ∃ A c er,e= .returned (.tuple #[.slice A us.length c,.int .i64 er])/\us.length<=c∧
   (0<us.length→ ∃ b off,A=some ⟨b,off,none⟩∧ ∀ j v,(cU us)[j]? = some v->w'.cell? ⟨b,off+j,none⟩=some v)/\Below W.heap.size W w')
  (hn:us=[]∨ ∃ a b c d,us=[a,b,c,d]):
  Calls Tryz.prog 59 #[.agg #[v0,v1,v2,v3,v4,v5,v6,v7,v8],FM o] w fun e w'=>e= .returned (.agg (mV o us))/\Below w.heap.size w w':=by
 go_enter Tryz.func59,Tryz.ntmps59
 go_wp2_with fail
 obtain ⟨Wa,ha⟩: ∃ Wa,Wa=w.alloc (.cells #[v0,v1,v2,v3,v4,v5,v6,v7,v8] 61):=⟨_,rfl⟩
 obtain ⟨Wb,hb⟩: ∃ Wb,Wb=Wa.alloc (.cells #[.int .i64 o.1,.int .i64 o.2.1] 54):=⟨_,rfl⟩
 obtain ⟨Wc,hc⟩: ∃ Wc,Wc=Wb.alloc (.cells #[.int .i64 0,.int .i64 0,.int .i64 0,.int .i64 0,.int .i64 0,.int .i64 0,.int .i64 0,.int .i64 0,.int .i64 0,.int .i64 0] 132):=⟨_,rfl⟩
 obtain ⟨Wd,hd⟩: ∃ Wd,Wd=Wc.alloc (.cells #[.int .i64 o.1,.int .i64 o.2.1,.int .i64 0,.int .i64 0,.int .i64 0,.int .i64 0,.int .i64 0,.int .i64 0,.int .i64 0,.int .i64 0] 132):=⟨_,rfl⟩
 obtain ⟨S,hS⟩: ∃ S,S=w.heap.size:=⟨_,rfl⟩
 rw [←ha, ← hb, ← hc, ← hd, ← hS]
 have sa:Wa.heap.size=S+1:=by rw [ha,World.size_alloc,hS]
 have sb:Wb.heap.size=S+1+1:=by rw [hb,World.size_alloc,sa]
 have sc:Wc.heap.size=S+1+1+1:=by rw [hc,World.size_alloc,sb]
 have sd:Wd.heap.size=S+1+1+1+1:=by rw [hd,World.size_alloc,sc]
 have b4:Below w.heap.size w Wd:=by
  rw [hd,hc,hb,ha]
  have e1:=(Below.refl w.heap.size w).alloc (BL _) (.cells #[v0,v1,v2,v3,v4,v5,v6,v7,v8] 61)
  have e2:=e1.alloc e1.size (.cells #[.int .i64 o.1,.int .i64 o.2.1] 54)
  have e3:=e2.alloc e2.size (.cells #[.int .i64 0,.int .i64 0,.int .i64 0,.int .i64 0,.int .i64 0,.int .i64 0,.int .i64 0,.int .i64 0,.int .i64 0,.int .i64 0] 132)
  exact e3.alloc e3.size _
 have k2:Go.Proofs.YtmjnnemhoeolgaaGreat.Blk Wd (S+1+1) 132 #[.int .i64 0,.int .i64 0,.int .i64 0,.int .i64 0,.int .i64 0,.int .i64 0,.int .i64 0,.int .i64 0,.int .i64 0,.int .i64 0]:=by
  rw [hd];refine Go.Proofs.YtmjnnemhoeolgaaGreat.Blk.alloc ?_ _;rw [hc, ← sb];exact Go.Proofs.YtmjnnemhoeolgaaGreat.Blk.new _ _ _
 have k3:Go.Proofs.YtmjnnemhoeolgaaGreat.Blk Wd (S+1+1+1) 132 #[.int .i64 o.1,.int .i64 o.2.1,.int .i64 0,.int .i64 0,.int .i64 0,.int .i64 0,.int .i64 0,.int .i64 0,.int .i64 0,.int .i64 0]:=by
  rw [hd, ← sc];exact Go.Proofs.YtmjnnemhoeolgaaGreat.Blk.new _ _ _
 clear ha hb hc hd sa sb sc
 refine (hU _ b4).mono ?_
 rintro e w1 ⟨A,c,er,rfl,hc,hp,hb1⟩
 have hsz:=hb1.size
 have k2:=k2.ext hb1
 have k3:=k3.ext hb1
 have b5:Below S w w1:=hS▸Us b4 hb1 (by omega)
 have HP:=Lib.hid hp
 have HB:=Lib.hid b5
 clear hp hb1 hU b4 b5
 have hM: ∃ m0 m1 m2 m3 m4 m5 m6 m7:Int,Q3 [.int .i64 o.1,.int .i64 o.2.1,.int .i64 0,.int .i64 0,.int .i64 0,.int .i64 0,.int .i64 0,.int .i64 0,.int .i64 0,.int .i64 0] 2 (cU us)=[.int .i64 o.1,.int .i64 o.2.1,.int .i64 m0,.int .i64 m1,.int .i64 m2,.int .i64 m3,.int .i64 m4,.int .i64 m5,.int .i64 m6,.int .i64 m7]/\mV o us= #[.int .i64 o.1,.int .i64 o.2.1,.int .i64 m0,.int .i64 m1,.int .i64 m2,.int .i64 m3,.int .i64 m4,.int .i64 m5,.int .i64 m6,.int .i64 m7]:=by
  rcases hn with rfl|⟨a,b,c,d,rfl⟩<;>exact ⟨_,_,_,_,_,_,_,_,rfl,rfl⟩
 have hn4:us.length<=4:=by rcases hn with rfl|⟨a,b,c,d,rfl⟩<;>simp
 obtain ⟨m0,m1,m2,m3,m4,m5,m6,m7,hm1,hm2⟩:=hM
 have HM:=Lib.hid hm2
 have f3:=k3.frozen
 have hl8:=Qhg us
 have hrun:=QSa (P:=Tryz.prog) (w:=w1) (T:=109) (ty:=3) (elem:=64) (by kernel_rfl) (by kernel_rfl) (b:=S+1+1+1) (o:=2) (n:=us.length) (c:=c) (A:=A) (cs:=cU us) hn4 hl8
  (fun h0=>by
   obtain ⟨b,off,rfl,h⟩:=HP.out h0
   exact ⟨_,rfl,fun j v hv=>by
    have:=h j v hv
    have ha:(Addr.mk b off none).add j=⟨b,off+j,none⟩:=by by_cases h0:j=0<;>simp [Addr.add,h0]
    rw [ha]
    exact this⟩)
  (fun j hj=>by
   rw [k3.cell,Array.getElem?_eq_getElem (by simp;omega)]
   rfl)
  (fun j _=>f3 _) (QD2 us)
 have k3':=Fd (S+1+1+1) 132 (0,0) (cU us) 2 w1 _ k3
 rw [hm1] at k3'
 have k2':Go.Proofs.YtmjnnemhoeolgaaGreat.Blk (w1.setCells (S+1+1+1) 2 (cU us)) (S+1+1) 132 #[.int .i64 0,.int .i64 0,.int .i64 0,.int .i64 0,.int .i64 0,.int .i64 0,.int .i64 0,.int .i64 0,.int .i64 0,.int .i64 0]:=(Uw (S+1+1+1) (cU us) 2 w1 (S+1+1) (by omega)).trans k2
 have b6:Below S w (w1.setCells (S+1+1+1) 2 (cU us)):=by
  have fr:=Ux (S+1+1+1) (cU us) 2 w1
  exact HB.out.trans ⟨fr.os,fr.tape,fr.output,fr.size,fun k hk=>Uw (S+1+1+1) (cU us) 2 w1 k (by omega)⟩
 generalize w1.setCells (S+1+1+1) 2 (cU us)=w2 at*
 replace k3':Go.Proofs.YtmjnnemhoeolgaaGreat.Blk w2 (S+1+1+1) 132 #[.int .i64 o.1,.int .i64 o.2.1,.int .i64 m0,.int .i64 m1,.int .i64 m2,.int .i64 m3,.int .i64 m4,.int .i64 m5,.int .i64 m6,.int .i64 m7]:=k3'
 have HB2:=Lib.hid b6
 have K2:=Lib.hid k2'
 clear k2 k3 HB HP hn hn4 hm1 hm2 hl8 b6 sd hsz Wa Wb Wc hc
 have HS:=Lib.hid hS
 clear hS
 have q0:=k3'.cell 0
 have q1:=k3'.cell 1
 have q2:=k3'.cell 2
 have q3:=k3'.cell 3
 have q4:=k3'.cell 4
 have q5:=k3'.cell 5
 have q6:=k3'.cell 6
 have q7:=k3'.cell 7
 have q8:=k3'.cell 8
 have q9:=k3'.cell 9
 have p0:=k2'.cell 0
 have p1:=k2'.cell 1
 have p2:=k2'.cell 2
 have p3:=k2'.cell 3
 have p4:=k2'.cell 4
 have p5:=k2'.cell 5
 have p6:=k2'.cell 6
 have p7:=k2'.cell 7
 have p8:=k2'.cell 8
 have p9:=k2'.cell 9
 simp only [Dz,B6,BY] at q0 q1 q2 q3 q4 q5 q6 q7 q8 q9 p0 p1 p2 p3 p4 p5 p6 p7 p8 p9
 have f2:=k2'.frozen
 clear k3' k2' f3
 generalize us.length=n at*
 go_wp2_with fail
 have fr:=Ux (S+1+1) [.int .i64 o.1,.int .i64 o.2.1,.int .i64 m0,.int .i64 m1,.int .i64 m2,.int .i64 m3,.int .i64 m4,.int .i64 m5,.int .i64 m6,.int .i64 m7] 0 w2
 have kF:=Fd (S+1+1) 132 (0,0) [.int .i64 o.1,.int .i64 o.2.1,.int .i64 m0,.int .i64 m1,.int .i64 m2,.int .i64 m3,.int .i64 m4,.int .i64 m5,.int .i64 m6,.int .i64 m7] 0 w2 _ K2.out
 change bodyPost _ _ _ _ _ (w2.setCells (S+1+1) 0 [.int .i64 o.1,.int .i64 o.2.1,.int .i64 m0,.int .i64 m1,.int .i64 m2,.int .i64 m3,.int .i64 m4,.int .i64 m5,.int .i64 m6,.int .i64 m7])
 have b7:Below S w (w2.setCells (S+1+1) 0 [.int .i64 o.1,.int .i64 o.2.1,.int .i64 m0,.int .i64 m1,.int .i64 m2,.int .i64 m3,.int .i64 m4,.int .i64 m5,.int .i64 m6,.int .i64 m7]):=HB2.out.trans ⟨fr.os,fr.tape,fr.output,fr.size,fun k hk=>Uw (S+1+1) _ 0 w2 k (by omega)⟩
 clear fr q0 q1 q2 q3 q4 q5 q6 q7 q8 q9 p0 p1 p2 p3 p4 p5 p6 p7 p8 p9 f2 hrun
 generalize w2.setCells (S+1+1) 0 [.int .i64 o.1,.int .i64 o.2.1,.int .i64 m0,.int .i64 m1,.int .i64 m2,.int .i64 m3,.int .i64 m4,.int .i64 m5,.int .i64 m6,.int .i64 m7]=w3 at*
 replace kF:Go.Proofs.YtmjnnemhoeolgaaGreat.Blk w3 (S+1+1) 132 #[.int .i64 o.1,.int .i64 o.2.1,.int .i64 m0,.int .i64 m1,.int .i64 m2,.int .i64 m3,.int .i64 m4,.int .i64 m5,.int .i64 m6,.int .i64 m7]:=kF
 have r0:=kF.cell 0
 have r1:=kF.cell 1
 have r2:=kF.cell 2
 have r3:=kF.cell 3
 have r4:=kF.cell 4
 have r5:=kF.cell 5
 have r6:=kF.cell 6
 have r7:=kF.cell 7
 have r8:=kF.cell 8
 have r9:=kF.cell 9
 simp only [Dz,B6,BY] at r0 r1 r2 r3 r4 r5 r6 r7 r8 r9
 refine bodyPost_ret (by simp [results,Tryz.results59,go_sem,r0,r1,r2,r3,r4,r5,r6,r7,r8,r9];rfl) rfl ?_
 rw [HM.out]
 have hS:=HS.out
 subst hS
 exact ⟨rfl,b7⟩
end Go.Proofs.YtmjnnemhoeolgaaGreat.K
noncomputable section
namespace Go.Proofs.YtmjnnemhoeolgaaGreat.K
open Go.RowKit
theorem QMW:(Tryz.prog.fieldsOf 132).toList=[⟨"outcome", 54,0,false, "", "cipherplan/policy", 0⟩,⟨"uses", 130,2,false, "", "cipherplan/policy", 16⟩]:=by kernel_rfl
theorem flat54:Xw Tryz.prog 3 54=some [0,0]:=by kernel_rfl
theorem flat64:Xw Tryz.prog 3 64=some [0,0]:=by kernel_rfl
theorem und130:Tryz.prog.underlying 130=some (.array 4 64):=by kernel_rfl
theorem QMX:Tryz.prog.cellsOf 64=2:=by kernel_rfl
theorem eq2 (t:TypeId)(ht:t=54∨t=64)(w:World)(d:Nat)(hd:3<=d)(a b x y:Int):(Op.equalIn d t (.agg #[.int .i64 a,.int .i64 b]) (.agg #[.int .i64 x,.int .i64 y])).run Tryz.prog w= .ok ((a==x)&&((b==y)&&true)) w:=by
 rcases ht with rfl|rfl
 ·exact Qk2 (P:=Tryz.prog) (w:=w) 3 d 54 _ [0,0] [.int .i64 a,.int .i64 b] [.int .i64 x,.int .i64 y] ((a==x)&&((b==y)&&true)) flat54 hd Tryz.underlying54 (by simp [Zm,eqV])
 ·exact Qk2 (P:=Tryz.prog) (w:=w) 3 d 64 _ [0,0] [.int .i64 a,.int .i64 b] [.int .i64 x,.int .i64 y] ((a==x)&&((b==y)&&true)) flat64 hd Tryz.underlying64 (by simp [Zm,eqV])
theorem info64: ∃ i,Tryz.prog.info? 64=some i:=by
 have:=Tryz.underlying64
 unfold Program.underlying at this
 cases h:Tryz.prog.info? 64 with
 |none=>simp [h] at this
 |some i=>exact ⟨i,rfl⟩
theorem arr4 (w:World)(a0 a1 a2 a3 a4 a5 a6 a7 b0 b1 b2 b3 b4 b5 b6 b7:Int):
  (Op.equalIn 9999 130 (.agg #[.int .i64 a0,.int .i64 a1,.int .i64 a2,.int .i64 a3,.int .i64 a4,.int .i64 a5,.int .i64 a6,.int .i64 a7]) (.agg #[.int .i64 b0,.int .i64 b1,.int .i64 b2,.int .i64 b3,.int .i64 b4,.int .i64 b5,.int .i64 b6,.int .i64 b7])).run Tryz.prog w= .ok ([a0,a1,a2,a3,a4,a5,a6,a7]==[b0,b1,b2,b3,b4,b5,b6,b7]) w:=by
 obtain ⟨i,hi⟩:=info64
 rw [run_equalIn_array w 9998 _ _ und130 hi,QMX,show List.range 4=[0,1,2,3] from rfl]
 have e2: ∀ (w:World) (a b x y:Int),(Op.equalIn 9998 64 (.agg #[.int .i64 a,.int .i64 b]) (.agg #[.int .i64 x,.int .i64 y])).run Tryz.prog w= .ok ((a==x)&&((b==y)&&true)) w:=fun w a b x y=>eq2 64 (.inr rfl) w 9998 (by decide) a b x y
 simp [Op.eqItems,part,Tryz.isAgg64,Tryz.sizeOf64,e2]
 by_cases h0:a0=b0
 ·
  by_cases h1:a1=b1
  ·
   by_cases h2:a2=b2
   ·
    by_cases h3:a3=b3
    ·
     by_cases h4:a4=b4
     ·
      by_cases h5:a5=b5
      ·
       by_cases h6:a6=b6
       ·
        by_cases h7:a7=b7
        ·
         simp [h0,h1,h2,h3,h4,h5,h6,h7]
        ·simp [h0,h1,h2,h3,h4,h5,h6,h7]
       ·simp [h0,h1,h2,h3,h4,h5,h6]
      ·simp [h0,h1,h2,h3,h4,h5]
     ·simp [h0,h1,h2,h3,h4]
    ·simp [h0,h1,h2,h3]
   ·simp [h0,h1,h2]
  ·simp [h0,h1]
 ·simp [h0]
theorem meq (w:World)(a0 a1 a2 a3 a4 a5 a6 a7 a8 a9 b0 b1 b2 b3 b4 b5 b6 b7 b8 b9:Int):
  (Op.equal 132 (.agg #[.int .i64 a0,.int .i64 a1,.int .i64 a2,.int .i64 a3,.int .i64 a4,.int .i64 a5,.int .i64 a6,.int .i64 a7,.int .i64 a8,.int .i64 a9]) (.agg #[.int .i64 b0,.int .i64 b1,.int .i64 b2,.int .i64 b3,.int .i64 b4,.int .i64 b5,.int .i64 b6,.int .i64 b7,.int .i64 b8,.int .i64 b9])).run Tryz.prog w= .ok ([a0,a1,a2,a3,a4,a5,a6,a7,a8,a9]==[b0,b1,b2,b3,b4,b5,b6,b7,b8,b9]) w:=by
 show (Op.equalIn (9999+1) 132 _ _).run Tryz.prog w=_
 rw [run_equalIn_struct w 9999 132 _ _ (by kernel_rfl) (by kernel_rfl),QMW]
 have e2: ∀ (w:World) (a b x y:Int),(Op.equalIn 9999 54 (.agg #[.int .i64 a,.int .i64 b]) (.agg #[.int .i64 x,.int .i64 y])).run Tryz.prog w= .ok ((a==x)&&((b==y)&&true)) w:=fun w a b x y=>eq2 54 (.inl rfl) w 9999 (by decide) a b x y
 have e4:=fun w=>arr4 w a2 a3 a4 a5 a6 a7 a8 a9 b2 b3 b4 b5 b6 b7 b8 b9
 simp [Op.eqFields,part,Tryz.isAgg54,Tryz.sizeOf54,Tryz.isAgg130,Tryz.sizeOf130,e2,e4]
 by_cases h0:a0=b0
 ·by_cases h1:a1=b1
  ·simp [h0,h1]
   generalize (a2==b2&&(a3==b3&&(a4==b4&&(a5==b5&&(a6==b6&&(a7==b7&&(a8==b8&&a9==b9)))))))=q
   cases q<;>rfl
  ·simp [h0,h1]
 ·simp [h0]
def kV (z:List Int):Value:= .agg (z.map (Value.int .i64)).toArray
theorem ten {z:List Int}(h:z.length=10): ∃ a0 a1 a2 a3 a4 a5 a6 a7 a8 a9,z=[a0,a1,a2,a3,a4,a5,a6,a7,a8,a9]:=by
 match z,h with
 | [a0,a1,a2,a3,a4,a5,a6,a7,a8,a9],_=>exact ⟨_,_,_,_,_,_,_,_,_,_,rfl⟩
theorem keq (w:World){x y:List Int}(hx:x.length=10)(hy:y.length=10):(Op.equal 132 (kV x) (kV y)).run Tryz.prog w= .ok (x==y) w:=by
 obtain ⟨a0,a1,a2,a3,a4,a5,a6,a7,a8,a9,rfl⟩:=ten hx
 obtain ⟨b0,b1,b2,b3,b4,b5,b6,b7,b8,b9,rfl⟩:=ten hy
 exact meq w a0 a1 a2 a3 a4 a5 a6 a7 a8 a9 b0 b1 b2 b3 b4 b5 b6 b7 b8 b9
theorem QmX {x y:List Int}(h:kV x=kV y):x=y:=by
 have h:(x.map (Value.int .i64)).toArray=(y.map (Value.int .i64)).toArray:=by injection h
 have h:=congrArg Array.toList h
 simp only at h
 exact (List.map_inj_right (fun a b e=>by injection e)).1 h
def QeX (es:List MapEntry)(ks:List (List Int)):Prop:=(∀ e∈es,e.val= .bool true∧ ∃ z∈ks,z.length=10/\e.key=kV z)∧ ∀ z∈ks, ∃ e∈es,e.key=kV z
theorem Qzb (w:World){z:List Int}(hz:z.length=10): ∀ (es:List MapEntry) (i:Nat),(∀ e∈es, ∃ y:List Int,y.length=10/\e.key=kV y)→
  ((Instr.findAsking 132 (kV z) es i).run Tryz.prog w= .ok none w∧ ∀ e∈es,e.key≠kV z)∨ ∃ j e,(Instr.findAsking 132 (kV z) es i).run Tryz.prog w= .ok (some (i+j,e.val)) w/\es[j]? = some e/\e.key=kV z
 | [],i,_=> .inl ⟨by simp [Instr.findAsking],by simp⟩
 |e::es,i,h=>by
  obtain ⟨y,hy,hk⟩:=h e B8
  have he:=keq w hz hy
  by_cases hq:z=y
  ·subst hq
   refine .inr ⟨0,e, ?_,rfl,hk⟩
   simp [Instr.findAsking,hk,he]
  ·rcases Qzb w hz es (i+1) (fun e he=>h e (B4 _ he)) with ⟨h1,h2⟩|⟨j,e',h1,h2,h3⟩
   ·refine .inl ⟨by simp [Instr.findAsking,hk,he,hq,h1],fun e' he'=> ?_⟩
    rcases B5.1 he' with rfl|he'
    ·rw [hk]
     exact fun e=>hq (QmX e).symm
    ·exact h2 e' he'
   ·refine .inr ⟨j+1,e', ?_,by simpa using h2,h3⟩
    simp [Instr.findAsking,hk,he,hq,h1]
    omega
set_option maxRecDepth 100000 in
theorem Qzc (w:World)(em:Bool){z:List Int}(hz:z.length=10):(Instr.checkKey em 10000 132 (kV z)).run Tryz.prog w= .ok () w:=by
 obtain ⟨a0,a1,a2,a3,a4,a5,a6,a7,a8,a9,rfl⟩:=ten hz
 kernel_rfl
theorem Qzd (w:World){z:List Int}(hz:z.length=10)(es:List MapEntry)(h: ∀ e∈es, ∃ y:List Int,y.length=10/\e.key=kV y):
  ((Instr.findKey 132 (kV z) es).run Tryz.prog w= .ok none w∧ ∀ e∈es,e.key≠kV z)∨ ∃ j e,(Instr.findKey 132 (kV z) es).run Tryz.prog w= .ok (some (j,e.val)) w/\es[j]? = some e/\e.key=kV z:=by
 cases es with
 |nil=>
  refine .inl ⟨?_,by simp⟩
  simp [Instr.findKey,run_underlying Tryz.underlying132,Instr.findNow]
 |cons e es=>
  have:=Qzb w hz (e::es) 0 h
  simp only [DW] at this
  have hn: ∀ k:Value,Instr.findNow (.struct (Tryz.prog.fieldsOf 132)) k (e::es) 0=none:=fun k=>by simp [Instr.findNow,Instr.sameNow]
  have e1:(Instr.findKey 132 (kV z) (e::es)).run Tryz.prog w=(Instr.findAsking 132 (kV z) (e::es) 0).run Tryz.prog w:=by
   simp [Instr.findKey,run_underlying Tryz.underlying132,Instr.findNow,Instr.sameNow]
  rw [e1]
  exact this
theorem QMY (w:World){bm clk:Nat}{es:Array MapEntry}{ks:List (List Int)}{z:List Int}(hz:z.length=10)(hb:w.heap[bm]? = some (.map es clk))(hE:QeX es.toList ks):
  (Instr.lookup 129 (.map (some bm)) (kV z) false).run Tryz.prog w= .ok (.bool (decide (z∈ks))) w:=by
 have hc:=Qzc w es.isEmpty hz
 have hz0:(zeroValue 4).run Tryz.prog w= .ok (.bool false) w:=by kernel_rfl
 rcases Qzd w hz es.toList (fun e he=>by obtain ⟨_,y,_,h1,h2⟩:=hE.1 e he;exact ⟨y,h1,h2⟩) with ⟨h1,h2⟩|⟨j,e,h1,h2,h3⟩
 ·have hn: ¬ z∈ks:=fun hm=>by obtain ⟨e,he,hk⟩:=hE.2 z hm;exact h2 e he hk
  have hg:(getObj bm).run Tryz.prog w= .ok (.map es clk) w:=by simp [getObj,Sem.run,hb]
  simp [Instr.lookup,run_underlying Tryz.underlying129,hg,hc,h1,hz0,hn]
 ·have he:=Dp h2
  obtain ⟨hv,y,hy,hyl,hyk⟩:=hE.1 e he
  have hm:z∈ks:=by rw [QmX (h3.symm.trans hyk)];exact hy
  have hg:(getObj bm).run Tryz.prog w= .ok (.map es clk) w:=by simp [getObj,Sem.run,hb]
  simp [Instr.lookup,run_underlying Tryz.underlying129,hg,hc,h1,hv,hm]
theorem QMZ (w:World){bm clk:Nat}{es:Array MapEntry}{ks:List (List Int)}{z:List Int}(hz:z.length=10)(hb:w.heap[bm]? = some (.map es clk))(hE:QeX es.toList ks):
  ∃ w',(Instr.mapUpdate 129 (.map (some bm)) (kV z) (.bool true)).run Tryz.prog w= .ok () w'/\(∃ es' clk',w'.heap[bm]? = some (.map es' clk')/\QeX es'.toList (ks++[z]))/\w.grownBy w' (some bm):=by
 have hc:=Qzc w false hz
 have hg:(getObj bm).run Tryz.prog w= .ok (.map es clk) w:=by simp [getObj,Sem.run,hb]
 have hs: ∀ o,(setObj bm o).run Tryz.prog w= .ok () {w with heap:=w.heap.setIfInBounds bm o}:=fun o=>by simp [setObj,Sem.run,hb]
 have hlt:bm<w.heap.size:=(B1.1 hb).1
 have hgr: ∀ o,w.grownBy {w with heap:=w.heap.setIfInBounds bm o} (some bm):=fun o=>⟨rfl,rfl,rfl,by simp,fun i _ hi=>by
  have:bm≠i:=fun e=>hi (by rw [e])
  simp [Array.getElem?_setIfInBounds_ne this]⟩
 rcases Qzd w hz es.toList (fun e he=>by obtain ⟨_,y,_,h1,h2⟩:=hE.1 e he;exact ⟨y,h1,h2⟩) with ⟨h1,h2⟩|⟨j,e,h1,h2,h3⟩
 ·refine ⟨{w with heap:=w.heap.setIfInBounds bm (.map (es.push {key:=kV z,val:= .bool true,born:=clk }) (clk+1)) }, ?_,⟨es.push {key:=kV z,val:= .bool true,born:=clk },clk+1,by simp [hlt], ?_⟩,hgr _⟩
  ·simp [Instr.mapUpdate,run_underlying Tryz.underlying129,hg,hc,h1,hs]
  ·rw [Array.toList_push]
   refine ⟨fun e he=> ?_,fun y hy=> ?_⟩
   ·rcases BE.1 he with he|he
    ·obtain ⟨a,y,b,c,d⟩:=hE.1 e he
     exact ⟨a,y,List.mem_append_left _ b,c,d⟩
    ·rw [Dm.1 he]
     exact ⟨rfl,z,DE _ B8,hz,rfl⟩
   ·rcases BE.1 hy with hy|hy
    ·obtain ⟨e,he,hk⟩:=hE.2 y hy
     exact ⟨e,List.mem_append_left _ he,hk⟩
    ·rw [Dm.1 hy]
     exact ⟨_,DE _ B8,rfl⟩
 ·have he:=Dp h2
  obtain ⟨hv,y,hy,hyl,hyk⟩:=hE.1 e he
  have hm:z∈ks:=by rw [QmX (h3.symm.trans hyk)];exact hy
  have hj:es[j]? = some e:=by rw [←Array.getElem?_toList];exact h2
  have hst:(Instr.keyThatStays (kV z) (kV z)).run Tryz.prog w= .ok (kV z) w:=by
   obtain ⟨a0,a1,a2,a3,a4,a5,a6,a7,a8,a9,rfl⟩:=ten hz
   simp [Instr.keyThatStays,Instr.sameBits,kV]
  have hmod:(es.modify j fun e=>{e with key:=kV z,val:= .bool true })=es:=by
   apply Array.ext
   ·simp
   ·intro i hi1 hi2
    rw [Array.getElem_modify]
    split
    ·rename_i hji
     subst hji
     have:es[j]=e:=by
      have:=B1.1 hj
      exact this.2
     rw [this]
     cases e
     simp only at h3 hv
     subst h3 hv
     rfl
    ·rfl
  refine ⟨{w with heap:=w.heap.setIfInBounds bm (.map (es.modify j fun e=>{e with key:=kV z,val:= .bool true }) clk) }, ?_,⟨es,clk,by rw [hmod];simp [hlt],fun e he=> ?_,fun y hy=> ?_⟩,hgr _⟩
  ·simp [Instr.mapUpdate,run_underlying Tryz.underlying129,hg,hc,h1,hs,hj,h3,hst]
  ·obtain ⟨a,y,b,c,d⟩:=hE.1 e he
   exact ⟨a,y,List.mem_append_left _ b,c,d⟩
  ·rcases BE.1 hy with hy|hy
   ·exact hE.2 y hy
   ·rw [Dm.1 hy]
    exact hE.2 z hm
end Go.Proofs.YtmjnnemhoeolgaaGreat.K
noncomputable section
namespace Go.Proofs.YtmjnnemhoeolgaaGreat.K
open Go.RowKit
noncomputable section
def Zt (s:Endpoint)(o:Keep):List Int:=o.1::o.2.1::(FN (Q5 s o).1).flatMap fun u=>[u.1,u.2.1]
def enbB (b a:Estate)(i:Int)(o:Keep):Bool:=(Jh b i).1.any fun x=>Zt (Jh b i).2 x==Zt (Jh a i).2 o
def YG (b a:Estate)(i:Int):List Keep:=(Jh a i).1.filter fun o=> !enbB b a i o
def Qdm (b a:Estate)(i:Int):Bool:=Xj b i&&Xj a i
theorem QvE (b a:Estate)(i:Int):(YG b a i).length<=64:=Dg (List.length_filter_le _ _) Ve
end
end Go.Proofs.YtmjnnemhoeolgaaGreat.K
noncomputable section
namespace Go.Proofs.YtmjnnemhoeolgaaGreat.K
open Go.RowKit
theorem QGo {X:Nat->Nat->Prop}{w w':World}(h:Below w.heap.size w w'):Ext0 X w X w':=⟨h.size,fun b o hb hx=>⟨hx,h.cell (p:=⟨b,o,none⟩) hb⟩⟩
theorem QGp (s:Endpoint)(o:Keep):(Q5 s o).1=[]∨ ∃ a b c d,(Q5 s o).1=[a,b,c,d]:=by
 unfold Q5
 cases QN s with
 |false=>exact .inl rfl
 |true=>
  cases ine (QB o.2.1).2 0 with
  |true=>exact .inl rfl
  |false=>
   cases (Jp s o.2.1).2 with
   |false=>exact .inl rfl
   |true=>exact .inr ⟨_,_,_,_,rfl⟩
theorem mV_mth (s:Endpoint)(o:Keep):Value.agg (mV o (Q5 s o).1)=kV (Zt s o):=by
 unfold mV kV Zt cU
 rw [BJ,BJ,List.map_flatMap]
 rfl
theorem QrY (s:Endpoint)(o:Keep):(Zt s o).length=10:=by
 have h:(FN (Q5 s o).1).length=4:=by simp [FN]
 have h2:=Qhg (FN (Q5 s o).1)
 have h3:((FN (Q5 s o).1).flatMap fun u=>[u.1,u.2.1]).length=(cU (FN (Q5 s o).1)).length:=by
  unfold cU
  rw [List.length_flatMap,List.length_flatMap]
  rfl
 unfold Zt
 rw [Bv,Bv,h3,h2,h]
def EpV (w:World)(s:Endpoint)(v0 v1 v2 v3 v4 v5 v6 v7 v8:Value):Prop:=
 (∃ (X:Nat->Nat->Prop) (σ:Pl),(∀ b q,X b q->b<w.heap.size)/\C X w σ (V.t Qo s).d (.agg #[v0,v1,v2,v3,v4,v5,v6,v7,v8]))∧
 (v0.oneCell'=true/\v1.oneCell'=true/\v2.oneCell'=true/\v3.oneCell'=true/\v4.oneCell'=true/\v5.oneCell'=true/\v6.oneCell'=true/\v7.oneCell'=true/\v8.oneCell'=true)
def Stand (w w':World):Prop:=w.heap.size<=w'.heap.size∧ ∀ b o,b<w.heap.size->w'.cell? ⟨b,o,none⟩=w.cell? ⟨b,o,none⟩
theorem Stand.below {w w':World}(h:Below w.heap.size w w'):Stand w w':=⟨h.size,fun b o hb=>h.cell (p:=⟨b,o,none⟩) hb⟩
theorem Stand.trans {a b c:World}(h:Stand a b)(k:Stand b c):Stand a c:=⟨Dg h.1 k.1,fun x o hx=>(k.2 x o (BS hx h.1)).trans (h.2 x o hx)⟩
theorem EpV.stand {w w':World}{s:Endpoint}{v0 v1 v2 v3 v4 v5 v6 v7 v8:Value}(h:EpV w s v0 v1 v2 v3 v4 v5 v6 v7 v8)(k:Stand w w'):EpV w' s v0 v1 v2 v3 v4 v5 v6 v7 v8:=by
 obtain ⟨⟨X,σ,hf,hc⟩,h1⟩:=h
 exact ⟨⟨X,σ,fun b q hq=>BS (hf b q hq) k.1,C.ext0 ⟨k.1,fun b o hb hx=>⟨hx,k.2 b o hb⟩⟩ _ _ (fun _ _=>rfl) hc⟩,h1⟩
theorem QrZ {w:World}{s:Endpoint}{o:Keep}{v0 v1 v2 v3 v4 v5 v6 v7 v8:Value}(hs:EpV w s v0 v1 v2 v3 v4 v5 v6 v7 v8)(hl:QS s=true):
  Calls Tryz.prog 59 #[.agg #[v0,v1,v2,v3,v4,v5,v6,v7,v8],FM o] w fun e w'=>e= .returned (kV (Zt s o))/\Below w.heap.size w w':=by
 obtain ⟨o0,o1,o2,o3,o4,o5,o6,o7,o8⟩:=hs.2
 rw [←mV_mth]
 exact of_any o0 o1 o2 o3 o4 o5 o6 o7 o8 (fun W hW=>by
  obtain ⟨⟨X,σ,hf,hc⟩,_⟩:=hs.stand (Stand.below hW)
  exact QR9 hf hc hl) (QGp s o)
theorem Qr0 {X:Nat->Nat->Prop}{w:World}{σ:Pl}{s:Endpoint}{u:Value}(h:C X w σ (V.t Qo s).d u): ∃ v0 v1 v2 v3 v4 v5 v6 v7 v8,u= .agg #[v0,v1,v2,v3,v4,v5,v6,v7,v8]∧
  (v0.oneCell'=true/\v1.oneCell'=true/\v2.oneCell'=true/\v3.oneCell'=true/\v4.oneCell'=true/\v5.oneCell'=true/\v6.oneCell'=true/\v7.oneCell'=true/\v8.oneCell'=true):=by
 simp only [V.d] at h
 rw [Ty.d_row Qo _ rfl] at h
 simp only [C] at h
 obtain ⟨us,rfl,h⟩:=h
 have hl:us.length=9:=h.len.trans (by rw [Qo.cells_len];rfl)
 have one: ∀ v∈us,v.oneCell'=true:=Cs.cell1 h (show (Qo.cells s).all D.cell1=true from rfl)
 match us,hl with
 | [v0,v1,v2,v3,v4,v5,v6,v7,v8],_=>exact ⟨v0,v1,v2,v3,v4,v5,v6,v7,v8,rfl,one _ (by simp),one _ (by simp),one _ (by simp),one _ (by simp),one _ (by simp),one _ (by simp),one _ (by simp),one _ (by simp),one _ (by simp)⟩
theorem QGq {X:Nat->Nat->Prop}{w:World}{σ:Pl}{e:Estate}{i:Int}{bv:Value}(hfin: ∀ b q,X b q->b<w.heap.size)(hs:C X w σ (V.t Qx e).d bv)(hok:Xj e i=true):
  Calls Tryz.prog 55 #[bv,.int .i64 i] w fun en w'=> ∃ A c v0 v1 v2 v3 v4 v5 v6 v7 v8,en= .returned (.tuple #[.slice A (Jh e i).1.length c,.agg #[v0,v1,v2,v3,v4,v5,v6,v7,v8]])/\(Jh e i).1.length<=c/\c<=maxLen∧
   (0<(Jh e i).1.length→ ∃ b off,A=some ⟨b,off,none⟩/\b<w'.heap.size∧ ∀ j v,(cU (Jh e i).1)[j]? = some v->w'.cell? ⟨b,off+j,none⟩=some v)/\EpV w' (Jh e i).2 v0 v1 v2 v3 v4 v5 v6 v7 v8/\Below w.heap.size w w':=by
 have hF:QG Iy [.t Qx e,.t tI i] []=some (.tu [.t (.sl Qd) (Jh e i).1,.t Qo (Jh e i).2],[]):=by
  unfold Iy
  exact QcW (a:= .pr Qx (.pr tI .nil)) (x:=(e,(i,()))) (by simp [Ty.args,QgP]) hok
 refine (Gz (by decide) (QnO.2 _ _ _ _ hF X w σ [bv,.int .i64 i] hfin QpP ⟨bv,_,rfl,hs,.int .i64 i,_,rfl,⟨rfl,rfl⟩,rfl⟩)).mono ?_
 rintro en w' ⟨u,X',σ',rfl,h1,h2⟩
 have h1:C X' w' σ' (.tu [.sl (Jh e i).1.length ((Jh e i).1.flatMap Qd.cells),(V.t Qo (Jh e i).2).d]) u:=h1
 simp only [C,Cs] at h1
 obtain ⟨vs,rfl,u1,us,rfl,⟨A,c,rfl,g1,g2,g3,g4⟩,u2,us2,rfl,hep,rfl⟩:=h1
 obtain ⟨v0,v1,v2,v3,v4,v5,v6,v7,v8,rfl,hone⟩:=Qr0 hep
 refine ⟨A,c,v0,v1,v2,v3,v4,v5,v6,v7,v8,rfl,g1,g2,fun hp=> ?_,⟨⟨X',σ',h2.fin,hep⟩,hone⟩,QpQ h2⟩
 obtain ⟨b,off,vs,rfl,k1,k2⟩:=g4 hp
 rw [Qhh k1] at k2
 exact ⟨b,off,rfl,k2.lt,fun j v hv=>k2.at_ j v hv⟩
theorem QGr {X:Nat->Nat->Prop}{w:World}{σ:Pl}{e:Estate}{i:Int}{bv:Value}(hfin: ∀ b q,X b q->b<w.heap.size)(hs:C X w σ (V.t Qx e).d bv)(hok:Xj e i=true):
  Calls Tryz.prog 55 #[bv,.int .i64 i] w fun en w'=> ∃ A c X' σ' v0 v1 v2 v3 v4 v5 v6 v7 v8,en= .returned (.tuple #[.slice A (Jh e i).1.length c,.agg #[v0,v1,v2,v3,v4,v5,v6,v7,v8]])/\(Jh e i).1.length<=c/\c<=maxLen∧
   (∀ b q,X' b q->b<w'.heap.size)/\(∀ b q,b<w.heap.size->X b q->X' b q)/\(0<(Jh e i).1.length→ ∃ b off,A=some ⟨b,off,none⟩/\b<w'.heap.size∧ ¬ X' b off∧ ∀ j v,(cU (Jh e i).1)[j]? = some v->w'.cell? ⟨b,off+j,none⟩=some v)/\C X' w' σ' (V.t Qo (Jh e i).2).d (.agg #[v0,v1,v2,v3,v4,v5,v6,v7,v8])/\(v0.oneCell'=true/\v1.oneCell'=true/\v2.oneCell'=true/\v3.oneCell'=true/\v4.oneCell'=true/\v5.oneCell'=true/\v6.oneCell'=true/\v7.oneCell'=true/\v8.oneCell'=true)/\Below w.heap.size w w':=by
 have hF:QG Iy [.t Qx e,.t tI i] []=some (.tu [.t (.sl Qd) (Jh e i).1,.t Qo (Jh e i).2],[]):=by
  unfold Iy
  exact QcW (a:= .pr Qx (.pr tI .nil)) (x:=(e,(i,()))) (by simp [Ty.args,QgP]) hok
 refine (Gz (by decide) (QnO.2 _ _ _ _ hF X w σ [bv,.int .i64 i] hfin QpP ⟨bv,_,rfl,hs,.int .i64 i,_,rfl,⟨rfl,rfl⟩,rfl⟩)).mono ?_
 rintro en w' ⟨u,X',σ',rfl,h1,h2⟩
 have h1:C X' w' σ' (.tu [.sl (Jh e i).1.length ((Jh e i).1.flatMap Qd.cells),(V.t Qo (Jh e i).2).d]) u:=h1
 simp only [C,Cs] at h1
 obtain ⟨vs,rfl,u1,us,rfl,⟨A,c,rfl,g1,g2,g3,g4⟩,u2,us2,rfl,hep,rfl⟩:=h1
 obtain ⟨v0,v1,v2,v3,v4,v5,v6,v7,v8,rfl,hone⟩:=Qr0 hep
 refine ⟨A,c,X',σ',v0,v1,v2,v3,v4,v5,v6,v7,v8,rfl,g1,g2,h2.fin,fun b q hb hq=>h2.old b q hb (fun i hi=>absurd hi (by simp)) hq,fun hp=> ?_,hep,hone,QpQ h2⟩
 obtain ⟨b,off,vs,rfl,k1,k2⟩:=g4 hp
 rw [Qhh k1] at k2
 have nx:=k2.nx 0 (by rw [Qhg];omega)
 exact ⟨b,off,rfl,k2.lt,nx,fun j v hv=>k2.at_ j v hv⟩
theorem QiM: ∀ (l:List Keep) (k:Nat) (hk:k<l.length),(cU l)[k*2]? = some (.int .i64 l[k].1)/\(cU l)[k*2+1]? = some (.int .i64 l[k].2.1)
 | [],_,h=>by simp at h
 |x::l,0,_=>⟨rfl,rfl⟩
 |x::l,k+1,h=>by
  have:=QiM l k (by simpa using h)
  have e:cU (x::l)= .int .i64 x.1:: .int .i64 x.2.1::cU l:=rfl
  rw [e,show (k+1)*2=k*2+1+1 by omega,BY,BY,BY,BY]
  exact this
theorem Qr1 {w w':World}(h:Below w.heap.size w w'):w.grownBy w' none:=⟨h.os,h.tape,h.output,h.size,fun j hj _=>h.block j hj⟩
theorem Qr2 {X:Nat->Nat->Prop}{w:World}{σ:Pl}{s:Estate}{u:Value}(h:C X w σ (V.t Qx s).d u): ∃ v0 v1 v2,u= .agg #[v0,v1,v2]/\(v0.oneCell'=true/\v1.oneCell'=true/\v2.oneCell'=true):=by
 simp only [V.d] at h
 rw [Ty.d_row Qx _ rfl] at h
 simp only [C] at h
 obtain ⟨us,rfl,h⟩:=h
 have hl:us.length=3:=h.len.trans (by rw [Qx.cells_len];rfl)
 have one: ∀ v∈us,v.oneCell'=true:=fun v hv=>Cs.cell1 h (show (Qx.cells s).all D.cell1=true from rfl) v hv
 match us,hl with
 | [v0,v1,v2],_=>exact ⟨v0,v1,v2,rfl,one _ (by simp),one _ (by simp),one _ (by simp)⟩
theorem QGs:ElemOk Tryz.prog 48 54 2 16:=ElemOk.of (.agg #[.int .i64 0,.int .i64 0]) (by kernel_rfl) (by kernel_rfl) (by kernel_rfl) (by decide)
theorem QGt {X:Nat->Nat->Prop}{w w':World}{σ:Pl}{d:D}{u:Value}(h:C X w σ d u)(k:Stand w w'):C X w' σ d u:=C.ext0 ⟨k.1,fun b o hb hx=>⟨hx,k.2 b o hb⟩⟩ _ _ (fun _ _=>rfl) h
def MapAt (w:World)(bm:Nat)(ks:List (List Int)):Prop:= ∃ es clk,w.heap[bm]? = some (.map es clk)/\QeX es.toList ks
theorem MapAt.below {w w':World}{bm:Nat}{ks:List (List Int)}(h:MapAt w bm ks)(hb:Below w.heap.size w w'):MapAt w' bm ks:=by
 obtain ⟨es,clk,h1,h2⟩:=h
 exact ⟨es,clk,(hb.block bm (B1.1 h1).1).trans h1,h2⟩
set_option maxRecDepth 50000 in
set_option maxHeartbeats 4000000 in
theorem QGu {X:Nat->Nat->Prop}{w:World}{σ:Pl}{b a:Estate}{i:Int}{u0 u1 u2 t0 t1 t2:Value}(hfin: ∀ b q,X b q->b<w.heap.size)
  (hb:C X w σ (V.t Qx b).d (.agg #[u0,u1,u2])) (ha:C X w σ (V.t Qx a).d (.agg #[t0,t1,t2])) (ou0:u0.oneCell'=true) (ou1:u1.oneCell'=true) (ou2:u2.oneCell'=true) (ot0:t0.oneCell'=true) (ot1:t1.oneCell'=true) (ot2:t2.oneCell'=true)
  (h1:Xj b i=true) (h2:Xj a i=true):
  Calls Tryz.prog 32 #[.agg #[u0,u1,u2],.agg #[t0,t1,t2],.int .i64 i] w fun en w'=> ∃ sv B,en= .returned sv/\w.heap.size<=B/\w'.ownsRow B 54 2 sv (YG b a i).length (cU (YG b a i))/\Below w.heap.size w w':=by
 have HB:=Lib.hid hb
 have HA:=Lib.hid ha
 have HF:=Lib.hid hfin
 have H1:=Lib.hid h1
 have H2:=Lib.hid h2
 clear hb ha hfin h1 h2
 have hmm:= @run_makeMap Tryz.prog
 go_enter Tryz.func32,Tryz.ntmps32
 go_wp2_with fail
 obtain ⟨Wa,ha⟩: ∃ Wa,Wa=w.alloc (.cells #[u0,u1,u2] 31):=⟨_,rfl⟩
 obtain ⟨Wb,hb⟩: ∃ Wb,Wb=Wa.alloc (.cells #[t0,t1,t2] 31):=⟨_,rfl⟩
 obtain ⟨Wc,hc⟩: ∃ Wc,Wc=Wb.alloc (.map #[] 0):=⟨_,rfl⟩
 obtain ⟨S,hS⟩: ∃ S,S=w.heap.size:=⟨_,rfl⟩
 rw [←ha, ← hb, ← hc, ← hS]
 have sa:Wa.heap.size=S+1:=by rw [ha,World.size_alloc,hS]
 have sb:Wb.heap.size=S+1+1:=by rw [hb,World.size_alloc,sa]
 have sc:Wc.heap.size=S+1+1+1:=by rw [hc,World.size_alloc,sb]
 have bW:Below w.heap.size w Wc:=by
  rw [hc,hb,ha]
  have e1:=(Below.refl w.heap.size w).alloc (BL _) (.cells #[u0,u1,u2] 31)
  have e2:=e1.alloc e1.size (.cells #[t0,t1,t2] 31)
  exact e2.alloc e2.size _
 have kB:Go.Proofs.YtmjnnemhoeolgaaGreat.Blk Wc (S+1) 31 #[t0,t1,t2]:=by
  rw [hc];refine Go.Proofs.YtmjnnemhoeolgaaGreat.Blk.alloc ?_ _;rw [hb, ← sa];exact Go.Proofs.YtmjnnemhoeolgaaGreat.Blk.new _ _ _
 have mp:MapAt Wc (S+1+1) []:=⟨#[],0,by rw [hc, ← sb];exact heap_alloc_new Wb _,fun e he=>by simp at he,fun z hz=>by simp at hz⟩
 have fX: ∀ b q,X b q->b<Wc.heap.size:=fun b q hq=>BS (HF.out b q hq) bW.size
 clear ha hb hc sa sb
 refine (QGq (X:=X) (σ:=σ) (i:=i) fX (QGt HB.out (Stand.below bW)) H1.out).mono ?_
 rintro en w1 ⟨A,c,v0,v1,v2,v3,v4,v5,v6,v7,v8,rfl,hc1,hc2,hcell,hep,hb1⟩
 have hsz:=hb1.size
 have kB:=kB.ext hb1
 have mp:=mp.below hb1
 have b1:Below S w w1:=hS▸Us bW hb1 (by omega)
 have hln:(Jh b i).1.length<=64:=Ve
 have hel:QS (Jh b i).2=true:=(Bg.1 (Bg.1 H1.out).2).2
 obtain ⟨l,hl⟩: ∃ l,l=(Jh b i).1:=⟨_,rfl⟩
 obtain ⟨s,hs⟩: ∃ s,s=(Jh b i).2:=⟨_,rfl⟩
 rw [←hl] at hc1 hcell hln ⊢
 rw [←hs] at hep hel
 have HW:=Lib.hid (show Stand w w1/\S+1+1+1<=w1.heap.size from ⟨(Stand.below bW).trans (Stand.below hb1),by omega⟩)
 obtain ⟨p0,p1,p2,p3,p4,p5,p6,p7,p8⟩:=hep.2
 have HE:=Lib.hid hep
 have HM:=Lib.hid mp
 have HC:=Lib.hid hcell
 have HL:=Lib.hid hl
 have HS:=Lib.hid hs
 have HB1:=Lib.hid b1
 have HSS:=Lib.hid hS
 have HEL:=Lib.hid hel
 have HKB:=Lib.hid kB
 clear bW kB mp fX hb1 hsz b1 hl hs hep hcell hS sc HB hel Wa Wb
 have sv0:=fun a m W=>run_store Tryz.prog W a v0 m p0
 have sv1:=fun a m W=>run_store Tryz.prog W a v1 m p1
 have sv2:=fun a m W=>run_store Tryz.prog W a v2 m p2
 have sv3:=fun a m W=>run_store Tryz.prog W a v3 m p3
 have sv4:=fun a m W=>run_store Tryz.prog W a v4 m p4
 have sv5:=fun a m W=>run_store Tryz.prog W a v5 m p5
 have sv6:=fun a m W=>run_store Tryz.prog W a v6 m p6
 have sv7:=fun a m W=>run_store Tryz.prog W a v7 m p7
 have sv8:=fun a m W=>run_store Tryz.prog W a v8 m p8
 generalize hn:l.length=n at*
 have HN:=Lib.hid hn
 clear hn
 go_wp2_with fail
 clear sv0 sv1 sv2 sv3 sv4 sv5 sv6 sv7 sv8
 obtain ⟨Q,hQ⟩: ∃ Q,Q=w1.heap.size:=⟨_,rfl⟩
 obtain ⟨W2,hW2⟩: ∃ W2,W2=w1.alloc (.cells #[v0,v1,v2,v3,v4,v5,v6,v7,v8] 61):=⟨_,rfl⟩
 rw [←hQ, ← hW2]
 have b2:Below w1.heap.size w1 W2:=hW2▸(Below.refl _ _).alloc (BL _) _
 have kQ:Go.Proofs.YtmjnnemhoeolgaaGreat.Blk W2 Q 61 #[v0,v1,v2,v3,v4,v5,v6,v7,v8]:=by rw [hW2,hQ];exact Go.Proofs.YtmjnnemhoeolgaaGreat.Blk.new _ _ _
 have bS:Below S w W2:=Us HB1.out b2 (by have:=HW.out.2;omega)
 have mp:MapAt W2 (S+1+1) []:=HM.out.below b2
 have HE:=Lib.hid (HE.out.stand (Stand.below b2))
 have HB0:=Lib.hid bS
 have HKQ:=Lib.hid kQ
 have HKB:=Lib.hid (HKB.out.ext b2)
 have HW:=Lib.hid (show Stand w W2/\S+1+1+1<=Q/\Q<W2.heap.size from ⟨HW.out.1.trans (Stand.below b2),by have:=HW.out.2;omega,kQ.lt⟩)
 have HC2:=Lib.hid (show 0<n→ ∃ b off,A=some ⟨b,off,none⟩∧ ∀ j v,(cU l)[j]? = some v->W2.cell? ⟨b,off+j,none⟩=some v from fun h=>by
  obtain ⟨b,off,h1,h2,h3⟩:=HC.out h
  exact ⟨b,off,h1,fun j v hv=>(b2.cell (p:=⟨b,off+j,none⟩) h2).trans (h3 j v hv)⟩)
 have HM2:=Lib.hid mp
 clear hW2 b2 kQ bS mp HM HC HB1 hQ
 go_loopw [24] (fun iv wr=> ∃ k:Nat,k<=n/\iv= .int .i64 k/\Stand W2 wr/\Below S w wr/\MapAt wr (S+1+1) ((l.take k).map (Zt s))/\Go.Proofs.YtmjnnemhoeolgaaGreat.Blk wr Q 61 #[v0,v1,v2,v3,v4,v5,v6,v7,v8]) (fun iv _=>n-(intOf iv).toNat)
 case atStart=>exact ⟨0,BX _,rfl,⟨BL _,fun _ _ _=>rfl⟩,HB0.out,by rw [List.take_zero];exact HM2.out,HKQ.out⟩
 case round=>
  obtain ⟨k,hk,rfl,hst,hbl,hmp,hkq⟩:=hrel
  have HKR:=Lib.hid hkq
  clear hkq
  have HST:=Lib.hid hst
  have HBL:=Lib.hid hbl
  have HMP:=Lib.hid hmp
  clear hst hbl hmp
  by_cases hlt:k<n
  ·have hkl:k<l.length:=by rw [HN.out];exact hlt
   obtain ⟨bb,off,rfl,hcs⟩:=HC2.out (by omega)
   obtain ⟨g0,g1⟩:=QiM l k hkl
   obtain ⟨o,ho⟩: ∃ o,o=l[k]:=⟨_,rfl⟩
   rw [←ho] at g0 g1
   have dz: ∀ j v,W2.cell? ⟨bb,off+j,none⟩=some v->wr.cell? ⟨bb,off+j,none⟩=some v:=fun j v h=>by
    have hb:bb<W2.heap.size:=by
     rcases De bb W2.heap.size with h1|h1
     ·exact h1
     ·simp [World.cell?, Array.getElem?_eq_none h1] at h
    exact (HST.out.2 bb _ hb).trans h
   have d0:=dz _ _ (hcs _ _ g0)
   have d1:=dz _ _ (hcs _ _ g1)
   rw [←DG] at d1
   have yz: ∀ j,wr.cell? ⟨Q,j,none⟩=(#[v0,v1,v2,v3,v4,v5,v6,v7,v8]:Array Value)[j]? :=fun j=>(HST.out.2 Q j HW.out.2.2).trans (HKQ.out.cell j)
   have y0:=yz 0
   have y1:=yz 1
   have y2:=yz 2
   have y3:=yz 3
   have y4:=yz 4
   have y5:=yz 5
   have y6:=yz 6
   have y7:=yz 7
   have y8:=yz 8
   simp only [Dz,B6,BY] at y0 y1 y2 y3 y4 y5 y6 y7 y8
   replace y0:=fun ob=>Lib.cell?_alloc_some ob y0
   replace y1:=fun ob=>Lib.cell?_alloc_some ob y1
   replace y2:=fun ob=>Lib.cell?_alloc_some ob y2
   replace y3:=fun ob=>Lib.cell?_alloc_some ob y3
   replace y4:=fun ob=>Lib.cell?_alloc_some ob y4
   replace y5:=fun ob=>Lib.cell?_alloc_some ob y5
   replace y6:=fun ob=>Lib.cell?_alloc_some ob y6
   replace y7:=fun ob=>Lib.cell?_alloc_some ob y7
   replace y8:=fun ob=>Lib.cell?_alloc_some ob y8
   have HO:=Lib.hid (show l[k]? = some o by rw [ho];exact Bh hkl)
   clear dz yz hcs g0 g1 ho hkl
   go_wp2_with fail
   obtain ⟨W3,hW3⟩: ∃ W3,W3=wr.alloc (.cells #[.int .i64 o.1,.int .i64 o.2.1] 54):=⟨_,rfl⟩
   rw [←hW3]
   have b3:Below wr.heap.size wr W3:=hW3▸(Below.refl _ _).alloc (BL _) _
   have hep:=HE.out.stand (HST.out.trans (Stand.below b3))
   refine (QrZ (o:=o) hep HEL.out).mono ?_
   rintro e w5 ⟨rfl,hb5⟩
   have mp5:=(HMP.out.below b3).below hb5
   obtain ⟨es,clk,m1,m2⟩:=mp5
   obtain ⟨w6,hrun,mp6,hg6⟩:=QMZ w5 (QrY s o) m1 m2
   have st5:Stand W2 w5:=(HST.out.trans (Stand.below b3)).trans (Stand.below hb5)
   have bl5:Below S w w5:=Us (Us HBL.out b3 (by have:=HW.out;have:=HST.out.1;omega)) hb5 (by have:=HW.out;have:=HST.out.1;have:=b3.size;omega)
   have st6:Stand W2 w6:=st5.trans ⟨hg6.size,fun b' o' hb'=>by
    by_cases hbm:b'=S+1+1
    ·subst hbm
     obtain ⟨es',clk',m3,_⟩:=mp6
     simp [World.cell?, m1,m3]
    ·have:=hg6.block b' hb' (fun e=>hbm (by injection e))
     simp [World.cell?, this]⟩
   have bl6:Below S w w6:=QvU bl5 hg6 (by omega) (by have:=HW.out;have:=st5.1;omega)
   have HK6:=Lib.hid (((HKR.out.ext b3).ext hb5).grown hg6 (fun e=>by have:=HW.out;injection e;omega))
   have HS6:=Lib.hid st6
   have HB6:=Lib.hid bl6
   have HM6:=Lib.hid mp6
   clear hW3 b3 hep hb5 m1 m2 mp6 hg6 st5 bl5 st6 bl6 d0 d1 y0 y1 y2 y3 y4 y5 y6 y7 y8
   obtain ⟨kv,hkv⟩: ∃ kv,kv=kV (Zt s o):=⟨_,rfl⟩
   rw [←hkv] at hrun ⊢
   have HKV:=Lib.hid hkv
   clear hkv
   go_wp2_with fail
   refine ⟨⟨k+1,hlt,by simp,HS6.out,HB6.out, ?_,HK6.out⟩,by simp [intOf];omega⟩
   have e:l.take (k+1)=l.take k++[o]:=by
    rw [List.take_add_one,HO.out]
    rfl
   rw [e,List.map_append]
   exact HM6.out
  ·obtain rfl:k=n:=by omega
   have hlk:l.take k=l:=List.take_of_length_le (by rw [HN.out];exact BL _)
   rw [hlk] at HMP
   have xz: ∀ j,wr.cell? ⟨S+1,j,none⟩=(#[t0,t1,t2]:Array Value)[j]? :=fun j=>(HST.out.2 (S+1) j (by have:=HW.out;omega)).trans (HKB.out.cell j)
   have x0:=xz 0
   have x1:=xz 1
   have x2:=xz 2
   simp only [Dz,B6,BY] at x0 x1 x2
   clear xz hlk
   go_wp2_with fail
   have hwS:w.heap.size<=S:=by rw [HSS.out];exact BL _
   have fX2: ∀ b' q,(X b' q∨b'=Q)->b'<wr.heap.size:=fun b' q hq=>by
    have g1:=HW.out
    have g2:=HST.out.1
    rcases hq with hq|rfl
    ·have:=HF.out b' q hq
     omega
    ·omega
   have eX:Ext0 X w (fun b' q=>X b' q∨b'=Q) wr:=⟨Dg HW.out.1.1 HST.out.1,fun b' o hb' hx=>⟨fun h=>by
    rcases h with h|h
    ·exact hx h
    ·have:=HW.out
     omega,(HW.out.1.trans HST.out).2 b' o hb'⟩⟩
   refine (QGr (X:=fun b' q=>X b' q∨b'=Q) (σ:=σ) (i:=i) fX2 (C.ext0 eX _ _ (fun _ _=>rfl) HA.out) H2.out).mono ?_
   rintro en w7 ⟨A2,c2,X2,σ2,z0,z1,z2,z3,z4,z5,z6,z7,z8,rfl,hd1,hd2,hfin2,hold2,hcell2,hep2,hone2,hb7⟩
   have mp7:=HMP.out.below hb7
   have kq7:=HKR.out.ext hb7
   have bl7:Below S w w7:=Us HBL.out hb7 (by have:=HW.out;have:=HST.out.1;omega)
   have xQ: ∀ q,X2 Q q:=fun q=>hold2 Q q (by have:=HW.out;have:=HST.out.1;omega) (.inr rfl)
   have hln2:(Jh a i).1.length<=64:=Ve
   have hel2:QS (Jh a i).2=true:=(Bg.1 (Bg.1 H2.out).2).2
   obtain ⟨l2,hl2⟩: ∃ l2,l2=(Jh a i).1:=⟨_,rfl⟩
   obtain ⟨s2,hs2⟩: ∃ s2,s2=(Jh a i).2:=⟨_,rfl⟩
   rw [←hl2] at hd1 hcell2 hln2 ⊢
   rw [←hs2] at hep2 hel2
   obtain ⟨r0,r1,r2,r3,r4,r5,r6,r7,r8⟩:=hone2
   have hQ7:S+1+1+1<=Q/\Q<w7.heap.size:=⟨HW.out.2.1,kq7.lt⟩
   have q0:=kq7.cell 0
   have q1:=kq7.cell 1
   have q2:=kq7.cell 2
   have q3:=kq7.cell 3
   have q4:=kq7.cell 4
   have q5:=kq7.cell 5
   have q6:=kq7.cell 6
   have q7:=kq7.cell 7
   have q8:=kq7.cell 8
   simp only [Dz,B6,BY] at q0 q1 q2 q3 q4 q5 q6 q7 q8
   have qf:=kq7.frozen
   have KQ7:=Lib.hid kq7
   have HX2:=Lib.hid (And.intro hfin2 xQ)
   have HC2':=Lib.hid hcell2
   have HE2:=Lib.hid hep2
   have HO2:=Lib.hid (And.intro r0<|And.intro r1<|And.intro r2<|And.intro r3<|And.intro r4<|And.intro r5<|And.intro r6<|And.intro r7 r8)
   have HM7:=Lib.hid mp7
   have HB7:=Lib.hid bl7
   have HL2:=Lib.hid hl2
   have HS2:=Lib.hid hs2
   have HEL2:=Lib.hid hel2
   have HQ7:=Lib.hid hQ7
   have sv0:=fun a m W=>run_store Tryz.prog W a z0 m r0
   have sv1:=fun a m W=>run_store Tryz.prog W a z1 m r1
   have sv2:=fun a m W=>run_store Tryz.prog W a z2 m r2
   have sv3:=fun a m W=>run_store Tryz.prog W a z3 m r3
   have sv4:=fun a m W=>run_store Tryz.prog W a z4 m r4
   have sv5:=fun a m W=>run_store Tryz.prog W a z5 m r5
   have sv6:=fun a m W=>run_store Tryz.prog W a z6 m r6
   have sv7:=fun a m W=>run_store Tryz.prog W a z7 m r7
   have sv8:=fun a m W=>run_store Tryz.prog W a z8 m r8
   clear x0 x1 x2 fX2 eX hfin2 hold2 hcell2 hep2 hb7 mp7 kq7 bl7 xQ hel2 hl2 hs2 hQ7 hwS hk hlt
   generalize hn2:l2.length=n2 at*
   have HN2:=Lib.hid hn2
   clear hn2
   go_wp2_with fail
   obtain ⟨W8,hW8⟩: ∃ W8,W8=w7.setCells Q 0 [z0,z1,z2,z3,z4,z5,z6,z7,z8]:=⟨_,rfl⟩
   have e8:(((((((((w7.setCell ⟨Q,0,none⟩ z0).setCell ⟨Q,1,none⟩ z1).setCell ⟨Q,2,none⟩ z2).setCell ⟨Q,3,none⟩ z3).setCell ⟨Q,4,none⟩ z4).setCell ⟨Q,5,none⟩ z5).setCell ⟨Q,6,none⟩ z6).setCell ⟨Q,7,none⟩ z7).setCell ⟨Q,8,none⟩ z8)=W8:=by rw [hW8];rfl
   rw [e8]
   have fr8:=Ux Q [z0,z1,z2,z3,z4,z5,z6,z7,z8] 0 w7
   rw [←hW8] at fr8
   have kQ8:Go.Proofs.YtmjnnemhoeolgaaGreat.Blk W8 Q 61 #[z0,z1,z2,z3,z4,z5,z6,z7,z8]:=by rw [hW8];exact Fd Q 61 (0,0) [z0,z1,z2,z3,z4,z5,z6,z7,z8] 0 w7 _ KQ7.out
   have hp8: ∀ b',b'≠Q->W8.heap[b']? = w7.heap[b']? :=fun b' h=>by rw [hW8];exact Uw Q _ 0 w7 b' h
   have mp8:MapAt W8 (S+1+1) (l.map (Zt s)):=by
    obtain ⟨es,clk,m1,m2⟩:=HM7.out
    exact ⟨es,clk,(hp8 _ (by have:=HQ7.out;omega)).trans m1,m2⟩
   have bl8:Below S w W8:=HB7.out.trans ⟨fr8.os,fr8.tape,fr8.output,fr8.size,fun b' hb'=>hp8 b' (by have:=HQ7.out;omega)⟩
   have eX8:Ext0 X2 w7 X2 W8:=⟨fr8.size,fun b' o _ hx=>⟨hx,by
    have hne:b'≠Q:=fun e=>hx (e▸HX2.out.2 o)
    simp [World.cell?, hp8 b' hne]⟩⟩
   have HE8:=Lib.hid (And.intro (fun b' q hq=>BS (HX2.out.1 b' q hq) fr8.size: ∀ b' q,X2 b' q->b'<W8.heap.size) (C.ext0 eX8 _ _ (fun _ _=>rfl) HE2.out))
   have HC8:=Lib.hid (show 0<n2→ ∃ b off,A2=some ⟨b,off,none⟩/\b<W8.heap.size∧ ∀ j v,(cU l2)[j]? = some v->W8.cell? ⟨b,off+j,none⟩=some v from fun h=>by
    obtain ⟨b',off',h1,h2,h3,h4⟩:=HC2'.out h
    have hne:b'≠Q:=fun e=>h3 (e▸HX2.out.2 off')
    exact ⟨b',off',h1,BS h2 fr8.size,fun j v hv=>by
     rw [←h4 j v hv]
     simp [World.cell?, hp8 b' hne]⟩)
   have HM8:=Lib.hid mp8
   have HB8:=Lib.hid bl8
   have HK8:=Lib.hid kQ8
   have HSZ:=Lib.hid (show S+1+1+1<=W8.heap.size by have:=HQ7.out;have:=fr8.size;omega)
   clear e8 hW8 fr8 hp8 mp8 bl8 eX8 sv0 sv1 sv2 sv3 sv4 sv5 sv6 sv7 sv8 q0 q1 q2 q3 q4 q5 q6 q7 q8 qf r0 r1 r2 r3 r4 r5 r6 r7 r8 kQ8
   obtain ⟨F,hF⟩: ∃ F:Nat->List Keep,F=fun k=>(l2.take k).filter fun o=> !decide (Zt s2 o∈l.map (Zt s)):=⟨_,rfl⟩
   have HFF:=Lib.hid hF
   clear hF
   go_loopw [12,41] (fun sv iv wr=> ∃ k:Nat,k<=n2/\iv= .int .i64 k/\Below W8.heap.size W8 wr/\wr.ownsRow W8.heap.size 54 2 sv (F k).length (cU (F k))) (fun _ iv _=>n2-(intOf iv).toNat)
   case atStart=>exact ⟨0,BX _,rfl,Below.refl _ _,by rw [HFF.out];exact World.ownsRow_nil _ _ _ _⟩
   case round=>
    obtain ⟨j,hj,rfl,hbl2,hown⟩:=hrel
    obtain ⟨A3,c3,rfl⟩:=QJI hown
    have HBR:=Lib.hid hbl2
    have HOW:=Lib.hid hown
    clear hbl2 hown
    by_cases hlt2:j<n2
    ·have hjl:j<l2.length:=by rw [HN2.out];exact hlt2
     obtain ⟨bb,off,rfl,hbb,hcs⟩:=HC8.out (by omega)
     obtain ⟨g0,g1⟩:=QiM l2 j hjl
     obtain ⟨o,ho⟩: ∃ o,o=l2[j]:=⟨_,rfl⟩
     rw [←ho] at g0 g1
     have dz: ∀ q v,W8.cell? ⟨bb,off+q,none⟩=some v->wr.cell? ⟨bb,off+q,none⟩=some v:=fun q v h=>(HBR.out.cell (p:=⟨bb,off+q,none⟩) hbb).trans h
     have d0:=dz _ _ (hcs _ _ g0)
     have d1:=dz _ _ (hcs _ _ g1)
     rw [←DG] at d1
     have kqr:=HK8.out.ext HBR.out
     have y0:=kqr.cell 0
     have y1:=kqr.cell 1
     have y2:=kqr.cell 2
     have y3:=kqr.cell 3
     have y4:=kqr.cell 4
     have y5:=kqr.cell 5
     have y6:=kqr.cell 6
     have y7:=kqr.cell 7
     have y8:=kqr.cell 8
     simp only [Dz,B6,BY] at y0 y1 y2 y3 y4 y5 y6 y7 y8
     replace y0:=fun ob=>Lib.cell?_alloc_some ob y0
     replace y1:=fun ob=>Lib.cell?_alloc_some ob y1
     replace y2:=fun ob=>Lib.cell?_alloc_some ob y2
     replace y3:=fun ob=>Lib.cell?_alloc_some ob y3
     replace y4:=fun ob=>Lib.cell?_alloc_some ob y4
     replace y5:=fun ob=>Lib.cell?_alloc_some ob y5
     replace y6:=fun ob=>Lib.cell?_alloc_some ob y6
     replace y7:=fun ob=>Lib.cell?_alloc_some ob y7
     replace y8:=fun ob=>Lib.cell?_alloc_some ob y8
     have HO:=Lib.hid (show l2[j]? = some o by rw [ho];exact Bh hjl)
     have hm64:(F j).length<=64:=by
      rw [HFF.out]
      have h1:=List.length_filter_le (fun o=> !decide (Zt s2 o∈l.map (Zt s))) (l2.take j)
      rw [Db] at h1
      have h2:=HN2.out
      show ((l2.take j).filter fun o=> !decide (Zt s2 o∈l.map (Zt s))).length<=64
      omega
     clear dz hcs g0 g1 ho hjl kqr
     have HM64:=Lib.hid hm64
     obtain ⟨m,hm⟩: ∃ m,m=(F j).length:=⟨_,rfl⟩
     rw [←hm] at HOW HM64 ⊢
     have HMM:=Lib.hid hm
     clear hm hm64
     go_wp2_with fail
     obtain ⟨R,hR⟩: ∃ R,R=wr.heap.size:=⟨_,rfl⟩
     obtain ⟨W3,hW3⟩: ∃ W3,W3=wr.alloc (.cells #[.int .i64 o.1,.int .i64 o.2.1] 54):=⟨_,rfl⟩
     rw [←hW3, ← hR]
     have b3:Below wr.heap.size wr W3:=hW3▸(Below.refl _ _).alloc (BL _) _
     have kR:Go.Proofs.YtmjnnemhoeolgaaGreat.Blk W3 R 54 #[.int .i64 o.1,.int .i64 o.2.1]:=by rw [hW3,hR];exact Go.Proofs.YtmjnnemhoeolgaaGreat.Blk.new _ _ _
     have b83:Below W8.heap.size W8 W3:=Us HBR.out b3 HBR.out.size
     obtain ⟨q0,q1,q2,q3,q4,q5,q6,q7,q8⟩:=HO2.out
     have hep:EpV W3 s2 z0 z1 z2 z3 z4 z5 z6 z7 z8:=⟨⟨X2,σ2,fun b' q hq=>BS (HE8.out.1 b' q hq) b83.size,C.ext0 (QGo b83) _ _ (fun _ _=>rfl) HE8.out.2⟩,q0,q1,q2,q3,q4,q5,q6,q7,q8⟩
     refine (QrZ (o:=o) hep HEL2.out).mono ?_
     rintro e w9 ⟨rfl,hb9⟩
     have b89:Below W8.heap.size W8 w9:=Us b83 hb9 b83.size
     have kR9:=kR.ext hb9
     obtain ⟨es,clk,m1,m2⟩:=HM8.out.below b89
     have hrun:=QMY w9 (QrY s2 o) m1 m2
     have HOW9:=Lib.hid (QkZ (QkZ HOW.out (Qr1 b3) (fun _ _ e=>by cases e)) (Qr1 hb9) (fun _ _ e=>by cases e))
     have HR9:=Lib.hid (show R<w9.heap.size from kR9.lt)
     have HB9:=Lib.hid b89
     have c0:=kR9.cell 0
     have c1:=kR9.cell 1
     simp only [Dz,B6,BY] at c0 c1
     clear hW3 b3 kR b83 hep hb9 b89 kR9 m1 m2 d0 d1 y0 y1 y2 y3 y4 y5 y6 y7 y8 q0 q1 q2 q3 q4 q5 q6 q7 q8 hR
     obtain ⟨kv,hkv⟩: ∃ kv,kv=kV (Zt s2 o):=⟨_,rfl⟩
     rw [←hkv] at hrun ⊢
     clear hkv
     have hstep:F (j+1)=F j++(if decide (Zt s2 o∈l.map (Zt s))=true then [] else [o]):=by
      rw [HFF.out]
      show (l2.take (j+1)).filter _=_
      rw [List.take_add_one,HO.out,List.filter_append]
      congr 1
      cases h:decide (Zt s2 o∈l.map (Zt s)) with
      |true=>simp [h]
      |false=>simp [h]
     have HST2:=Lib.hid hstep
     clear hstep
     cases hq:decide (Zt s2 o∈l.map (Zt s)) with
     |true=>
      rw [hq] at hrun HST2
      go_wp2_with fail
      have hst:=HST2.out
      simp only [if_true,BQ] at hst
      refine ⟨⟨j+1,hlt2,by simp,HB9.out, ?_⟩,by simp [intOf];omega⟩
      rw [hst, ← HMM.out]
      exact HOW9.out
     |false=>
      rw [hq] at hrun HST2
      have hsrc:=Sl.made w9 54 1 2 #[.int .i64 o.1,.int .i64 o.2.1] rfl (by simp [maxLen])
      go_wp2_with (at_builtin;refine QvV QGs rfl _ _ rfl W8.heap.size (.slice A3 m c3) m (cU (F j)) rfl (QkZ HOW9.out (QJC (World.grownBy.refl _ none) _) (fun _ _ e=>by cases e)) _ _ _ _ rfl hsrc (by simp [Value.oneCell']) (by have:=HM64.out;omega) (by omega) (by have:=HB9.out.size;simp;omega) ?_;intro v' w4 hown4 hg4 hat4)
      have hst:=HST2.out
      simp only [BF,Dd] at hst
      have bA:=HB9.out.alloc HB9.out.size (.cells #[.int .i64 o.1,.int .i64 o.2.1] 54)
      refine ⟨⟨j+1,hlt2,by simp,bA.trans ⟨hg4.os,hg4.tape,hg4.output,hg4.size,fun q hq=>hg4.block q (BS hq bA.size) (fun e=>by have:=(HOW9.out.lt _ e.symm).1;omega)⟩, ?_⟩,by simp [intOf];omega⟩
      rw [hst,Bm, ← HMM.out]
      have e2:cU (F j++[o])=cU (F j)++[.int .i64 o.1,.int .i64 o.2.1]:=by
       unfold cU
       rw [DK]
       rfl
      rw [e2]
      exact hown4
    ·obtain rfl:j=n2:=by omega
     have hFe:F j=YG b a i:=by
      rw [HFF.out]
      show (l2.take j).filter _=_
      rw [List.take_of_length_le (by rw [HN2.out];exact BL _)]
      unfold YG
      rw [←HL2.out]
      refine List.filter_congr fun o _=> ?_
      congr 1
      unfold enbB
      rw [←HL.out, ← HS.out, ← HS2.out,Dq]
      simp only [Ba,B9,DF,Dc]
     have HFE:=Lib.hid hFe
     clear hFe
     go_wp2_with fail
     go_ret
     have hz:=HSZ.out
     have hss:=HSS.out
     refine ⟨_,W8.heap.size,rfl,by omega, ?_, ?_⟩
     ·rw [←HFE.out]
      exact HOW.out
     ·rw [←hss]
      exact Us HB8.out HBR.out (by omega)
end Go.Proofs.YtmjnnemhoeolgaaGreat.K
noncomputable section
namespace Go.Proofs.YtmjnnemhoeolgaaGreat.K
open Go.RowKit
noncomputable section
def Qds:Ent:=Qi (.pr Qx (.pr Qx (.pr tI .nil))) (fun x=>(Qdm x.1 x.2.1 x.2.2.1)) (fun x=>(.t (.sl Qd) (YG x.1 x.2.1 x.2.2.1)))
theorem QvR:Zg Tryz.prog 32:= .inr ⟨by decide,_,Tryz.func32,by kernel_rfl,by kernel_rfl⟩
theorem QvS {X:Nat->Nat->Prop}{w:World}{σ:Pl}: ∀ l:List Keep,Cs X w σ (l.flatMap Qd.cells) (cU l)
 | []=>rfl
 |x::l=>by
  show Cs X w σ (D.v (.int .i64 x.1)::D.v (.int .i64 x.2.1)::l.flatMap Qd.cells) (.int .i64 x.1:: .int .i64 x.2.1::cU l)
  simp only [Cs]
  exact ⟨_,_,rfl,⟨rfl,rfl⟩,_,_,rfl,⟨rfl,rfl⟩,QvS l⟩
theorem own_c {X:Nat->Nat->Prop}{w:World}{σ:Pl}{B:Nat}{l:List Keep}{sv:Value}(h:w.ownsRow B 54 2 sv l.length (cU l))(hX: ∀ b q,X b q->b<B):C X w σ (V.t (.sl Qd) l).d sv:=by
 obtain ⟨h1,A,c,rfl,h2,h3,h4⟩:=Sl.of_own h
 have hlt:=h.lt
 show C X w σ (.sl l.length (l.flatMap Qd.cells)) _
 simp only [C]
 refine ⟨A,c,rfl,h2,h3,fun h0=> ?_,fun h0=> ?_⟩
 ·have:l=[]:=BD h0
  rw [this]
  rfl
 ·obtain ⟨b,off,rfl,g1,g2⟩:=h4 h0
  refine ⟨b,off,cU l,rfl,QvS l,g1,fun q _ hq=> ?_,fun j u hu=>g2 j u hu,QD2 l⟩
  have:=hX b _ hq
  have:=(hlt b rfl).1
  omega
theorem QvT:QI Tryz.prog 32 (QG Qds):=by
 unfold Qds
 refine QuL (fun x hok X w σ vs hfin hc=> ?_)
 obtain ⟨b,a,i,u⟩:=x
 obtain ⟨h1,h2⟩:=Bg.1 hok
 have hc:Cs X w σ [(V.t Qx b).d,(V.t Qx a).d,.v (.int .i64 i)] vs:=hc
 simp only [Cs] at hc
 obtain ⟨bv,r0,rfl,c0,av,r1,rfl,c1,iv,r2,rfl,c2,rfl⟩:=hc
 simp only [C] at c2
 obtain ⟨rfl,_⟩:=c2
 obtain ⟨u0,u1,u2,rfl,ou0,ou1,ou2⟩:=Qr2 c0
 obtain ⟨t0,t1,t2,rfl,ot0,ot1,ot2⟩:=Qr2 c1
 refine (QGu (i:=i) hfin c0 c1 ou0 ou1 ou2 ot0 ot1 ot2 h1 h2).mono ?_
 rintro en w' ⟨sv,B,rfl,hB,hown,hb⟩
 exact ⟨sv,rfl,own_c hown (fun b q hq=>BS (hfin b q hq) hB),hb⟩
end
end Go.Proofs.YtmjnnemhoeolgaaGreat.K
