import Derived.Test.YthlcobdnemhcdaaGreatW4
import Derived.Test.YthlcobdnemhcdaaGreatW7
import Derived.Test.YthlcobdnemhcdaaGreatW3
import Derived.Test.YthlcobdnemhcdaaGreatW6
import Derived.Conc.LoneCalls
set_option linter.unusedSimpArgs false
set_option linter.unusedVariables false
noncomputable section
namespace Go.Proofs.YthlcobdnemhcdaaGreat.K
open Go.RowKit
def Z5 (r:Rule):Bool:=decide (0<=r.Alg/\r.Alg<=22/\0<=r.Below/\r.Below<=16384/\0<=r.Purpose/\r.Purpose<=4/\0<=r.From/\r.From<r.To/\r.To<=40001)
def Yr (k:Keep):Bool:=decide (1<=k.1/\k.1<=4/\0<=k.2.1/\k.2.1<=40000)
def Z6 (r:Rule):Bool:= !Z5 r
def Z7 (k:Keep):Bool:= !Yr k
def QP6:TC:=aF Tryz.f145 []
def g_f145:G:=gG 48 [] (fun _ _=>none)
def QCc (p0:Rule):OV:=br (ige p0.2.1 0) (br (ile p0.2.1 22) (br (ige p0.2.2.1 0) (br (ile p0.2.2.1 16384) (br (ige p0.2.2.2.1 0) (br (ile p0.2.2.2.1 4) (br (ige p0.2.2.2.2.1 0) (br (ilt p0.2.2.2.2.1 p0.2.2.2.2.2.1) (some (.t .bool (ile p0.2.2.2.2.2.1 40001),[])) (some (.t .bool false,[]))) (some (.t .bool false,[]))) (some (.t .bool false,[]))) (some (.t .bool false,[]))) (some (.t .bool false,[]))) (some (.t .bool false,[]))) (some (.t .bool false,[]))) (some (.t .bool false,[]))
theorem s_f145 (r:Rule):QCc r=some (.t .bool (Z5 r),[]):=by
 simp only [QCc]
 repeat' (refine QY ?_ ?_<;>intro _)
 all_goals simp only [ige,ile,ilt,Ba,Bn,Estate.Endpoints,Estate.Edges,Estate.Items,Policy.Rules,Policy.Keeps,Keep.Alg,Keep.Bits,Link.Use,Link.Day,Job.Item,Job.Link,Item.Name,Item.Kind,Item.Purpose,Item.Links,Item.Until,Rule.Allow,Rule.Alg,Rule.Below,Rule.Purpose,Rule.From,Rule.To,Exception.Use,Exception.Purpose,Exception.Endpoint,Exception.Days,Exception.Seals,Dice.L,Dice.At,Endpoint.Name,Endpoint.Least,Endpoint.Most,Endpoint.Suites,Endpoint.OwnOrder,Endpoint.Identities,Endpoint.Anchors,Endpoint.Hashes,Endpoint.Fallback,Identity.Key,Identity.KeyId,Identity.Chain,Change.Endpoint,Change.Kind,Change.Number,Change.At,Change.Identity,Rules.p,Rules.l,Rules.o,Rules.day,Method.outcome,Method.uses,Certificate.Serial,Certificate.Issuer,Certificate.Subject,Certificate.Key,Certificate.KeyId,Certificate.Hash,Certificate.From,Certificate.To,Certificate.Authority,Certificate.Path,Certificate.Names,Certificate.Seal,LinkX.day,LinkX.fall,LinkX.falls,Suite.Code,Suite.Name,Suite.Exchange,Suite.Sign,Suite.Cipher,Suite.Mac,Suite.Least,Suite.Most,Row.name,Row.kind,Row.way,Row.sizes,Row.strengths,Talk.server,Talk.version,Talk.suites,Symbol.name,Symbol.kind] at*
 all_goals (apply F4;unfold Z5;rw [DC];simp only [ige,ile,ilt,Ba,Estate.Endpoints,Estate.Edges,Estate.Items,Policy.Rules,Policy.Keeps,Keep.Alg,Keep.Bits,Link.Use,Link.Day,Job.Item,Job.Link,Item.Name,Item.Kind,Item.Purpose,Item.Links,Item.Until,Rule.Allow,Rule.Alg,Rule.Below,Rule.Purpose,Rule.From,Rule.To,Exception.Use,Exception.Purpose,Exception.Endpoint,Exception.Days,Exception.Seals,Dice.L,Dice.At,Endpoint.Name,Endpoint.Least,Endpoint.Most,Endpoint.Suites,Endpoint.OwnOrder,Endpoint.Identities,Endpoint.Anchors,Endpoint.Hashes,Endpoint.Fallback,Identity.Key,Identity.KeyId,Identity.Chain,Change.Endpoint,Change.Kind,Change.Number,Change.At,Change.Identity,Rules.p,Rules.l,Rules.o,Rules.day,Method.outcome,Method.uses,Certificate.Serial,Certificate.Issuer,Certificate.Subject,Certificate.Key,Certificate.KeyId,Certificate.Hash,Certificate.From,Certificate.To,Certificate.Authority,Certificate.Path,Certificate.Names,Certificate.Seal,LinkX.day,LinkX.fall,LinkX.falls,Suite.Code,Suite.Name,Suite.Exchange,Suite.Sign,Suite.Cipher,Suite.Mac,Suite.Least,Suite.Most,Row.name,Row.kind,Row.way,Row.sizes,Row.strengths,Talk.server,Talk.version,Talk.suites,Symbol.name,Symbol.kind,BK,false_iff];omega)
def QCd:Ent:=Qo (.pr Q4 .nil) (fun x=>true) (fun x=>(.t .bool (Z5 x.1)))
theorem QP7:EM 145 QCd:=mS g_f145 QP6 [((.t 2),some .bool)] false (gB gN) fun m=>Qs m fun x _=>kT (s_f145 x.1)
def QP8:TC:=aF Tryz.f148 []
def g_f148:G:=gG 21 [] (fun _ _=>none)
def QCe (p0:Keep):OV:=br (ige p0.1 1) (br (ile p0.1 4) (br (ige p0.2.1 0) (some (.t .bool (ile p0.2.1 40000),[])) (some (.t .bool false,[]))) (some (.t .bool false,[]))) (some (.t .bool false,[]))
theorem s_f148 (r:Keep):QCe r=some (.t .bool (Yr r),[]):=by
 simp only [QCe]
 repeat' (refine QY ?_ ?_<;>intro _)
 all_goals simp only [ige,ile,ilt,Ba,Bn,Estate.Endpoints,Estate.Edges,Estate.Items,Policy.Rules,Policy.Keeps,Keep.Alg,Keep.Bits,Link.Use,Link.Day,Job.Item,Job.Link,Item.Name,Item.Kind,Item.Purpose,Item.Links,Item.Until,Rule.Allow,Rule.Alg,Rule.Below,Rule.Purpose,Rule.From,Rule.To,Exception.Use,Exception.Purpose,Exception.Endpoint,Exception.Days,Exception.Seals,Dice.L,Dice.At,Endpoint.Name,Endpoint.Least,Endpoint.Most,Endpoint.Suites,Endpoint.OwnOrder,Endpoint.Identities,Endpoint.Anchors,Endpoint.Hashes,Endpoint.Fallback,Identity.Key,Identity.KeyId,Identity.Chain,Change.Endpoint,Change.Kind,Change.Number,Change.At,Change.Identity,Rules.p,Rules.l,Rules.o,Rules.day,Method.outcome,Method.uses,Certificate.Serial,Certificate.Issuer,Certificate.Subject,Certificate.Key,Certificate.KeyId,Certificate.Hash,Certificate.From,Certificate.To,Certificate.Authority,Certificate.Path,Certificate.Names,Certificate.Seal,LinkX.day,LinkX.fall,LinkX.falls,Suite.Code,Suite.Name,Suite.Exchange,Suite.Sign,Suite.Cipher,Suite.Mac,Suite.Least,Suite.Most,Row.name,Row.kind,Row.way,Row.sizes,Row.strengths,Talk.server,Talk.version,Talk.suites,Symbol.name,Symbol.kind] at*
 all_goals (apply F4;unfold Yr;rw [DC];simp only [ige,ile,ilt,Ba,Estate.Endpoints,Estate.Edges,Estate.Items,Policy.Rules,Policy.Keeps,Keep.Alg,Keep.Bits,Link.Use,Link.Day,Job.Item,Job.Link,Item.Name,Item.Kind,Item.Purpose,Item.Links,Item.Until,Rule.Allow,Rule.Alg,Rule.Below,Rule.Purpose,Rule.From,Rule.To,Exception.Use,Exception.Purpose,Exception.Endpoint,Exception.Days,Exception.Seals,Dice.L,Dice.At,Endpoint.Name,Endpoint.Least,Endpoint.Most,Endpoint.Suites,Endpoint.OwnOrder,Endpoint.Identities,Endpoint.Anchors,Endpoint.Hashes,Endpoint.Fallback,Identity.Key,Identity.KeyId,Identity.Chain,Change.Endpoint,Change.Kind,Change.Number,Change.At,Change.Identity,Rules.p,Rules.l,Rules.o,Rules.day,Method.outcome,Method.uses,Certificate.Serial,Certificate.Issuer,Certificate.Subject,Certificate.Key,Certificate.KeyId,Certificate.Hash,Certificate.From,Certificate.To,Certificate.Authority,Certificate.Path,Certificate.Names,Certificate.Seal,LinkX.day,LinkX.fall,LinkX.falls,Suite.Code,Suite.Name,Suite.Exchange,Suite.Sign,Suite.Cipher,Suite.Mac,Suite.Least,Suite.Most,Row.name,Row.kind,Row.way,Row.sizes,Row.strengths,Talk.server,Talk.version,Talk.suites,Symbol.name,Symbol.kind,BK,false_iff];omega)
def QCf:Ent:=Qo (.pr Qk .nil) (fun x=>true) (fun x=>(.t .bool (Yr x.1)))
theorem QP9:EM 148 QCf:=mS g_f148 QP8 [((.t 2),some .bool)] false (gB gN) fun m=>Qs m fun x _=>kT (s_f148 x.1)
def QQa:TC:=aF Tryz.f157 []
def g_f157:G:=gG 48 [] (fun _ _=>none)
def QCg (p0:Rule):OV:=br (ige p0.2.1 0) (br (ile p0.2.1 22) (br (ige p0.2.2.1 0) (br (ile p0.2.2.1 16384) (br (ige p0.2.2.2.1 0) (br (ile p0.2.2.2.1 4) (br (ige p0.2.2.2.2.1 0) (br (ilt p0.2.2.2.2.1 p0.2.2.2.2.2.1) (some (.t .bool (ile p0.2.2.2.2.2.1 40001),[])) (some (.t .bool false,[]))) (some (.t .bool false,[]))) (some (.t .bool false,[]))) (some (.t .bool false,[]))) (some (.t .bool false,[]))) (some (.t .bool false,[]))) (some (.t .bool false,[]))) (some (.t .bool false,[]))
theorem s_f157 (r:Rule):QCg r=some (.t .bool (Z5 r),[]):=by
 simp only [QCg]
 repeat' (refine QY ?_ ?_<;>intro _)
 all_goals simp only [ige,ile,ilt,Ba,Bn,Estate.Endpoints,Estate.Edges,Estate.Items,Policy.Rules,Policy.Keeps,Keep.Alg,Keep.Bits,Link.Use,Link.Day,Job.Item,Job.Link,Item.Name,Item.Kind,Item.Purpose,Item.Links,Item.Until,Rule.Allow,Rule.Alg,Rule.Below,Rule.Purpose,Rule.From,Rule.To,Exception.Use,Exception.Purpose,Exception.Endpoint,Exception.Days,Exception.Seals,Dice.L,Dice.At,Endpoint.Name,Endpoint.Least,Endpoint.Most,Endpoint.Suites,Endpoint.OwnOrder,Endpoint.Identities,Endpoint.Anchors,Endpoint.Hashes,Endpoint.Fallback,Identity.Key,Identity.KeyId,Identity.Chain,Change.Endpoint,Change.Kind,Change.Number,Change.At,Change.Identity,Rules.p,Rules.l,Rules.o,Rules.day,Method.outcome,Method.uses,Certificate.Serial,Certificate.Issuer,Certificate.Subject,Certificate.Key,Certificate.KeyId,Certificate.Hash,Certificate.From,Certificate.To,Certificate.Authority,Certificate.Path,Certificate.Names,Certificate.Seal,LinkX.day,LinkX.fall,LinkX.falls,Suite.Code,Suite.Name,Suite.Exchange,Suite.Sign,Suite.Cipher,Suite.Mac,Suite.Least,Suite.Most,Row.name,Row.kind,Row.way,Row.sizes,Row.strengths,Talk.server,Talk.version,Talk.suites,Symbol.name,Symbol.kind] at*
 all_goals (apply F4;unfold Z5;rw [DC];simp only [ige,ile,ilt,Ba,Estate.Endpoints,Estate.Edges,Estate.Items,Policy.Rules,Policy.Keeps,Keep.Alg,Keep.Bits,Link.Use,Link.Day,Job.Item,Job.Link,Item.Name,Item.Kind,Item.Purpose,Item.Links,Item.Until,Rule.Allow,Rule.Alg,Rule.Below,Rule.Purpose,Rule.From,Rule.To,Exception.Use,Exception.Purpose,Exception.Endpoint,Exception.Days,Exception.Seals,Dice.L,Dice.At,Endpoint.Name,Endpoint.Least,Endpoint.Most,Endpoint.Suites,Endpoint.OwnOrder,Endpoint.Identities,Endpoint.Anchors,Endpoint.Hashes,Endpoint.Fallback,Identity.Key,Identity.KeyId,Identity.Chain,Change.Endpoint,Change.Kind,Change.Number,Change.At,Change.Identity,Rules.p,Rules.l,Rules.o,Rules.day,Method.outcome,Method.uses,Certificate.Serial,Certificate.Issuer,Certificate.Subject,Certificate.Key,Certificate.KeyId,Certificate.Hash,Certificate.From,Certificate.To,Certificate.Authority,Certificate.Path,Certificate.Names,Certificate.Seal,LinkX.day,LinkX.fall,LinkX.falls,Suite.Code,Suite.Name,Suite.Exchange,Suite.Sign,Suite.Cipher,Suite.Mac,Suite.Least,Suite.Most,Row.name,Row.kind,Row.way,Row.sizes,Row.strengths,Talk.server,Talk.version,Talk.suites,Symbol.name,Symbol.kind,BK,false_iff];omega)
def QCh:Ent:=Qo (.pr Q4 .nil) (fun x=>true) (fun x=>(.t .bool (Z5 x.1)))
theorem QQb:EM 157 QCh:=mS g_f157 QQa [((.t 2),some .bool)] false (gB gN) fun m=>Qs m fun x _=>kT (s_f157 x.1)
def QQc:TC:=aF Tryz.f158 []
def g_f158:G:=gG 21 [] (fun _ _=>none)
def QCi (p0:Keep):OV:=br (ige p0.1 1) (br (ile p0.1 4) (br (ige p0.2.1 0) (some (.t .bool (ile p0.2.1 40000),[])) (some (.t .bool false,[]))) (some (.t .bool false,[]))) (some (.t .bool false,[]))
theorem s_f158 (r:Keep):QCi r=some (.t .bool (Yr r),[]):=by
 simp only [QCi]
 repeat' (refine QY ?_ ?_<;>intro _)
 all_goals simp only [ige,ile,ilt,Ba,Bn,Estate.Endpoints,Estate.Edges,Estate.Items,Policy.Rules,Policy.Keeps,Keep.Alg,Keep.Bits,Link.Use,Link.Day,Job.Item,Job.Link,Item.Name,Item.Kind,Item.Purpose,Item.Links,Item.Until,Rule.Allow,Rule.Alg,Rule.Below,Rule.Purpose,Rule.From,Rule.To,Exception.Use,Exception.Purpose,Exception.Endpoint,Exception.Days,Exception.Seals,Dice.L,Dice.At,Endpoint.Name,Endpoint.Least,Endpoint.Most,Endpoint.Suites,Endpoint.OwnOrder,Endpoint.Identities,Endpoint.Anchors,Endpoint.Hashes,Endpoint.Fallback,Identity.Key,Identity.KeyId,Identity.Chain,Change.Endpoint,Change.Kind,Change.Number,Change.At,Change.Identity,Rules.p,Rules.l,Rules.o,Rules.day,Method.outcome,Method.uses,Certificate.Serial,Certificate.Issuer,Certificate.Subject,Certificate.Key,Certificate.KeyId,Certificate.Hash,Certificate.From,Certificate.To,Certificate.Authority,Certificate.Path,Certificate.Names,Certificate.Seal,LinkX.day,LinkX.fall,LinkX.falls,Suite.Code,Suite.Name,Suite.Exchange,Suite.Sign,Suite.Cipher,Suite.Mac,Suite.Least,Suite.Most,Row.name,Row.kind,Row.way,Row.sizes,Row.strengths,Talk.server,Talk.version,Talk.suites,Symbol.name,Symbol.kind] at*
 all_goals (apply F4;unfold Yr;rw [DC];simp only [ige,ile,ilt,Ba,Estate.Endpoints,Estate.Edges,Estate.Items,Policy.Rules,Policy.Keeps,Keep.Alg,Keep.Bits,Link.Use,Link.Day,Job.Item,Job.Link,Item.Name,Item.Kind,Item.Purpose,Item.Links,Item.Until,Rule.Allow,Rule.Alg,Rule.Below,Rule.Purpose,Rule.From,Rule.To,Exception.Use,Exception.Purpose,Exception.Endpoint,Exception.Days,Exception.Seals,Dice.L,Dice.At,Endpoint.Name,Endpoint.Least,Endpoint.Most,Endpoint.Suites,Endpoint.OwnOrder,Endpoint.Identities,Endpoint.Anchors,Endpoint.Hashes,Endpoint.Fallback,Identity.Key,Identity.KeyId,Identity.Chain,Change.Endpoint,Change.Kind,Change.Number,Change.At,Change.Identity,Rules.p,Rules.l,Rules.o,Rules.day,Method.outcome,Method.uses,Certificate.Serial,Certificate.Issuer,Certificate.Subject,Certificate.Key,Certificate.KeyId,Certificate.Hash,Certificate.From,Certificate.To,Certificate.Authority,Certificate.Path,Certificate.Names,Certificate.Seal,LinkX.day,LinkX.fall,LinkX.falls,Suite.Code,Suite.Name,Suite.Exchange,Suite.Sign,Suite.Cipher,Suite.Mac,Suite.Least,Suite.Most,Row.name,Row.kind,Row.way,Row.sizes,Row.strengths,Talk.server,Talk.version,Talk.suites,Symbol.name,Symbol.kind,BK,false_iff];omega)
def QCj:Ent:=Qo (.pr Qk .nil) (fun x=>true) (fun x=>(.t .bool (Yr x.1)))
theorem QQd:EM 158 QCj:=mS g_f158 QQc [((.t 2),some .bool)] false (gB gN) fun m=>Qs m fun x _=>kT (s_f158 x.1)
def QQe:TC:=aF Tryz.f144 []
def g_f144:G:=gG 6 [(145,QCd)] (fun _ _=>none)
def r_f144 (p0:Rule):OV:=some (.t .bool (!(Z5 p0)),[])
theorem s_f144 (r:Rule):r_f144 r=some (.t .bool (Z6 r),[]):=rfl
def QCk:Ent:=Qo (.pr Q4 .nil) (fun x=>true) (fun x=>(.t .bool (Z6 x.1)))
theorem QQf:EM 144 QCk:=mS g_f144 QQe [((.t 2),some .bool)] false (gB (gD QP7 gN)) fun m=>Qs m fun x _=>kT (s_f144 x.1)
def QQg:TC:=aF Tryz.f147 []
def g_f147:G:=gG 6 [(148,QCf)] (fun _ _=>none)
def r_f147 (p0:Keep):OV:=some (.t .bool (!(Yr p0)),[])
theorem s_f147 (r:Keep):r_f147 r=some (.t .bool (Z7 r),[]):=rfl
def QCl:Ent:=Qo (.pr Qk .nil) (fun x=>true) (fun x=>(.t .bool (Z7 x.1)))
theorem QQh:EM 147 QCl:=mS g_f147 QQg [((.t 2),some .bool)] false (gB (gD QP9 gN)) fun m=>Qs m fun x _=>kT (s_f147 x.1)
def Zv {α:Type}(m:α->Bool):List α->Option Nat
 | []=>none
 |a::l=>if m a then some 0 else (Zv m l).map (· + 1)
theorem QgF {α:Type}{m:α->Bool}: ∀ {l:List α},Zv m l=none↔l.any m=false
 | []=>by simp [Zv]
 |a::l=>by
  have ih:=QgF (m:=m) (l:=l)
  unfold Zv
  cases h:m a with
  |true=>simp [h]
  |false=>simpa [h] using ih
theorem QCm {α:Type}{m:α->Bool}{l:List α}{k:Nat}(h:Zv m l=some k):l.any m=true:=by
 cases hq:l.any m with
 |true=>rfl
 |false=>rw [QgF.2 hq] at h;cases h
def Q8 {α:Type}(l:List α):Bool:=decide (l.length<=100000)
def Qbp (l:List Rule):Int:=match Zv Z6 l with|some k=>(k:Int)|none=> -1
def Qbq (l:List Keep):Int:=match Zv Z7 l with|some k=>(k:Int)|none=> -1
abbrev QgG:Sh:=⟨[(0,.ty (.sl Q4)),(1,.cf 144),(7,.ty tI),(8,.ty tI)],[]⟩
abbrev Qpm:Sh:=⟨[(4,.ty tI)],[]⟩
abbrev Ot:Sh:=⟨[],[]⟩
def Qpn:Fg:=QgG.f
def QCn:TC:=aF Tryz.f196 [(26,pL 0 Qpn),(421,.fg Ot.f),(13517,.fg Qpm.f)]
def QCo:TC:=lb 0 QCn
def QCp (x0:List Rule)(x7 x8:Int):VS:=QgG.st (x0,(),x7,x8,()) ()
def Ou (x4:Int):VS:=Qpm.st (x4,()) ()
def Qpo  : VS:=Ot.st () ()
def QQi:VS->Option (Bool×List (Bool×Exit×VS)):=mkL QgG (fun x y=>(QD x.1 x.2.2.1 x.2.2.2.1)) (fun x y=>[(((Zv Z6 (x.1.drop x.2.2.2.1.toNat)).isSome),.ret,Ou (x.2.2.2.1+((Zv Z6 (x.1.drop x.2.2.2.1.toNat)).getD 0:Nat))),(true,.exit 0,Qpo)])
def Qpp:G:=gG 19 [(144,QCk)] (Ls [QQi])
def QgH (x0:List Rule)(x7 x8:Int):OX:=Qx (QA Qpp Qpn QCo) (QCp x0 x7 x8)
def Qbr (kk:List Rule->Int->Int->OX)(x0:List Rule)(x7 x8:Int):OX:=br (ilt x8 x7) (br (cIx x0 x8) (br (Z6 (lgt Q4 x0 (Int.toNat x8))) (some (.ret,Ou x8)) (kk x0 x7 (Qj .i64 x8 1))) none) (some (.exit 0,Qpo))
def QgI (x0:List Rule)(x7 x8:Int):OX:=
 let a1:=Zv Z6 (x0.drop x8.toNat)
 br (a1.isSome) (some (.ret,Ou (x8+(a1.getD 0:Nat))))<|some (.exit 0,Qpo)
theorem QCq (x0:List Rule)(x7 x8:Int):QgH x0 x7 x8=Qbr QgH x0 x7 x8:=lnT (x:=Qbr (fun x0 x7 x8=>some (.normal,QCp x0 x7 x8)) x0 x7 x8) (by simp only [Qbr,nxA];rfl)
def QCr (p0:List Rule):OV:=
 let a1:=(Zv Z6 (p0.drop (0:Int).toNat))
 br (QD p0 (Qc p0) (0:Int)) (br (a1.isSome) (some (.t tI ((0:Int)+(a1.getD 0:Nat)),[])) (some (.t tI (-1),[]))) none
theorem QQj (x0:List Rule)(x7 x8:Int)(h:(QD x0 x7 x8)=true):QgH x0 x7 x8=QgI x0 x7 x8:=by
 obtain ⟨rfl,h3,k,rfl,hk⟩:=JG h
 clear h
 refine QQ x0 (fun k=>QgH x0 (x0.length:Int) (k:Int)=QgI x0 (x0.length:Int) (k:Int)) ?_ ?_ k hk
 ·rw [QCq]
  simp [Qbr,QgI,Qy,Qi,Zv]
 ·intro k hk ih
  rw [QCq]
  simp only [Qbr,Qy,QK,hk,Bo,Qf,Bb,QO (show k<4611686018427387904 by omega),ih,QL (y:=Q4) hk]
  simp only [QgI,Bb,Bg hk,Zv]
  cases h:Z6 x0[k] with
  |true=>simp [Qf]
  |false=>
   simp only [Qi,BK,Dc]
   cases hq:Zv Z6 (x0.drop (k+1)) with
   |none=>rfl
   |some j=>
    simp only [De,Dw,B3,Qf]
    congr 3
    omega
theorem QQk:LO Qpp Qpn QCo 0:=QI (s:=QgG) fun x y h _ q=>by simp only [QG,QH] at q;exact (QQj x.1 x.2.2.1 x.2.2.2.1 h).trans q
theorem QQl (l:List Rule)(h:Q8 l=true):QCr l=some (.t tI (Qbp l),[]):=by
 simp only [Q8,Ba] at h
 simp only [QCr,JH h,Qf,By,BG,Qbp]
 cases Zv Z6 l<;>simp [Qf,Qi]
def QCs:Ent:=UL [.ty (.sl Q4),.cf 144] [] (fun x d=>(Q8 x.1)) (fun x d=>(.t tI (Qbp x.1)))
theorem QQm:EM 196 QCs:=mS (lk:=lkL (lkc QQk lkn)) Qpp QCn [((.t 4),some tI)] false (gB (gD QQf gN)) fun m=>Fx m fun x d hok=>kT (QQl x.1 hok)
def Ov (l:List Rule):Bool:=l.any Z6
def QQn:TC:=aF Tryz.f143 []
def QQo:G:=gG 9 [(196,QCs)] (fun _ _=>none)
def QCt (p0:List Rule):OV:=br (Q8 p0) (some (.t .bool (ige (Qbp p0) 0),[])) none
theorem QQp (l:List Rule)(h:Q8 l=true):QCt l=some (.t .bool (Ov l),[]):=by
 simp only [QCt,h,Qf]
 congr 3
 unfold Qbp Ov
 cases hq:Zv Z6 l with
 |none=>rw [QgF.1 hq];rfl
 |some k=>rw [QCm hq];simp only [ige,Ba];omega
def QCu:Ent:=UL [.ty (.sl Q4),.cf 144] [] (fun x d=>(Q8 x.1)) (fun x d=>(.t .bool (Ov x.1)))
theorem QQq:EM 143 QCu:=mS QQo QQn [((.t 4),some .bool)] false (gB (gD QQm gN)) fun m=>Fx m fun x d hok=>kT (QQp x.1 hok)
abbrev QgJ:Sh:=⟨[(0,.ty (.sl Qk)),(1,.cf 147),(7,.ty tI),(8,.ty tI)],[]⟩
def Qpq:Fg:=QgJ.f
def QCv:TC:=aF Tryz.f197 [(26,pL 0 Qpq),(421,.fg Ot.f),(13517,.fg Qpm.f)]
def QCw:TC:=lb 0 QCv
def QCx (x0:List Keep)(x7 x8:Int):VS:=QgJ.st (x0,(),x7,x8,()) ()
def Qpr  : VS:=Ot.st () ()
def QQr:VS->Option (Bool×List (Bool×Exit×VS)):=mkL QgJ (fun x y=>(QD x.1 x.2.2.1 x.2.2.2.1)) (fun x y=>[(((Zv Z7 (x.1.drop x.2.2.2.1.toNat)).isSome),.ret,Ou (x.2.2.2.1+((Zv Z7 (x.1.drop x.2.2.2.1.toNat)).getD 0:Nat))),(true,.exit 0,Qpr)])
def Qps:G:=gG 19 [(147,QCl)] (Ls [QQr])
def QgK (x0:List Keep)(x7 x8:Int):OX:=Qx (QA Qps Qpq QCw) (QCx x0 x7 x8)
def Qbs (kk:List Keep->Int->Int->OX)(x0:List Keep)(x7 x8:Int):OX:=br (ilt x8 x7) (br (cIx x0 x8) (br (Z7 (lgt Qk x0 (Int.toNat x8))) (some (.ret,Ou x8)) (kk x0 x7 (Qj .i64 x8 1))) none) (some (.exit 0,Qpr))
def QgL (x0:List Keep)(x7 x8:Int):OX:=
 let a1:=Zv Z7 (x0.drop x8.toNat)
 br (a1.isSome) (some (.ret,Ou (x8+(a1.getD 0:Nat))))<|some (.exit 0,Qpr)
theorem QCy (x0:List Keep)(x7 x8:Int):QgK x0 x7 x8=Qbs QgK x0 x7 x8:=lnT (x:=Qbs (fun x0 x7 x8=>some (.normal,QCx x0 x7 x8)) x0 x7 x8) (by simp only [Qbs,nxA];rfl)
def QCz (p0:List Keep):OV:=
 let a1:=(Zv Z7 (p0.drop (0:Int).toNat))
 br (QD p0 (Qc p0) (0:Int)) (br (a1.isSome) (some (.t tI ((0:Int)+(a1.getD 0:Nat)),[])) (some (.t tI (-1),[]))) none
theorem QQs (x0:List Keep)(x7 x8:Int)(h:(QD x0 x7 x8)=true):QgK x0 x7 x8=QgL x0 x7 x8:=by
 obtain ⟨rfl,h3,k,rfl,hk⟩:=JG h
 clear h
 refine QQ x0 (fun k=>QgK x0 (x0.length:Int) (k:Int)=QgL x0 (x0.length:Int) (k:Int)) ?_ ?_ k hk
 ·rw [QCy]
  simp [Qbs,QgL,Qy,Qi,Zv]
 ·intro k hk ih
  rw [QCy]
  simp only [Qbs,Qy,QK,hk,Bo,Qf,Bb,QO (show k<4611686018427387904 by omega),ih,QL (y:=Qk) hk]
  simp only [QgL,Bb,Bg hk,Zv]
  cases h:Z7 x0[k] with
  |true=>simp [Qf]
  |false=>
   simp only [Qi,BK,Dc]
   cases hq:Zv Z7 (x0.drop (k+1)) with
   |none=>rfl
   |some j=>
    simp only [De,Dw,B3,Qf]
    congr 3
    omega
theorem QQt:LO Qps Qpq QCw 0:=QI (s:=QgJ) fun x y h _ q=>by simp only [QG,QH] at q;exact (QQs x.1 x.2.2.1 x.2.2.2.1 h).trans q
theorem QQu (l:List Keep)(h:Q8 l=true):QCz l=some (.t tI (Qbq l),[]):=by
 simp only [Q8,Ba] at h
 simp only [QCz,JH h,Qf,By,BG,Qbq]
 cases Zv Z7 l<;>simp [Qf,Qi]
def QCA:Ent:=UL [.ty (.sl Qk),.cf 147] [] (fun x d=>(Q8 x.1)) (fun x d=>(.t tI (Qbq x.1)))
theorem QQv:EM 197 QCA:=mS (lk:=lkL (lkc QQt lkn)) Qps QCv [((.t 4),some tI)] false (gB (gD QQh gN)) fun m=>Fx m fun x d hok=>kT (QQu x.1 hok)
def Ow (l:List Keep):Bool:=l.any Z7
def QQw:TC:=aF Tryz.f146 []
def QQx:G:=gG 9 [(197,QCA)] (fun _ _=>none)
def QCB (p0:List Keep):OV:=br (Q8 p0) (some (.t .bool (ige (Qbq p0) 0),[])) none
theorem QQy (l:List Keep)(h:Q8 l=true):QCB l=some (.t .bool (Ow l),[]):=by
 simp only [QCB,h,Qf]
 congr 3
 unfold Qbq Ow
 cases hq:Zv Z7 l with
 |none=>rw [QgF.1 hq];rfl
 |some k=>rw [QCm hq];simp only [ige,Ba];omega
def QCC:Ent:=UL [.ty (.sl Qk),.cf 147] [] (fun x d=>(Q8 x.1)) (fun x d=>(.t .bool (Ow x.1)))
theorem QQz:EM 146 QCC:=mS QQx QQw [((.t 4),some .bool)] false (gB (gD QQv gN)) fun m=>Fx m fun x d hok=>kT (QQy x.1 hok)
theorem QgM {α:Type}{l:List α}:igt (Qc l) 60= !decide (l.length<=60):=by
 have:igt (Qc l) 60=decide (60<l.length):=QVc
 rw [this]
 by_cases h:l.length<=60
 ·rw [Be h,BF,Bn];omega
 ·rw [Bq h,DB,Ba];omega
def Zs (y:Policy):Bool:=y.1.all Z5&&y.2.1.all Yr&&decide (y.1.length<=60/\y.2.1.length<=60)
def Zt (y:Policy):Int:=if Zs y then 0 else 25
def Q5 (y:Policy):Bool:=Q8 y.1&&Q8 y.2.1
def tc_f90:TC:=aF Tryz.f90 []
def g_f90:G:=gG 25 [(143,QCu),(146,QCC)] (fun _ _=>none)
def r_f90 (p0:Policy):OV:=br (Q8 p0.1) (br (Ov p0.1) (some (.t tI 25,[])) (br (Q8 p0.2.1) (br (Ow p0.2.1) (some (.t tI 25,[])) (br (igt (Qc p0.1) 60) (some (.t tI 25,[])) (br (igt (Qc p0.2.1) 60) (some (.t tI 25,[])) (some (.t tI 0,[]))))) none)) none
theorem s_f90 (y:Policy)(h:Q5 y=true):r_f90 y=some (.t tI (Zt y),[]):=by
 simp only [Q5,Bc] at h
 simp only [r_f90,h.1,h.2,Qf]
 have e1:Ov y.1= !y.1.all Z5:=by simp [Ov,List.any_eq_not_all_not,Z6]
 have e2:Ow y.2.1= !y.2.1.all Yr:=by simp [Ow,List.any_eq_not_all_not,Z7]
 rw [e1,e2]
 unfold Zt Zs
 rw [QgM,QgM]
 by_cases h1:y.1.length<=60<;>by_cases h2:y.2.1.length<=60<;>cases y.1.all Z5<;>cases y.2.1.all Yr<;>simp [Qf,Qi,h1,h2]
def QgN:Ent:=Qo (.pr QE .nil) (fun x=>(Q5 x.1)) (fun x=>(.t tI (Zt x.1)))
theorem Qpt:EM 90 QgN:=mS g_f90 tc_f90 [((.t 2),some tI)] false (gB (gD QQq (gD QQz gN))) fun m=>Qs m fun x hok=>kT (s_f90 x.1 hok)
abbrev QgO:Sh:=⟨[(1,.ptr 1 0),(3,.ty tI)],[(1,.box QE)]⟩
abbrev Qpu:Sh:=⟨[(2,.ty tI)],[]⟩
abbrev QCD:Sh:=⟨[(1,.ptr 1 0)],[(1,.box QE)]⟩
abbrev QgP:Sh:=⟨[(1,.ptr 1 0),(4,.ty tI)],[(1,.box QE)]⟩
def Qpv:Fg:=QgO.f
def Qpw:Fg:=QgP.f
def Qpx:TC:=aF Tryz.f103 [(58,pL 0 Qpv),(931,.fg QCD.f),(7461,.fg Qpu.f),(122,pL 1 Qpw),(1955,.fg Ot.f),(15653,.fg Qpu.f)]
def QCE:TC:=lb 0 Qpx
def QCF:TC:=lb 1 Qpx
def QCG (x3:Int)(y1:Policy):VS:=QgO.st ((),x3,()) (y1,())
def Ox (x2:Int):VS:=Qpu.st (x2,()) ()
def Qpy (y1:Policy):VS:=QCD.st ((),()) (y1,())
def QCH (x4:Int)(y1:Policy):VS:=QgP.st ((),x4,()) (y1,())
def Qpz  : VS:=Ot.st () ()
def QQA:VS->Option (Bool×List (Bool×Exit×VS)):=mkL QgO (fun x y=>(decide (0<=x.2.1/\x.2.1<=y.1.1.length/\y.1.1.length<=100000))) (fun x y=>[(((y.1.1.drop x.2.1.toNat).any Z6),.ret,Ox (25)),(true,.exit 0,Qpy (y.1))])
def QQB:VS->Option (Bool×List (Bool×Exit×VS)):=mkL QgP (fun x y=>(decide (0<=x.2.1/\x.2.1<=y.1.2.1.length/\y.1.2.1.length<=100000))) (fun x y=>[(((y.1.2.1.drop x.2.1.toNat).any Z7),.ret,Ox (25)),(true,.exit 2,Qpz)])
def Qbt:G:=gG 43 [(157,QCh),(158,QCj)] (Ls [QQA,QQB])
def QgQ (x3:Int)(y1:Policy):OX:=Qx (QA Qbt Qpv QCE) (QCG x3 y1)
def Qbu (kk:Int->Policy->OX)(x3:Int)(y1:Policy):OX:=br (ilt x3 (Qc y1.1)) (br (cIx y1.1 x3) (br (!(Z5 (lgt Q4 y1.1 (Int.toNat x3)))) (some (.ret,Ox 25)) (kk (Qj .i64 x3 1) y1)) none) (some (.exit 0,Qpy y1))
def QgR (x3:Int)(y1:Policy):OX:=br ((y1.1.drop x3.toNat).any Z6) (some (.ret,Ox (25)))<|some (.exit 0,Qpy (y1))
theorem QCI (x3:Int)(y1:Policy):QgQ x3 y1=Qbu QgQ x3 y1:=lnT (x:=Qbu (fun x3 y1=>some (.normal,QCG x3 y1)) x3 y1) (by simp only [Qbu,nxA];rfl)
def QgS (x4:Int)(y1:Policy):OX:=Qx (QA Qbt Qpw QCF) (QCH x4 y1)
def Qbv (kk:Int->Policy->OX)(x4:Int)(y1:Policy):OX:=br (ilt x4 (Qc y1.2.1)) (br (cIx y1.2.1 x4) (br (!(Yr (lgt Qk y1.2.1 (Int.toNat x4)))) (some (.ret,Ox 25)) (kk (Qj .i64 x4 1) y1)) none) (some (.exit 2,Qpz))
def QgT (x4:Int)(y1:Policy):OX:=br ((y1.2.1.drop x4.toNat).any Z7) (some (.ret,Ox (25)))<|some (.exit 2,Qpz)
theorem QCJ (x4:Int)(y1:Policy):QgS x4 y1=Qbv QgS x4 y1:=lnT (x:=Qbv (fun x4 y1=>some (.normal,QCH x4 y1)) x4 y1) (by simp only [Qbv,nxA];rfl)
def QCK (p0:Policy):OV:=br (igt (Qc p0.1) 60) (some (.t tI 25,[])) (br (igt (Qc p0.2.1) 60) (some (.t tI 25,[])) (br (decide (0<=(0:Int)/\(0:Int)<=p0.1.length/\p0.1.length<=100000)) (br ((p0.1.drop (0:Int).toNat).any Z6) (some (.t tI (25),[])) (br (decide (0<=(0:Int)/\(0:Int)<=(p0).2.1.length/\(p0).2.1.length<=100000)) (br (((p0).2.1.drop (0:Int).toNat).any Z7) (some (.t tI (25),[])) (some (.t tI 0,[]))) none)) none))
theorem QQC (x3:Int)(y1:Policy)(h:(decide (0<=x3/\x3<=y1.1.length/\y1.1.length<=100000))=true):QgQ x3 y1=QgR x3 y1:=by
 simp only [Ba] at h
 obtain ⟨h1,h2,h3⟩:=h
 obtain ⟨k,rfl⟩:=Bl h1
 refine QQ y1.1 (fun k=>QgQ (k:Int) y1=QgR (k:Int) y1) ?_ ?_ k (by omega)
 ·rw [QCI]
  simp [Qbu,QgR,Qy,Qc,Qi]
 ·intro k hk ih
  rw [QCI]
  simp only [Qbu,Qy,Qc,QK,hk,Bo,Qf,Bb,QO (show k<4611686018427387904 by omega),ih,QL (y:=Q4) hk]
  simp only [QgR,Bb,Bg hk,List.any_cons,Z6]
  cases Z5 y1.1[k]<;>simp [Qf,Qi]
theorem QQD (x4:Int)(y1:Policy)(h:(decide (0<=x4/\x4<=y1.2.1.length/\y1.2.1.length<=100000))=true):QgS x4 y1=QgT x4 y1:=by
 simp only [Ba] at h
 obtain ⟨h1,h2,h3⟩:=h
 obtain ⟨k,rfl⟩:=Bl h1
 refine QQ y1.2.1 (fun k=>QgS (k:Int) y1=QgT (k:Int) y1) ?_ ?_ k (by omega)
 ·rw [QCJ]
  simp [Qbv,QgT,Qy,Qc,Qi]
 ·intro k hk ih
  rw [QCJ]
  simp only [Qbv,Qy,Qc,QK,hk,Bo,Qf,Bb,QO (show k<4611686018427387904 by omega),ih,QL (y:=Qk) hk]
  simp only [QgT,Bb,Bg hk,List.any_cons,Z7]
  cases Yr y1.2.1[k]<;>simp [Qf,Qi]
theorem QQE:LO Qbt Qpv QCE 0:=QI (s:=QgO) fun x y h _ q=>by simp only [QG,QH] at q;exact (QQC x.2.1 y.1 h).trans q
theorem QQF:LO Qbt Qpw QCF 1:=QI (s:=QgP) fun x y h _ q=>by simp only [QG,QH] at q;exact (QQD x.2.1 y.1 h).trans q
theorem s_f103 (y:Policy)(h:Q5 y=true):QCK y=some (.t tI (Zt y),[]):=by
 simp only [Q5,Q8,Bc,Ba] at h
 have g1:decide ((0:Int)<=0/\(0:Int)<=y.1.length/\y.1.length<=100000)=true:=by simp [h.1]
 have g2:decide ((0:Int)<=0/\(0:Int)<=y.2.1.length/\y.2.1.length<=100000)=true:=by simp [h.2]
 simp only [QCK,g1,g2,Qf,By,BG]
 have e1:y.1.any Z6= !y.1.all Z5:=by simp [List.any_eq_not_all_not,Z6]
 have e2:y.2.1.any Z7= !y.2.1.all Yr:=by simp [List.any_eq_not_all_not,Z7]
 rw [e1,e2]
 unfold Zt Zs
 rw [QgM,QgM]
 by_cases h1:y.1.length<=60<;>by_cases h2:y.2.1.length<=60<;>cases y.1.all Z5<;>cases y.2.1.all Yr<;>simp [Qf,Qi,h1,h2]
def QgU:Ent:=Qo (.pr QE .nil) (fun x=>(Q5 x.1)) (fun x=>(.t tI (Zt x.1)))
theorem QpA:EM 103 QgU:=mS (lk:=lkL (lkc QQE (lkc QQF lkn))) Qbt Qpx [((.t 2),some tI)] false (gB (gD QQb (gD QQd gN))) fun m=>Qs m fun x hok=>kT (s_f103 x.1 hok)
end Go.Proofs.YthlcobdnemhcdaaGreat.K
noncomputable section
namespace Go.Proofs.YthlcobdnemhcdaaGreat.K
open Go.RowKit
def Uo (d0:Dice):Rule×Dice:=
 let d1:=Qe d0 3
 let d2:=Ql d1 [14,1,2,5,15,0,16,10,20,7]
 let b2:=done d2 2
 let d3:=Qe d2 2
 let below:=if b2 then dof d3 [2048,256,1024,3072,129] else 0
 let d4:=if b2 then Ql d3 [2048,256,1024,3072,129] else d3
 let b4:=done d4 3
 let d5:=Qe d4 3
 let purpose:=if b4 then Qj .i64 1 (Qh d5 4) else 0
 let d6:=if b4 then Qe d5 4 else d5
 let b6:=done d6 2
 let d7:=Qe d6 2
 let frm:=if b6 then dof d7 [10,30,100,7] else 0
 let d8:=if b6 then Ql d7 [10,30,100,7] else d7
 let b8:=done d8 3
 let d9:=Qe d8 3
 let to:=if b8 then Qj .i64 frm (dof d9 [20,1,200]) else 40001
 let d10:=if b8 then Ql d9 [20,1,200] else d9
 ((done d0 3,(dof d1 [14,1,2,5,15,0,16,10,20,7],(below,(purpose,(frm,(to,())))))),d10)
def Xc:Nat->Dice->List Rule×Dice
 |0,d=>([],d)
 |n+1,d=>((Uo d).1::(Xc n (Uo d).2).1,(Xc n (Uo d).2).2)
def GX (d:Dice):Keep×Dice:=((Qj .i64 1 (Qh d 4),(dof (Qe d 4) [10,100,3000],())),Ql (Qe d 4) [10,100,3000])
def Wl:Nat->Dice->List Keep×Dice
 |0,d=>([],d)
 |n+1,d=>((GX d).1::(Wl n (GX d).2).1,(Wl n (GX d).2).2)
def Qbd (d:Dice):List Rule×Dice:=Xc (Qh d 7).toNat (Qe d 7)
def polK (d:Dice):List Keep×Dice:=Wl (Qh (Qbd d).2 3).toNat (Qe (Qbd d).2 3)
def YN (d:Dice):Policy:=((Qbd d).1,((polK d).1,()))
def EF (d:Dice):Dice:=(polK d).2
theorem QBu {d:Dice}(h:dOk d=true):dOk (Uo d).2=true:=by
 unfold Uo
 simp only
 repeat' split
 all_goals (repeat first|exact h|apply QB|apply Jc)
theorem QBv {n:Nat}: ∀ {d:Dice},dOk d=true->dOk (Xc n d).2=true:=by
 induction n with
 |zero=>exact fun h=>h
 |succ n ih=>exact fun h=>ih (QBu h)
theorem QBw {d:Dice}(h:dOk d=true):dOk (GX d).2=true:=Jc (l:=[10,100,3000]) (QB h)
theorem QPC {n:Nat}: ∀ {d:Dice},dOk d=true->dOk (Wl n d).2=true:=by
 induction n with
 |zero=>exact fun h=>h
 |succ n ih=>exact fun h=>ih (QBw h)
theorem QBx {d:Dice}(h:dOk d=true):dOk (EF d)=true:=QPC (QB (QBv (QB h)))
theorem QPD (d:Dice):Z5 (Uo d).1=true:=by
 have ga: ∀ d:Dice,0<=dof d [14,1,2,5,15,0,16,10,20,7]/\dof d [14,1,2,5,15,0,16,10,20,7]<=22:=fun d=>by
  have h:=Zo (d:=d) (l:=[14,1,2,5,15,0,16,10,20,7]) (by decide)
  simp only [BA,BQ,Dd] at h
  omega
 have gb: ∀ d:Dice,0<=dof d [2048,256,1024,3072,129]/\dof d [2048,256,1024,3072,129]<=16384:=fun d=>by
  have h:=Zo (d:=d) (l:=[2048,256,1024,3072,129]) (by decide)
  simp only [BA,BQ,Dd] at h
  omega
 have gf: ∀ d:Dice,0<=dof d [10,30,100,7]/\dof d [10,30,100,7]<=100:=fun d=>by
  have h:=Zo (d:=d) (l:=[10,30,100,7]) (by decide)
  simp only [BA,BQ,Dd] at h
  omega
 have gt: ∀ d:Dice,1<=dof d [20,1,200]/\dof d [20,1,200]<=200:=fun d=>by
  have h:=Zo (d:=d) (l:=[20,1,200]) (by decide)
  simp only [BA,BQ,Dd] at h
  omega
 have gp: ∀ d:Dice,1<=Qj .i64 1 (Qh d 4)/\Qj .i64 1 (Qh d 4)<=4:=fun d=>by
  have h:=Q7 (d:=d) (n:=4) (by omega)
  rw [Jz (by omega)]
  omega
 have gu: ∀ (x:Int) (d:Dice),0<=x->x<=100->Qj .i64 x (dof d [20,1,200])=x+dof d [20,1,200]:=fun x d h1 h2=>by
  have h:=gt d
  exact Jz (by omega)
 unfold Z5
 rw [Ba]
 unfold Uo
 simp only [Estate.Endpoints,Estate.Edges,Estate.Items,Policy.Rules,Policy.Keeps,Keep.Alg,Keep.Bits,Link.Use,Link.Day,Job.Item,Job.Link,Item.Name,Item.Kind,Item.Purpose,Item.Links,Item.Until,Rule.Allow,Rule.Alg,Rule.Below,Rule.Purpose,Rule.From,Rule.To,Exception.Use,Exception.Purpose,Exception.Endpoint,Exception.Days,Exception.Seals,Dice.L,Dice.At,Endpoint.Name,Endpoint.Least,Endpoint.Most,Endpoint.Suites,Endpoint.OwnOrder,Endpoint.Identities,Endpoint.Anchors,Endpoint.Hashes,Endpoint.Fallback,Identity.Key,Identity.KeyId,Identity.Chain,Change.Endpoint,Change.Kind,Change.Number,Change.At,Change.Identity,Rules.p,Rules.l,Rules.o,Rules.day,Method.outcome,Method.uses,Certificate.Serial,Certificate.Issuer,Certificate.Subject,Certificate.Key,Certificate.KeyId,Certificate.Hash,Certificate.From,Certificate.To,Certificate.Authority,Certificate.Path,Certificate.Names,Certificate.Seal,LinkX.day,LinkX.fall,LinkX.falls,Suite.Code,Suite.Name,Suite.Exchange,Suite.Sign,Suite.Cipher,Suite.Mac,Suite.Least,Suite.Most,Row.name,Row.kind,Row.way,Row.sizes,Row.strengths,Talk.server,Talk.version,Talk.suites,Symbol.name,Symbol.kind]
 have pB: ∀ (b:Bool) (e:Dice),(0<=if b=true then dof e [2048,256,1024,3072,129] else 0)/\(if b=true then dof e [2048,256,1024,3072,129] else 0)<=16384:=by
  intro b e
  have h:=gb e
  cases b<;>simp only [BK,if_true,Dc]<;>omega
 have pP: ∀ (b:Bool) (e:Dice),(0<=if b=true then Qj .i64 1 (Qh e 4) else 0)/\(if b=true then Qj .i64 1 (Qh e 4) else 0)<=4:=by
  intro b e
  have h:=gp e
  cases b<;>simp only [BK,if_true,Dc]<;>omega
 refine ⟨(ga _).1,(ga _).2,(pB _ _).1,(pB _ _).2,(pP _ _).1,(pP _ _).2, ?_⟩
 have key: ∀ (b1 b2:Bool) (e1 e2:Dice),(0<=if b1=true then dof e1 [10,30,100,7] else 0)/\(if b1=true then dof e1 [10,30,100,7] else 0)<(if b2=true then Qj .i64 (if b1=true then dof e1 [10,30,100,7] else 0) (dof e2 [20,1,200]) else 40001)/\(if b2=true then Qj .i64 (if b1=true then dof e1 [10,30,100,7] else 0) (dof e2 [20,1,200]) else 40001)<=40001:=by
  intro b1 b2 e1 e2
  have h1:=gf e1
  have h2:=gt e2
  cases b1<;>cases b2<;>simp only [BK,if_true,Dc]
  ·omega
  ·rw [gu _ _ (by omega) (by omega)];omega
  ·omega
  ·rw [gu _ _ (by omega) (by omega)];omega
 exact key _ _ _ _
theorem QBy: ∀ (n:Nat) (d:Dice),(Xc n d).1.length=n∧ ∀ r,r∈(Xc n d).1->Z5 r=true
 |0,d=>⟨rfl,fun r h=>by cases h⟩
 |n+1,d=>by
  obtain ⟨h1,h2⟩:=QBy n (Uo d).2
  refine ⟨by simp only [Xc,Br,h1],fun r h=> ?_⟩
  rcases BA.1 h with rfl|h
  ·exact QPD d
  ·exact h2 r h
theorem QPE (d:Dice):Yr (GX d).1=true:=by
 have h:=Zo (d:=Qe d 4) (l:=[10,100,3000]) (by decide)
 simp only [BA,BQ,Dd] at h
 have h2:=Q7 (d:=d) (n:=4) (by omega)
 have h3:Qj .i64 1 (Qh d 4)=1+Qh d 4:=Jz (by omega)
 unfold Yr GX
 rw [Ba]
 simp only [h3]
 omega
theorem QBz: ∀ (n:Nat) (d:Dice),(Wl n d).1.length=n∧ ∀ r,r∈(Wl n d).1->Yr r=true
 |0,d=>⟨rfl,fun r h=>by cases h⟩
 |n+1,d=>by
  obtain ⟨h1,h2⟩:=QBz n (GX d).2
  refine ⟨by simp only [Wl,Br,h1],fun r h=> ?_⟩
  rcases BA.1 h with rfl|h
  ·exact QPE d
  ·exact h2 r h
end Go.Proofs.YthlcobdnemhcdaaGreat.K
noncomputable section
namespace Go.Proofs.YthlcobdnemhcdaaGreat.K
open Go.RowKit
abbrev QdR:Sh:=⟨[(0,.ptr 50000 0),(2,.ptr 2 0),(3,.ptr 3 0),(4,.ty tI)],[(2,.box QE),(3,.bag [.ms 20300,.ms 20301]),(50,.no),(68,.no),(20300,.arr 66 Q4),(20301,.arr 131 Qk),(50000,.box Qt)]⟩
abbrev QKU:Sh:=⟨[(0,.ptr 50000 0),(2,.ptr 2 0),(3,.ptr 3 0)],[(2,.box QE),(3,.bag [.ms 20300,.ms 20301]),(50,.no),(68,.no),(20300,.arr 66 Q4),(20301,.arr 131 Qk),(50000,.box Qt)]⟩
abbrev QdS:Sh:=⟨[(0,.ptr 50000 0),(2,.ptr 2 0),(3,.ptr 3 0),(6,.ty tI)],[(2,.box QE),(3,.bag [.ms 20300,.ms 20301]),(50,.no),(68,.no),(20300,.arr 66 Q4),(20301,.arr 131 Qk),(50000,.box Qt)]⟩
abbrev QKV:Sh:=⟨[(2,.ptr 2 0),(3,.ptr 3 0)],[(2,.box QE),(3,.bag [.ms 20300,.ms 20301]),(50,.no),(68,.no),(20300,.arr 66 Q4),(20301,.arr 131 Qk),(50000,.box Qt)]⟩
def QlQ:Fg:=QdR.f
def QlR:Fg:=QdS.f
def QlS:TC:=aF Tryz.f31 [(58,.nf 3 1 131 20301),(58,.nf 3 0 66 20300),(58,pL 0 QlQ),(931,.fg ⟨[(0,none),(2,none),(3,none)],[(2,some QE),(3,some QE),(50,none),(68,none),(20300,none),(20301,none),(50000,some Qt)]⟩),(119418,pD [(0,[5]),(1,[5]),(2,[50000]),(3,[]),(4,[43,5043,10043,15043,50000]),(5,[]),(6,[5]),(7,[5])] (.of [0,1,2,3,4,5,6,7])),(122,.nf 3 0 66 20300),(122,.nf 3 1 131 20301),(122,pL 1 QlR),(1955,.fg ⟨[(2,none),(3,none)],[(2,some QE),(3,some QE),(50,none),(68,none),(20300,none),(20301,none),(50000,some Qt)]⟩),(1956,pD [(0,[3,50,68,20300,20301]),(1,[3,50,68,20300,20301]),(2,[50000]),(3,[61,5061,10061,15061,50000]),(4,[]),(5,[50000]),(6,[]),(7,[65,5065,10065,15065,50000]),(8,[]),(9,[]),(10,[2,3,50,68,5068,10068,15068,20300,20301]),(11,[3,50,68,20300,20301]),(12,[2,3,50,68,20300,20301])] (.of [0,1,2,5,6,3,4,7,8,9,10,11,12]))]
def Qv6:TC:=lb 0 QlS
def Qv7:TC:=lb 1 QlS
def Qv8 (x4:Int)(y2:Policy)(Qb:List Rule)(Qg:List Keep)(Qa:Dice):VS:=QdR.st ((),(),(),x4,()) (y2,((),(),()),(),(),Qb,Qg,Qa,())
def QlT (y2:Policy)(Qb:List Rule)(Qg:List Keep)(Qa:Dice):VS:=QKU.st ((),(),(),()) (y2,((),(),()),(),(),Qb,Qg,Qa,())
def Qv9 (x6:Int)(y2:Policy)(Qb:List Rule)(Qg:List Keep)(Qa:Dice):VS:=QdS.st ((),(),(),x6,()) (y2,((),(),()),(),(),Qb,Qg,Qa,())
def QlU (y2:Policy)(Qb:List Rule)(Qg:List Keep)(Qa:Dice):VS:=QKV.st ((),(),()) (y2,((),(),()),(),(),Qb,Qg,Qa,())
def QKW:VS->Option (Bool×List (Bool×Exit×VS)):=mkL QdR (fun x y=>(dOk y.2.2.2.2.2.2.1&&decide (0<=x.2.2.2.1/\x.2.2.2.1<=100/\y.2.2.2.2.1.length+x.2.2.2.1.toNat<=1000))) (fun x y=>[(true,.exit 0,QlT (y.1) (y.2.2.2.2.1++(Xc x.2.2.2.1.toNat y.2.2.2.2.2.2.1).1) (y.2.2.2.2.2.1) ((Xc x.2.2.2.1.toNat y.2.2.2.2.2.2.1).2))])
def QKX:VS->Option (Bool×List (Bool×Exit×VS)):=mkL QdS (fun x y=>(dOk y.2.2.2.2.2.2.1&&decide (0<=x.2.2.2.1/\x.2.2.2.1<=100/\y.2.2.2.2.2.1.length+x.2.2.2.1.toNat<=1000))) (fun x y=>[(true,.exit 2,QlU (y.1) (y.2.2.2.2.1) (y.2.2.2.2.2.1++(Wl x.2.2.2.1.toNat y.2.2.2.2.2.2.1).1) ((Wl x.2.2.2.1.toNat y.2.2.2.2.2.2.1).2))])
def VZ:G:=gG 71 [(32,Xl),(35,F5),(50,WZ)] (Ls [QKW,QKX])
def QlV (x4:Int)(y2:Policy)(Qb:List Rule)(Qg:List Keep)(Qa:Dice):OX:=Qx (QA VZ QlQ Qv6) (Qv8 x4 y2 Qb Qg Qa)
def V0 (kk:Int->Policy->List Rule->List Keep->Dice->OX)(x4:Int)(y2:Policy)(Qb:List Rule)(Qg:List Keep)(Qa:Dice):OX:=
 let a21:=(Ql (Qe Qa 3) ([14,1,2,5,15,0,16,10,20,7]))
 let a1:=Qe a21 2
 let a29:=(Ql a1 ([2048,256,1024,3072,129]))
 let a2:=Qe a29 3
 let a3:=(dof (Qe Qa 3) ([14,1,2,5,15,0,16,10,20,7]))
 let a4:=Qe (Qe (Qe a1 3) 4) 2
 let a5:=(dof a1 ([2048,256,1024,3072,129]))
 let a6:=Qe (Qe a2 4) 2
 let a7:=Qe (Qe a1 3) 2
 let a8:=done Qa 3
 let a9:=Qj .i64 1 (Qh (Qe a1 3) 4)
 let a10:=(Ql (Qe a2 2) ([10,30,100,7]))
 let a11:=Qw .i64 x4 1
 let a12:=(dof (Qe a2 2) ([10,30,100,7]))
 let a13:=Qj .i64 1 (Qh a2 4)
 let a14:=(Ql a6 ([10,30,100,7]))
 let a15:=(Ql a4 ([10,30,100,7]))
 let a16:=(Ql a7 ([10,30,100,7]))
 let a17:=(dof a6 ([10,30,100,7]))
 let a18:=(dof a4 ([10,30,100,7]))
 let a19:=(dof a7 ([10,30,100,7]))
 let a20:=Qe (Qe a2 2) 3
 let a22:=(Qj .i64 a17 (dof (Qe a14 3) ([20,1,200])))
 let a23:=(Qj .i64 a12 (dof (Qe a10 3) ([20,1,200])))
 let a24:=(Qj .i64 a18 (dof (Qe a15 3) ([20,1,200])))
 let a25:=(Qj .i64 a19 (dof (Qe a16 3) ([20,1,200])))
 let a26:=(Qj .i64 0 (dof (Qe a6 3) ([20,1,200])))
 let a27:=(Qj .i64 0 (dof (Qe a4 3) ([20,1,200])))
 let a28:=(Qj .i64 0 (dof (Qe a7 3) ([20,1,200])))
 let a30:=(Qj .i64 0 (dof a20 ([20,1,200])))
 br (igt x4 0) (br (QT Qa 3) (br (QM (Qe Qa 3) ([14,1,2,5,15,0,16,10,20,7])) (br (QT a21 2) (br (done a21 2) (br (QM a1 ([2048,256,1024,3072,129])) (br (QT a29 3) (br (done a29 3) (br (Qz a2 4) (br (QT (Qe a2 4) 2) (br (done (Qe a2 4) 2) (br (QM a6 ([10,30,100,7])) (br (QT a14 3) (br (done a14 3) (br (QM (Qe a14 3) ([20,1,200])) (br (Qq Qb ([(a8,(a3,(a5,(a13,(a17,(a22,()))))))]) 48) (kk a11 y2 (Qb++([(a8,(a3,(a5,(a13,(a17,(a22,()))))))])) Qg (Ql (Qe a14 3) ([20,1,200]))) none) none) (br (Qq Qb ([(a8,(a3,(a5,(a13,(a17,(40001,()))))))]) 48) (kk a11 y2 (Qb++([(a8,(a3,(a5,(a13,(a17,(40001,()))))))])) Qg (Qe a14 3)) none)) none) none) (br (QT a6 3) (br (done a6 3) (br (QM (Qe a6 3) ([20,1,200])) (br (Qq Qb ([(a8,(a3,(a5,(a13,(0,(a26,()))))))]) 48) (kk a11 y2 (Qb++([(a8,(a3,(a5,(a13,(0,(a26,()))))))])) Qg (Ql (Qe a6 3) ([20,1,200]))) none) none) (br (Qq Qb ([(a8,(a3,(a5,(a13,(0,(40001,()))))))]) 48) (kk a11 y2 (Qb++([(a8,(a3,(a5,(a13,(0,(40001,()))))))])) Qg (Qe a6 3)) none)) none)) none) none) (br (QT a2 2) (br (done a2 2) (br (QM (Qe a2 2) ([10,30,100,7])) (br (QT a10 3) (br (done a10 3) (br (QM (Qe a10 3) ([20,1,200])) (br (Qq Qb ([(a8,(a3,(a5,(0,(a12,(a23,()))))))]) 48) (kk a11 y2 (Qb++([(a8,(a3,(a5,(0,(a12,(a23,()))))))])) Qg (Ql (Qe a10 3) ([20,1,200]))) none) none) (br (Qq Qb ([(a8,(a3,(a5,(0,(a12,(40001,()))))))]) 48) (kk a11 y2 (Qb++([(a8,(a3,(a5,(0,(a12,(40001,()))))))])) Qg (Qe a10 3)) none)) none) none) (br (QT (Qe a2 2) 3) (br (done (Qe a2 2) 3) (br (QM a20 ([20,1,200])) (br (Qq Qb ([(a8,(a3,(a5,(0,(0,(a30,()))))))]) 48) (kk a11 y2 (Qb++([(a8,(a3,(a5,(0,(0,(a30,()))))))])) Qg (Ql a20 ([20,1,200]))) none) none) (br (Qq Qb ([(a8,(a3,(a5,(0,(0,(40001,()))))))]) 48) (kk a11 y2 (Qb++([(a8,(a3,(a5,(0,(0,(40001,()))))))])) Qg a20) none)) none)) none)) none) none) (br (QT a1 3) (br (done a1 3) (br (Qz (Qe a1 3) 4) (br (QT (Qe (Qe a1 3) 4) 2) (br (done (Qe (Qe a1 3) 4) 2) (br (QM a4 ([10,30,100,7])) (br (QT a15 3) (br (done a15 3) (br (QM (Qe a15 3) ([20,1,200])) (br (Qq Qb ([(a8,(a3,(0,(a9,(a18,(a24,()))))))]) 48) (kk a11 y2 (Qb++([(a8,(a3,(0,(a9,(a18,(a24,()))))))])) Qg (Ql (Qe a15 3) ([20,1,200]))) none) none) (br (Qq Qb ([(a8,(a3,(0,(a9,(a18,(40001,()))))))]) 48) (kk a11 y2 (Qb++([(a8,(a3,(0,(a9,(a18,(40001,()))))))])) Qg (Qe a15 3)) none)) none) none) (br (QT a4 3) (br (done a4 3) (br (QM (Qe a4 3) ([20,1,200])) (br (Qq Qb ([(a8,(a3,(0,(a9,(0,(a27,()))))))]) 48) (kk a11 y2 (Qb++([(a8,(a3,(0,(a9,(0,(a27,()))))))])) Qg (Ql (Qe a4 3) ([20,1,200]))) none) none) (br (Qq Qb ([(a8,(a3,(0,(a9,(0,(40001,()))))))]) 48) (kk a11 y2 (Qb++([(a8,(a3,(0,(a9,(0,(40001,()))))))])) Qg (Qe a4 3)) none)) none)) none) none) (br (QT (Qe a1 3) 2) (br (done (Qe a1 3) 2) (br (QM a7 ([10,30,100,7])) (br (QT a16 3) (br (done a16 3) (br (QM (Qe a16 3) ([20,1,200])) (br (Qq Qb ([(a8,(a3,(0,(0,(a19,(a25,()))))))]) 48) (kk a11 y2 (Qb++([(a8,(a3,(0,(0,(a19,(a25,()))))))])) Qg (Ql (Qe a16 3) ([20,1,200]))) none) none) (br (Qq Qb ([(a8,(a3,(0,(0,(a19,(40001,()))))))]) 48) (kk a11 y2 (Qb++([(a8,(a3,(0,(0,(a19,(40001,()))))))])) Qg (Qe a16 3)) none)) none) none) (br (QT a7 3) (br (done a7 3) (br (QM (Qe a7 3) ([20,1,200])) (br (Qq Qb ([(a8,(a3,(0,(0,(0,(a28,()))))))]) 48) (kk a11 y2 (Qb++([(a8,(a3,(0,(0,(0,(a28,()))))))])) Qg (Ql (Qe a7 3) ([20,1,200]))) none) none) (br (Qq Qb ([(a8,(a3,(0,(0,(0,(40001,()))))))]) 48) (kk a11 y2 (Qb++([(a8,(a3,(0,(0,(0,(40001,()))))))])) Qg (Qe a7 3)) none)) none)) none)) none)) none) none) none) (some (.exit 0,QlT y2 Qb Qg Qa))
def V1 (x4:Int)(y2:Policy)(Qb:List Rule)(Qg:List Keep)(Qa:Dice):OX:=
 let a1:=Xc x4.toNat Qa
 some (.exit 0,QlT (y2) (Qb++a1.1) (Qg) (a1.2))
theorem Qwa (x4:Int)(y2:Policy)(Qb:List Rule)(Qg:List Keep)(Qa:Dice):QlV x4 y2 Qb Qg Qa=V0 QlV x4 y2 Qb Qg Qa:=lnT (x:=V0 (fun x4 y2 Qb Qg Qa=>some (.normal,Qv8 x4 y2 Qb Qg Qa)) x4 y2 Qb Qg Qa) (by simp only [V0,nxA];rfl)
def QlW (x6:Int)(y2:Policy)(Qb:List Rule)(Qg:List Keep)(Qa:Dice):OX:=Qx (QA VZ QlR Qv7) (Qv9 x6 y2 Qb Qg Qa)
def V2 (kk:Int->Policy->List Rule->List Keep->Dice->OX)(x6:Int)(y2:Policy)(Qb:List Rule)(Qg:List Keep)(Qa:Dice):OX:=
 let a1:=Qe Qa 4
 let a2:=Qj .i64 1 (Qh Qa 4)
 let a3:=(dof a1 ([10,100,3000]))
 br (igt x6 0) (br (Qz Qa 4) (br (QM a1 ([10,100,3000])) (br (Qq Qg ([(a2,(a3,()))]) 16) (kk (Qw .i64 x6 1) y2 Qb (Qg++([(a2,(a3,()))])) (Ql a1 ([10,100,3000]))) none) none) none) (some (.exit 2,QlU y2 Qb Qg Qa))
def V3 (x6:Int)(y2:Policy)(Qb:List Rule)(Qg:List Keep)(Qa:Dice):OX:=
 let a1:=Wl x6.toNat Qa
 some (.exit 2,QlU (y2) (Qb) (Qg++a1.1) (a1.2))
theorem Qwb (x6:Int)(y2:Policy)(Qb:List Rule)(Qg:List Keep)(Qa:Dice):QlW x6 y2 Qb Qg Qa=V2 QlW x6 y2 Qb Qg Qa:=lnT (x:=V2 (fun x6 y2 Qb Qg Qa=>some (.normal,Qv9 x6 y2 Qb Qg Qa)) x6 y2 Qb Qg Qa) (by simp only [V2,nxA];rfl)
def r_f31 (d0:Dice):OV:=
 let a1:=Xc (Qh d0 7).toNat (Qe d0 7)
 let a2:=Qh (a1.2) 3
 let a3:=Wl a2.toNat (Qe (a1.2) 3)
 br (Qz d0 7) (br (dOk (Qe d0 7)&&decide (0<=(Qh d0 7)/\(Qh d0 7)<=100/\([]:List Rule).length+(Qh d0 7).toNat<=1000)) (br (Qz (a1.2) 3) (br (dOk (Qe (a1.2) 3)&&decide (0<=a2/\a2<=100/\([]:List Keep).length+a2.toNat<=1000)) (some (.ag [(.ms 50001),(.ms 50002)],[.box (.t Qt (a3.2)),.arr 66 Q4 (([]:List Rule)++a1.1),.arr 131 Qk (([]:List Keep)++a3.1)])) none) none) none) none
theorem QKY (x4:Int)(y2:Policy)(Qb:List Rule)(Qg:List Keep)(Qa:Dice)(h:(dOk Qa&&decide (0<=x4/\x4<=100/\Qb.length+x4.toNat<=1000))=true):QlV x4 y2 Qb Qg Qa=V1 x4 y2 Qb Qg Qa:=by
 simp only [Bc,Ba] at h
 obtain ⟨hd,h1,h2q,h3⟩:=h
 obtain ⟨k,rfl⟩:=Bl h1
 rw [Bb] at h3
 have h2:k<=100:=by omega
 clear h1 h2q
 induction k generalizing Qb Qa with
 |zero=>
  rw [Qwa]
  have e1:igt ((0:Nat):Int) 0=false:=rfl
  simp only [V0,e1,Qi,V1,Bb,Xc,BL]
 |succ k ih=>
  rw [Qwa]
  have e1:igt ((k+1:Nat):Int) 0=true:=by simp only [igt,Ba];omega
  have e2:Qw .i64 ((k+1:Nat):Int) 1=(k:Int):=by rw [JO (by omega)];omega
  simp only [V0,e1,e2,Qf]
  have hla:V1 ((k+1:Nat):Int) y2 Qb Qg Qa=V1 (k:Int) y2 (Qb++[(Uo Qa).1]) Qg (Uo Qa).2:=by
   simp only [V1,Bb,Xc,BI]
   rfl
  rw [hla, ← ih _ _ (QBu hd) (by simp;omega) (by omega)]
  clear ih hla
  have hi: ∀ x:Rule,Qq Qb [x] 48=true:=fun x=>WY (by simp;omega) (by omega)
  have o2: ∀ d,dOk d=true->QT d 2=true:=fun d h=>by simp [QT,Qz,h]
  have o3: ∀ d,dOk d=true->QT d 3=true:=fun d h=>by simp [QT,Qz,h]
  have n4: ∀ d,dOk d=true->Qz d 4=true:=fun d h=>by simp [Qz,h]
  have f1: ∀ d,dOk d=true->QM d [14,1,2,5,15,0,16,10,20,7]=true:=fun d h=>by simp [QM,h]
  have f2: ∀ d,dOk d=true->QM d [2048,256,1024,3072,129]=true:=fun d h=>by simp [QM,h]
  have f3: ∀ d,dOk d=true->QM d [10,30,100,7]=true:=fun d h=>by simp [QM,h]
  have f4: ∀ d,dOk d=true->QM d [20,1,200]=true:=fun d h=>by simp [QM,h]
  simp (maxDischargeDepth:=30) only [o2,o3,n4,f1,f2,f3,f4,Qy4,Jc,hd,hi,Qf]
  repeat' (refine QY ?_ ?_<;>intro _)
  all_goals simp only [Uo, *, if_true,Dc,BK]
theorem QKZ (x6:Int)(y2:Policy)(Qb:List Rule)(Qg:List Keep)(Qa:Dice)(h:(dOk Qa&&decide (0<=x6/\x6<=100/\Qg.length+x6.toNat<=1000))=true):QlW x6 y2 Qb Qg Qa=V3 x6 y2 Qb Qg Qa:=by
 simp only [Bc,Ba] at h
 obtain ⟨hd,h1,h2q,h3⟩:=h
 obtain ⟨k,rfl⟩:=Bl h1
 rw [Bb] at h3
 have h2:k<=100:=by omega
 clear h1 h2q
 induction k generalizing Qg Qa with
 |zero=>
  rw [Qwb]
  have e1:igt ((0:Nat):Int) 0=false:=rfl
  simp only [V2,e1,Qi,V3,Bb,Wl,BL]
 |succ k ih=>
  rw [Qwb]
  have e1:igt ((k+1:Nat):Int) 0=true:=by simp only [igt,Ba];omega
  have e2:Qw .i64 ((k+1:Nat):Int) 1=(k:Int):=by rw [JO (by omega)];omega
  simp only [V2,e1,e2,Qf]
  have hla:V3 ((k+1:Nat):Int) y2 Qb Qg Qa=V3 (k:Int) y2 Qb (Qg++[(GX Qa).1]) (GX Qa).2:=by
   simp only [V3,Bb,Wl,BI]
   rfl
  rw [hla, ← ih _ _ (QBw hd) (by simp;omega) (by omega)]
  clear ih hla
  have hi: ∀ x:Keep,Qq Qg [x] 16=true:=fun x=>WY (by simp;omega) (by omega)
  have n4: ∀ d,dOk d=true->Qz d 4=true:=fun d h=>by simp [Qz,h]
  have f1: ∀ d,dOk d=true->QM d [10,100,3000]=true:=fun d h=>by simp [QM,h]
  simp (maxDischargeDepth:=30) only [n4,f1,Qy4,Jc,hd,hi,Qf]
  rfl
theorem QK0:LO VZ QlQ Qv6 0:=QI (s:=QdR) fun x y h _ q=>by simp only [QG,QH] at q;exact (QKY x.2.2.2.1 y.1 y.2.2.2.2.1 y.2.2.2.2.2.1 y.2.2.2.2.2.2.1 h).trans q
theorem QK1:LO VZ QlR Qv7 1:=QI (s:=QdS) fun x y h _ q=>by simp only [QG,QH] at q;exact (QKZ x.2.2.2.1 y.1 y.2.2.2.2.1 y.2.2.2.2.2.1 y.2.2.2.2.2.2.1 h).trans q
theorem s_f31 (d:Dice)(h:dOk d=true):r_f31 d=some (.ag [.ms 50001,.ms 50002],[.box (.t Qt (EF d)),.arr 66 Q4 (YN d).1,.arr 131 Qk (YN d).2.1]):=by
 have n7: ∀ d,dOk d=true->Qz d 7=true:=fun d h=>by simp [Qz,h]
 have n3: ∀ d,dOk d=true->Qz d 3=true:=fun d h=>by simp [Qz,h]
 have b7:=Q7 (d:=d) (n:=7) (by omega)
 have h2:dOk (Xc (Qh d 7).toNat (Qe d 7)).2=true:=QBv (QB h)
 have b3:=Q7 (d:=(Xc (Qh d 7).toNat (Qe d 7)).2) (n:=3) (by omega)
 simp only [r_f31,n7 d h,Qf,BV]
 rw [QB h,Bu,Yv ⟨b7.1,by omega,by rw [Bv];omega⟩,Qf,n3 _ h2,Qf,QB h2,Bu,Yv ⟨b3.1,by omega,by rw [Bv];omega⟩,Qf]
 rfl
def Qwc:Ent:=XA [.ptr 50000 0] [.box Qt] (fun x y=>(dOk y.1)) (fun x y=>(.ag [(.ms 50001),(.ms 50002)])) (fun x y=>[.box (.t Qt (EF y.1)),.arr 66 Q4 ((YN y.1).1),.arr 131 Qk (((YN y.1).2).1)])
theorem ms_f31:EM 31 Qwc:=mS (lk:=lkL (lkc QK0 (lkc QK1 lkn))) VZ QlS [((.c 2 true 2),none)] true (gB (gD XM (gD E5 (gD UB gN)))) fun m=>X8 m fun x y hok=>kT (s_f31 y.1 hok)
end Go.Proofs.YthlcobdnemhcdaaGreat.K
noncomputable section
namespace Go.Proofs.YthlcobdnemhcdaaGreat.K
open Go.RowKit Go.Conc
def WN (P:Program)(c:Code)(Q:Exit->Act->World->Prop)(a:Act)(w:World):Prop:=
 ∀ (b:Frame) (k:List Go.Item) (cs:List Frame),b.kind≠ .early→ ∃ e a' w',Q e a' w'/\Arrives P (lone (b.at a (.code c::k)) cs w) b k cs e a' w'
def LN (P:Program)(ops:Array Oper)(Q:Exit->Act->World->Prop)(l:List Nat)(a:Act)(w:World):Prop:=
 ∀ (b:Frame) (k:List Go.Item) (cs:List Frame),b.kind≠ .early→ ∃ e a' w',Q e a' w'/\Arrives P (lone (b.at a (.inRegion ops l::k)) cs w) b k cs e a' w'
section
variable {P:Program}{Q:Exit->Act->World->Prop}{a:Act}{w:World}{ops:Array Oper}
theorem WN.of {c:Code}(h:c.wp P Q a w):WN P c Q a w:=fun b k cs _=>h b k cs
theorem WN.seq {x y:Code}(h:WN P x (Exit.then (WN P y Q) Q) a w):WN P (.seq x y) Q a w:=by
 intro b k cs hb
 obtain ⟨e,a1,w1,hq,hr⟩:=h b (.code y::k) cs hb
 cases e with
 |normal=>
  obtain ⟨e2,a2,w2,hq2,hr2⟩:=hq b k cs hb
  exact ⟨e2,a2,w2,hq2,.of_steps (.head step_seq hr) hr2⟩
 |exit n=>exact ⟨_,a1,w1,hq,.of_steps (.one step_seq) (.pass (x:= .code y) rfl (fun _ _=> .inl (by simp)) hr)⟩
 |goto n=>exact ⟨_,a1,w1,hq,.of_steps (.one step_seq) (.pass (x:= .code y) rfl (fun _ _=> .inl (by simp)) hr)⟩
 |ret=>exact ⟨_,a1,w1,hq,.of_steps (.one step_seq) (.pass (x:= .code y) rfl (fun _ _=> .inl (by simp)) hr)⟩
 |panic n=>exact ⟨_,a1,w1,hq,.of_steps (.one step_seq) (.pass (x:= .code y) rfl (fun _ _=> .inl (by simp)) hr)⟩
 |outgrown=>exact ⟨_,a1,w1,hq,.of_steps (.one step_seq) (.pass (x:= .code y) rfl (fun _ _=> .inl (by simp)) hr)⟩
theorem WN.block {id:Nat}{c:Code}(h:WN P c (Exit.inBlock id Q) a w):WN P (.block id c) Q a w:=by
 intro b k cs hb
 obtain ⟨e,a1,w1,hq,hr⟩:=h b (.inBlock id::k) cs hb
 cases e with
 |normal=>exact ⟨.normal,a1,w1,hq,.head step_block (Steps.trans hr (.one step_inBlock))⟩
 |exit n=>
  by_cases hn:n=id
  ·simp only [Exit.inBlock,hn,if_true] at hq
   exact ⟨.normal,a1,w1,hq,.head step_block (hr k (by simp [exitTo,hn]))⟩
  ·simp only [Exit.inBlock,hn,Dc] at hq
   refine ⟨.exit n,a1,w1,hq,fun k' hk=> .head step_block (hr k' ?_)⟩
   have hne:(id==n)=false:=by simp;exact fun h=>hn h.symm
   simp [exitTo,hne,hk]
 |goto n=>exact ⟨_,a1,w1,hq,fun k' hk=> .head step_block (hr k' (by simp [gotoIn,hk]))⟩
 |ret=>exact ⟨_,a1,w1,hq,.of_steps (.one step_block) hr⟩
 |panic n=>exact ⟨_,a1,w1,hq,.of_steps (.one step_block) hr⟩
 |outgrown=>exact ⟨_,a1,w1,hq,.of_steps (b:=b) (k:=k) (cs:=cs) (e:= .outgrown) (.one step_block) hr⟩
theorem WN.loop {c:Code}(I:Nat->Act->World->Prop)(n:Nat)(h0:I n a w)
  (round: ∀ n a w,I n a w->WN P c (Exit.then (fun a' w'=> ∃ m,m<n/\I m a' w') Q) a w):WN P (.loop c) Q a w:=by
 intro b k cs hb
 have key: ∀ n a w,I n a w→ ∃ e a' w',Q e a' w'/\Arrives P (lone (b.at a (.code c:: .inLoop c::k)) cs w) b k cs e a' w':=by
  intro n
  induction n using Nat.strongRecOn with
  |_ n ih=>
   intro a w hI
   obtain ⟨e,a1,w1,hq,hr⟩:=round n a w hI b (.inLoop c::k) cs hb
   cases e with
   |normal=>
    obtain ⟨m,hm,h1⟩:=hq
    obtain ⟨e2,a2,w2,hq2,hr2⟩:=ih m hm a1 w1 h1
    exact ⟨e2,a2,w2,hq2,.of_steps (Steps.trans hr (.one step_inLoop)) hr2⟩
   |exit n=>exact ⟨_,a1,w1,hq,.pass (x:= .inLoop c) rfl (fun _ _=> .inl (by simp)) hr⟩
   |goto n=>exact ⟨_,a1,w1,hq,.pass (x:= .inLoop c) rfl (fun _ _=> .inl (by simp)) hr⟩
   |ret=>exact ⟨_,a1,w1,hq,.pass (x:= .inLoop c) rfl (fun _ _=> .inl (by simp)) hr⟩
   |panic n=>exact ⟨_,a1,w1,hq,.pass (x:= .inLoop c) rfl (fun _ _=> .inl (by simp)) hr⟩
   |outgrown=>exact ⟨_,a1,w1,hq,.pass (x:= .inLoop c) rfl (fun _ _=> .inl (by simp)) hr⟩
 obtain ⟨e,a',w',hq,hr⟩:=key n a w h0
 exact ⟨e,a',w',hq,.of_steps (.one step_loop) hr⟩
theorem LN.region {id:Nat}(h:LN P ops Q (List.range ops.size) a w):WN P (.region id ops false) Q a w:=by
 intro b k cs hb
 obtain ⟨e,a',w',hq,hr⟩:=h b k cs hb
 exact ⟨e,a',w',hq,.of_steps (.one step_region) hr⟩
theorem LN.nil (h:Q .normal a w):LN P ops Q [] a w:=fun _ _ _ _=>⟨.normal,a,w,h,.one step_region_end⟩
theorem QgV {b:Frame}{i:Nat}{rest:List Nat}{k:List Go.Item}{o:Oper}(ho:ops[i]? = some o)(v:Value):(b.at a (.inRegion ops (i::rest)::k)).finish v=b.at (a.put o.dst v) (.inRegion ops rest::k):=by
 rw [Frame.finish_at,ho]
 rfl
theorem LN.value {i:Nat}{rest:List Nat}{o:Oper}{v:Value}{w':World}(ho:ops[i]? = some o)(hw:Region.wanted o (yielded ops a.tmps)=true)(hr:(execOp a.eval o).run P w= .ok (.value v) w')
  (h:LN P ops Q rest (a.put o.dst v) w'):LN P ops Q (i::rest) a w:=by
 intro b k cs hb
 obtain ⟨e,a2,w2,hq,har⟩:=h b k cs hb
 refine ⟨e,a2,w2,hq,.of_steps (.one (step_lone_go ?_)) har⟩
 rw [stepG_op ho hw, ← QgV ho]
 simp [stepG.apply,hr]
theorem LN.send {i:Nat}{rest:List Nat}{o:Oper}{c cap s r:Nat}{buf:Array Value}{v z:Value}{tm:Bool}(ho:ops[i]? = some o)(hw:Region.wanted o (yielded ops a.tmps)=true)
  (hr:(execOp a.eval o).run P w= .ok (.comm #[scase c v z] true .send) w) (hc:w.heap[c]? = some (.chan cap buf false s r tm)) (hroom:buf.size<cap)
  (h:LN P ops Q rest (a.put o.dst undef) (w.setChan c cap (buf.push v) false (s+1) r tm)):LN P ops Q (i::rest) a w:=by
 intro b k cs hb
 obtain ⟨e,a2,w2,hq,har⟩:=h b k cs hb
 refine ⟨e,a2,w2,hq,.of_steps (.one ?_) har⟩
 have hs:=step_lone_send_room (stepG_comm (main:=true) (rest:=rest) (b:=b) (k:=k) (cs:=cs) ho hw hb hr) hc hroom
 rw [QgV ho] at hs
 exact hs
theorem LN.recv {i:Nat}{rest:List Nat}{o:Oper}{c cap s r:Nat}{buf:Array Value}{z:Value}{tm closed ok:Bool}(ho:ops[i]? = some o)(hw:Region.wanted o (yielded ops a.tmps)=true)
  (hr:(execOp a.eval o).run P w= .ok (.comm #[rcase c z] true (.recv ok)) w) (hc:w.heap[c]? = some (.chan cap buf closed s r tm)) (hs:0<buf.size)
  (h:LN P ops Q rest (a.put o.dst (got ok (buf.getD 0 undef) true)) (w.setChan c cap (buf.extract 1 buf.size) closed s (r+1) tm)):LN P ops Q (i::rest) a w:=by
 intro b k cs hb
 obtain ⟨e,a2,w2,hq,har⟩:=h b k cs hb
 refine ⟨e,a2,w2,hq,.of_steps (.one ?_) har⟩
 have hs:=step_lone_recv_buf ok (stepG_comm (main:=true) (rest:=rest) (b:=b) (k:=k) (cs:=cs) ho hw hb hr) hc hs
 rw [QgV ho] at hs
 exact hs
theorem LN.shut {i:Nat}{rest:List Nat}{o:Oper}{c cap s r:Nat}{z:Value}{tm ok:Bool}(ho:ops[i]? = some o)(hw:Region.wanted o (yielded ops a.tmps)=true)
  (hr:(execOp a.eval o).run P w= .ok (.comm #[rcase c z] true (.recv ok)) w) (hc:w.heap[c]? = some (.chan cap #[] true s r tm))
  (h:LN P ops Q rest (a.put o.dst (got ok z false)) w):LN P ops Q (i::rest) a w:=by
 intro b k cs hb
 obtain ⟨e,a2,w2,hq,har⟩:=h b k cs hb
 refine ⟨e,a2,w2,hq,.of_steps (.one ?_) har⟩
 have hs:=step_lone_recv_shut ok (stepG_comm (main:=true) (rest:=rest) (b:=b) (k:=k) (cs:=cs) ho hw hb hr) hc
 rw [QgV ho] at hs
 exact hs
end
theorem WN.calls {P:Program}{f:FuncId}{fn:Func}{c:Code}{args:Array Value}{w:World}{R:Ending->World->Prop}(hf:P.funcs[f]? = some fn)(hb:fn.body=some c)
  (h:WN P c (bodyPost P fn R) {tmps:=args++Array.replicate (fn.ntmps-args.size) undef,defers:=[]} w):Calls P f args w R:=by
 intro cs
 let b:Frame:={(default:Frame) with fn:=f,kind:= .normal}
 have he:Frame.enter P f args .normal=b.at {tmps:=args++Array.replicate (fn.ntmps-args.size) undef,defers:=[]} [.code c]:=by
  simp [Frame.enter,Frame.at,hf,hb,b]
 obtain ⟨e,a',w',hq,har⟩:=h b [] cs (by simp [b])
 rw [←he] at har
 cases e with
 |normal=>
  obtain ⟨hd,v,hr,hR⟩:=hq
  exact ⟨.returned v,w',_,hR,Steps.trans har (.one step_end),rfl,rfl,hd,rfl,fn,hf,hr⟩
 |ret=>
  obtain ⟨hd,v,hr,hR⟩:=hq
  obtain ⟨todo,hs⟩:=har
  exact ⟨.returned v,w',_,hR,hs,rfl,rfl,hd,rfl,fn,hf,hr⟩
 |panic n=>
  obtain ⟨hd,hR⟩:=hq
  obtain ⟨todo,hs⟩:=har
  exact ⟨.panicked n,w',_,hR,hs,rfl,rfl,hd,fn,hf⟩
 |exit n=>exact hq.elim
 |goto n=>exact hq.elim
 |outgrown=>exact ⟨.outgrown,w',b,hq,har.resolve_left (by simp [b]),rfl,trivial⟩
end Go.Proofs.YthlcobdnemhcdaaGreat.K
noncomputable section
namespace Go.Proofs.YthlcobdnemhcdaaGreat.K
open Go.RowKit
theorem QST {X:Nat->Nat->Prop}{w w':World}(h:Below w.heap.size w w'):Ext0 X w X w':=⟨h.size,fun b o hb hx=>⟨hx,h.cell (p:=⟨b,o,none⟩) hb⟩⟩
theorem QhN {X:Nat->Nat->Prop}{w:World}{σ:Pl}:Lent X w σ []:=⟨fun j o hj=>by simp at hj,fun i j b _ hi=>by simp at hi⟩
theorem QhO {X X':Nat->Nat->Prop}{w w':World}{σ σ':Pl}{os:List VO}(h:Ends X w σ 0 X' w' σ' os):Below w.heap.size w w':=
 ⟨h.fr.os,h.fr.tape,h.fr.output,h.fr.size,fun b hb=>h.fr.keep b hb (by simp [Xg])⟩
end Go.Proofs.YthlcobdnemhcdaaGreat.K
noncomputable section
namespace Go.Proofs.YthlcobdnemhcdaaGreat.K
open Go.RowKit Go.Conc
def jV (j:Job):Value:= .agg #[.int .i64 j.1,.int .i64 j.2.1.1.1,.int .i64 j.2.1.1.2.1,.int .i64 j.2.1.2.1]
def cJ (l:List Job):List Value:=l.flatMap fun j=>[.int .i64 j.1,.int .i64 j.2.1.1.1,.int .i64 j.2.1.1.2.1,.int .i64 j.2.1.2.1]
theorem cJ_at: ∀ (l:List Job) (k:Nat) (hk:k<l.length),(cJ l)[k*4]? = some (.int .i64 l[k].1)/\(cJ l)[k*4+1]? = some (.int .i64 l[k].2.1.1.1)/\(cJ l)[k*4+2]? = some (.int .i64 l[k].2.1.1.2.1)/\(cJ l)[k*4+3]? = some (.int .i64 l[k].2.1.2.1)
 | [],_,h=>by simp at h
 |x::l,0,_=>⟨rfl,rfl,rfl,rfl⟩
 |x::l,k+1,h=>by
  have:=cJ_at l k (by simpa using h)
  have e:cJ (x::l)= .int .i64 x.1:: .int .i64 x.2.1.1.1:: .int .i64 x.2.1.1.2.1:: .int .i64 x.2.1.2.1::cJ l:=rfl
  rw [e,show (k+1)*4=k*4+1+1+1+1 by omega,DF]
  simp only [B5]
  exact this
def QD7 (w:World)(c cap:Nat)(l:List Job)(closed:Bool):Prop:= ∃ s r,w.heap[c]? = some (.chan cap (l.map jV).toArray closed s r false)
theorem QSF: ∃ i,Tryz.prog.info? 47=some i/\i.bytes=32:=by
 have h:(Tryz.prog.info? 47).map (·.bytes)=some 32:=by kernel_rfl
 obtain ⟨i,hi,hb⟩:=Bj.1 h
 exact ⟨i,hi,hb⟩
theorem mkChan (w:World)(n:Nat)(hn:n<=100000):(Instr.makeChan 153 (.int .i64 n)).run Tryz.prog w= .ok (.chan (some w.heap.size)) (w.alloc (.chan n #[] false 0 0 false)):=by
 obtain ⟨i,hi,hb⟩:=QSF
 simpa using run_makeChan (P:=Tryz.prog) (w:=w) Tryz.underlying153 hi .i64 n (by omega) (by rw [hb];omega)
end Go.Proofs.YthlcobdnemhcdaaGreat.K
noncomputable section
namespace Go.Proofs.YthlcobdnemhcdaaGreat.K
open Go.RowKit Go.Conc
set_option maxRecDepth 50000 in
set_option maxHeartbeats 1000000 in
theorem QL0 (l:List Job)(A:Option Addr)(n c:Nat)(w:World)(hn:l.length=n)(hl:n<=100000)
  (hc:0<n→ ∃ b off,A=some ⟨b,off,none⟩/\b<w.heap.size∧ ∀ j v,(cJ l)[j]? = some v->w.cell? ⟨b,off+j,none⟩=some v):
  Calls Tryz.prog 52 #[.slice A n c] w fun en w'=> ∃ ch,en= .returned (.chan (some ch))/\w.heap.size<=ch/\ch<w'.heap.size/\QD7 w' ch n l true/\Below w.heap.size w w':=by
 have HC:=Lib.hid hc
 have HN:=Lib.hid hn
 clear hc hn
 have hmk:=mkChan w n hl
 refine WN.calls Tryz.func52 rfl ?_
 simp only [Tryz.ntmps52,DA,Br,Bv,Nat.reduceAdd,Nat.reduceSub,Array.replicate_succ,
   Array.replicate_zero,List.push_toArray,List.append_toArray,BV,Dt]
 refine WN.seq (WN.of ?_)
 go_wp2_with fail
 refine WN.seq (WN.of ?_)
 go_wp2_with fail
 obtain ⟨W1,hW1⟩: ∃ W1,W1=w.alloc (.chan n #[] false 0 0 false):=⟨_,rfl⟩
 obtain ⟨ch,hch⟩: ∃ ch,ch=w.heap.size:=⟨_,rfl⟩
 rw [←hW1, ← hch]
 have bl1:Below w.heap.size w W1:=hW1▸(Below.refl _ _).alloc (BB _) _
 have ca1:W1.heap[ch]? = some (.chan n #[] false 0 0 false):=by rw [hW1,hch];exact heap_alloc_new w _
 have HB1:=Lib.hid bl1
 have HCH:=Lib.hid hch
 have HCA:=Lib.hid ca1
 clear hW1 hch bl1 ca1 hmk
 refine WN.seq (WN.seq (WN.of ?_))
 go_wp2_with fail
 refine WN.block (WN.loop (fun m a' w'=> ∃ (k s:Nat) (u5 u12 u13 u14 u15 u16 u17:Value),m+k=n/\a'=⟨#[.slice A n c,undef,.chan none,.chan (some ch),undef,u5,.slice A n c,.int .i64 n,.chan (some ch),.slice A n c,.int .i64 n,.int .i64 k,u12,u13,u14,u15,u16,u17,undef,undef],[]⟩∧
  w'.heap[ch]? = some (.chan n ((l.take k).map jV).toArray false s 0 false)/\Below w.heap.size w w') n ⟨0,0,undef,undef,undef,undef,undef,undef,undef,rfl,rfl, ?_,HB1.out⟩ ?_)
 ·rw [List.take_zero]
  exact HCA.out
 ·rintro m a' w' ⟨k,s,u5,u12,u13,u14,u15,u16,u17,hm,rfl,hca,hbl⟩
  have HCA2:=Lib.hid hca
  have HB2:=Lib.hid hbl
  clear hca hbl
  refine WN.seq (WN.of ?_)
  by_cases hlt:k<n
  ·obtain ⟨bb,off,rfl,hbb,hcs⟩:=HC.out (by omega)
   have hkl:k<l.length:=by rw [HN.out];exact hlt
   obtain ⟨g0,g1,g2,g3⟩:=cJ_at l k hkl
   obtain ⟨t,ht⟩: ∃ t,t=l[k]:=⟨_,rfl⟩
   rw [←ht] at g0 g1 g2 g3
   have dz: ∀ j v,w.cell? ⟨bb,off+j,none⟩=some v->w'.cell? ⟨bb,off+j,none⟩=some v:=fun j v h=>(HB2.out.cell (p:=⟨bb,off+j,none⟩) hbb).trans h
   have d0:=dz _ _ (hcs _ _ g0)
   have d1:=dz _ _ (hcs _ _ g1)
   have d2:=dz _ _ (hcs _ _ g2)
   have d3:=dz _ _ (hcs _ _ g3)
   rw [←DP] at d1 d2 d3
   have HO:=Lib.hid (show l[k]? = some t by rw [ht];exact Bk hkl)
   clear dz hcs g0 g1 g2 g3 ht hkl
   go_wp2_with fail
   refine WN.seq (WN.of ?_)
   go_wp2_with fail
   refine WN.seq (WN.block (WN.seq (WN.of ?_)))
   go_wp2_with fail
   obtain ⟨W3,hW3⟩: ∃ W3,W3=w'.alloc (.cells #[.int .i64 t.1,.int .i64 t.2.1.1.1,.int .i64 t.2.1.1.2.1,.int .i64 t.2.1.2.1] 47):=⟨_,rfl⟩
   obtain ⟨q,hq⟩: ∃ q,q=w'.heap.size:=⟨_,rfl⟩
   rw [←hW3, ← hq]
   have kq:Go.Proofs.YthlcobdnemhcdaaGreat.Blk W3 q 47 #[.int .i64 t.1,.int .i64 t.2.1.1.1,.int .i64 t.2.1.1.2.1,.int .i64 t.2.1.2.1]:=by rw [hW3,hq];exact Go.Proofs.YthlcobdnemhcdaaGreat.Blk.new _ _ _
   have b3:Below w'.heap.size w' W3:=hW3▸(Below.refl _ _).alloc (BB _) _
   have hchlt:ch<w'.heap.size:=(BY.1 HCA2.out).1
   have ca3:W3.heap[ch]? = some (.chan n ((l.take k).map jV).toArray false s 0 false):=(b3.block ch hchlt).trans HCA2.out
   have bl3:Below w.heap.size w W3:=G0 HB2.out b3 (by have:=HB2.out.size;omega)
   have x0:=kq.cell 0
   have x1:=kq.cell 1
   have x2:=kq.cell 2
   have x3:=kq.cell 3
   simp only [Dq,BZ,B5] at x0 x1 x2 x3
   refine LN.region ?_
   simp only [DA,Br,Bv,Nat.reduceAdd,List.range,List.range.loop]
   refine LN.value (i:=0) rfl rfl (v:= .chan (some ch)) (w':=W3) (by simp [go_sem]) ?_
   refine LN.value (i:=1) rfl rfl (v:=jV t) (w':=W3) (by simp [go_sem,x0,x1,x2,x3,jV]) ?_
   refine LN.send (i:=2) (c:=ch) (v:=jV t) (z:= .tuple #[]) rfl rfl (by simp [go_sem,scase]) ca3 (by simp;omega) ?_
   refine LN.nil ?_
   have ch4:=heap_setChan W3 ch n (((l.take k).map jV).toArray.push (jV t)) false (s+1) 0 false (by have:=b3.size;omega)
   have bl4:Below w.heap.size w (W3.setChan ch n (((l.take k).map jV).toArray.push (jV t)) false (s+1) 0 false):=below_setChan bl3 (by rw [HCH.out];exact BB _) _ _ _ _ _ _
   obtain ⟨W4,hW4⟩: ∃ W4,W4=W3.setChan ch n (((l.take k).map jV).toArray.push (jV t)) false (s+1) 0 false:=⟨_,rfl⟩
   rw [←hW4] at ch4 bl4 ⊢
   have e:((l.take k).map jV).toArray.push (jV t)=((l.take (k+1)).map jV).toArray:=by
    rw [List.take_add_one,HO.out]
    simp
   rw [e] at ch4
   have HC4:=Lib.hid ch4
   have HL4:=Lib.hid bl4
   clear hW4 ch4 bl4 e x0 x1 x2 x3 kq b3 ca3 bl3 hW3 d0 d1 d2 d3
   simp only [Exit.inBlock,Exit.then]
   go_frame
   refine WN.of ?_
   go_wp2_with fail
   exact ⟨m-1,by omega,k+1,s+1,_,_,_,_,_,_,_,by omega,rfl,HC4.out,HL4.out⟩
  ·obtain rfl:k=n:=by omega
   go_wp2_with fail
   refine WN.seq (WN.of ?_)
   go_wp2_with fail
   have hcl:=fun ats ty=>run_close_open (P:=Tryz.prog) (w:=w') ats ty HCA2.out
   refine WN.seq (WN.of ?_)
   go_wp2_with fail
   clear hcl
   have hlt2:ch<w'.heap.size:=(BY.1 HCA2.out).1
   have el:List.take k (List.map jV l)=l.map jV:=DE (by rw [BT,HN.out];exact BB _)
   rw [el]
   have ch5:=heap_setChan w' ch k (l.map jV).toArray true s 0 false hlt2
   have bl5:Below w.heap.size w (w'.setChan ch k (l.map jV).toArray true s 0 false):=below_setChan HB2.out (by rw [HCH.out];exact BB _) _ _ _ _ _ _
   have sz5:ch<(w'.setChan ch k (l.map jV).toArray true s 0 false).heap.size:=by rw [size_setChan];exact hlt2
   obtain ⟨W5,hW5⟩: ∃ W5,W5=w'.setChan ch k (l.map jV).toArray true s 0 false:=⟨_,rfl⟩
   rw [←hW5] at ch5 bl5 sz5
   have hW6:=hW5
   unfold World.setChan at hW6
   rw [←hW6]
   have HF:=Lib.hid (show QD7 W5 ch k l true/\Below ch w W5/\ch<W5.heap.size from ⟨⟨s,0,ch5⟩,by rw [HCH.out];exact bl5,sz5⟩)
   clear hW5 hW6 ch5 bl5 sz5 hlt2 el
   refine WN.of ?_
   go_wp2_with fail
   go_ret
   exact ⟨ch,rfl,BB _,HF.out.2.2,HF.out.1,HF.out.2.1⟩
end Go.Proofs.YthlcobdnemhcdaaGreat.K
noncomputable section
namespace Go.Proofs.YthlcobdnemhcdaaGreat.K
open Go.RowKit
noncomputable section
attribute [local irreducible] epV epN prZ
end
end Go.Proofs.YthlcobdnemhcdaaGreat.K
noncomputable section
namespace Go.Proofs.YthlcobdnemhcdaaGreat.K
open Go.RowKit
noncomputable section
theorem QJJ (s x:Int):0<=YG s x/\YG s x<4294967296:=by
 unfold YG QeH
 rw [IntKind.wrap_u32]
 omega
theorem Qvm: ∀ (b:List Int) (s:Int),(0<=s/\s<4294967296)->0<=b.foldl YG s/\b.foldl YG s<4294967296
 | [],_,h=>h
 |x::r,s,_=>Qvm r (YG s x) (QJJ s x)
theorem QJK (b:List Int):0<=W8 b/\W8 b<4294967296:=by
 have h:=Qvm b 2166136261 (by omega)
 unfold W8
 rw [show icv .i64 (b.foldl YG 2166136261)=b.foldl YG 2166136261 from Go.IntWalk.i64_in _ (by omega)]
 exact h
theorem QJL (b:List Int):Wu (W8 b)=true:=by
 have h:=QJK b
 simp only [Wu,Bc,Bx,ilt,ige,Bn]
 omega
theorem Qk1 {n:Int}(h:0<=n/\n<=2147483648):Js n=true:=by
 simp only [Js,Bc,Bx,ilt,igt,Bn]
 omega
def YI (s:ByteArray):Bool:=Jr s&&Xn [s]&&Xn [s,Fv s (ByteArray.mk #[120])]
theorem QJM: ∀ i,i<3->YI (XJ.getD i ByteArray.empty)=true:=by
 intro i hi
 have:i=0∨i=1∨i=2:=by omega
 rcases this with rfl|rfl|rfl
 ·show YI (ByteArray.mk #[99,97])=true
  kernel_rfl
 ·show YI (ByteArray.mk #[99,98])=true
  kernel_rfl
 ·show YI (ByteArray.mk #[99,99])=true
  kernel_rfl
theorem QJN:Jr WW=true:=by kernel_rfl
theorem QJO (d:Dice):JY (dof d [3,2,4,1],(0,())) 1=true:=by
 have h1:JY (1,(0,())) 1=true:=by kernel_rfl
 have h2:JY (2,(0,())) 1=true:=by kernel_rfl
 have h3:JY (3,(0,())) 1=true:=by kernel_rfl
 have h4:JY (4,(0,())) 1=true:=by kernel_rfl
 have hm:=Zo (d:=d) (l:=[3,2,4,1]) (by decide)
 simp only [BA,BQ,Dd] at hm
 rcases hm with h|h|h|h
 ·rw [h];exact h3
 ·rw [h];exact h2
 ·rw [h];exact h4
 ·rw [h];exact h1
theorem Qvn {d:Dice}{i s:ByteArray}{k:Keep}{id:Int}{a:Bool}{q:Keep}(hi:Jr i=true)(hs:YI s=true)(hk:JY k 2=true)(hd:Js id=true)(hq:Js q.1=true)(hq2:Wu q.2.1=true):QV (Vg (Gb d i s k id a) q)=true:=by
 simp only [YI,Bc] at hs
 have b1:=Q7 (d:=d) (n:=1000) (by omega)
 have m1:=Zo (d:=cD2 d) (l:=[0,5,10]) (by decide)
 have m2:=Zo (d:=cD3 d) (l:=[1000,100,50,20]) (by decide)
 have m3:=Zo (d:=cD4 d) (l:=[3,0,1]) (by decide)
 simp only [BA,BQ,Dd] at m1 m2 m3
 have hp:0<=WV d a/\WV d a<=8/\(a=false->WV d a=0):=by
  unfold WV
  cases a
  ·exact ⟨B1 0,show (0:Int)<=8 by decide,fun _=>rfl⟩
  ·exact ⟨by show 0<=dof _ _;omega,by show dof _ _<=8;omega,fun h=>by cases h⟩
 have hn:Xn (cNm d a s)=true:=by
  unfold cNm
  cases done (cD5 d a) 3
  ·exact hs.1.2
  ·exact hs.2
 have h1:ilt (Qh d 1000) 0=false:=Bq (by omega)
 have h2:igt (Qh d 1000) 1099511627776=false:=Bq (by omega)
 have h3:ilt (dof (cD2 d) [0,5,10]) 0=false:=Bq (by omega)
 have h4:igt (dof (cD2 d) [0,5,10]) (dof (cD3 d) [1000,100,50,20])=false:=Bq (by omega)
 have h5:igt (dof (cD3 d) [1000,100,50,20]) 40000=false:=Bq (by omega)
 have h6:ilt (WV d a) 0=false:=Bq (by omega)
 have h7:igt (WV d a) 8=false:=Bq (by omega)
 have h8:(a||ieq (WV d a) 0)=true:=by
  cases a
  ·rw [hp.2.2 rfl];rfl
  ·rfl
 show (!ilt (Qh d 1000) 0&&(!igt (Qh d 1000) 1099511627776&&(Jr i&&(Jr s&&(Xn (cNm d a s)&&(JY k 2&&(Js id&&(JY (dof (cD1 d) [3,2,4,1],(0,())) 1&&(Js q.1&&(Wu q.2.1&&(!ilt (dof (cD2 d) [0,5,10]) 0&&(!igt (dof (cD2 d) [0,5,10]) (dof (cD3 d) [1000,100,50,20])&&(!igt (dof (cD3 d) [1000,100,50,20]) 40000&&(!ilt (WV d a) 0&&(!igt (WV d a) 8&&(a||ieq (WV d a) 0))))))))))))))))=true
 rw [h1,h2,h3,h4,h5,h6,h7,h8,hi,hs.1.1,hn,hk,hd,QJO,hq,hq2]
 rfl
theorem Qvo {d:Dice}{i s:ByteArray}{k:Keep}{id g:Int}{a:Bool}(hi:Jr i=true)(hs:YI s=true)(hk:JY k 2=true)(hd:Js id=true)(hg:Js g=true):XI d i s k id g a=Vg (Gb d i s k id a) (g,(W8 (YF (Fc (Gb d i s k id a))).1,()))/\QV (XI d i s k id g a)=true:=by
 have hb:Vh (Gb d i s k id a) g=false:=by
  unfold Vh Fc
  rw [Qvn hi hs hk hd rfl rfl,BF,Dh]
  simp only [Js,Bc,Bx] at hg
  rw [hg.1,hg.2]
  rfl
 have he:XI d i s k id g a=Vg (Gb d i s k id a) (g,(W8 (YF (Fc (Gb d i s k id a))).1,())):=by
  unfold XI YZ
  rw [hb]
  rfl
 exact ⟨he,by rw [he];exact Qvn hi hs hk hd hg (QJL _)⟩
theorem QJP:JY (5,(2048,())) 2=true:=by kernel_rfl
theorem Qvp: ∀ (m i:Nat) (u:Up),i+m<=3->Jr u.2.2.1=true->Js u.2.2.2=true->u.1.all QV=true->(WX m i u).1.all QV=true/\Jr (WX m i u).2.2.1=true/\Js (WX m i u).2.2.2=true
 |0,_,u,_,h,h1,h2=>⟨h2,h,h1⟩
 |m+1,i,(ab,d,iss,g),hm,h,h1,h2=>by
  have hs:=QJM i (by omega)
  have hn:Jr (XJ.getD i ByteArray.empty)=true:=by
   simp only [YI,Bc] at hs
   exact hs.1.1
  have hk:Js ((11+i:Nat):Int)=true:=Qk1 (by omega)
  refine Qvp m (i+1) _ (by omega) hn hk ?_
  rw [B0,(Qvo h hs QJP hk h1).2]
  exact h2
theorem QJQ {d:Dice}{nm:ByteArray}{k:Keep}{id:Int}(hs:YI nm=true)(hk:JY k 2=true)(hd:Js id=true):(YY d nm k id).all QV=true/\F8 k id (YY d nm k id)=true:=by
 have b2:=Q7 (d:=Ql d [1,0,2]) (n:=2) (by omega)
 have hm:=Zo (d:=d) (l:=[1,0,2]) (by decide)
 simp only [BA,BQ,Dd] at hm
 obtain ⟨h1,h2,h3⟩:=Qvp (dof d [1,0,2]).toNat 0 ([],Qe (Ql d [1,0,2]) 2,WW,1+Qh (Ql d [1,0,2]) 2) (by omega) QJN (Qk1 (show 0<=1+Qh (Ql d [1,0,2]) 2/\1+Qh (Ql d [1,0,2]) 2<=2147483648 by omega)) rfl
 obtain ⟨e,hv⟩:=Qvo (d:=(chU d).2.1) (i:=(chU d).2.2.1) (s:=nm) (k:=k) (id:=id) (g:=(chU d).2.2.2) (a:=false) h2 hs hk hd h3
 unfold YY
 refine ⟨by rw [B0,hv];exact h1, ?_⟩
 unfold F8
 rw [e]
 have: ∀ (x:Certificate) (l:List Certificate),(x::l).getD 0 Vi=x:=fun _ _=>rfl
 rw [this]
 show (_||((k==k)&&ieq id id))=true
 simp [ieq]
theorem QJR {d:Dice}{nm:ByteArray}{k:Keep}{id:Int}(hd:dOk d=true):(YY d nm k id).length<=4:=by
 have hu0:XK ([],Qe (Ql d [1,0,2]) 2,WW,1+Qh (Ql d [1,0,2]) 2)=true:=Bf.2 ⟨QB (n:=2) (Jc (l:=[1,0,2]) hd),rfl⟩
 have hm:=Zo (d:=d) (l:=[1,0,2]) (by decide)
 simp only [BA,BQ,Dd] at hm
 have hl:=(Qcq (dof d [1,0,2]).toNat 0 _ hu0).2
 simp only [Bv] at hl
 have hl2:(chU d).1.length<=3:=by
  unfold chU
  omega
 unfold YY
 rw [Br]
 omega
theorem Qvq {a:Int}(h:a=5∨a=6∨a=7∨a=8∨a=9)(d:Dice):JY (a,(YK d a,())) 2=true:=by
 have hv:Jf (a,(YK d a,()))=true:=QNf (by omega) (by omega)
 unfold JY
 rw [hv]
 rcases h with rfl|rfl|rfl|rfl|rfl<;>rfl
theorem QJS (d:Dice):JY (Yk d) 2=true:=by
 have hm:=Zo (d:=d) (l:=[5,7,5,6,8,9]) (by decide)
 simp only [BA,BQ,Dd] at hm
 exact Qvq (a:=Qcp d) (by have:Qcp d=dof d [5,7,5,6,8,9]:=rfl;omega) _
theorem Qk2 (d:Dice):JY (Gw d) 2=true:=by
 unfold Gw
 cases iB d
 ·exact QJS d
 ·have hm:=Zo (d:=iD2 d) (l:=[5,7]) (by decide)
  simp only [BA,BQ,Dd] at hm
  exact Qvq (a:=iA d) (by have:iA d=dof (iD2 d) [5,7]:=rfl;omega) _
theorem Qk3 {k:Keep}{id:Int}{l:List Certificate}(hk:JY k 2=true)(hd:Js id=true)(hl:l.length<=8)(h1:l.all QV=true)(h2:F8 k id l=true):Xm k id l=true:=by
 simp only [JY,Bc] at hk
 have h8:igt (Qc l) 8=false:=Bq (by simp only [Qc];omega)
 have hi:ine (Yx k.1) 2=false:=by rw [Ea,hk.2];rfl
 unfold Xm
 rw [hk.1,hi,hd,h8,h1,h2]
 rfl
theorem QJT {d:Dice}{nm:ByteArray}(hs:YI nm=true)(hd:dOk d=true):Xd (idV d nm)=true:=by
 have b:=Q7 (d:=iD3 d) (n:=20) (by omega)
 have hk:Js (iId d)=true:=Qk1 (by unfold iId;omega)
 show Xm (Gw d) (iId d) (iCh d nm)=true
 unfold iCh
 cases !done (iD4 d) 9
 ·exact Qk3 (Qk2 d) hk (Da _) rfl rfl
 ·obtain ⟨h1,h2⟩:=QJQ (d:=iD5 d) (k:=Gw d) (id:=iId d) hs (Qk2 d) hk
  exact Qk3 (Qk2 d) hk (Db (QJR (QB (n:=9) (QB (n:=20) (QlX hd)))) (by decide)) h1 h2
theorem Qvr: ∀ (n:Nat) (nm:ByteArray) (d:Dice),YI nm=true->dOk d=true->(Zn n nm d).1.all Xd=true
 |0,_,_,_,_=>rfl
 |n+1,nm,d,hn,hd=>by
  simp only [Zn,B0,Bc]
  exact ⟨QJT hn hd,Qvr n nm _ hn (V4 hd)⟩
theorem QJU {c:Int}(h:1<=c/\c<=16):ieq (Zm c).2 0=true:=by
 unfold Zm
 rw [if_neg (by omega)]
 rfl
theorem QJV {l:List Int}(hn:l.Nodup)(hr: ∀ x∈l,1<=x/\x<=16):Xb l=true:=by
 have key: ∀ (k:Nat) (hk:k<l.length),(ieq (Zm l[k]).2 0&& !J6 (l.take k) l[k])=true:=by
  intro k hk
  rw [QJU (hr _ (Bw hk)),Bu,Bx]
  unfold J6
  rw [Bool.eq_false_iff]
  intro hc
  have hm:=BO.1 hc
  obtain ⟨j,hj,he⟩:=List.mem_iff_getElem.1 hm
  rw [B4] at hj
  rw [List.getElem_take] at he
  have:=(List.nodup_iff_pairwise_ne.1 hn)
  rw [List.pairwise_iff_getElem] at this
  exact this j k (by omega) hk (by omega) he
 simp only [Xb,Xa,Bi,List.mem_range'_1]
 intro k hk
 have hk2:k<l.length:=by omega
 simp only [Bt,Bk hk2,B3]
 exact key k hk2
def UE (l:List Int):Prop:=l.Nodup∧ ∀ x∈l,1<=x/\x<=16
theorem QJW {l:List Int}{x:Int}(h:UE l)(hx:1<=x/\x<=16)(hn:J6 l x=false):UE (l++[x]):=by
 have hm:x ∉ l:=fun hc=>by
  unfold J6 at hn
  rw [BO.2 hc] at hn
  cases hn
 refine ⟨?_,fun y hy=> ?_⟩
 ·rw [List.nodup_append]
  refine ⟨h.1,List.nodup_cons.2 ⟨by simp,List.nodup_nil⟩,fun a ha b hb=> ?_⟩
  rw [BX] at hb
  rintro rfl
  exact hm (hb▸ha)
 ·rw [BE,BX] at hy
  rcases hy with hy|rfl
  ·exact h.2 y hy
  ·exact hx
theorem Qvs: ∀ (n:Nat) (l:List Int) (d:Dice),UE l->UE (suZ n l d).1
 |0,_,_,h=>h
 |n+1,l,d,h=>by
  have b:=Q7 (d:=d) (n:=16) (by omega)
  unfold suZ
  refine Qvs n _ _ ?_
  cases hh:J6 l (1+Qh d 16) with
  |true=>exact h
  |false=>exact QJW h (by omega) hh
theorem QJX (l:List Int)(x:Int):(Xo l x).Perm (x::l):=by
 unfold Xo
 rw [BI,BH]
 refine List.perm_middle.trans ?_
 rw [List.take_append_drop]
theorem QJY (l:List Int):(Fe l).Perm l:=by
 have key: ∀ (l a:List Int),(l.foldl Xo a).Perm (a++l):=by
  intro l
  induction l with
  |nil=>intro a;rw [BL];exact List.Perm.refl _
  |cons x r ih=>
   intro a
   rw [Dp]
   refine (ih (Xo a x)).trans ?_
   refine ((QJX a x).append_right r).trans ?_
   exact List.perm_middle.symm
 unfold Fe
 have:=key l []
 rwa [BV] at this
theorem QJZ {a b:List Int}(h:a.Perm b)(hb:UE b):UE a:=⟨h.nodup_iff.2 hb.1,fun x hx=>hb.2 x (h.mem_iff.1 hx)⟩
theorem QJ0 (d:Dice):UE (Wp d):=by
 have h:=Qvs (2+Qh d 9).toNat [] (Qe d 9) ⟨List.nodup_nil,fun x hx=>by cases hx⟩
 unfold Wp
 cases done (suI d).2 4
 ·exact h
 ·exact QJZ (QJY _) h
def VK (l:List Int):Bool:= !igt (Qc l) 16&&(Wi l&&l.all Js)
def VL (l:List Int):Bool:=Wi l&&l.all Un
theorem Qvt {e:Endpoint}(hw:Y9 e.1=true)(h1:1<=e.2.1)(h2:e.2.1<=e.2.2.1)(h3:e.2.2.1<=4)(hs:UE (JM e))(hi:(Jl e).length<=4)(hv:(Jl e).all Xd=true)(ha:VK (JF e)=true)(hh:VL (JR e)=true):Q6 e=true:=by
 simp only [VK,VL,Bc] at ha hh
 have g1:ilt e.2.1 1=false:=Bq (by omega)
 have g2:igt e.2.1 e.2.2.1=false:=Bq (by omega)
 have g3:igt e.2.2.1 4=false:=Bq (by omega)
 have g4:igt (Qc (Jl e)) 4=false:=Bq (by simp only [Qc];omega)
 unfold Q6
 rw [hw,g1,g2,g3,QJV hs.1 hs.2,g4,ha.1,ha.2.1,ha.2.2,hv,hh.1,hh.2]
 rfl
theorem Qvu {l:List (List Int)}{p:List Int->Bool}(h:l.all p=true)(h0:p []=true)(k:Nat):p (lgt (.sl tI) l k)=true:=by
 show p (l.getD k [])=true
 rw [Bt]
 cases hk:l[k]? with
 |none=>exact h0
 |some x=>exact Bi.1 h x (Dv hk)
theorem an_ok (d:Dice)(nm:ByteArray):VK (JF (epV d nm))=true:=Qvu (p:=VK) (by decide) (by decide) _
theorem hs_ok (d:Dice)(nm:ByteArray):VL (JR (epV d nm))=true:=Qvu (p:=VL) (by kernel_rfl) (by decide) _
theorem ver_ok (d:Dice):1<=XS d/\XS d<=XT d/\XT d<=4:=by
 have m0:=Zo (d:=d) (l:=[1,1,2,3]) (by decide)
 have m1:=Zo (d:=eD6 d) (l:=[3,4,2]) (by decide)
 simp only [BA,BQ,Dd] at m0 m1
 have b4:=Q7 (d:=eD4 d) (n:=5-eL0 d) (by show 0<5-dof d [1,1,2,3];omega)
 have e0:eL0 d=dof d [1,1,2,3]:=rfl
 unfold XS XT
 cases eB d
 ·show 1<=eL0 d/\eL0 d<=eL0 d+Qh (eD4 d) (5-eL0 d)/\eL0 d+Qh (eD4 d) (5-eL0 d)<=4
  omega
 ·show (1:Int)<=1/\1<=dof (eD6 d) [3,4,2]/\dof (eD6 d) [3,4,2]<=4
  omega
theorem QJ1 {d:Dice}{nm:ByteArray}(hs:YI nm=true)(hd:dOk d=true):(ZF d nm).1.all Xd=true:=by
 have k4:=QB (n:=2) (QB (n:=2) (QbO (Jc (l:=[1,1,2,3]) hd)))
 have k6:=QB (n:=3) (QB (n:=5-eL0 d) k4)
 have k7:dOk (eD7 d)=true:=by
  unfold eD7
  cases eB d
  ·exact k6
  ·exact Jc (l:=[3,4,2]) k6
 exact Qvr _ _ _ hs (Jc (l:=[1,2,1,3,0]) k7)
theorem ep_all {d:Dice}{nm:ByteArray}(hs:YI nm=true)(hn:nm.size<=1000)(hd:dOk d=true):UE (JM (epV d nm))/\(Jl (epV d nm)).length<=4/\(Jl (epV d nm)).all Xd=true/\(1<=(epV d nm).2.1/\(epV d nm).2.1<=(epV d nm).2.2.1/\(epV d nm).2.2.1<=4):=
 ⟨QJ0 _,Db (QBs hn hd).2 (by decide),QJ1 hs hd,ver_ok d⟩
theorem QJ2 {d:Dice}{nm:ByteArray}(hs:YI nm=true)(hw:Y9 nm=true)(hn:nm.size<=1000)(hd:dOk d=true):Q6 (epV d nm)=true:=by
 obtain ⟨h1,h2,h3,h4,h5,h6⟩:=ep_all hs hn hd
 exact Qvt (show Y9 (epV d nm).1=true from hw) h4 h5 h6 h1 h2 h3 (an_ok d nm) (hs_ok d nm)
attribute [local irreducible] epV epN prZ
end
end Go.Proofs.YthlcobdnemhcdaaGreat.K
noncomputable section
namespace Go.Proofs.YthlcobdnemhcdaaGreat.K
open Go.RowKit
noncomputable section
end
end Go.Proofs.YthlcobdnemhcdaaGreat.K
noncomputable section
namespace Go.Proofs.YthlcobdnemhcdaaGreat.K
open Go.RowKit
abbrev Wt (s:ByteArray)(k:Nat):Certificate:=(YZ (leafC s JP (Qj .i64 100 (k:Int)) 901) 1).1
def Qjx (s:ByteArray)(k:Nat):Bool:=
 JS (Wt s k)&&(QV (Wt s k)&&(F8 JP (Qj .i64 100 (k:Int)) [Wt s k]&&(Js (Qj .i64 100 (k:Int))&&(hasS (Q0 (Wt s k)) s&&(!QjO [Wt s k] 11&&(!QjO [Wt s k] 15&&(!QjO [Wt s k] 10&&(ieq (UD (Wt s k)).1 1&&(ieq (Wt s k).2.2.2.2.2.2.1 0&&(ieq (Wt s k).2.2.2.2.2.2.2.1 901&&(ieq (Wt s k).2.2.2.2.2.1.1 3&&(Y9 s&&Jn s))))))))))))
set_option maxRecDepth 100000 in
theorem QVS:(Uk.all fun s=>(List.range 3).all fun k=>Qjx s k)=true:=by kernel_rfl
theorem QHG {s:ByteArray}{k:Nat}(hs:s∈Uk)(hk:k<3):Qjx s k=true:=
 Bi.1 (Bi.1 QVS s hs) k (Dg.2 hk)
def Qjy (e:Endpoint):Prop:= ∃ d k s,e=Wd d k s/\s∈Uk/\k<3
theorem QVT:JY JP 2=true:=by kernel_rfl
theorem QVU (d:Dice):dof d [3,3,4]=3∨dof d [3,3,4]=4:=by
 have h:=Zo (d:=d) (l:=[3,3,4]) (by decide)
 simp only [BA,BQ,Dd] at h
 omega
def Qsy (l:List Int):Bool:=decide l.Nodup&&l.all fun x=>decide (1<=x/\x<=16)
theorem QVV {l:List Int}(h:Qsy l=true):UE l:=by
 simp only [Qsy,Bc,Ba,Bi] at h
 exact h
theorem QVW (d:Dice):FD d∈[[10,8,2],[8,2],[2,10,8,3],[14,10,8,2],[14,8,2],([14,2,10,8,3]:List Int)]:=by
 have b3:=Q7 (d:=Ql d [3,3,4]) (n:=3) (by omega)
 unfold FD
 rcases (show Qh (Ql d [3,3,4]) 3=0∨Qh (Ql d [3,3,4]) 3=1∨Qh (Ql d [3,3,4]) 3=2 by omega) with h|h|h<;>rw [h]<;>cases ieq (dof d [3,3,4]) 4<;>decide
theorem QHH {p:List Int->Bool}(h:[[10,8,2],[8,2],[2,10,8,3],[14,10,8,2],[14,8,2],([14,2,10,8,3]:List Int)].all p=true)(d:Dice):p (FD d)=true:=Bi.1 h _ (QVW d)
theorem QVX {e:Endpoint}(h:Qjy e):Jd e=true:=by
 obtain ⟨d,k,s,rfl,hs,hk⟩:=h
 have hg:=QHG hs hk
 simp only [Qjx,Bc] at hg
 have hsu:(FD d).length<=5:=BD (QHH (p:=fun l=>decide (l.length<=5)) (by decide) d)
 have hc:JJ [Wt s k]=true:=by
  simp only [JJ,B0,DH,hg.1,B7]
  rfl
 unfold Jd
 simp only [Bc,Ba]
 refine ⟨⟨hg.2.2.2.2.2.2.2.2.2.2.2.2.2,⟨?_, ?_, ?_, ?_⟩⟩, ?_⟩
 ·show (FD d).length<=100000
  omega
 ·exact (show 1<=100000 by decide)
 ·exact (show 1<=100000 by decide)
 ·exact (show 2<=100000 by decide)
 ·show (J0 (Zw s JP (Qj .i64 100 (k:Int)) 1 901)&&true)=true
  rw [B7]
  exact hc
theorem QVY {e:Endpoint}(h:Qjy e):Q6 e=true:=by
 obtain ⟨d,k,s,rfl,hs,hk⟩:=h
 have hg:=QHG hs hk
 simp only [Qjx,Bc] at hg
 have hm:=QVU d
 refine Qvt (e:=Wd d k s) hg.2.2.2.2.2.2.2.2.2.2.2.2.1 (B1 _) ?_ ?_ (QVV (QHH (p:=Qsy) (by decide) d)) (show 1<=4 by decide) ?_ (show VK [1]=true by decide) (show VL [2,3]=true by kernel_rfl)
 ·show (1:Int)<=dof d [3,3,4]
  omega
 ·show dof d [3,3,4]<=4
  omega
 ·show (Xd (Zw s JP (Qj .i64 100 (k:Int)) 1 901)&&true)=true
  rw [B7]
  refine Qk3 QVT hg.2.2.2.1 (show 1<=8 by decide) ?_ hg.2.2.1
  show (QV (Wt s k)&&true)=true
  rw [hg.2.1]
  rfl
theorem QHI: ∀ (l:List ByteArray) (k:Nat) (d:Dice),(Zq l k d).1.length=l.length
 | [],_,_=>rfl
 |_::r,k,d=>by simp only [Zq,Br,QHI r (k+1) (WG d)]
theorem QHJ: ∀ (l:List ByteArray) (k:Nat) (d:Dice),(∀ s∈l,s∈Uk)->k+l.length<=3→ ∀ e∈(Zq l k d).1,Qjy e
 | [],_,_,_,_,e,he=>by cases he
 |s::r,k,d,h,hk,e,he=>by
  simp only [Zq,BA] at he
  simp only [Br] at hk
  rcases he with rfl|he
  ·exact ⟨d,k,s,rfl,h s B2,by omega⟩
  ·exact QHJ r (k+1) (WG d) (fun s hs=>h s (BR _ hs)) (by omega) e he
theorem QVZ (d:Dice): ∀ s∈Jq d,s∈Uk:=by
 rcases Qn8 d with h|h<;>rw [h]
 ·exact fun s hs=>DI hs
 ·exact fun s hs=>hs
theorem QV0 (d:Dice): ∀ e∈JN (JQ d),Qjy e:=QHJ (Jq d) 0 (Qe d 2) (QVZ d) (by have:=QaW d;omega)
theorem QHK (d:Dice):(JN (JQ d)).length=(Jq d).length:=QHI _ _ _
theorem snd_up (d:Dice):F3 (JN (JQ d)) 0=true:=by
 have hv: ∀ d k s,s∈Uk->k<3->Q6 (Wd d k s)=true:=fun d k s hs hk=>QVY ⟨d,k,s,rfl,hs,hk⟩
 have q1:slt (ByteArray.mk #[97,112,112]) (ByteArray.mk #[100,98])=true:=by kernel_rfl
 have q2:slt (ByteArray.mk #[100,98]) (ByteArray.mk #[119,101,98])=true:=by kernel_rfl
 show YW (Zq (Jq d) 0 (Qe d 2)).1 (Zq (Jq d) 0 (Qe d 2)).1 0=true
 rcases Qn8 d with h|h<;>rw [h]
 ·show (Q6 (Wd _ 0 _)&&true&&(Q6 (Wd _ 1 _)&&(false||slt (ByteArray.mk #[97,112,112]) (ByteArray.mk #[100,98]))&&true))=true
  rw [hv _ _ _ (by simp) (by decide),hv _ _ _ (by simp) (by decide),q1]
  rfl
 ·show (Q6 (Wd _ 0 _)&&true&&(Q6 (Wd _ 1 _)&&(false||slt (ByteArray.mk #[97,112,112]) (ByteArray.mk #[100,98]))&&(Q6 (Wd _ 2 _)&&(false||slt (ByteArray.mk #[100,98]) (ByteArray.mk #[119,101,98]))&&true)))=true
  rw [hv _ _ _ (by simp) (by decide),hv _ _ _ (by simp) (by decide),hv _ _ _ (by simp) (by decide),q1,q2]
  rfl
def Qjz (a b:Keep):Prop:=a.1<b.1∨(a.1=b.1/\a.2.1<b.2.1)
def edG (n:Int)(l:List Keep)(i k:Int):Prop:=(∀ x∈l,Qcb n x=true)/\l.Pairwise Qjz∧ ∀ x∈l,Qjz x (i,(k,()))
theorem F7 {n:Int}{l:List Keep}{i k i' k':Int}(h:edG n l i k)(hl:i<i'∨(i=i'/\k<=k')):edG n l i' k':=by
 refine ⟨h.1,h.2.1,fun x hx=> ?_⟩
 have:=h.2.2 x hx
 simp only [Qjz] at this ⊢
 omega
theorem QjA {n:Int}: ∀ (m:Nat) (i k:Int) (l:List Keep) (d:Dice),0<=i->i<n->0<=k->k+m<=n->edG n l i k->edG n (edZ m i k l d).1 i (k+m)
 |0,i,k,l,d,_,_,_,_,h=>F7 h (.inr ⟨rfl,by omega⟩)
 |m+1,i,k,l,d,h0,h1,h2,h3,h=>by
  have hs:edG n l i (k+1):=F7 h (.inr ⟨rfl,by omega⟩)
  have e:k+((m+1:Nat):Int)=k+1+m:=by omega
  unfold edZ
  rw [e]
  cases hn:ine i k with
  |false=>exact QjA m i (k+1) l d h0 h1 (by omega) (by omega) hs
  |true=>
   cases h4:(igt (Qh d 3) 0&&ilt (Qc l) 3) with
   |false=>exact QjA m i (k+1) l (Qe d 3) h0 h1 (by omega) (by omega) hs
   |true=>
    have hne:i≠k:=by simpa [ine] using hn
    refine QjA m i (k+1) (l++[(i,(k,()))]) (Qe d 3) h0 h1 (by omega) (by omega) ⟨fun x hx=> ?_, ?_,fun x hx=> ?_⟩
    ·rcases BE.1 hx with hx|hx
     ·exact h.1 x hx
     ·rw [BX.1 hx]
      simp only [Qcb,ilt,ige,ZS,Bc,Bx,Bn]
      exact ⟨by omega,by omega,by omega,by omega,hne⟩
    ·rw [DJ]
     refine ⟨h.2.1,DD _ _,fun x hx y hy=> ?_⟩
     rw [BX.1 hy]
     exact h.2.2 x hx
    ·rcases BE.1 hx with hx|hx
     ·exact hs.2.2 x hx
     ·rw [BX.1 hx]
      exact .inr ⟨rfl,by show k<k+1;omega⟩
theorem QHL {n:Int}: ∀ (m nn:Nat) (i:Int) (l:List Keep) (d:Dice),(nn:Int)<=n->0<=i->i+m<=n->edG n l i 0->edG n (edY m nn i l d).1 (i+m) 0
 |0,nn,i,l,d,_,_,_,h=>F7 h (by omega)
 |m+1,nn,i,l,d,hnn,h0,h1,h=>by
  have:=QjA nn i 0 l d h0 (by omega) (by omega) (by omega) h
  have e:i+((m+1:Nat):Int)=i+1+m:=by omega
  unfold edY
  rw [e]
  exact QHL m nn (i+1) _ _ hnn (by omega) (by omega) (F7 this (.inl (by omega)))
theorem Qsz {n i k:Int}{l:List Keep}(h:edG n l i k):ZK n l 0=true:=by
 unfold ZK
 rw [Bi]
 intro j hj
 have hj:j<l.length:=by
  rw [List.mem_range'] at hj
  obtain ⟨a,ha,rfl⟩:=hj
  omega
 have at_: ∀ q (hq:q<l.length),Qca l q=l[q]:=fun q hq=>by simp only [Qca,Bt,Bk hq,B3]
 unfold Qcc
 rw [at_ j hj,h.1 _ (Bw hj),Bu]
 by_cases h0:j=0
 ·rw [Be h0,Bool.true_or]
 ·rw [Bq h0,Dh,at_ (j-1) (by omega)]
  have hp:=List.pairwise_iff_getElem.1 h.2.1 (j-1) j (by omega) hj (by omega)
  simp only [Qjz] at hp
  simp only [egLt,igt,ige,ZS,Bc,Bx,Bn,Bool.and_eq_false_imp,Ba]
  refine ⟨by omega,fun he=>by omega⟩
theorem QV1 (d:Dice):ZK (Qc (JN (JQ d))) (ZR (JQ d)) 0=true/\(ZR (JQ d)).length<=3/\0<(ZR (JQ d)).length:=by
 have hn:=QaW d
 have hl:Qc (JN (JQ d))=((Jq d).length:Int):=by rw [Qc,QHK]
 rw [hl]
 show ZK _ (GL d) 0=true/\(GL d).length<=3/\0<(GL d).length
 unfold GL
 cases hq:ieq (Qc (JT d).1) 0 with
 |true=>
  refine ⟨?_,(show 1<=3 by decide),(show 0<1 by decide)⟩
  show ZK _ [(0,(1,()))] 0=true
  refine Qsz (i:=5) (k:=5) ⟨fun x hx=> ?_,DD _ _,fun x hx=> ?_⟩<;>rw [BX.1 hx]
  ·simp only [Qcb,ilt,ige,ZS,Bc,Bx,Bn]
   exact ⟨by omega,by omega,by omega,by omega,by omega⟩
  ·exact .inl (by decide)
 |false=>
  have hy:=QHL (n:=((Jq d).length:Int)) (Jq d).length (Jq d).length 0 [] (Zq (Jq d) 0 (Qe d 2)).2 (B1 _) (B1 _) (by omega) (⟨fun x hx=>(nomatch hx),List.Pairwise.nil,fun x hx=>(nomatch hx)⟩:edG _ [] 0 0)
  refine ⟨Qsz hy, ?_, ?_⟩
  ·have hp: ∀ (m:Nat) (i k:Int) (l:List Keep) (d:Dice),l.length<=3->(edZ m i k l d).1.length<=3:=by
    intro m
    induction m with
    |zero=>exact fun _ _ _ _ h=>h
    |succ m ih=>
     intro i k l d h
     unfold edZ
     cases ine i k with
     |false=>exact ih _ _ _ _ h
     |true=>
      cases h1:igt (Qh d 3) 0 with
      |false=>exact ih _ _ _ _ h
      |true=>
       cases h2:ilt (Qc l) 3 with
       |false=>exact ih _ _ _ _ h
       |true=>
        have:=BD h2
        simp only [Qc] at this
        exact ih _ _ _ _ (by simp only [Bm,Bh];omega)
   have hr: ∀ (m n:Nat) (i:Int) (l:List Keep) (d:Dice),l.length<=3->(edY m n i l d).1.length<=3:=by
    intro m
    induction m with
    |zero=>exact fun _ _ _ _ h=>h
    |succ m ih=>exact fun n i l d h=>ih n (i+1) _ _ (hp n i 0 l d h)
   exact hr _ _ _ [] _ (by decide)
  ·simp only [ZS,Qc,Bn] at hq
   show 0<(JT d).1.length
   omega
theorem QV2 {d:Dice}:Jr (ZA d sIt)=true:=by
 have hv:=Q7 (d:=d) (n:=2) (by omega)
 unfold ZA
 show Jr (sIt.getD (Qh d 2).toNat ByteArray.empty)=true
 rcases (show Qh d 2=0∨Qh d 2=1 by omega) with h|h<;>rw [h]<;>kernel_rfl
theorem QV3 {d:Dice}:Jn (ZA d sIt)=true:=by
 have hv:=Q7 (d:=d) (n:=2) (by omega)
 unfold ZA
 show Jn (sIt.getD (Qh d 2).toNat ByteArray.empty)=true
 rcases (show Qh d 2=0∨Qh d 2=1 by omega) with h|h<;>rw [h]<;>kernel_rfl
theorem QcD: ∀ (n:Nat) (d:Dice),(itZ n d).1.all J7=true/\(itZ n d).1.all Zx=true/\(itZ n d).1.length=n
 |0,_=>⟨rfl,rfl,rfl⟩
 |n+1,d=>by
  have:=QcD n (Ua (YQ d sIt) (ZA d sIt))
  simp only [itZ,B0,Br,this,B7,and_true]
  exact ⟨QI2 _ QV2,QV3⟩
theorem snd_ok (d:Dice):YX (JQ d)=true/\ZC (JQ d)=true:=by
 have hn:=QaW d
 have h1:=snd_up d
 obtain ⟨h2,h3,h4⟩:=QV1 d
 have hv3:=Q7 (d:=(JT d).2) (n:=3) (by omega)
 have hi:=QcD (Qh (JT d).2 3).toNat (Qe (JT d).2 3)
 have hl:(JN (JQ d)).length<=3:=by rw [QHK];omega
 have hx:Je (JQ d)=(itZ (Qh (JT d).2 3).toNat (Qe (JT d).2 3)).1:=rfl
 constructor
 ·unfold YX
  rw [h1,h2,hx,hi.1,show ile (Qc (JN (JQ d))) 16=true from Be (by simp only [Qc];omega),show ile (Qc (ZR (JQ d))) 40=true from Be (by simp only [Qc];omega),show ile (Qc (itZ (Qh (JT d).2 3).toNat (Qe (JT d).2 3)).1) 30=true from Be (by simp only [Qc];omega)]
  rfl
 ·unfold ZC Ya
  rw [hx,hi.2.1,Be (show (JN (JQ d)).length<=99999/\(ZR (JQ d)).length<=99999 by omega),Be (show (itZ (Qh (JT d).2 3).toNat (Qe (JT d).2 3)).1.length<=100000 by omega),Bu,Bu,B7]
  exact Bi.2 fun e he=>QVX (QV0 d e he)
end Go.Proofs.YthlcobdnemhcdaaGreat.K
noncomputable section
namespace Go.Proofs.YthlcobdnemhcdaaGreat.K
open Go.RowKit
noncomputable section
open Classical in
end
end Go.Proofs.YthlcobdnemhcdaaGreat.K
noncomputable section
namespace Go.Proofs.YthlcobdnemhcdaaGreat.K
open Go.RowKit
noncomputable section
def Ob (x:Identity):Identity:=x
abbrev Qfi:Sh:=⟨[(2,.ptr 2 0),(3,.ptr 3 0),(12,.ty (.sl QP)),(13,.ty tI),(14,.ty tI)],[(2,.box QX),(3,.bag [.ty tI,.ty tI,.ty tI,.ms 20303]),(26,.no),(20303,.arr 204 QP)]⟩
abbrev QNP:Sh:=⟨[(2,.ptr 2 0),(3,.ptr 3 0)],[(2,.box QX),(3,.bag [.ty tI,.ty tI,.ty tI,.ms 20303]),(26,.no),(20303,.arr 204 QP)]⟩
def QnV:Fg:=Qfi.f
def QzG:TC:=aF Tryz.f161 [(58,.nf 3 3 204 20303),(58,.nf 5 12 9 20512),(58,pL 0 QnV),(933,.fg ⟨[(2,none),(3,none)],[(2,some QX),(3,some QX),(26,none),(20303,none)]⟩)]
def QzH:TC:=lb 0 QzG
def QzI (x12:List Certificate)(x13 x14:Int)(y2:Identity)(y3_0 y3_1 y3_2:Int)(Za:List Certificate):VS:=Qfi.st ((),(),x12,x13,x14,()) (y2,(y3_0,y3_1,y3_2,(),()),(),Za,())
def QnW (y2:Identity)(y3_0 y3_1 y3_2:Int)(Za:List Certificate):VS:=QNP.st ((),(),()) (y2,(y3_0,y3_1,y3_2,(),()),(),Za,())
def QNQ:VS->Option (Bool×List (Bool×Exit×VS)):=mkL Qfi (fun x y=>(QD x.2.2.1 x.2.2.2.1 x.2.2.2.2.1&&(JJ x.2.2.1&&decide (y.2.2.2.1.length<=x.2.2.2.2.1)))) (fun x y=>[(true,.exit 0,QnW (y.1) (y.2.1.1) (y.2.1.2.1) (y.2.1.2.2.1) (y.2.2.2.1++x.2.2.1.drop x.2.2.2.2.1.toNat))])
def QnX:G:=gG 30 [] (Ls [QNQ])
def Qfj (x12:List Certificate)(x13 x14:Int)(y2:Identity)(y3_0 y3_1 y3_2:Int)(Za:List Certificate):OX:=Qx (QA QnX QnV QzH) (QzI x12 x13 x14 y2 y3_0 y3_1 y3_2 Za)
def QaR (kk:List Certificate->Int->Int->Identity->Int->Int->Int->List Certificate->OX)(x12:List Certificate)(x13 x14:Int)(y2:Identity)(y3_0 y3_1 y3_2:Int)(Za:List Certificate):OX:=
 let a1:=((((lgt QP x12 (Int.toNat x14)).2).2).2)
 let a2:=((lgt QP x12 (Int.toNat x14)).1,(((lgt QP x12 (Int.toNat x14)).2).1,((((lgt QP x12 (Int.toNat x14)).2).2).1,(((a1.1).1,(((a1.1).2).1,())),((a1.2).1,(((((a1.2).2).1).1,(((((a1.2).2).1).2).1,())),((((a1.2).2).2).1,(((((a1.2).2).2).2).1,((((((a1.2).2).2).2).2).1,(((((((a1.2).2).2).2).2).2).1,((([]:List ByteArray)++((((((((a1.2).2).2).2).2).2).2).1)),(((((((((((a1.2).2).2).2).2).2).2).2).1).1,(((((((((((a1.2).2).2).2).2).2).2).2).1).2).1,())),()))))))))))))
 br (ilt x14 x13) (br (cIx x12 x14) (br (Qq ([]:List ByteArray) ((((((((a1.2).2).2).2).2).2).2).1) 16) (br (Qq Za ([a2]) 152) (kk x12 x13 (Qj .i64 x14 1) y2 y3_0 y3_1 y3_2 (Za++([a2]))) none) none) none) (some (.exit 0,QnW y2 y3_0 y3_1 y3_2 Za))
def Qfk (x12:List Certificate)(x13 x14:Int)(y2:Identity)(y3_0 y3_1 y3_2:Int)(Za:List Certificate):OX:=some (.exit 0,QnW (y2) (y3_0) (y3_1) (y3_2) (Za++x12.drop x14.toNat))
theorem QzJ (x12:List Certificate)(x13 x14:Int)(y2:Identity)(y3_0 y3_1 y3_2:Int)(Za:List Certificate):Qfj x12 x13 x14 y2 y3_0 y3_1 y3_2 Za=QaR Qfj x12 x13 x14 y2 y3_0 y3_1 y3_2 Za:=lnT (x:=QaR (fun x12 x13 x14 y2 y3_0 y3_1 y3_2 Za=>some (.normal,QzI x12 x13 x14 y2 y3_0 y3_1 y3_2 Za)) x12 x13 x14 y2 y3_0 y3_1 y3_2 Za) (by simp only [QaR,nxA];rfl)
def QzK (p0:Identity):OV:=br (QD p0.2.2.1 (Qc p0.2.2.1) (0:Int)&&(JJ p0.2.2.1&&decide (([]:List Certificate).length<=(0:Int)))) (some (.t QX (((p0.1.1),((p0.1.2.1),())),((p0.2.1),((([]:List Certificate)++p0.2.2.1.drop (0:Int).toNat),()))),[])) none
theorem QNR (x12:List Certificate)(x13 x14:Int)(y2:Identity)(y3_0 y3_1 y3_2:Int)(Za:List Certificate)(h:(QD x12 x13 x14&&(JJ x12&&decide (Za.length<=x14)))=true):Qfj x12 x13 x14 y2 y3_0 y3_1 y3_2 Za=Qfk x12 x13 x14 y2 y3_0 y3_1 y3_2 Za:=by
 simp only [Bc,Ba] at h
 obtain ⟨h0,hc,hl⟩:=h
 obtain ⟨rfl,h3,k,rfl,hk⟩:=JG h0
 clear h0
 revert Za
 refine QQ x12 (fun k=> ∀ (Za:List Certificate),(Za.length:Int)<=(k:Int)->Qfj x12 (x12.length:Int) (k:Int) y2 y3_0 y3_1 y3_2 Za=Qfk x12 (x12.length:Int) (k:Int) y2 y3_0 y3_1 y3_2 Za) ?_ ?_ k hk
 ·intro Za _
  rw [QzJ]
  simp only [QaR,Qfk,Qy,BN,BM,Qi,Bb,BS,BL]
 ·intro k hk ih Za hl
  rw [QzJ]
  have c1:Qq ([]:List ByteArray) (Q0 x12[k]) 16=true:=Q1 (by decide) (by have:=QcJ (QjN hc hk);simp only [Bv];omega)
  have c2: ∀ v,Qq Za [v] 152=true:=fun v=>Q1 (by omega) (by simp only [Bh];omega)
  simp only [QaR,Qy,QK,hk,Bo,Qf,Bb,QO (show k<4611686018427387904 by omega),QL (y:=QP) hk]
  refine brY c1 (brY (Q1 (by omega) (by simp only [Bh];omega)) ?_)
  refine Eq.trans (ih (Za++[x12[k]]) (by simp only [Bm,Bh];omega)) ?_
  simp only [Qfk,Bb,Bg hk,BI,BH]
theorem QNS:LO QnX QnV QzH 0:=QI (s:=Qfi) fun x y h _ q=>by simp only [QG,QH] at q;exact (QNR x.2.2.1 x.2.2.2.1 x.2.2.2.2.1 y.1 y.2.1.1 y.2.1.2.1 y.2.1.2.2.1 y.2.2.2.1 h).trans q
theorem s_f161 (x:Identity)(h:J0 x=true):QzK x=some (.t QX (Ob x),[]):=by
 have h:JJ x.2.2.1=true:=h
 unfold QzK
 refine brY ?_ rfl
 rw [JH (QcQ h),h,Bu,Bu]
 exact Be (B1 _)
def QzL:Ent:=Qo (.pr QX .nil) (fun x=>(J0 x.1)) (fun x=>(.t QX (Ob x.1)))
theorem QNT:EM 161 QzL:=mS (lk:=lkL (lkc QNS lkn)) QnX QzG [((.c 2 true 4),some QX)] false (gB gN) fun m=>Qs m fun x hok=>kT (s_f161 x.1 hok)
def FC (x:Endpoint):Endpoint:=x
abbrev Qfl:Sh:=⟨[(2,.ptr 2 0),(3,.ptr 3 0),(21,.ty (.sl QX)),(22,.ty tI),(23,.ty tI)],[(2,.box QC),(3,.bag [.ty .str,.ty tI,.ty tI,.ms 9,.ty .bool,.ms 20305,.ms 12,.ms 15,.ty .bool]),(9,.arr 3 tI),(12,.arr 3 tI),(15,.arr 3 tI),(32,.no),(20303,.no),(20305,.arr 126 QX),(20306,.no),(20307,.no)]⟩
abbrev QNU:Sh:=⟨[(2,.ptr 2 0),(3,.ptr 3 0)],[(2,.box QC),(3,.bag [.ty .str,.ty tI,.ty tI,.ms 9,.ty .bool,.ms 20305,.ms 12,.ms 15,.ty .bool]),(9,.arr 3 tI),(12,.arr 3 tI),(15,.arr 3 tI),(32,.no),(20303,.no),(20305,.arr 126 QX),(20306,.no),(20307,.no)]⟩
def QnY:Fg:=Qfl.f
def QzM:TC:=aF Tryz.f109 [(14,pD [(0,[1]),(1,[1]),(2,[9,5009,10009,15009]),(3,[1]),(4,[1]),(5,[12,5012,10012,15012]),(6,[1]),(7,[1]),(8,[15,5015,10015,15015]),(9,[3,9,12,15,32,20303,20305,20306,20307]),(10,[2,3,9,12,15,32,20303,20305,20306,20307]),(11,[3,9,12,15,32,20303,20305,20306,20307]),(12,[2,3,9,12,15,32,20303,20305,20306,20307]),(13,[3,9,12,15,32,20303,20305,20306,20307]),(14,[2,3,9,12,15,32,20303,20305,20306,20307])] (.one 0 (.one 1 (.one 3 (.one 4 (.one 6 (.one 7 (.one 2 (.alt 5 (.alt 8 (.of [9,10,11,12,13,14]) (.of [9,8,10,11,12,13,14])) (.of [9,5,8,10,11,12,13,14])))))))))),(250,.nf 3 7 3 20307),(250,.nf 3 6 3 20306),(250,.nf 3 3 3 20303),(250,.nf 3 5 126 20305),(250,pL 0 QnY),(4005,.fg ⟨[(2,none),(3,none)],[(2,some QC),(3,some QC),(9,none),(12,none),(15,none),(32,none),(20303,none),(20305,none),(20306,none),(20307,none)]⟩),(16025,pD [(0,[3,9,12,15,32,20303,20305,20306,20307]),(1,[3,9,12,15,32,20303,20305,20306,20307]),(2,[5]),(3,[]),(4,[]),(5,[2,3,9,12,15,32,5032,10032,15032,20303,20305,20306,20307]),(6,[3,9,12,15,32,20303,20305,20306,20307]),(7,[2,3,9,12,15,32,20303,20305,20306,20307])] (.of [0,1,2,3,4,5,6,7]))]
def QzN:TC:=lb 0 QzM
def QzO (x21:List Identity)(x22 x23:Int)(y2:Endpoint)(y3_0:ByteArray)(y3_1 y3_2:Int)(y3_4 y3_8:Bool)(y9 y12 y15:List Int)(Zf:List Identity):VS:=Qfl.st ((),(),x21,x22,x23,()) (y2,(y3_0,y3_1,y3_2,(),y3_4,(),(),(),y3_8,()),y9,y12,y15,(),(),Zf,(),(),())
def QnZ (y2:Endpoint)(y3_0:ByteArray)(y3_1 y3_2:Int)(y3_4 y3_8:Bool)(y9 y12 y15:List Int)(Zf:List Identity):VS:=QNU.st ((),(),()) (y2,(y3_0,y3_1,y3_2,(),y3_4,(),(),(),y3_8,()),y9,y12,y15,(),(),Zf,(),(),())
def QNV:VS->Option (Bool×List (Bool×Exit×VS)):=mkL Qfl (fun x y=>(QD x.2.2.1 x.2.2.2.1 x.2.2.2.2.1&&(x.2.2.1.all J0&&decide (y.2.2.2.2.2.2.2.1.length<=x.2.2.2.2.1)))) (fun x y=>[(true,.exit 0,QnZ (y.1) (y.2.1.1) (y.2.1.2.1) (y.2.1.2.2.1) (y.2.1.2.2.2.2.1) (y.2.1.2.2.2.2.2.2.2.2.1) (y.2.2.1) (y.2.2.2.1) (y.2.2.2.2.1) (y.2.2.2.2.2.2.2.1++x.2.2.1.drop x.2.2.2.2.1.toNat))])
def Qn0:G:=gG 36 [(161,QzL)] (Ls [QNV])
def Qfm (x21:List Identity)(x22 x23:Int)(y2:Endpoint)(y3_0:ByteArray)(y3_1 y3_2:Int)(y3_4 y3_8:Bool)(y9 y12 y15:List Int)(Zf:List Identity):OX:=Qx (QA Qn0 QnY QzN) (QzO x21 x22 x23 y2 y3_0 y3_1 y3_2 y3_4 y3_8 y9 y12 y15 Zf)
def QaS (kk:List Identity->Int->Int->Endpoint->ByteArray->Int->Int->Bool->Bool->List Int->List Int->List Int->List Identity->OX)(x21:List Identity)(x22 x23:Int)(y2:Endpoint)(y3_0:ByteArray)(y3_1 y3_2:Int)(y3_4 y3_8:Bool)(y9 y12 y15:List Int)(Zf:List Identity):OX:=
 let a1:=Ob (lgt QX x21 (Int.toNat x23))
 let a2:=(((a1.1).1,(((a1.1).2).1,())),((a1.2).1,(((a1.2).2).1,())))
 br (ilt x23 x22) (br (cIx x21 x23) (br (J0 (lgt QX x21 (Int.toNat x23))) (br (Qq Zf ([a2]) 48) (kk x21 x22 (Qj .i64 x23 1) y2 y3_0 y3_1 y3_2 y3_4 y3_8 y9 y12 y15 (Zf++([a2]))) none) none) none) (some (.exit 0,QnZ y2 y3_0 y3_1 y3_2 y3_4 y3_8 y9 y12 y15 Zf))
def Qfn (x21:List Identity)(x22 x23:Int)(y2:Endpoint)(y3_0:ByteArray)(y3_1 y3_2:Int)(y3_4 y3_8:Bool)(y9 y12 y15:List Int)(Zf:List Identity):OX:=some (.exit 0,QnZ (y2) (y3_0) (y3_1) (y3_2) (y3_4) (y3_8) (y9) (y12) (y15) (Zf++x21.drop x23.toNat))
theorem QzP (x21:List Identity)(x22 x23:Int)(y2:Endpoint)(y3_0:ByteArray)(y3_1 y3_2:Int)(y3_4 y3_8:Bool)(y9 y12 y15:List Int)(Zf:List Identity):Qfm x21 x22 x23 y2 y3_0 y3_1 y3_2 y3_4 y3_8 y9 y12 y15 Zf=QaS Qfm x21 x22 x23 y2 y3_0 y3_1 y3_2 y3_4 y3_8 y9 y12 y15 Zf:=lnT (x:=QaS (fun x21 x22 x23 y2 y3_0 y3_1 y3_2 y3_4 y3_8 y9 y12 y15 Zf=>some (.normal,QzO x21 x22 x23 y2 y3_0 y3_1 y3_2 y3_4 y3_8 y9 y12 y15 Zf)) x21 x22 x23 y2 y3_0 y3_1 y3_2 y3_4 y3_8 y9 y12 y15 Zf) (by simp only [QaS,nxA];rfl)
def Qfo (p0:Endpoint):OV:=br (Qq ([]:List Int) p0.2.2.2.2.2.2.2.1 8) (br (QD p0.2.2.2.2.2.1 (Qc p0.2.2.2.2.2.1) (0:Int)&&(p0.2.2.2.2.2.1.all J0&&decide (([]:List Identity).length<=(0:Int)))) (some (.t QC ((p0.1),((p0.2.1),((p0.2.2.1),((([]:List Int)++p0.2.2.2.1),((p0.2.2.2.2.1),((([]:List Identity)++p0.2.2.2.2.2.1.drop (0:Int).toNat),((([]:List Int)++p0.2.2.2.2.2.2.1),((([]:List Int)++p0.2.2.2.2.2.2.2.1),((p0.2.2.2.2.2.2.2.2.1),()))))))))),[])) none) none
def QzQ (p0:Endpoint):OV:=
 let a1:=(Qq ([]:List Int) p0.2.2.2.2.2.2.1 8)
 br (Qq ([]:List Int) p0.2.2.2.1 8) (frk (br a1 (frk (Qfo p0) (Qfo p0)) none) (br a1 (Qfo p0) none)) none
theorem QNW (x21:List Identity)(x22 x23:Int)(y2:Endpoint)(y3_0:ByteArray)(y3_1 y3_2:Int)(y3_4 y3_8:Bool)(y9 y12 y15:List Int)(Zf:List Identity)(h:(QD x21 x22 x23&&(x21.all J0&&decide (Zf.length<=x23)))=true):Qfm x21 x22 x23 y2 y3_0 y3_1 y3_2 y3_4 y3_8 y9 y12 y15 Zf=Qfn x21 x22 x23 y2 y3_0 y3_1 y3_2 y3_4 y3_8 y9 y12 y15 Zf:=by
 simp only [Bc,Ba] at h
 obtain ⟨h0,hc,hl⟩:=h
 obtain ⟨rfl,h3,k,rfl,hk⟩:=JG h0
 clear h0
 revert Zf
 refine QQ x21 (fun k=> ∀ (Zf:List Identity),(Zf.length:Int)<=(k:Int)->Qfm x21 (x21.length:Int) (k:Int) y2 y3_0 y3_1 y3_2 y3_4 y3_8 y9 y12 y15 Zf=Qfn x21 (x21.length:Int) (k:Int) y2 y3_0 y3_1 y3_2 y3_4 y3_8 y9 y12 y15 Zf) ?_ ?_ k hk
 ·intro Zf _
  rw [QzP]
  simp only [QaS,Qfn,Qy,BN,BM,Qi,Bb,BS,BL]
 ·intro k hk ih Zf hl
  rw [QzP]
  have c1:J0 x21[k]=true:=Bi.1 hc _ (Bw hk)
  simp only [QaS,Qy,QK,hk,Bo,Qf,Bb,QO (show k<4611686018427387904 by omega),QL (y:=QX) hk,c1]
  refine brY (Q1 (by omega) (by simp only [Bh];omega)) ?_
  refine Eq.trans (ih (Zf++[x21[k]]) (by simp only [Bm,Bh];omega)) ?_
  simp only [Qfn,Bb,Bg hk,BI,BH]
theorem QNX:LO Qn0 QnY QzN 0:=QI (s:=Qfl) fun x y h _ q=>by simp only [QG,QH] at q;exact (QNW x.2.2.1 x.2.2.2.1 x.2.2.2.2.1 y.1 y.2.1.1 y.2.1.2.1 y.2.1.2.2.1 y.2.1.2.2.2.2.1 y.2.1.2.2.2.2.2.2.2.2.1 y.2.2.1 y.2.2.2.1 y.2.2.2.2.1 y.2.2.2.2.2.2.2.1 h).trans q
theorem s_f109 (x:Endpoint)(h:Jd x=true):QzQ x=some (.t QC (FC x),[]):=by
 obtain ⟨_,h1,h2,h3,h4,h5⟩:=Qy2 h
 have c1:Qq ([]:List Int) (JM x) 8=true:=Q1 (by decide) (by simp only [Bv];omega)
 have c2:Qq ([]:List Int) (JF x) 8=true:=Q1 (by decide) (by simp only [Bv];omega)
 have c3:Qq ([]:List Int) (JR x) 8=true:=Q1 (by decide) (by simp only [Bv];omega)
 simp only [QzQ,Qfo,J9,J9]
 refine brY c1 (brY c2 (brY c3 (brY ?_ rfl)))
 rw [JH h2,h5,Bu,Bu]
 exact Be (B1 _)
def QzR:Ent:=Qo (.pr QC .nil) (fun x=>(Jd x.1)) (fun x=>(.t QC (FC x.1)))
theorem QNY:EM 109 QzR:=mS (lk:=lkL (lkc QNX lkn)) Qn0 QzM [((.c 2 true 9),some QC)] false (gB (gD QNT gN)) fun m=>Qs m fun x hok=>kT (s_f109 x.1 hok)
def Zp (x:Estate):Estate:=x
def XC (i:Item):Bool:=decide (i.2.2.2.1.length<=1000)
def JE (x:Estate):Bool:=ZC x&&(Je x).all XC
abbrev Qfp:Sh:=⟨[(1,.ptr 1 0),(2,.ptr 2 0),(3,.ptr 3 0),(13,.ty (.sl QC)),(14,.ty tI),(15,.ty tI)],[(1,.box Qm),(2,.box Qm),(3,.bag [.ms 20300,.ms 10,.ms 20302]),(10,.arr 113 Qk),(24,.no),(42,.no),(20300,.arr 111 QC),(20302,.arr 62 Qp)]⟩
abbrev QNZ:Sh:=⟨[(1,.ptr 1 0),(2,.ptr 2 0),(3,.ptr 3 0)],[(1,.box Qm),(2,.box Qm),(3,.bag [.ms 20300,.ms 10,.ms 20302]),(10,.arr 113 Qk),(24,.no),(42,.no),(20300,.arr 111 QC),(20302,.arr 62 Qp)]⟩
abbrev Qfq:Sh:=⟨[(2,.ptr 2 0),(3,.ptr 3 0),(28,.ty (.sl Qp)),(29,.ty tI),(30,.ty tI)],[(2,.box Qm),(3,.bag [.ms 20300,.ms 10,.ms 20302]),(10,.arr 113 Qk),(24,.no),(42,.no),(20300,.arr 111 QC),(20302,.arr 62 Qp)]⟩
abbrev QN0:Sh:=⟨[(2,.ptr 2 0),(3,.ptr 3 0)],[(2,.box Qm),(3,.bag [.ms 20300,.ms 10,.ms 20302]),(10,.arr 113 Qk),(24,.no),(42,.no),(20300,.arr 111 QC),(20302,.arr 62 Qp)]⟩
def Qn1:Fg:=Qfp.f
def Qn2:Fg:=Qfq.f
def Qn3:TC:=aF Tryz.f62 [(58,.nf 3 2 62 20302),(58,.nf 3 0 111 20300),(58,pL 0 Qn1),(933,.fg ⟨[(1,none),(2,none),(3,none)],[(1,some Qm),(2,some Qm),(3,some Qm),(10,none),(24,none),(42,none),(20300,none),(20302,none)]⟩),(3737,pD [(0,[3,10,24,42,20300,20302]),(1,[3,10,24,42,20300,20302]),(2,[5]),(3,[]),(4,[]),(5,[2,3,10,24,42,5024,10024,15024,20300,20302]),(6,[3,10,24,42,20300,20302]),(7,[2,3,10,24,42,20300,20302])] (.of [0,1,2,3,4,5,6,7])),(122,.nf 3 0 111 20300),(122,.nf 3 2 62 20302),(122,.nf 7 3 45 20703),(122,pL 1 Qn2),(1957,.fg ⟨[(2,none),(3,none)],[(2,some Qm),(3,some Qm),(10,none),(24,none),(42,none),(20300,none),(20302,none)]⟩)]
def QzS:TC:=lb 0 Qn3
def QzT:TC:=lb 1 Qn3
def QzU (x13:List Endpoint)(x14 x15:Int)(y1 y2:Estate)(y10:List Keep)(Qb:List Endpoint)(Qd:List Item):VS:=Qfp.st ((),(),(),x13,x14,x15,()) (y1,y2,((),(),(),()),y10,(),(),Qb,Qd,())
def Qn4 (y1 y2:Estate)(y10:List Keep)(Qb:List Endpoint)(Qd:List Item):VS:=QNZ.st ((),(),(),()) (y1,y2,((),(),(),()),y10,(),(),Qb,Qd,())
def QzV (x28:List Item)(x29 x30:Int)(y2:Estate)(y10:List Keep)(Qb:List Endpoint)(Qd:List Item):VS:=Qfq.st ((),(),x28,x29,x30,()) (y2,((),(),(),()),y10,(),(),Qb,Qd,())
def Qn5 (y2:Estate)(y10:List Keep)(Qb:List Endpoint)(Qd:List Item):VS:=QN0.st ((),(),()) (y2,((),(),(),()),y10,(),(),Qb,Qd,())
def QN1:VS->Option (Bool×List (Bool×Exit×VS)):=mkL Qfp (fun x y=>(QD x.2.2.2.1 x.2.2.2.2.1 x.2.2.2.2.2.1&&(x.2.2.2.1.all Jd&&decide (y.2.2.2.2.2.2.1.length<=x.2.2.2.2.2.1)))) (fun x y=>[(true,.exit 0,Qn4 (y.1) (y.2.1) (y.2.2.2.1) (y.2.2.2.2.2.2.1++x.2.2.2.1.drop x.2.2.2.2.2.1.toNat) (y.2.2.2.2.2.2.2.1))])
def QN2:VS->Option (Bool×List (Bool×Exit×VS)):=mkL Qfq (fun x y=>(QD x.2.2.1 x.2.2.2.1 x.2.2.2.2.1&&(x.2.2.1.all XC&&decide (y.2.2.2.2.2.2.1.length<=x.2.2.2.2.1)))) (fun x y=>[(true,.exit 2,Qn5 (y.1) (y.2.2.1) (y.2.2.2.2.2.1) (y.2.2.2.2.2.2.1++x.2.2.1.drop x.2.2.2.2.1.toNat))])
def QaT:G:=gG 46 [(109,QzR)] (Ls [QN1,QN2])
def Qfr (x13:List Endpoint)(x14 x15:Int)(y1 y2:Estate)(y10:List Keep)(Qb:List Endpoint)(Qd:List Item):OX:=Qx (QA QaT Qn1 QzS) (QzU x13 x14 x15 y1 y2 y10 Qb Qd)
def QaU (kk:List Endpoint->Int->Int->Estate->Estate->List Keep->List Endpoint->List Item->OX)(x13:List Endpoint)(x14 x15:Int)(y1 y2:Estate)(y10:List Keep)(Qb:List Endpoint)(Qd:List Item):OX:=
 let a1:=FC (lgt QC x13 (Int.toNat x15))
 let a2:=((a1.2).1,(((a1.2).2).1,((((a1.2).2).2).1,(((((a1.2).2).2).2).1,((((((a1.2).2).2).2).2).1,(((((((a1.2).2).2).2).2).2).1,((((((((a1.2).2).2).2).2).2).2).1,(((((((((a1.2).2).2).2).2).2).2).2).1,()))))))))
 br (ilt x15 x14) (br (cIx x13 x15) (br (Jd (lgt QC x13 (Int.toNat x15))) (br (Qq Qb ([(a1.1,a2)]) 144) (kk x13 x14 (Qj .i64 x15 1) y1 y2 y10 (Qb++([(a1.1,a2)])) Qd) none) none) none) (some (.exit 0,Qn4 y1 y2 y10 Qb Qd))
def Qfs (x13:List Endpoint)(x14 x15:Int)(y1 y2:Estate)(y10:List Keep)(Qb:List Endpoint)(Qd:List Item):OX:=some (.exit 0,Qn4 (y1) (y2) (y10) (Qb++x13.drop x15.toNat) (Qd))
theorem QzW (x13:List Endpoint)(x14 x15:Int)(y1 y2:Estate)(y10:List Keep)(Qb:List Endpoint)(Qd:List Item):Qfr x13 x14 x15 y1 y2 y10 Qb Qd=QaU Qfr x13 x14 x15 y1 y2 y10 Qb Qd:=lnT (x:=QaU (fun x13 x14 x15 y1 y2 y10 Qb Qd=>some (.normal,QzU x13 x14 x15 y1 y2 y10 Qb Qd)) x13 x14 x15 y1 y2 y10 Qb Qd) (by simp only [QaU,nxA];rfl)
def Qft (x28:List Item)(x29 x30:Int)(y2:Estate)(y10:List Keep)(Qb:List Endpoint)(Qd:List Item):OX:=Qx (QA QaT Qn2 QzT) (QzV x28 x29 x30 y2 y10 Qb Qd)
def QaV (kk:List Item->Int->Int->Estate->List Keep->List Endpoint->List Item->OX)(x28:List Item)(x29 x30:Int)(y2:Estate)(y10:List Keep)(Qb:List Endpoint)(Qd:List Item):OX:=
 let a1:=lgt Qp x28 (Int.toNat x30)
 let a2:=(((a1.2).2).2)
 br (ilt x30 x29) (br (cIx x28 x30) (br (Qq ([]:List Link) (a2.1) 24) (br (Qq Qd ([(a1.1,((a1.2).1,(((a1.2).2).1,((([]:List Link)++(a2.1)),((a2.2).1,())))))]) 64) (kk x28 x29 (Qj .i64 x30 1) y2 y10 Qb (Qd++([(a1.1,((a1.2).1,(((a1.2).2).1,((([]:List Link)++(a2.1)),((a2.2).1,())))))]))) none) none) none) (some (.exit 2,Qn5 y2 y10 Qb Qd))
def Qfu (x28:List Item)(x29 x30:Int)(y2:Estate)(y10:List Keep)(Qb:List Endpoint)(Qd:List Item):OX:=some (.exit 2,Qn5 (y2) (y10) (Qb) (Qd++x28.drop x30.toNat))
theorem QzX (x28:List Item)(x29 x30:Int)(y2:Estate)(y10:List Keep)(Qb:List Endpoint)(Qd:List Item):Qft x28 x29 x30 y2 y10 Qb Qd=QaV Qft x28 x29 x30 y2 y10 Qb Qd:=lnT (x:=QaV (fun x28 x29 x30 y2 y10 Qb Qd=>some (.normal,QzV x28 x29 x30 y2 y10 Qb Qd)) x28 x29 x30 y2 y10 Qb Qd) (by simp only [QaV,nxA];rfl)
def r_f62 (p0:Estate):OV:=
 let a1:=((((p0).2).2).1)
 br (Qq ([]:List Keep) p0.2.1 16) (br (QD p0.1 (Qc p0.1) (0:Int)&&(p0.1.all Jd&&decide (([]:List Endpoint).length<=(0:Int)))) (br (QD a1 (Qc a1) (0:Int)&&(a1.all XC&&decide (([]:List Item).length<=(0:Int)))) (some (.ag [(.ms 50000),(.ms 50001),(.ms 50002)],[.arr 111 QC (([]:List Endpoint)++p0.1.drop (0:Int).toNat),.arr 113 Qk (([]:List Keep)++p0.2.1),.arr 62 Qp (([]:List Item)++a1.drop (0:Int).toNat)])) none) none) none
theorem QN3 (x13:List Endpoint)(x14 x15:Int)(y1 y2:Estate)(y10:List Keep)(Qb:List Endpoint)(Qd:List Item)(h:(QD x13 x14 x15&&(x13.all Jd&&decide (Qb.length<=x15)))=true):Qfr x13 x14 x15 y1 y2 y10 Qb Qd=Qfs x13 x14 x15 y1 y2 y10 Qb Qd:=by
 simp only [Bc,Ba] at h
 obtain ⟨h0,hc,hl⟩:=h
 obtain ⟨rfl,h3,k,rfl,hk⟩:=JG h0
 clear h0
 revert Qb
 refine QQ x13 (fun k=> ∀ (Qb:List Endpoint),(Qb.length:Int)<=(k:Int)->Qfr x13 (x13.length:Int) (k:Int) y1 y2 y10 Qb Qd=Qfs x13 (x13.length:Int) (k:Int) y1 y2 y10 Qb Qd) ?_ ?_ k hk
 ·intro Qb _
  rw [QzW]
  simp only [QaU,Qfs,Qy,BN,BM,Qi,Bb,BS,BL]
 ·intro k hk ih Qb hl
  rw [QzW]
  have c1:Jd x13[k]=true:=Bi.1 hc _ (Bw hk)
  simp only [QaU,Qy,QK,hk,Bo,Qf,Bb,QO (show k<4611686018427387904 by omega),QL (y:=QC) hk,c1]
  refine brY (Q1 (by omega) (by simp only [Bh];omega)) ?_
  refine Eq.trans (ih (Qb++[x13[k]]) (by simp only [Bm,Bh];omega)) ?_
  simp only [Qfs,Bb,Bg hk,BI,BH]
theorem QN4 (x28:List Item)(x29 x30:Int)(y2:Estate)(y10:List Keep)(Qb:List Endpoint)(Qd:List Item)(h:(QD x28 x29 x30&&(x28.all XC&&decide (Qd.length<=x30)))=true):Qft x28 x29 x30 y2 y10 Qb Qd=Qfu x28 x29 x30 y2 y10 Qb Qd:=by
 simp only [Bc,Ba] at h
 obtain ⟨h0,hc,hl⟩:=h
 obtain ⟨rfl,h3,k,rfl,hk⟩:=JG h0
 clear h0
 revert Qd
 refine QQ x28 (fun k=> ∀ (Qd:List Item),(Qd.length:Int)<=(k:Int)->Qft x28 (x28.length:Int) (k:Int) y2 y10 Qb Qd=Qfu x28 (x28.length:Int) (k:Int) y2 y10 Qb Qd) ?_ ?_ k hk
 ·intro Qd _
  rw [QzX]
  simp only [QaV,Qfu,Qy,BN,BM,Qi,Bb,BS,BL]
 ·intro k hk ih Qd hl
  rw [QzX]
  have c1:x28[k].2.2.2.1.length<=1000:=BD (Bi.1 hc _ (Bw hk))
  simp only [QaV,Qy,QK,hk,Bo,Qf,Bb,QO (show k<4611686018427387904 by omega),QL (y:=Qp) hk]
  refine brY (Q1 (by decide) (by simp only [Bv];omega)) (brY (Q1 (by omega) (by simp only [Bh];omega)) ?_)
  refine Eq.trans (ih (Qd++[x28[k]]) (by simp only [Bm,Bh];omega)) ?_
  simp only [Qfu,Bb,Bg hk,BI,BH]
theorem QN5:LO QaT Qn1 QzS 0:=QI (s:=Qfp) fun x y h _ q=>by simp only [QG,QH] at q;exact (QN3 x.2.2.2.1 x.2.2.2.2.1 x.2.2.2.2.2.1 y.1 y.2.1 y.2.2.2.1 y.2.2.2.2.2.2.1 y.2.2.2.2.2.2.2.1 h).trans q
theorem QN6:LO QaT Qn2 QzT 1:=QI (s:=Qfq) fun x y h _ q=>by simp only [QG,QH] at q;exact (QN4 x.2.2.1 x.2.2.2.1 x.2.2.2.2.1 y.1 y.2.2.1 y.2.2.2.2.2.1 y.2.2.2.2.2.2.1 h).trans q
theorem s_f62 (x:Estate)(h:JE x=true):r_f62 x=some (.ag [.ms 50000,.ms 50001,.ms 50002],[.arr 111 QC (Zp x).1,.arr 113 Qk (Zp x).2.1,.arr 62 Qp (Zp x).2.2.1]):=by
 obtain ⟨h,h6⟩:=Bf.1 h
 simp only [ZC,Bc,Ba] at h
 obtain ⟨⟨h1,h2⟩,h3,h4⟩:=h
 have h5:=F1 h4
 unfold r_f62
 have hx:x.2.1.length<=99999:=h2
 refine brY (Q1 (by decide) (by simp only [Bv];omega)) (brY ?_ (brY ?_ rfl))
 ·rw [JH (show (JN x).length<=100000 by omega),h3,Bu,Bu]
  exact Be (B1 _)
 ·rw [JH h5,h6,Bu,Bu]
  exact Be (B1 _)
def Qn6:Ent:=XW (.pr Qm .nil) (fun x=>(JE x.1)) (fun x=>(.ag [(.ms 50000),(.ms 50001),(.ms 50002)])) (fun x=>[.arr 111 QC ((Zp x.1).1),.arr 113 Qk (((Zp x.1).2).1),.arr 62 Qp ((((Zp x.1).2).2).1)])
theorem QzY:EM 62 Qn6:=mS (lk:=lkL (lkc QN5 (lkc QN6 lkn))) QaT Qn3 [((.c 2 true 3),none)] true (gB (gD QNY gN)) fun m=>QeD m fun x hok=>kT (s_f62 x.1 hok)
end
end Go.Proofs.YthlcobdnemhcdaaGreat.K
noncomputable section
namespace Go.Proofs.YthlcobdnemhcdaaGreat.K
open Go.RowKit
theorem Qht {P:Program}(w:World)(t e:TypeId)(a:Option Addr)(l c:Nat)(h:P.underlying t=some (.slice e)):(binOp .eql t (.slice a l c) (.slice none 0 0)).run P w= .ok (.bool a.isNone) w:=by
 simp [binOp,run_equal_slice_nil w t e a l c h]
def Uw {α:Type}(l:List α):Bool:=decide (l.length<=100000)
theorem own_cG {X:Nat->Nat->Prop}{w:World}{σ:Pl}{B e:Nat}{y:Ty}{l:List y.T}{cells:List Value}{sv:Value}(h:w.ownsRow B e y.sz sv l.length cells)(hc:Cs X w Q3 (l.flatMap y.cells) cells)(h1: ∀ u∈cells,u.oneCell'=true)(hX: ∀ b q,X b q->b<B):C X w σ (V.t (.sl y) l).d sv:=by
 obtain ⟨g,A,c,rfl,h2,h3,h4⟩:=Sl.of_own h
 have hlt:=h.lt
 show C X w σ (.sl l.length (l.flatMap y.cells)) _
 simp only [C]
 refine ⟨A,c,rfl,h2,h3,fun h0=> ?_,fun h0=> ?_⟩
 ·have:l=[]:=BC h0
  rw [this]
  rfl
 ·obtain ⟨b,off,rfl,g1,g2⟩:=h4 h0
  refine ⟨b,off,cells,rfl,hc,g1,fun q _ hq=> ?_,fun j u hu=>g2 j u hu,h1⟩
  have:=hX b _ hq
  have:=(hlt b rfl).1
  omega
theorem QDz {P:Program}{f e N:Nat}{y:Ty}{ok:(Ty.pr (.sl y) .nil).T->Bool}(hlt:f<1000000)(hok: ∀ x,ok x=true->x.1.length<=N)
  (h: ∀ (A:Option Addr) (c n:Nat) (cells:List Value) (w:World),Sl w (.slice A n c) y.sz n cells->(∀ u∈cells,u.oneCell'=true)->n<=N→
   Calls P f #[.slice A n c] w fun r w'=> ∃ sv,r= .returned sv/\w'.ownsRow w.heap.size e y.sz sv n cells/\Below w.heap.size w w'):
  Qu P f (Qv (Qo (.pr (.sl y) .nil) ok (fun x=> .t (.sl y) x.1))):=by
 refine QeK (hlt:=hlt) (fun x hx X w σ vs hfin hc=> ?_)
 obtain ⟨l,u0⟩:=x
 have hc:Cs X w σ [D.sl l.length (l.flatMap y.cells)] vs:=hc
 simp only [Cs,C] at hc
 obtain ⟨u,us,rfl,⟨A,c,rfl,hnc,hmx,hz,hp⟩,rfl⟩:=hc
 have hsl: ∃ cells,Sl w (.slice A l.length c) y.sz l.length cells/\(∀ u∈cells,u.oneCell'=true)/\Cs X w Q3 (List.flatMap y.cells l) cells:=by
  by_cases hq:l=[]
  ·subst hq
   exact ⟨[],⟨by simp,A,c,rfl,Da _,hmx,fun hn=>absurd hn (by simp)⟩,fun u hu=>(by cases hu),by simp [Cs]⟩
  ·have hn:0<l.length:=List.length_pos_iff.2 hq
   obtain ⟨b,off,vs,rfl,g1,g2⟩:=hp hn
   have hvl:=Cs.len g1
   rw [UX] at hvl
   exact ⟨vs,⟨hvl,_,c,rfl,hnc,hmx,fun _=>⟨b,off,rfl,g2.lt,fun j u hu=>g2.at_ j u hu⟩⟩,g2.one,g1⟩
 obtain ⟨cells,s1,s2,s3⟩:=hsl
 refine (h A c l.length cells w s1 s2 (hok _ hx)).mono ?_
 rintro en w' ⟨sv,rfl,ho,hb⟩
 exact ⟨sv,rfl,own_cG ho (Cs.ext0 (QST hb) _ _ (fun _ _=>rfl) s3) s2 hfin,hb⟩
def QDA (l:List Identity):List Identity:=l
def QDB:Ent:=XW (.pr (.sl QX) .nil) (fun x=>(Uw x.1)) (fun x=>(.ms 50000)) (fun x=>[.arr 126 QX (QDA x.1)])
theorem QR6:Ja Tryz.prog 141:= .inr ⟨by decide,_,Tryz.func141,by kernel_rfl,by kernel_rfl⟩
theorem QR7:ElemOk Tryz.prog 109 126 4 48:=ElemOk.of (.agg #[.int .i64 0,.int .i64 0,.int .i64 0,.slice none 0 0]) (by kernel_rfl) (by kernel_rfl) (by kernel_rfl) (by decide)
set_option maxHeartbeats 400000 in
theorem QR8 (A:Option Addr)(c n:Nat)(cells:List Value)(w:World)(h:Sl w (.slice A n c) 4 n cells)(h1: ∀ u∈cells,u.oneCell'=true)(hn:n<=100000):
  Calls Tryz.prog 141 #[.slice A n c] w fun r w'=> ∃ sv,r= .returned sv/\w'.ownsRow w.heap.size 126 4 sv n cells/\Below w.heap.size w w':=by
 have he:=Qht (P:=Tryz.prog) w 109 126 A n c (by kernel_rfl)
 rcases A with _|ad
 ·have hnil:n=0:=Dy fun h0=>by
   obtain ⟨_,A',c',hv,_,_,h3⟩:=h
   obtain ⟨b,off,e,_⟩:=h3 (by omega)
   rw [e] at hv
   simp at hv
  subst hnil
  have hc:cells=[]:=BC (by rw [h.1,DN])
  subst hc
  clear h
  simp only [D1] at he
  go_enter Tryz.func141,Tryz.ntmps141
  go_wp2_with fail
  go_ret
  exact ⟨_,rfl,World.ownsRow_nil _ _ _ _,Below.refl _ _⟩
 ·simp only [D2] at he
  have hown:=World.ownsRow_made w #[] (size:=4) (e:=126) 0 (BB _) (Da _) rfl
  have hsrc:=h.alloc (.cells #[] 126)
  have HSRC:=Lib.hid hsrc
  clear h hsrc
  go_enter Tryz.func141,Tryz.ntmps141
  go_wp2_with (at_builtin;refine OB QR7 rfl _ _ rfl w.heap.size (.slice (some ⟨w.heap.size,0,none⟩) 0 0) 0 [] rfl hown (some ad) n c cells rfl HSRC.out h1 (by omega) (by omega) (by simp) ?_;intro v' w4 hown4 hg4 hat4)
  go_ret
  refine ⟨v',rfl,by simpa using hown4, ?_⟩
  have hal:=(Below.refl w.heap.size w).alloc (BB _) (.cells #[] 126)
  exact FN hal hg4 (BB _) hal.size
theorem QR9:Qu Tryz.prog 141 (Qv QDB):=
 QgW (e:=126) (y:=QX) (by decide) (fun x hx=>BD hx) fun A c n cells w h h1 hn=>QR8 A c n cells w h h1 hn
def QDC (l:List Certificate):List Certificate:=l
def QDD:Ent:=XW (.pr (.sl QP) .nil) (fun x=>(Uw x.1)) (fun x=>(.ms 50000)) (fun x=>[.arr 204 QP (QDC x.1)])
theorem QSa:Ja Tryz.prog 194:= .inr ⟨by decide,_,Tryz.func194,by kernel_rfl,by kernel_rfl⟩
theorem QSb:ElemOk Tryz.prog 124 204 15 152:=ElemOk.of (.agg #[.int .i64 0,.string ⟨#[]⟩,.string ⟨#[]⟩,.int .i64 0,.int .i64 0,.int .i64 0,.int .i64 0,.int .i64 0,.int .i64 0,.int .i64 0,.bool false,.int .i64 0,.slice none 0 0,.int .i64 0,.int .i64 0]) (by kernel_rfl) (by kernel_rfl) (by kernel_rfl) (by decide)
set_option maxHeartbeats 400000 in
theorem QSc (A:Option Addr)(c n:Nat)(cells:List Value)(w:World)(h:Sl w (.slice A n c) 15 n cells)(h1: ∀ u∈cells,u.oneCell'=true)(hn:n<=100000):
  Calls Tryz.prog 194 #[.slice A n c] w fun r w'=> ∃ sv,r= .returned sv/\w'.ownsRow w.heap.size 204 15 sv n cells/\Below w.heap.size w w':=by
 have he:=Qht (P:=Tryz.prog) w 124 204 A n c (by kernel_rfl)
 rcases A with _|ad
 ·have hnil:n=0:=Dy fun h0=>by
   obtain ⟨_,A',c',hv,_,_,h3⟩:=h
   obtain ⟨b,off,e,_⟩:=h3 (by omega)
   rw [e] at hv
   simp at hv
  subst hnil
  have hc:cells=[]:=BC (by rw [h.1,DN])
  subst hc
  clear h
  simp only [D1] at he
  go_enter Tryz.func194,Tryz.ntmps194
  go_wp2_with fail
  go_ret
  exact ⟨_,rfl,World.ownsRow_nil _ _ _ _,Below.refl _ _⟩
 ·simp only [D2] at he
  have hown:=World.ownsRow_made w #[] (size:=15) (e:=204) 0 (BB _) (Da _) rfl
  have hsrc:=h.alloc (.cells #[] 204)
  have HSRC:=Lib.hid hsrc
  clear h hsrc
  go_enter Tryz.func194,Tryz.ntmps194
  go_wp2_with (at_builtin;refine OB QSb rfl _ _ rfl w.heap.size (.slice (some ⟨w.heap.size,0,none⟩) 0 0) 0 [] rfl hown (some ad) n c cells rfl HSRC.out h1 (by omega) (by omega) (by simp) ?_;intro v' w4 hown4 hg4 hat4)
  go_ret
  refine ⟨v',rfl,by simpa using hown4, ?_⟩
  have hal:=(Below.refl w.heap.size w).alloc (BB _) (.cells #[] 204)
  exact FN hal hg4 (BB _) hal.size
theorem QSd:Qu Tryz.prog 194 (Qv QDD):=
 QgW (e:=204) (y:=QP) (by decide) (fun x hx=>BD hx) fun A c n cells w h h1 hn=>QSc A c n cells w h h1 hn
def QDE (l:List ByteArray):List ByteArray:=l
def QDF:Ent:=Qo (.pr (.sl .str) .nil) (fun x=>(Uw x.1)) (fun x=>(.t (.sl .str) (QDE x.1)))
theorem QSe:Ja Tryz.prog 195:= .inr ⟨by decide,_,Tryz.func195,by kernel_rfl,by kernel_rfl⟩
theorem QSf:ElemOk Tryz.prog 115 9 1 16:=ElemOk.of (.string ⟨#[]⟩) (by kernel_rfl) (by kernel_rfl) (by kernel_rfl) (by decide)
set_option maxHeartbeats 400000 in
theorem QSg (A:Option Addr)(c n:Nat)(cells:List Value)(w:World)(h:Sl w (.slice A n c) 1 n cells)(h1: ∀ u∈cells,u.oneCell'=true)(hn:n<=100000):
  Calls Tryz.prog 195 #[.slice A n c] w fun r w'=> ∃ sv,r= .returned sv/\w'.ownsRow w.heap.size 9 1 sv n cells/\Below w.heap.size w w':=by
 have he:=Qht (P:=Tryz.prog) w 115 9 A n c (by kernel_rfl)
 rcases A with _|ad
 ·have hnil:n=0:=Dy fun h0=>by
   obtain ⟨_,A',c',hv,_,_,h3⟩:=h
   obtain ⟨b,off,e,_⟩:=h3 (by omega)
   rw [e] at hv
   simp at hv
  subst hnil
  have hc:cells=[]:=BC (by rw [h.1,DN])
  subst hc
  clear h
  simp only [D1] at he
  go_enter Tryz.func195,Tryz.ntmps195
  go_wp2_with fail
  go_ret
  exact ⟨_,rfl,World.ownsRow_nil _ _ _ _,Below.refl _ _⟩
 ·simp only [D2] at he
  have hown:=World.ownsRow_made w #[] (size:=1) (e:=9) 0 (BB _) (Da _) rfl
  have hsrc:=h.alloc (.cells #[] 9)
  have HSRC:=Lib.hid hsrc
  clear h hsrc
  go_enter Tryz.func195,Tryz.ntmps195
  go_wp2_with (at_builtin;refine OB QSf rfl _ _ rfl w.heap.size (.slice (some ⟨w.heap.size,0,none⟩) 0 0) 0 [] rfl hown (some ad) n c cells rfl HSRC.out h1 (by omega) (by omega) (by simp) ?_;intro v' w4 hown4 hg4 hat4)
  go_ret
  refine ⟨v',rfl,by simpa using hown4, ?_⟩
  have hal:=(Below.refl w.heap.size w).alloc (BB _) (.cells #[] 9)
  exact FN hal hg4 (BB _) hal.size
theorem QSh:Qu Tryz.prog 195 (Qv QDF):=
 QDz (e:=9) (y:= .str) (by decide) (fun x hx=>BD hx) fun A c n cells w h h1 hn=>QSg A c n cells w h h1 hn
def Qhu (l:List Int):List Int:=l
def QDG:Ent:=Qo (.pr (.sl tI) .nil) (fun x=>(Uw x.1)) (fun x=>(.t (.sl tI) (Qhu x.1)))
theorem QSi:Ja Tryz.prog 140:= .inr ⟨by decide,_,Tryz.func140,by kernel_rfl,by kernel_rfl⟩
theorem QSj:ElemOk Tryz.prog 22 3 1 8:=ElemOk.of (.int .i64 0) (by kernel_rfl) (by kernel_rfl) (by kernel_rfl) (by decide)
set_option maxHeartbeats 400000 in
theorem QSk (A:Option Addr)(c n:Nat)(cells:List Value)(w:World)(h:Sl w (.slice A n c) 1 n cells)(h1: ∀ u∈cells,u.oneCell'=true)(hn:n<=100000):
  Calls Tryz.prog 140 #[.slice A n c] w fun r w'=> ∃ sv,r= .returned sv/\w'.ownsRow w.heap.size 3 1 sv n cells/\Below w.heap.size w w':=by
 have he:=Qht (P:=Tryz.prog) w 22 3 A n c (by kernel_rfl)
 rcases A with _|ad
 ·have hnil:n=0:=Dy fun h0=>by
   obtain ⟨_,A',c',hv,_,_,h3⟩:=h
   obtain ⟨b,off,e,_⟩:=h3 (by omega)
   rw [e] at hv
   simp at hv
  subst hnil
  have hc:cells=[]:=BC (by rw [h.1,DN])
  subst hc
  clear h
  simp only [D1] at he
  go_enter Tryz.func140,Tryz.ntmps140
  go_wp2_with fail
  go_ret
  exact ⟨_,rfl,World.ownsRow_nil _ _ _ _,Below.refl _ _⟩
 ·simp only [D2] at he
  have hown:=World.ownsRow_made w #[] (size:=1) (e:=3) 0 (BB _) (Da _) rfl
  have hsrc:=h.alloc (.cells #[] 3)
  have HSRC:=Lib.hid hsrc
  clear h hsrc
  go_enter Tryz.func140,Tryz.ntmps140
  go_wp2_with (at_builtin;refine OB QSj rfl _ _ rfl w.heap.size (.slice (some ⟨w.heap.size,0,none⟩) 0 0) 0 [] rfl hown (some ad) n c cells rfl HSRC.out h1 (by omega) (by omega) (by simp) ?_;intro v' w4 hown4 hg4 hat4)
  go_ret
  refine ⟨v',rfl,by simpa using hown4, ?_⟩
  have hal:=(Below.refl w.heap.size w).alloc (BB _) (.cells #[] 3)
  exact FN hal hg4 (BB _) hal.size
theorem QSl:Qu Tryz.prog 140 (Qv QDG):=
 QDz (e:=3) (y:=tI) (by decide) (fun x hx=>BD hx) fun A c n cells w h h1 hn=>QSk A c n cells w h h1 hn
end Go.Proofs.YthlcobdnemhcdaaGreat.K
