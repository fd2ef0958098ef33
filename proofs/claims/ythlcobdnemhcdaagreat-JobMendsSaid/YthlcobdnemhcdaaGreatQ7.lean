import Derived.Test.YthlcobdnemhcdaaGreatQ4
import Derived.Test.YthlcobdnemhcdaaGreatQ6
import Derived.Test.YthlcobdnemhcdaaGreatQ3
import Derived.Test.YthlcobdnemhcdaaGreatQ5
import Derived.Conc.LoneCalls
set_option linter.unusedSimpArgs false
set_option linter.unusedVariables false
noncomputable section
namespace Go.Proofs.YthlcobdnemhcdaaGreat.K
open Go.RowKit
def Zy (r:Rule):Bool:=decide (0<=r.Alg/\r.Alg<=22/\0<=r.Below/\r.Below<=16384/\0<=r.Purpose/\r.Purpose<=4/\0<=r.From/\r.From<r.To/\r.To<=40001)
def Yb (k:Keep):Bool:=decide (1<=k.1/\k.1<=4/\0<=k.2.1/\k.2.1<=40000)
def ZP (r:Rule):Bool:= !Zy r
def ZQ (k:Keep):Bool:= !Yb k
def QFT:TC:=aF Tryz.f145 []
def g_f145:G:=gG 48 [] (fun _ _=>none)
def Qus (p0:Rule):OV:=br (ige p0.2.1 0) (br (ile p0.2.1 22) (br (ige p0.2.2.1 0) (br (ile p0.2.2.1 16384) (br (ige p0.2.2.2.1 0) (br (ile p0.2.2.2.1 4) (br (ige p0.2.2.2.2.1 0) (br (ilt p0.2.2.2.2.1 p0.2.2.2.2.2.1) (some (.t .bool (ile p0.2.2.2.2.2.1 40001),[])) (some (.t .bool false,[]))) (some (.t .bool false,[]))) (some (.t .bool false,[]))) (some (.t .bool false,[]))) (some (.t .bool false,[]))) (some (.t .bool false,[]))) (some (.t .bool false,[]))) (some (.t .bool false,[]))
theorem s_f145 (r:Rule):Qus r=some (.t .bool (Zy r),[]):=by
 simp only [Qus]
 repeat' (refine QV ?_ ?_<;>intro _)
 all_goals simp only [ige,ile,ilt,Ba,Bn,Estate.Endpoints,Estate.Edges,Estate.Items,Policy.Rules,Policy.Keeps,Keep.Alg,Keep.Bits,Link.Use,Link.Day,Job.Item,Job.Link,Item.Name,Item.Kind,Item.Purpose,Item.Links,Item.Until,Rule.Allow,Rule.Alg,Rule.Below,Rule.Purpose,Rule.From,Rule.To,Exception.Use,Exception.Purpose,Exception.Endpoint,Exception.Days,Exception.Seals,Dice.L,Dice.At,Endpoint.Name,Endpoint.Least,Endpoint.Most,Endpoint.Suites,Endpoint.OwnOrder,Endpoint.Identities,Endpoint.Anchors,Endpoint.Hashes,Endpoint.Fallback,Identity.Key,Identity.KeyId,Identity.Chain,Change.Endpoint,Change.Kind,Change.Number,Change.At,Change.Identity,Rules.p,Rules.l,Rules.o,Rules.day,Method.outcome,Method.uses,Certificate.Serial,Certificate.Issuer,Certificate.Subject,Certificate.Key,Certificate.KeyId,Certificate.Hash,Certificate.From,Certificate.To,Certificate.Authority,Certificate.Path,Certificate.Names,Certificate.Seal,LinkX.day,LinkX.fall,LinkX.falls,Suite.Code,Suite.Name,Suite.Exchange,Suite.Sign,Suite.Cipher,Suite.Mac,Suite.Least,Suite.Most,Row.name,Row.kind,Row.way,Row.sizes,Row.strengths,Talk.server,Talk.version,Talk.suites,Symbol.name,Symbol.kind] at*
 all_goals (apply GR;unfold Zy;rw [DB];simp only [ige,ile,ilt,Ba,Estate.Endpoints,Estate.Edges,Estate.Items,Policy.Rules,Policy.Keeps,Keep.Alg,Keep.Bits,Link.Use,Link.Day,Job.Item,Job.Link,Item.Name,Item.Kind,Item.Purpose,Item.Links,Item.Until,Rule.Allow,Rule.Alg,Rule.Below,Rule.Purpose,Rule.From,Rule.To,Exception.Use,Exception.Purpose,Exception.Endpoint,Exception.Days,Exception.Seals,Dice.L,Dice.At,Endpoint.Name,Endpoint.Least,Endpoint.Most,Endpoint.Suites,Endpoint.OwnOrder,Endpoint.Identities,Endpoint.Anchors,Endpoint.Hashes,Endpoint.Fallback,Identity.Key,Identity.KeyId,Identity.Chain,Change.Endpoint,Change.Kind,Change.Number,Change.At,Change.Identity,Rules.p,Rules.l,Rules.o,Rules.day,Method.outcome,Method.uses,Certificate.Serial,Certificate.Issuer,Certificate.Subject,Certificate.Key,Certificate.KeyId,Certificate.Hash,Certificate.From,Certificate.To,Certificate.Authority,Certificate.Path,Certificate.Names,Certificate.Seal,LinkX.day,LinkX.fall,LinkX.falls,Suite.Code,Suite.Name,Suite.Exchange,Suite.Sign,Suite.Cipher,Suite.Mac,Suite.Least,Suite.Most,Row.name,Row.kind,Row.way,Row.sizes,Row.strengths,Talk.server,Talk.version,Talk.suites,Symbol.name,Symbol.kind,BE,false_iff];omega)
def Qut:Ent:=Qo (.pr QU .nil) (fun x=>true) (fun x=>(.t .bool (Zy x.1)))
theorem QFU:EM 145 Qut:=mS g_f145 QFT [((.t 2),some .bool)] false (gB gN) fun m=>Qt m fun x _=>kT (s_f145 x.1)
def QFV:TC:=aF Tryz.f148 []
def g_f148:G:=gG 21 [] (fun _ _=>none)
def Quu (p0:Keep):OV:=br (ige p0.1 1) (br (ile p0.1 4) (br (ige p0.2.1 0) (some (.t .bool (ile p0.2.1 40000),[])) (some (.t .bool false,[]))) (some (.t .bool false,[]))) (some (.t .bool false,[]))
theorem s_f148 (r:Keep):Quu r=some (.t .bool (Yb r),[]):=by
 simp only [Quu]
 repeat' (refine QV ?_ ?_<;>intro _)
 all_goals simp only [ige,ile,ilt,Ba,Bn,Estate.Endpoints,Estate.Edges,Estate.Items,Policy.Rules,Policy.Keeps,Keep.Alg,Keep.Bits,Link.Use,Link.Day,Job.Item,Job.Link,Item.Name,Item.Kind,Item.Purpose,Item.Links,Item.Until,Rule.Allow,Rule.Alg,Rule.Below,Rule.Purpose,Rule.From,Rule.To,Exception.Use,Exception.Purpose,Exception.Endpoint,Exception.Days,Exception.Seals,Dice.L,Dice.At,Endpoint.Name,Endpoint.Least,Endpoint.Most,Endpoint.Suites,Endpoint.OwnOrder,Endpoint.Identities,Endpoint.Anchors,Endpoint.Hashes,Endpoint.Fallback,Identity.Key,Identity.KeyId,Identity.Chain,Change.Endpoint,Change.Kind,Change.Number,Change.At,Change.Identity,Rules.p,Rules.l,Rules.o,Rules.day,Method.outcome,Method.uses,Certificate.Serial,Certificate.Issuer,Certificate.Subject,Certificate.Key,Certificate.KeyId,Certificate.Hash,Certificate.From,Certificate.To,Certificate.Authority,Certificate.Path,Certificate.Names,Certificate.Seal,LinkX.day,LinkX.fall,LinkX.falls,Suite.Code,Suite.Name,Suite.Exchange,Suite.Sign,Suite.Cipher,Suite.Mac,Suite.Least,Suite.Most,Row.name,Row.kind,Row.way,Row.sizes,Row.strengths,Talk.server,Talk.version,Talk.suites,Symbol.name,Symbol.kind] at*
 all_goals (apply GR;unfold Yb;rw [DB];simp only [ige,ile,ilt,Ba,Estate.Endpoints,Estate.Edges,Estate.Items,Policy.Rules,Policy.Keeps,Keep.Alg,Keep.Bits,Link.Use,Link.Day,Job.Item,Job.Link,Item.Name,Item.Kind,Item.Purpose,Item.Links,Item.Until,Rule.Allow,Rule.Alg,Rule.Below,Rule.Purpose,Rule.From,Rule.To,Exception.Use,Exception.Purpose,Exception.Endpoint,Exception.Days,Exception.Seals,Dice.L,Dice.At,Endpoint.Name,Endpoint.Least,Endpoint.Most,Endpoint.Suites,Endpoint.OwnOrder,Endpoint.Identities,Endpoint.Anchors,Endpoint.Hashes,Endpoint.Fallback,Identity.Key,Identity.KeyId,Identity.Chain,Change.Endpoint,Change.Kind,Change.Number,Change.At,Change.Identity,Rules.p,Rules.l,Rules.o,Rules.day,Method.outcome,Method.uses,Certificate.Serial,Certificate.Issuer,Certificate.Subject,Certificate.Key,Certificate.KeyId,Certificate.Hash,Certificate.From,Certificate.To,Certificate.Authority,Certificate.Path,Certificate.Names,Certificate.Seal,LinkX.day,LinkX.fall,LinkX.falls,Suite.Code,Suite.Name,Suite.Exchange,Suite.Sign,Suite.Cipher,Suite.Mac,Suite.Least,Suite.Most,Row.name,Row.kind,Row.way,Row.sizes,Row.strengths,Talk.server,Talk.version,Talk.suites,Symbol.name,Symbol.kind,BE,false_iff];omega)
def Quv:Ent:=Qo (.pr Qi .nil) (fun x=>true) (fun x=>(.t .bool (Yb x.1)))
theorem QFW:EM 148 Quv:=mS g_f148 QFV [((.t 2),some .bool)] false (gB gN) fun m=>Qt m fun x _=>kT (s_f148 x.1)
def QFX:TC:=aF Tryz.f157 []
def g_f157:G:=gG 48 [] (fun _ _=>none)
def Quw (p0:Rule):OV:=br (ige p0.2.1 0) (br (ile p0.2.1 22) (br (ige p0.2.2.1 0) (br (ile p0.2.2.1 16384) (br (ige p0.2.2.2.1 0) (br (ile p0.2.2.2.1 4) (br (ige p0.2.2.2.2.1 0) (br (ilt p0.2.2.2.2.1 p0.2.2.2.2.2.1) (some (.t .bool (ile p0.2.2.2.2.2.1 40001),[])) (some (.t .bool false,[]))) (some (.t .bool false,[]))) (some (.t .bool false,[]))) (some (.t .bool false,[]))) (some (.t .bool false,[]))) (some (.t .bool false,[]))) (some (.t .bool false,[]))) (some (.t .bool false,[]))
theorem s_f157 (r:Rule):Quw r=some (.t .bool (Zy r),[]):=by
 simp only [Quw]
 repeat' (refine QV ?_ ?_<;>intro _)
 all_goals simp only [ige,ile,ilt,Ba,Bn,Estate.Endpoints,Estate.Edges,Estate.Items,Policy.Rules,Policy.Keeps,Keep.Alg,Keep.Bits,Link.Use,Link.Day,Job.Item,Job.Link,Item.Name,Item.Kind,Item.Purpose,Item.Links,Item.Until,Rule.Allow,Rule.Alg,Rule.Below,Rule.Purpose,Rule.From,Rule.To,Exception.Use,Exception.Purpose,Exception.Endpoint,Exception.Days,Exception.Seals,Dice.L,Dice.At,Endpoint.Name,Endpoint.Least,Endpoint.Most,Endpoint.Suites,Endpoint.OwnOrder,Endpoint.Identities,Endpoint.Anchors,Endpoint.Hashes,Endpoint.Fallback,Identity.Key,Identity.KeyId,Identity.Chain,Change.Endpoint,Change.Kind,Change.Number,Change.At,Change.Identity,Rules.p,Rules.l,Rules.o,Rules.day,Method.outcome,Method.uses,Certificate.Serial,Certificate.Issuer,Certificate.Subject,Certificate.Key,Certificate.KeyId,Certificate.Hash,Certificate.From,Certificate.To,Certificate.Authority,Certificate.Path,Certificate.Names,Certificate.Seal,LinkX.day,LinkX.fall,LinkX.falls,Suite.Code,Suite.Name,Suite.Exchange,Suite.Sign,Suite.Cipher,Suite.Mac,Suite.Least,Suite.Most,Row.name,Row.kind,Row.way,Row.sizes,Row.strengths,Talk.server,Talk.version,Talk.suites,Symbol.name,Symbol.kind] at*
 all_goals (apply GR;unfold Zy;rw [DB];simp only [ige,ile,ilt,Ba,Estate.Endpoints,Estate.Edges,Estate.Items,Policy.Rules,Policy.Keeps,Keep.Alg,Keep.Bits,Link.Use,Link.Day,Job.Item,Job.Link,Item.Name,Item.Kind,Item.Purpose,Item.Links,Item.Until,Rule.Allow,Rule.Alg,Rule.Below,Rule.Purpose,Rule.From,Rule.To,Exception.Use,Exception.Purpose,Exception.Endpoint,Exception.Days,Exception.Seals,Dice.L,Dice.At,Endpoint.Name,Endpoint.Least,Endpoint.Most,Endpoint.Suites,Endpoint.OwnOrder,Endpoint.Identities,Endpoint.Anchors,Endpoint.Hashes,Endpoint.Fallback,Identity.Key,Identity.KeyId,Identity.Chain,Change.Endpoint,Change.Kind,Change.Number,Change.At,Change.Identity,Rules.p,Rules.l,Rules.o,Rules.day,Method.outcome,Method.uses,Certificate.Serial,Certificate.Issuer,Certificate.Subject,Certificate.Key,Certificate.KeyId,Certificate.Hash,Certificate.From,Certificate.To,Certificate.Authority,Certificate.Path,Certificate.Names,Certificate.Seal,LinkX.day,LinkX.fall,LinkX.falls,Suite.Code,Suite.Name,Suite.Exchange,Suite.Sign,Suite.Cipher,Suite.Mac,Suite.Least,Suite.Most,Row.name,Row.kind,Row.way,Row.sizes,Row.strengths,Talk.server,Talk.version,Talk.suites,Symbol.name,Symbol.kind,BE,false_iff];omega)
def Qux:Ent:=Qo (.pr QU .nil) (fun x=>true) (fun x=>(.t .bool (Zy x.1)))
theorem QFY:EM 157 Qux:=mS g_f157 QFX [((.t 2),some .bool)] false (gB gN) fun m=>Qt m fun x _=>kT (s_f157 x.1)
def QFZ:TC:=aF Tryz.f158 []
def g_f158:G:=gG 21 [] (fun _ _=>none)
def Quy (p0:Keep):OV:=br (ige p0.1 1) (br (ile p0.1 4) (br (ige p0.2.1 0) (some (.t .bool (ile p0.2.1 40000),[])) (some (.t .bool false,[]))) (some (.t .bool false,[]))) (some (.t .bool false,[]))
theorem s_f158 (r:Keep):Quy r=some (.t .bool (Yb r),[]):=by
 simp only [Quy]
 repeat' (refine QV ?_ ?_<;>intro _)
 all_goals simp only [ige,ile,ilt,Ba,Bn,Estate.Endpoints,Estate.Edges,Estate.Items,Policy.Rules,Policy.Keeps,Keep.Alg,Keep.Bits,Link.Use,Link.Day,Job.Item,Job.Link,Item.Name,Item.Kind,Item.Purpose,Item.Links,Item.Until,Rule.Allow,Rule.Alg,Rule.Below,Rule.Purpose,Rule.From,Rule.To,Exception.Use,Exception.Purpose,Exception.Endpoint,Exception.Days,Exception.Seals,Dice.L,Dice.At,Endpoint.Name,Endpoint.Least,Endpoint.Most,Endpoint.Suites,Endpoint.OwnOrder,Endpoint.Identities,Endpoint.Anchors,Endpoint.Hashes,Endpoint.Fallback,Identity.Key,Identity.KeyId,Identity.Chain,Change.Endpoint,Change.Kind,Change.Number,Change.At,Change.Identity,Rules.p,Rules.l,Rules.o,Rules.day,Method.outcome,Method.uses,Certificate.Serial,Certificate.Issuer,Certificate.Subject,Certificate.Key,Certificate.KeyId,Certificate.Hash,Certificate.From,Certificate.To,Certificate.Authority,Certificate.Path,Certificate.Names,Certificate.Seal,LinkX.day,LinkX.fall,LinkX.falls,Suite.Code,Suite.Name,Suite.Exchange,Suite.Sign,Suite.Cipher,Suite.Mac,Suite.Least,Suite.Most,Row.name,Row.kind,Row.way,Row.sizes,Row.strengths,Talk.server,Talk.version,Talk.suites,Symbol.name,Symbol.kind] at*
 all_goals (apply GR;unfold Yb;rw [DB];simp only [ige,ile,ilt,Ba,Estate.Endpoints,Estate.Edges,Estate.Items,Policy.Rules,Policy.Keeps,Keep.Alg,Keep.Bits,Link.Use,Link.Day,Job.Item,Job.Link,Item.Name,Item.Kind,Item.Purpose,Item.Links,Item.Until,Rule.Allow,Rule.Alg,Rule.Below,Rule.Purpose,Rule.From,Rule.To,Exception.Use,Exception.Purpose,Exception.Endpoint,Exception.Days,Exception.Seals,Dice.L,Dice.At,Endpoint.Name,Endpoint.Least,Endpoint.Most,Endpoint.Suites,Endpoint.OwnOrder,Endpoint.Identities,Endpoint.Anchors,Endpoint.Hashes,Endpoint.Fallback,Identity.Key,Identity.KeyId,Identity.Chain,Change.Endpoint,Change.Kind,Change.Number,Change.At,Change.Identity,Rules.p,Rules.l,Rules.o,Rules.day,Method.outcome,Method.uses,Certificate.Serial,Certificate.Issuer,Certificate.Subject,Certificate.Key,Certificate.KeyId,Certificate.Hash,Certificate.From,Certificate.To,Certificate.Authority,Certificate.Path,Certificate.Names,Certificate.Seal,LinkX.day,LinkX.fall,LinkX.falls,Suite.Code,Suite.Name,Suite.Exchange,Suite.Sign,Suite.Cipher,Suite.Mac,Suite.Least,Suite.Most,Row.name,Row.kind,Row.way,Row.sizes,Row.strengths,Talk.server,Talk.version,Talk.suites,Symbol.name,Symbol.kind,BE,false_iff];omega)
def Quz:Ent:=Qo (.pr Qi .nil) (fun x=>true) (fun x=>(.t .bool (Yb x.1)))
theorem QF0:EM 158 Quz:=mS g_f158 QFZ [((.t 2),some .bool)] false (gB gN) fun m=>Qt m fun x _=>kT (s_f158 x.1)
def QF1:TC:=aF Tryz.f144 []
def g_f144:G:=gG 6 [(145,Qut)] (fun _ _=>none)
def r_f144 (p0:Rule):OV:=some (.t .bool (!(Zy p0)),[])
theorem s_f144 (r:Rule):r_f144 r=some (.t .bool (ZP r),[]):=rfl
def QuA:Ent:=Qo (.pr QU .nil) (fun x=>true) (fun x=>(.t .bool (ZP x.1)))
theorem QF2:EM 144 QuA:=mS g_f144 QF1 [((.t 2),some .bool)] false (gB (gD QFU gN)) fun m=>Qt m fun x _=>kT (s_f144 x.1)
def QF3:TC:=aF Tryz.f147 []
def g_f147:G:=gG 6 [(148,Quv)] (fun _ _=>none)
def r_f147 (p0:Keep):OV:=some (.t .bool (!(Yb p0)),[])
theorem s_f147 (r:Keep):r_f147 r=some (.t .bool (ZQ r),[]):=rfl
def QuB:Ent:=Qo (.pr Qi .nil) (fun x=>true) (fun x=>(.t .bool (ZQ x.1)))
theorem QF4:EM 147 QuB:=mS g_f147 QF3 [((.t 2),some .bool)] false (gB (gD QFW gN)) fun m=>Qt m fun x _=>kT (s_f147 x.1)
def Zi {α:Type}(m:α->Bool):List α->Option Nat
 | []=>none
 |a::l=>if m a then some 0 else (Zi m l).map (· + 1)
theorem Qde {α:Type}{m:α->Bool}: ∀ {l:List α},Zi m l=none↔l.any m=false
 | []=>by simp [Zi]
 |a::l=>by
  have ih:=Qde (m:=m) (l:=l)
  unfold Zi
  cases h:m a with
  |true=>simp [h]
  |false=>simpa [h] using ih
theorem QuC {α:Type}{m:α->Bool}{l:List α}{k:Nat}(h:Zi m l=some k):l.any m=true:=by
 cases hq:l.any m with
 |true=>rfl
 |false=>rw [Qde.2 hq] at h;cases h
def Q2 {α:Type}(l:List α):Bool:=decide (l.length<=100000)
def Vq (l:List Rule):Int:=match Zi ZP l with|some k=>(k:Int)|none=> -1
def Vr (l:List Keep):Int:=match Zi ZQ l with|some k=>(k:Int)|none=> -1
abbrev Qdf:Sh:=⟨[(0,.ty (.sl QU)),(1,.cf 144),(7,.ty tI),(8,.ty tI)],[]⟩
abbrev Qj9:Sh:=⟨[(4,.ty tI)],[]⟩
abbrev EU:Sh:=⟨[],[]⟩
def Qka:Fg:=Qdf.f
def QuD:TC:=aF Tryz.f196 [(26,pL 0 Qka),(421,.fg EU.f),(13517,.fg Qj9.f)]
def QuE:TC:=lb 0 QuD
def QuF (x0:List Rule)(x7 x8:Int):VS:=Qdf.st (x0,(),x7,x8,()) ()
def EV (x4:Int):VS:=Qj9.st (x4,()) ()
def Qkb  : VS:=EU.st () ()
def QF5:VS->Option (Bool×List (Bool×Exit×VS)):=mkL Qdf (fun x y=>(Qy x.1 x.2.2.1 x.2.2.2.1)) (fun x y=>[(((Zi ZP (x.1.drop x.2.2.2.1.toNat)).isSome),.ret,EV (x.2.2.2.1+((Zi ZP (x.1.drop x.2.2.2.1.toNat)).getD 0:Nat))),(true,.exit 0,Qkb)])
def Qkc:G:=gG 19 [(144,QuA)] (Ls [QF5])
def Qdg (x0:List Rule)(x7 x8:Int):OX:=QA (QC Qkc Qka QuE) (QuF x0 x7 x8)
def Vs (kk:List Rule->Int->Int->OX)(x0:List Rule)(x7 x8:Int):OX:=br (ilt x8 x7) (br (cIx x0 x8) (br (ZP (lgt QU x0 (Int.toNat x8))) (some (.ret,EV x8)) (kk x0 x7 (Qh .i64 x8 1))) none) (some (.exit 0,Qkb))
def Qdh (x0:List Rule)(x7 x8:Int):OX:=
 let a1:=Zi ZP (x0.drop x8.toNat)
 br (a1.isSome) (some (.ret,EV (x8+(a1.getD 0:Nat))))<|some (.exit 0,Qkb)
theorem QuG (x0:List Rule)(x7 x8:Int):Qdg x0 x7 x8=Vs Qdg x0 x7 x8:=lnT (x:=Vs (fun x0 x7 x8=>some (.normal,QuF x0 x7 x8)) x0 x7 x8) (by simp only [Vs,nxA];rfl)
def QuH (p0:List Rule):OV:=
 let a1:=(Zi ZP (p0.drop (0:Int).toNat))
 br (Qy p0 (Qc p0) (0:Int)) (br (a1.isSome) (some (.t tI ((0:Int)+(a1.getD 0:Nat)),[])) (some (.t tI (-1),[]))) none
theorem QF6 (x0:List Rule)(x7 x8:Int)(h:(Qy x0 x7 x8)=true):Qdg x0 x7 x8=Qdh x0 x7 x8:=by
 obtain ⟨rfl,h3,k,rfl,hk⟩:=JR h
 clear h
 refine Q5 x0 (fun k=>Qdg x0 (x0.length:Int) (k:Int)=Qdh x0 (x0.length:Int) (k:Int)) ?_ ?_ k hk
 ·rw [QuG]
  simp [Vs,Qdh,QD,Qj,Zi]
 ·intro k hk ih
  rw [QuG]
  simp only [Vs,QD,QI,hk,Br,Qf,Bd,QW (show k<4611686018427387904 by omega),ih,QO (y:=QU) hk]
  simp only [Qdh,Bd,Bi hk,Zi]
  cases h:ZP x0[k] with
  |true=>simp [Qf]
  |false=>
   simp only [Qj,BE,B8]
   cases hq:Zi ZP (x0.drop (k+1)) with
   |none=>rfl
   |some j=>
    simp only [B7,Dv,BU,Qf]
    congr 3
    omega
theorem QF7:LO Qkc Qka QuE 0:=QN (s:=Qdf) fun x y h _ q=>by simp only [QK,QL] at q;exact (QF6 x.1 x.2.2.1 x.2.2.2.1 h).trans q
theorem QF8 (l:List Rule)(h:Q2 l=true):QuH l=some (.t tI (Vq l),[]):=by
 simp only [Q2,Ba] at h
 simp only [QuH,JS h,Qf,BC,BF,Vq]
 cases Zi ZP l<;>simp [Qf,Qj]
def QuI:Ent:=WA [.ty (.sl QU),.cf 144] [] (fun x d=>(Q2 x.1)) (fun x d=>(.t tI (Vq x.1)))
theorem QF9:EM 196 QuI:=mS (lk:=lkL (lkc QF7 lkn)) Qkc QuD [((.t 4),some tI)] false (gB (gD QF2 gN)) fun m=>Gj m fun x d hok=>kT (QF8 x.1 hok)
def EW (l:List Rule):Bool:=l.any ZP
def QGa:TC:=aF Tryz.f143 []
def QGb:G:=gG 9 [(196,QuI)] (fun _ _=>none)
def QuJ (p0:List Rule):OV:=br (Q2 p0) (some (.t .bool (ige (Vq p0) 0),[])) none
theorem QGc (l:List Rule)(h:Q2 l=true):QuJ l=some (.t .bool (EW l),[]):=by
 simp only [QuJ,h,Qf]
 congr 3
 unfold Vq EW
 cases hq:Zi ZP l with
 |none=>rw [Qde.1 hq];rfl
 |some k=>rw [QuC hq];simp only [ige,Ba];omega
def QuK:Ent:=WA [.ty (.sl QU),.cf 144] [] (fun x d=>(Q2 x.1)) (fun x d=>(.t .bool (EW x.1)))
theorem QGd:EM 143 QuK:=mS QGb QGa [((.t 4),some .bool)] false (gB (gD QF9 gN)) fun m=>Gj m fun x d hok=>kT (QGc x.1 hok)
abbrev Qdi:Sh:=⟨[(0,.ty (.sl Qi)),(1,.cf 147),(7,.ty tI),(8,.ty tI)],[]⟩
def Qkd:Fg:=Qdi.f
def QuL:TC:=aF Tryz.f197 [(26,pL 0 Qkd),(421,.fg EU.f),(13517,.fg Qj9.f)]
def QuM:TC:=lb 0 QuL
def QuN (x0:List Keep)(x7 x8:Int):VS:=Qdi.st (x0,(),x7,x8,()) ()
def Qke  : VS:=EU.st () ()
def QGe:VS->Option (Bool×List (Bool×Exit×VS)):=mkL Qdi (fun x y=>(Qy x.1 x.2.2.1 x.2.2.2.1)) (fun x y=>[(((Zi ZQ (x.1.drop x.2.2.2.1.toNat)).isSome),.ret,EV (x.2.2.2.1+((Zi ZQ (x.1.drop x.2.2.2.1.toNat)).getD 0:Nat))),(true,.exit 0,Qke)])
def Qkf:G:=gG 19 [(147,QuB)] (Ls [QGe])
def Qdj (x0:List Keep)(x7 x8:Int):OX:=QA (QC Qkf Qkd QuM) (QuN x0 x7 x8)
def Vt (kk:List Keep->Int->Int->OX)(x0:List Keep)(x7 x8:Int):OX:=br (ilt x8 x7) (br (cIx x0 x8) (br (ZQ (lgt Qi x0 (Int.toNat x8))) (some (.ret,EV x8)) (kk x0 x7 (Qh .i64 x8 1))) none) (some (.exit 0,Qke))
def Qdk (x0:List Keep)(x7 x8:Int):OX:=
 let a1:=Zi ZQ (x0.drop x8.toNat)
 br (a1.isSome) (some (.ret,EV (x8+(a1.getD 0:Nat))))<|some (.exit 0,Qke)
theorem QuO (x0:List Keep)(x7 x8:Int):Qdj x0 x7 x8=Vt Qdj x0 x7 x8:=lnT (x:=Vt (fun x0 x7 x8=>some (.normal,QuN x0 x7 x8)) x0 x7 x8) (by simp only [Vt,nxA];rfl)
def QuP (p0:List Keep):OV:=
 let a1:=(Zi ZQ (p0.drop (0:Int).toNat))
 br (Qy p0 (Qc p0) (0:Int)) (br (a1.isSome) (some (.t tI ((0:Int)+(a1.getD 0:Nat)),[])) (some (.t tI (-1),[]))) none
theorem QGf (x0:List Keep)(x7 x8:Int)(h:(Qy x0 x7 x8)=true):Qdj x0 x7 x8=Qdk x0 x7 x8:=by
 obtain ⟨rfl,h3,k,rfl,hk⟩:=JR h
 clear h
 refine Q5 x0 (fun k=>Qdj x0 (x0.length:Int) (k:Int)=Qdk x0 (x0.length:Int) (k:Int)) ?_ ?_ k hk
 ·rw [QuO]
  simp [Vt,Qdk,QD,Qj,Zi]
 ·intro k hk ih
  rw [QuO]
  simp only [Vt,QD,QI,hk,Br,Qf,Bd,QW (show k<4611686018427387904 by omega),ih,QO (y:=Qi) hk]
  simp only [Qdk,Bd,Bi hk,Zi]
  cases h:ZQ x0[k] with
  |true=>simp [Qf]
  |false=>
   simp only [Qj,BE,B8]
   cases hq:Zi ZQ (x0.drop (k+1)) with
   |none=>rfl
   |some j=>
    simp only [B7,Dv,BU,Qf]
    congr 3
    omega
theorem QGg:LO Qkf Qkd QuM 0:=QN (s:=Qdi) fun x y h _ q=>by simp only [QK,QL] at q;exact (QGf x.1 x.2.2.1 x.2.2.2.1 h).trans q
theorem QGh (l:List Keep)(h:Q2 l=true):QuP l=some (.t tI (Vr l),[]):=by
 simp only [Q2,Ba] at h
 simp only [QuP,JS h,Qf,BC,BF,Vr]
 cases Zi ZQ l<;>simp [Qf,Qj]
def QuQ:Ent:=WA [.ty (.sl Qi),.cf 147] [] (fun x d=>(Q2 x.1)) (fun x d=>(.t tI (Vr x.1)))
theorem QGi:EM 197 QuQ:=mS (lk:=lkL (lkc QGg lkn)) Qkf QuL [((.t 4),some tI)] false (gB (gD QF4 gN)) fun m=>Gj m fun x d hok=>kT (QGh x.1 hok)
def EX (l:List Keep):Bool:=l.any ZQ
def QGj:TC:=aF Tryz.f146 []
def QGk:G:=gG 9 [(197,QuQ)] (fun _ _=>none)
def QuR (p0:List Keep):OV:=br (Q2 p0) (some (.t .bool (ige (Vr p0) 0),[])) none
theorem QGl (l:List Keep)(h:Q2 l=true):QuR l=some (.t .bool (EX l),[]):=by
 simp only [QuR,h,Qf]
 congr 3
 unfold Vr EX
 cases hq:Zi ZQ l with
 |none=>rw [Qde.1 hq];rfl
 |some k=>rw [QuC hq];simp only [ige,Ba];omega
def QuS:Ent:=WA [.ty (.sl Qi),.cf 147] [] (fun x d=>(Q2 x.1)) (fun x d=>(.t .bool (EX x.1)))
theorem QGm:EM 146 QuS:=mS QGk QGj [((.t 4),some .bool)] false (gB (gD QGi gN)) fun m=>Gj m fun x d hok=>kT (QGl x.1 hok)
theorem Qdl {α:Type}{l:List α}:igt (Qc l) 60= !decide (l.length<=60):=by
 have:igt (Qc l) 60=decide (60<l.length):=QKK
 rw [this]
 by_cases h:l.length<=60
 ·rw [Be h,BK,Bn];omega
 ·rw [Bp h,DA,Ba];omega
def Jr (y:Policy):Bool:=y.1.all Zy&&y.2.1.all Yb&&decide (y.1.length<=60/\y.2.1.length<=60)
def Zj (y:Policy):Int:=if Jr y then 0 else 25
def Jl (y:Policy):Bool:=Q2 y.1&&Q2 y.2.1
def tc_f90:TC:=aF Tryz.f90 []
def g_f90:G:=gG 25 [(143,QuK),(146,QuS)] (fun _ _=>none)
def r_f90 (p0:Policy):OV:=br (Q2 p0.1) (br (EW p0.1) (some (.t tI 25,[])) (br (Q2 p0.2.1) (br (EX p0.2.1) (some (.t tI 25,[])) (br (igt (Qc p0.1) 60) (some (.t tI 25,[])) (br (igt (Qc p0.2.1) 60) (some (.t tI 25,[])) (some (.t tI 0,[]))))) none)) none
theorem s_f90 (y:Policy)(h:Jl y=true):r_f90 y=some (.t tI (Zj y),[]):=by
 simp only [Jl,Bb] at h
 simp only [r_f90,h.1,h.2,Qf]
 have e1:EW y.1= !y.1.all Zy:=by simp [EW,List.any_eq_not_all_not,ZP]
 have e2:EX y.2.1= !y.2.1.all Yb:=by simp [EX,List.any_eq_not_all_not,ZQ]
 rw [e1,e2]
 unfold Zj Jr
 rw [Qdl,Qdl]
 by_cases h1:y.1.length<=60<;>by_cases h2:y.2.1.length<=60<;>cases y.1.all Zy<;>cases y.2.1.all Yb<;>simp [Qf,Qj,h1,h2]
def Qdm:Ent:=Qo (.pr QE .nil) (fun x=>(Jl x.1)) (fun x=>(.t tI (Zj x.1)))
theorem Qkg:EM 90 Qdm:=mS g_f90 tc_f90 [((.t 2),some tI)] false (gB (gD QGd (gD QGm gN))) fun m=>Qt m fun x hok=>kT (s_f90 x.1 hok)
abbrev Qdn:Sh:=⟨[(1,.ptr 1 0),(3,.ty tI)],[(1,.box QE)]⟩
abbrev Qkh:Sh:=⟨[(2,.ty tI)],[]⟩
abbrev QuT:Sh:=⟨[(1,.ptr 1 0)],[(1,.box QE)]⟩
abbrev Qdo:Sh:=⟨[(1,.ptr 1 0),(4,.ty tI)],[(1,.box QE)]⟩
def Qki:Fg:=Qdn.f
def Qkj:Fg:=Qdo.f
def Qkk:TC:=aF Tryz.f103 [(58,pL 0 Qki),(931,.fg QuT.f),(7461,.fg Qkh.f),(122,pL 1 Qkj),(1955,.fg EU.f),(15653,.fg Qkh.f)]
def QuU:TC:=lb 0 Qkk
def QuV:TC:=lb 1 Qkk
def QuW (x3:Int)(y1:Policy):VS:=Qdn.st ((),x3,()) (y1,())
def EY (x2:Int):VS:=Qkh.st (x2,()) ()
def Qkl (y1:Policy):VS:=QuT.st ((),()) (y1,())
def QuX (x4:Int)(y1:Policy):VS:=Qdo.st ((),x4,()) (y1,())
def Qkm  : VS:=EU.st () ()
def QGn:VS->Option (Bool×List (Bool×Exit×VS)):=mkL Qdn (fun x y=>(decide (0<=x.2.1/\x.2.1<=y.1.1.length/\y.1.1.length<=100000))) (fun x y=>[(((y.1.1.drop x.2.1.toNat).any ZP),.ret,EY (25)),(true,.exit 0,Qkl (y.1))])
def QGo:VS->Option (Bool×List (Bool×Exit×VS)):=mkL Qdo (fun x y=>(decide (0<=x.2.1/\x.2.1<=y.1.2.1.length/\y.1.2.1.length<=100000))) (fun x y=>[(((y.1.2.1.drop x.2.1.toNat).any ZQ),.ret,EY (25)),(true,.exit 2,Qkm)])
def Vu:G:=gG 43 [(157,Qux),(158,Quz)] (Ls [QGn,QGo])
def Qdp (x3:Int)(y1:Policy):OX:=QA (QC Vu Qki QuU) (QuW x3 y1)
def Vv (kk:Int->Policy->OX)(x3:Int)(y1:Policy):OX:=br (ilt x3 (Qc y1.1)) (br (cIx y1.1 x3) (br (!(Zy (lgt QU y1.1 (Int.toNat x3)))) (some (.ret,EY 25)) (kk (Qh .i64 x3 1) y1)) none) (some (.exit 0,Qkl y1))
def Qdq (x3:Int)(y1:Policy):OX:=br ((y1.1.drop x3.toNat).any ZP) (some (.ret,EY (25)))<|some (.exit 0,Qkl (y1))
theorem QuY (x3:Int)(y1:Policy):Qdp x3 y1=Vv Qdp x3 y1:=lnT (x:=Vv (fun x3 y1=>some (.normal,QuW x3 y1)) x3 y1) (by simp only [Vv,nxA];rfl)
def Qdr (x4:Int)(y1:Policy):OX:=QA (QC Vu Qkj QuV) (QuX x4 y1)
def Vw (kk:Int->Policy->OX)(x4:Int)(y1:Policy):OX:=br (ilt x4 (Qc y1.2.1)) (br (cIx y1.2.1 x4) (br (!(Yb (lgt Qi y1.2.1 (Int.toNat x4)))) (some (.ret,EY 25)) (kk (Qh .i64 x4 1) y1)) none) (some (.exit 2,Qkm))
def Qds (x4:Int)(y1:Policy):OX:=br ((y1.2.1.drop x4.toNat).any ZQ) (some (.ret,EY (25)))<|some (.exit 2,Qkm)
theorem QuZ (x4:Int)(y1:Policy):Qdr x4 y1=Vw Qdr x4 y1:=lnT (x:=Vw (fun x4 y1=>some (.normal,QuX x4 y1)) x4 y1) (by simp only [Vw,nxA];rfl)
def Qu0 (p0:Policy):OV:=br (igt (Qc p0.1) 60) (some (.t tI 25,[])) (br (igt (Qc p0.2.1) 60) (some (.t tI 25,[])) (br (decide (0<=(0:Int)/\(0:Int)<=p0.1.length/\p0.1.length<=100000)) (br ((p0.1.drop (0:Int).toNat).any ZP) (some (.t tI (25),[])) (br (decide (0<=(0:Int)/\(0:Int)<=(p0).2.1.length/\(p0).2.1.length<=100000)) (br (((p0).2.1.drop (0:Int).toNat).any ZQ) (some (.t tI (25),[])) (some (.t tI 0,[]))) none)) none))
theorem QGp (x3:Int)(y1:Policy)(h:(decide (0<=x3/\x3<=y1.1.length/\y1.1.length<=100000))=true):Qdp x3 y1=Qdq x3 y1:=by
 simp only [Ba] at h
 obtain ⟨h1,h2,h3⟩:=h
 obtain ⟨k,rfl⟩:=Bu h1
 refine Q5 y1.1 (fun k=>Qdp (k:Int) y1=Qdq (k:Int) y1) ?_ ?_ k (by omega)
 ·rw [QuY]
  simp [Vv,Qdq,QD,Qc,Qj]
 ·intro k hk ih
  rw [QuY]
  simp only [Vv,QD,Qc,QI,hk,Br,Qf,Bd,QW (show k<4611686018427387904 by omega),ih,QO (y:=QU) hk]
  simp only [Qdq,Bd,Bi hk,List.any_cons,ZP]
  cases Zy y1.1[k]<;>simp [Qf,Qj]
theorem QGq (x4:Int)(y1:Policy)(h:(decide (0<=x4/\x4<=y1.2.1.length/\y1.2.1.length<=100000))=true):Qdr x4 y1=Qds x4 y1:=by
 simp only [Ba] at h
 obtain ⟨h1,h2,h3⟩:=h
 obtain ⟨k,rfl⟩:=Bu h1
 refine Q5 y1.2.1 (fun k=>Qdr (k:Int) y1=Qds (k:Int) y1) ?_ ?_ k (by omega)
 ·rw [QuZ]
  simp [Vw,Qds,QD,Qc,Qj]
 ·intro k hk ih
  rw [QuZ]
  simp only [Vw,QD,Qc,QI,hk,Br,Qf,Bd,QW (show k<4611686018427387904 by omega),ih,QO (y:=Qi) hk]
  simp only [Qds,Bd,Bi hk,List.any_cons,ZQ]
  cases Yb y1.2.1[k]<;>simp [Qf,Qj]
theorem QGr:LO Vu Qki QuU 0:=QN (s:=Qdn) fun x y h _ q=>by simp only [QK,QL] at q;exact (QGp x.2.1 y.1 h).trans q
theorem QGs:LO Vu Qkj QuV 1:=QN (s:=Qdo) fun x y h _ q=>by simp only [QK,QL] at q;exact (QGq x.2.1 y.1 h).trans q
theorem s_f103 (y:Policy)(h:Jl y=true):Qu0 y=some (.t tI (Zj y),[]):=by
 simp only [Jl,Q2,Bb,Ba] at h
 have g1:decide ((0:Int)<=0/\(0:Int)<=y.1.length/\y.1.length<=100000)=true:=by simp [h.1]
 have g2:decide ((0:Int)<=0/\(0:Int)<=y.2.1.length/\y.2.1.length<=100000)=true:=by simp [h.2]
 simp only [Qu0,g1,g2,Qf,BC,BF]
 have e1:y.1.any ZP= !y.1.all Zy:=by simp [List.any_eq_not_all_not,ZP]
 have e2:y.2.1.any ZQ= !y.2.1.all Yb:=by simp [List.any_eq_not_all_not,ZQ]
 rw [e1,e2]
 unfold Zj Jr
 rw [Qdl,Qdl]
 by_cases h1:y.1.length<=60<;>by_cases h2:y.2.1.length<=60<;>cases y.1.all Zy<;>cases y.2.1.all Yb<;>simp [Qf,Qj,h1,h2]
def Qkn:Ent:=Qo (.pr QE .nil) (fun x=>(Jl x.1)) (fun x=>(.t tI (Zj x.1)))
theorem Qu1:EM 103 Qkn:=mS (lk:=lkL (lkc QGr (lkc QGs lkn))) Vu Qkk [((.t 2),some tI)] false (gB (gD QFY (gD QF0 gN))) fun m=>Qt m fun x hok=>kT (s_f103 x.1 hok)
end Go.Proofs.YthlcobdnemhcdaaGreat.K
noncomputable section
namespace Go.Proofs.YthlcobdnemhcdaaGreat.K
open Go.RowKit
def Wd (d0:Dice):Rule×Dice:=
 let d1:=Qe d0 3
 let d2:=Qu d1 [14,1,2,5,15,0,16,10,20,7]
 let b2:=done d2 2
 let d3:=Qe d2 2
 let below:=if b2 then dof d3 [2048,256,1024,3072,129] else 0
 let d4:=if b2 then Qu d3 [2048,256,1024,3072,129] else d3
 let b4:=done d4 3
 let d5:=Qe d4 3
 let purpose:=if b4 then Qh .i64 1 (Ql d5 4) else 0
 let d6:=if b4 then Qe d5 4 else d5
 let b6:=done d6 2
 let d7:=Qe d6 2
 let frm:=if b6 then dof d7 [10,30,100,7] else 0
 let d8:=if b6 then Qu d7 [10,30,100,7] else d7
 let b8:=done d8 3
 let d9:=Qe d8 3
 let to:=if b8 then Qh .i64 frm (dof d9 [20,1,200]) else 40001
 let d10:=if b8 then Qu d9 [20,1,200] else d9
 ((done d0 3,(dof d1 [14,1,2,5,15,0,16,10,20,7],(below,(purpose,(frm,(to,())))))),d10)
def YO:Nat->Dice->List Rule×Dice
 |0,d=>([],d)
 |n+1,d=>((Wd d).1::(YO n (Wd d).2).1,(YO n (Wd d).2).2)
def UO (d:Dice):Keep×Dice:=((Qh .i64 1 (Ql d 4),(dof (Qe d 4) [10,100,3000],())),Qu (Qe d 4) [10,100,3000])
def Xp:Nat->Dice->List Keep×Dice
 |0,d=>([],d)
 |n+1,d=>((UO d).1::(Xp n (UO d).2).1,(Xp n (UO d).2).2)
def UP (d:Dice):List Rule×Dice:=YO (Ql d 7).toNat (Qe d 7)
def Qj5 (d:Dice):List Keep×Dice:=Xp (Ql (UP d).2 3).toNat (Qe (UP d).2 3)
def ZG (d:Dice):Policy:=((UP d).1,((Qj5 d).1,()))
def Fp (d:Dice):Dice:=(Qj5 d).2
theorem Qun {d:Dice}(h:dOk d=true):dOk (Wd d).2=true:=by
 unfold Wd
 simp only
 repeat' split
 all_goals (repeat first|exact h|apply Q1|apply XF)
theorem Quo {n:Nat}: ∀ {d:Dice},dOk d=true->dOk (YO n d).2=true:=by
 induction n with
 |zero=>exact fun h=>h
 |succ n ih=>exact fun h=>ih (Qun h)
theorem Qup {d:Dice}(h:dOk d=true):dOk (UO d).2=true:=XF (l:=[10,100,3000]) (Q1 h)
theorem QFL {n:Nat}: ∀ {d:Dice},dOk d=true->dOk (Xp n d).2=true:=by
 induction n with
 |zero=>exact fun h=>h
 |succ n ih=>exact fun h=>ih (Qup h)
theorem QFM {d:Dice}(h:dOk d=true):dOk (Fp d)=true:=QFL (Q1 (Quo (Q1 h)))
theorem QFN (d:Dice):Zy (Wd d).1=true:=by
 have ga: ∀ d:Dice,0<=dof d [14,1,2,5,15,0,16,10,20,7]/\dof d [14,1,2,5,15,0,16,10,20,7]<=22:=fun d=>by
  have h:=WD (d:=d) (l:=[14,1,2,5,15,0,16,10,20,7]) (by decide)
  simp only [BB,BY,DC] at h
  omega
 have gb: ∀ d:Dice,0<=dof d [2048,256,1024,3072,129]/\dof d [2048,256,1024,3072,129]<=16384:=fun d=>by
  have h:=WD (d:=d) (l:=[2048,256,1024,3072,129]) (by decide)
  simp only [BB,BY,DC] at h
  omega
 have gf: ∀ d:Dice,0<=dof d [10,30,100,7]/\dof d [10,30,100,7]<=100:=fun d=>by
  have h:=WD (d:=d) (l:=[10,30,100,7]) (by decide)
  simp only [BB,BY,DC] at h
  omega
 have gt: ∀ d:Dice,1<=dof d [20,1,200]/\dof d [20,1,200]<=200:=fun d=>by
  have h:=WD (d:=d) (l:=[20,1,200]) (by decide)
  simp only [BB,BY,DC] at h
  omega
 have gp: ∀ d:Dice,1<=Qh .i64 1 (Ql d 4)/\Qh .i64 1 (Ql d 4)<=4:=fun d=>by
  have h:=JC (d:=d) (n:=4) (by omega)
  rw [JU (by omega)]
  omega
 have gu: ∀ (x:Int) (d:Dice),0<=x->x<=100->Qh .i64 x (dof d [20,1,200])=x+dof d [20,1,200]:=fun x d h1 h2=>by
  have h:=gt d
  exact JU (by omega)
 unfold Zy
 rw [Ba]
 unfold Wd
 simp only [Estate.Endpoints,Estate.Edges,Estate.Items,Policy.Rules,Policy.Keeps,Keep.Alg,Keep.Bits,Link.Use,Link.Day,Job.Item,Job.Link,Item.Name,Item.Kind,Item.Purpose,Item.Links,Item.Until,Rule.Allow,Rule.Alg,Rule.Below,Rule.Purpose,Rule.From,Rule.To,Exception.Use,Exception.Purpose,Exception.Endpoint,Exception.Days,Exception.Seals,Dice.L,Dice.At,Endpoint.Name,Endpoint.Least,Endpoint.Most,Endpoint.Suites,Endpoint.OwnOrder,Endpoint.Identities,Endpoint.Anchors,Endpoint.Hashes,Endpoint.Fallback,Identity.Key,Identity.KeyId,Identity.Chain,Change.Endpoint,Change.Kind,Change.Number,Change.At,Change.Identity,Rules.p,Rules.l,Rules.o,Rules.day,Method.outcome,Method.uses,Certificate.Serial,Certificate.Issuer,Certificate.Subject,Certificate.Key,Certificate.KeyId,Certificate.Hash,Certificate.From,Certificate.To,Certificate.Authority,Certificate.Path,Certificate.Names,Certificate.Seal,LinkX.day,LinkX.fall,LinkX.falls,Suite.Code,Suite.Name,Suite.Exchange,Suite.Sign,Suite.Cipher,Suite.Mac,Suite.Least,Suite.Most,Row.name,Row.kind,Row.way,Row.sizes,Row.strengths,Talk.server,Talk.version,Talk.suites,Symbol.name,Symbol.kind]
 have pB: ∀ (b:Bool) (e:Dice),(0<=if b=true then dof e [2048,256,1024,3072,129] else 0)/\(if b=true then dof e [2048,256,1024,3072,129] else 0)<=16384:=by
  intro b e
  have h:=gb e
  cases b<;>simp only [BE,if_true,B8]<;>omega
 have pP: ∀ (b:Bool) (e:Dice),(0<=if b=true then Qh .i64 1 (Ql e 4) else 0)/\(if b=true then Qh .i64 1 (Ql e 4) else 0)<=4:=by
  intro b e
  have h:=gp e
  cases b<;>simp only [BE,if_true,B8]<;>omega
 refine ⟨(ga _).1,(ga _).2,(pB _ _).1,(pB _ _).2,(pP _ _).1,(pP _ _).2, ?_⟩
 have key: ∀ (b1 b2:Bool) (e1 e2:Dice),(0<=if b1=true then dof e1 [10,30,100,7] else 0)/\(if b1=true then dof e1 [10,30,100,7] else 0)<(if b2=true then Qh .i64 (if b1=true then dof e1 [10,30,100,7] else 0) (dof e2 [20,1,200]) else 40001)/\(if b2=true then Qh .i64 (if b1=true then dof e1 [10,30,100,7] else 0) (dof e2 [20,1,200]) else 40001)<=40001:=by
  intro b1 b2 e1 e2
  have h1:=gf e1
  have h2:=gt e2
  cases b1<;>cases b2<;>simp only [BE,if_true,B8]
  ·omega
  ·rw [gu _ _ (by omega) (by omega)];omega
  ·omega
  ·rw [gu _ _ (by omega) (by omega)];omega
 exact key _ _ _ _
theorem Qda: ∀ (n:Nat) (d:Dice),(YO n d).1.length=n∧ ∀ r,r∈(YO n d).1->Zy r=true
 |0,d=>⟨rfl,fun r h=>by cases h⟩
 |n+1,d=>by
  obtain ⟨h1,h2⟩:=Qda n (Wd d).2
  refine ⟨by simp only [YO,Bq,h1],fun r h=> ?_⟩
  rcases BB.1 h with rfl|h
  ·exact QFN d
  ·exact h2 r h
theorem QFO (d:Dice):Yb (UO d).1=true:=by
 have h:=WD (d:=Qe d 4) (l:=[10,100,3000]) (by decide)
 simp only [BB,BY,DC] at h
 have h2:=JC (d:=d) (n:=4) (by omega)
 have h3:Qh .i64 1 (Ql d 4)=1+Ql d 4:=JU (by omega)
 unfold Yb UO
 rw [Ba]
 simp only [h3]
 omega
theorem Qdb: ∀ (n:Nat) (d:Dice),(Xp n d).1.length=n∧ ∀ r,r∈(Xp n d).1->Yb r=true
 |0,d=>⟨rfl,fun r h=>by cases h⟩
 |n+1,d=>by
  obtain ⟨h1,h2⟩:=Qdb n (UO d).2
  refine ⟨by simp only [Xp,Bq,h1],fun r h=> ?_⟩
  rcases BB.1 h with rfl|h
  ·exact QFO d
  ·exact h2 r h
theorem QFP (d:Dice):(ZG d).1.length<=6/\(ZG d).2.1.length<=2:=by
 have b7:=JC (d:=d) (n:=7) (by omega)
 have b3:=JC (d:=(UP d).2) (n:=3) (by omega)
 have h1:=(Qda (Ql d 7).toNat (Qe d 7)).1
 have h2:=(Qdb (Ql (UP d).2 3).toNat (Qe (UP d).2 3)).1
 unfold ZG Qj5 UP at*
 simp only
 omega
theorem pol_ok (d:Dice):Jr (ZG d)=true:=by
 have hs:=QFP d
 simp only [Jr,Bb,Ba]
 refine ⟨⟨Bh.2 (Qda _ _).2,Bh.2 (Qdb _ _).2⟩,by omega,by omega⟩
end Go.Proofs.YthlcobdnemhcdaaGreat.K
noncomputable section
namespace Go.Proofs.YthlcobdnemhcdaaGreat.K
open Go.RowKit
abbrev Qbn:Sh:=⟨[(0,.ptr 50000 0),(2,.ptr 2 0),(3,.ptr 3 0),(4,.ty tI)],[(2,.box QE),(3,.bag [.ms 20300,.ms 20301]),(50,.no),(68,.no),(20300,.arr 66 QU),(20301,.arr 131 Qi),(50000,.box QF)]⟩
abbrev QBz:Sh:=⟨[(0,.ptr 50000 0),(2,.ptr 2 0),(3,.ptr 3 0)],[(2,.box QE),(3,.bag [.ms 20300,.ms 20301]),(50,.no),(68,.no),(20300,.arr 66 QU),(20301,.arr 131 Qi),(50000,.box QF)]⟩
abbrev Qbo:Sh:=⟨[(0,.ptr 50000 0),(2,.ptr 2 0),(3,.ptr 3 0),(6,.ty tI)],[(2,.box QE),(3,.bag [.ms 20300,.ms 20301]),(50,.no),(68,.no),(20300,.arr 66 QU),(20301,.arr 131 Qi),(50000,.box QF)]⟩
abbrev QBA:Sh:=⟨[(2,.ptr 2 0),(3,.ptr 3 0)],[(2,.box QE),(3,.bag [.ms 20300,.ms 20301]),(50,.no),(68,.no),(20300,.arr 66 QU),(20301,.arr 131 Qi),(50000,.box QF)]⟩
def Qhj:Fg:=Qbn.f
def Qhk:Fg:=Qbo.f
def Qhl:TC:=aF Tryz.f31 [(58,.nf 3 1 131 20301),(58,.nf 3 0 66 20300),(58,pL 0 Qhj),(931,.fg ⟨[(0,none),(2,none),(3,none)],[(2,some QE),(3,some QE),(50,none),(68,none),(20300,none),(20301,none),(50000,some QF)]⟩),(119418,pD [(0,[5]),(1,[5]),(2,[50000]),(3,[]),(4,[43,5043,10043,15043,50000]),(5,[]),(6,[5]),(7,[5])] (.of [0,1,2,3,4,5,6,7])),(122,.nf 3 0 66 20300),(122,.nf 3 1 131 20301),(122,pL 1 Qhk),(1955,.fg ⟨[(2,none),(3,none)],[(2,some QE),(3,some QE),(50,none),(68,none),(20300,none),(20301,none),(50000,some QF)]⟩),(1956,pD [(0,[3,50,68,20300,20301]),(1,[3,50,68,20300,20301]),(2,[50000]),(3,[61,5061,10061,15061,50000]),(4,[]),(5,[50000]),(6,[]),(7,[65,5065,10065,15065,50000]),(8,[]),(9,[]),(10,[2,3,50,68,5068,10068,15068,20300,20301]),(11,[3,50,68,20300,20301]),(12,[2,3,50,68,20300,20301])] (.of [0,1,2,5,6,3,4,7,8,9,10,11,12]))]
def QpP:TC:=lb 0 Qhl
def QpQ:TC:=lb 1 Qhl
def QpR (x4:Int)(y2:Policy)(Qb:List Rule)(Qg:List Keep)(Qa:Dice):VS:=Qbn.st ((),(),(),x4,()) (y2,((),(),()),(),(),Qb,Qg,Qa,())
def Qhm (y2:Policy)(Qb:List Rule)(Qg:List Keep)(Qa:Dice):VS:=QBz.st ((),(),(),()) (y2,((),(),()),(),(),Qb,Qg,Qa,())
def QpS (x6:Int)(y2:Policy)(Qb:List Rule)(Qg:List Keep)(Qa:Dice):VS:=Qbo.st ((),(),(),x6,()) (y2,((),(),()),(),(),Qb,Qg,Qa,())
def Qhn (y2:Policy)(Qb:List Rule)(Qg:List Keep)(Qa:Dice):VS:=QBA.st ((),(),()) (y2,((),(),()),(),(),Qb,Qg,Qa,())
def QBB:VS->Option (Bool×List (Bool×Exit×VS)):=mkL Qbn (fun x y=>(dOk y.2.2.2.2.2.2.1&&decide (0<=x.2.2.2.1/\x.2.2.2.1<=100/\y.2.2.2.2.1.length+x.2.2.2.1.toNat<=1000))) (fun x y=>[(true,.exit 0,Qhm (y.1) (y.2.2.2.2.1++(YO x.2.2.2.1.toNat y.2.2.2.2.2.2.1).1) (y.2.2.2.2.2.1) ((YO x.2.2.2.1.toNat y.2.2.2.2.2.2.1).2))])
def QBC:VS->Option (Bool×List (Bool×Exit×VS)):=mkL Qbo (fun x y=>(dOk y.2.2.2.2.2.2.1&&decide (0<=x.2.2.2.1/\x.2.2.2.1<=100/\y.2.2.2.2.2.1.length+x.2.2.2.1.toNat<=1000))) (fun x y=>[(true,.exit 2,Qhn (y.1) (y.2.2.2.2.1) (y.2.2.2.2.2.1++(Xp x.2.2.2.1.toNat y.2.2.2.2.2.2.1).1) ((Xp x.2.2.2.1.toNat y.2.2.2.2.2.2.1).2))])
def Oh:G:=gG 71 [(32,U1),(35,Qfb),(50,IA)] (Ls [QBB,QBC])
def Qho (x4:Int)(y2:Policy)(Qb:List Rule)(Qg:List Keep)(Qa:Dice):OX:=QA (QC Oh Qhj QpP) (QpR x4 y2 Qb Qg Qa)
def Oi (kk:Int->Policy->List Rule->List Keep->Dice->OX)(x4:Int)(y2:Policy)(Qb:List Rule)(Qg:List Keep)(Qa:Dice):OX:=
 let a21:=(Qu (Qe Qa 3) ([14,1,2,5,15,0,16,10,20,7]))
 let a1:=Qe a21 2
 let a29:=(Qu a1 ([2048,256,1024,3072,129]))
 let a2:=Qe a29 3
 let a3:=(dof (Qe Qa 3) ([14,1,2,5,15,0,16,10,20,7]))
 let a4:=Qe (Qe (Qe a1 3) 4) 2
 let a5:=(dof a1 ([2048,256,1024,3072,129]))
 let a6:=Qe (Qe a2 4) 2
 let a7:=Qe (Qe a1 3) 2
 let a8:=done Qa 3
 let a9:=Qh .i64 1 (Ql (Qe a1 3) 4)
 let a10:=(Qu (Qe a2 2) ([10,30,100,7]))
 let a11:=Qs .i64 x4 1
 let a12:=(dof (Qe a2 2) ([10,30,100,7]))
 let a13:=Qh .i64 1 (Ql a2 4)
 let a14:=(Qu a6 ([10,30,100,7]))
 let a15:=(Qu a4 ([10,30,100,7]))
 let a16:=(Qu a7 ([10,30,100,7]))
 let a17:=(dof a6 ([10,30,100,7]))
 let a18:=(dof a4 ([10,30,100,7]))
 let a19:=(dof a7 ([10,30,100,7]))
 let a20:=Qe (Qe a2 2) 3
 let a22:=(Qh .i64 a17 (dof (Qe a14 3) ([20,1,200])))
 let a23:=(Qh .i64 a12 (dof (Qe a10 3) ([20,1,200])))
 let a24:=(Qh .i64 a18 (dof (Qe a15 3) ([20,1,200])))
 let a25:=(Qh .i64 a19 (dof (Qe a16 3) ([20,1,200])))
 let a26:=(Qh .i64 0 (dof (Qe a6 3) ([20,1,200])))
 let a27:=(Qh .i64 0 (dof (Qe a4 3) ([20,1,200])))
 let a28:=(Qh .i64 0 (dof (Qe a7 3) ([20,1,200])))
 let a30:=(Qh .i64 0 (dof a20 ([20,1,200])))
 br (igt x4 0) (br (Jm Qa 3) (br (Jc (Qe Qa 3) ([14,1,2,5,15,0,16,10,20,7])) (br (Jm a21 2) (br (done a21 2) (br (Jc a1 ([2048,256,1024,3072,129])) (br (Jm a29 3) (br (done a29 3) (br (QG a2 4) (br (Jm (Qe a2 4) 2) (br (done (Qe a2 4) 2) (br (Jc a6 ([10,30,100,7])) (br (Jm a14 3) (br (done a14 3) (br (Jc (Qe a14 3) ([20,1,200])) (br (Qx Qb ([(a8,(a3,(a5,(a13,(a17,(a22,()))))))]) 48) (kk a11 y2 (Qb++([(a8,(a3,(a5,(a13,(a17,(a22,()))))))])) Qg (Qu (Qe a14 3) ([20,1,200]))) none) none) (br (Qx Qb ([(a8,(a3,(a5,(a13,(a17,(40001,()))))))]) 48) (kk a11 y2 (Qb++([(a8,(a3,(a5,(a13,(a17,(40001,()))))))])) Qg (Qe a14 3)) none)) none) none) (br (Jm a6 3) (br (done a6 3) (br (Jc (Qe a6 3) ([20,1,200])) (br (Qx Qb ([(a8,(a3,(a5,(a13,(0,(a26,()))))))]) 48) (kk a11 y2 (Qb++([(a8,(a3,(a5,(a13,(0,(a26,()))))))])) Qg (Qu (Qe a6 3) ([20,1,200]))) none) none) (br (Qx Qb ([(a8,(a3,(a5,(a13,(0,(40001,()))))))]) 48) (kk a11 y2 (Qb++([(a8,(a3,(a5,(a13,(0,(40001,()))))))])) Qg (Qe a6 3)) none)) none)) none) none) (br (Jm a2 2) (br (done a2 2) (br (Jc (Qe a2 2) ([10,30,100,7])) (br (Jm a10 3) (br (done a10 3) (br (Jc (Qe a10 3) ([20,1,200])) (br (Qx Qb ([(a8,(a3,(a5,(0,(a12,(a23,()))))))]) 48) (kk a11 y2 (Qb++([(a8,(a3,(a5,(0,(a12,(a23,()))))))])) Qg (Qu (Qe a10 3) ([20,1,200]))) none) none) (br (Qx Qb ([(a8,(a3,(a5,(0,(a12,(40001,()))))))]) 48) (kk a11 y2 (Qb++([(a8,(a3,(a5,(0,(a12,(40001,()))))))])) Qg (Qe a10 3)) none)) none) none) (br (Jm (Qe a2 2) 3) (br (done (Qe a2 2) 3) (br (Jc a20 ([20,1,200])) (br (Qx Qb ([(a8,(a3,(a5,(0,(0,(a30,()))))))]) 48) (kk a11 y2 (Qb++([(a8,(a3,(a5,(0,(0,(a30,()))))))])) Qg (Qu a20 ([20,1,200]))) none) none) (br (Qx Qb ([(a8,(a3,(a5,(0,(0,(40001,()))))))]) 48) (kk a11 y2 (Qb++([(a8,(a3,(a5,(0,(0,(40001,()))))))])) Qg a20) none)) none)) none)) none) none) (br (Jm a1 3) (br (done a1 3) (br (QG (Qe a1 3) 4) (br (Jm (Qe (Qe a1 3) 4) 2) (br (done (Qe (Qe a1 3) 4) 2) (br (Jc a4 ([10,30,100,7])) (br (Jm a15 3) (br (done a15 3) (br (Jc (Qe a15 3) ([20,1,200])) (br (Qx Qb ([(a8,(a3,(0,(a9,(a18,(a24,()))))))]) 48) (kk a11 y2 (Qb++([(a8,(a3,(0,(a9,(a18,(a24,()))))))])) Qg (Qu (Qe a15 3) ([20,1,200]))) none) none) (br (Qx Qb ([(a8,(a3,(0,(a9,(a18,(40001,()))))))]) 48) (kk a11 y2 (Qb++([(a8,(a3,(0,(a9,(a18,(40001,()))))))])) Qg (Qe a15 3)) none)) none) none) (br (Jm a4 3) (br (done a4 3) (br (Jc (Qe a4 3) ([20,1,200])) (br (Qx Qb ([(a8,(a3,(0,(a9,(0,(a27,()))))))]) 48) (kk a11 y2 (Qb++([(a8,(a3,(0,(a9,(0,(a27,()))))))])) Qg (Qu (Qe a4 3) ([20,1,200]))) none) none) (br (Qx Qb ([(a8,(a3,(0,(a9,(0,(40001,()))))))]) 48) (kk a11 y2 (Qb++([(a8,(a3,(0,(a9,(0,(40001,()))))))])) Qg (Qe a4 3)) none)) none)) none) none) (br (Jm (Qe a1 3) 2) (br (done (Qe a1 3) 2) (br (Jc a7 ([10,30,100,7])) (br (Jm a16 3) (br (done a16 3) (br (Jc (Qe a16 3) ([20,1,200])) (br (Qx Qb ([(a8,(a3,(0,(0,(a19,(a25,()))))))]) 48) (kk a11 y2 (Qb++([(a8,(a3,(0,(0,(a19,(a25,()))))))])) Qg (Qu (Qe a16 3) ([20,1,200]))) none) none) (br (Qx Qb ([(a8,(a3,(0,(0,(a19,(40001,()))))))]) 48) (kk a11 y2 (Qb++([(a8,(a3,(0,(0,(a19,(40001,()))))))])) Qg (Qe a16 3)) none)) none) none) (br (Jm a7 3) (br (done a7 3) (br (Jc (Qe a7 3) ([20,1,200])) (br (Qx Qb ([(a8,(a3,(0,(0,(0,(a28,()))))))]) 48) (kk a11 y2 (Qb++([(a8,(a3,(0,(0,(0,(a28,()))))))])) Qg (Qu (Qe a7 3) ([20,1,200]))) none) none) (br (Qx Qb ([(a8,(a3,(0,(0,(0,(40001,()))))))]) 48) (kk a11 y2 (Qb++([(a8,(a3,(0,(0,(0,(40001,()))))))])) Qg (Qe a7 3)) none)) none)) none)) none)) none) none) none) (some (.exit 0,Qhm y2 Qb Qg Qa))
def Oj (x4:Int)(y2:Policy)(Qb:List Rule)(Qg:List Keep)(Qa:Dice):OX:=
 let a1:=YO x4.toNat Qa
 some (.exit 0,Qhm (y2) (Qb++a1.1) (Qg) (a1.2))
theorem QpT (x4:Int)(y2:Policy)(Qb:List Rule)(Qg:List Keep)(Qa:Dice):Qho x4 y2 Qb Qg Qa=Oi Qho x4 y2 Qb Qg Qa:=lnT (x:=Oi (fun x4 y2 Qb Qg Qa=>some (.normal,QpR x4 y2 Qb Qg Qa)) x4 y2 Qb Qg Qa) (by simp only [Oi,nxA];rfl)
def Qhp (x6:Int)(y2:Policy)(Qb:List Rule)(Qg:List Keep)(Qa:Dice):OX:=QA (QC Oh Qhk QpQ) (QpS x6 y2 Qb Qg Qa)
def Ok (kk:Int->Policy->List Rule->List Keep->Dice->OX)(x6:Int)(y2:Policy)(Qb:List Rule)(Qg:List Keep)(Qa:Dice):OX:=
 let a1:=Qe Qa 4
 let a2:=Qh .i64 1 (Ql Qa 4)
 let a3:=(dof a1 ([10,100,3000]))
 br (igt x6 0) (br (QG Qa 4) (br (Jc a1 ([10,100,3000])) (br (Qx Qg ([(a2,(a3,()))]) 16) (kk (Qs .i64 x6 1) y2 Qb (Qg++([(a2,(a3,()))])) (Qu a1 ([10,100,3000]))) none) none) none) (some (.exit 2,Qhn y2 Qb Qg Qa))
def Ol (x6:Int)(y2:Policy)(Qb:List Rule)(Qg:List Keep)(Qa:Dice):OX:=
 let a1:=Xp x6.toNat Qa
 some (.exit 2,Qhn (y2) (Qb) (Qg++a1.1) (a1.2))
theorem QpU (x6:Int)(y2:Policy)(Qb:List Rule)(Qg:List Keep)(Qa:Dice):Qhp x6 y2 Qb Qg Qa=Ok Qhp x6 y2 Qb Qg Qa:=lnT (x:=Ok (fun x6 y2 Qb Qg Qa=>some (.normal,QpS x6 y2 Qb Qg Qa)) x6 y2 Qb Qg Qa) (by simp only [Ok,nxA];rfl)
def r_f31 (d0:Dice):OV:=
 let a1:=YO (Ql d0 7).toNat (Qe d0 7)
 let a2:=Ql (a1.2) 3
 let a3:=Xp a2.toNat (Qe (a1.2) 3)
 br (QG d0 7) (br (dOk (Qe d0 7)&&decide (0<=(Ql d0 7)/\(Ql d0 7)<=100/\([]:List Rule).length+(Ql d0 7).toNat<=1000)) (br (QG (a1.2) 3) (br (dOk (Qe (a1.2) 3)&&decide (0<=a2/\a2<=100/\([]:List Keep).length+a2.toNat<=1000)) (some (.ag [(.ms 50001),(.ms 50002)],[.box (.t QF (a3.2)),.arr 66 QU (([]:List Rule)++a1.1),.arr 131 Qi (([]:List Keep)++a3.1)])) none) none) none) none
theorem QBD (x4:Int)(y2:Policy)(Qb:List Rule)(Qg:List Keep)(Qa:Dice)(h:(dOk Qa&&decide (0<=x4/\x4<=100/\Qb.length+x4.toNat<=1000))=true):Qho x4 y2 Qb Qg Qa=Oj x4 y2 Qb Qg Qa:=by
 simp only [Bb,Ba] at h
 obtain ⟨hd,h1,h2q,h3⟩:=h
 obtain ⟨k,rfl⟩:=Bu h1
 rw [Bd] at h3
 have h2:k<=100:=by omega
 clear h1 h2q
 induction k generalizing Qb Qa with
 |zero=>
  rw [QpT]
  have e1:igt ((0:Nat):Int) 0=false:=rfl
  simp only [Oi,e1,Qj,Oj,Bd,YO,BP]
 |succ k ih=>
  rw [QpT]
  have e1:igt ((k+1:Nat):Int) 0=true:=by simp only [igt,Ba];omega
  have e2:Qs .i64 ((k+1:Nat):Int) 1=(k:Int):=by rw [J5 (by omega)];omega
  simp only [Oi,e1,e2,Qf]
  have hla:Oj ((k+1:Nat):Int) y2 Qb Qg Qa=Oj (k:Int) y2 (Qb++[(Wd Qa).1]) Qg (Wd Qa).2:=by
   simp only [Oj,Bd,YO,BN]
   rfl
  rw [hla, ← ih _ _ (Qun hd) (by simp;omega) (by omega)]
  clear ih hla
  have hi: ∀ x:Rule,Qx Qb [x] 48=true:=fun x=>Wr (by simp;omega) (by omega)
  have o2: ∀ d,dOk d=true->Jm d 2=true:=fun d h=>by simp [Jm,QG,h]
  have o3: ∀ d,dOk d=true->Jm d 3=true:=fun d h=>by simp [Jm,QG,h]
  have n4: ∀ d,dOk d=true->QG d 4=true:=fun d h=>by simp [QG,h]
  have f1: ∀ d,dOk d=true->Jc d [14,1,2,5,15,0,16,10,20,7]=true:=fun d h=>by simp [Jc,h]
  have f2: ∀ d,dOk d=true->Jc d [2048,256,1024,3072,129]=true:=fun d h=>by simp [Jc,h]
  have f3: ∀ d,dOk d=true->Jc d [10,30,100,7]=true:=fun d h=>by simp [Jc,h]
  have f4: ∀ d,dOk d=true->Jc d [20,1,200]=true:=fun d h=>by simp [Jc,h]
  simp (maxDischargeDepth:=30) only [o2,o3,n4,f1,f2,f3,f4,Qsy,XF,hd,hi,Qf]
  repeat' (refine QV ?_ ?_<;>intro _)
  all_goals simp only [Wd, *, if_true,B8,BE]
theorem QBE (x6:Int)(y2:Policy)(Qb:List Rule)(Qg:List Keep)(Qa:Dice)(h:(dOk Qa&&decide (0<=x6/\x6<=100/\Qg.length+x6.toNat<=1000))=true):Qhp x6 y2 Qb Qg Qa=Ol x6 y2 Qb Qg Qa:=by
 simp only [Bb,Ba] at h
 obtain ⟨hd,h1,h2q,h3⟩:=h
 obtain ⟨k,rfl⟩:=Bu h1
 rw [Bd] at h3
 have h2:k<=100:=by omega
 clear h1 h2q
 induction k generalizing Qg Qa with
 |zero=>
  rw [QpU]
  have e1:igt ((0:Nat):Int) 0=false:=rfl
  simp only [Ok,e1,Qj,Ol,Bd,Xp,BP]
 |succ k ih=>
  rw [QpU]
  have e1:igt ((k+1:Nat):Int) 0=true:=by simp only [igt,Ba];omega
  have e2:Qs .i64 ((k+1:Nat):Int) 1=(k:Int):=by rw [J5 (by omega)];omega
  simp only [Ok,e1,e2,Qf]
  have hla:Ol ((k+1:Nat):Int) y2 Qb Qg Qa=Ol (k:Int) y2 Qb (Qg++[(UO Qa).1]) (UO Qa).2:=by
   simp only [Ol,Bd,Xp,BN]
   rfl
  rw [hla, ← ih _ _ (Qup hd) (by simp;omega) (by omega)]
  clear ih hla
  have hi: ∀ x:Keep,Qx Qg [x] 16=true:=fun x=>Wr (by simp;omega) (by omega)
  have n4: ∀ d,dOk d=true->QG d 4=true:=fun d h=>by simp [QG,h]
  have f1: ∀ d,dOk d=true->Jc d [10,100,3000]=true:=fun d h=>by simp [Jc,h]
  simp (maxDischargeDepth:=30) only [n4,f1,Qsy,XF,hd,hi,Qf]
  rfl
theorem QBF:LO Oh Qhj QpP 0:=QN (s:=Qbn) fun x y h _ q=>by simp only [QK,QL] at q;exact (QBD x.2.2.2.1 y.1 y.2.2.2.2.1 y.2.2.2.2.2.1 y.2.2.2.2.2.2.1 h).trans q
theorem QBG:LO Oh Qhk QpQ 1:=QN (s:=Qbo) fun x y h _ q=>by simp only [QK,QL] at q;exact (QBE x.2.2.2.1 y.1 y.2.2.2.2.1 y.2.2.2.2.2.1 y.2.2.2.2.2.2.1 h).trans q
theorem s_f31 (d:Dice)(h:dOk d=true):r_f31 d=some (.ag [.ms 50001,.ms 50002],[.box (.t QF (Fp d)),.arr 66 QU (ZG d).1,.arr 131 Qi (ZG d).2.1]):=by
 have n7: ∀ d,dOk d=true->QG d 7=true:=fun d h=>by simp [QG,h]
 have n3: ∀ d,dOk d=true->QG d 3=true:=fun d h=>by simp [QG,h]
 have b7:=JC (d:=d) (n:=7) (by omega)
 have h2:dOk (YO (Ql d 7).toNat (Qe d 7)).2=true:=Quo (Q1 h)
 have b3:=JC (d:=(YO (Ql d 7).toNat (Qe d 7)).2) (n:=3) (by omega)
 simp only [r_f31,n7 d h,Qf,BS]
 rw [Q1 h,By,Yq ⟨b7.1,by omega,by rw [BG];omega⟩,Qf,n3 _ h2,Qf,Q1 h2,By,Yq ⟨b3.1,by omega,by rw [BG];omega⟩,Qf]
 rfl
def QpV:Ent:=XD [.ptr 50000 0] [.box QF] (fun x y=>(dOk y.1)) (fun x y=>(.ag [(.ms 50001),(.ms 50002)])) (fun x y=>[.box (.t QF (Fp y.1)),.arr 66 QU ((ZG y.1).1),.arr 131 Qi (((ZG y.1).2).1)])
theorem ms_f31:EM 31 QpV:=mS (lk:=lkL (lkc QBF (lkc QBG lkn))) Oh Qhl [((.c 2 true 2),none)] true (gB (gD GT (gD QmM (gD Qaf gN)))) fun m=>XX m fun x y hok=>kT (s_f31 y.1 hok)
end Go.Proofs.YthlcobdnemhcdaaGreat.K
noncomputable section
namespace Go.Proofs.YthlcobdnemhcdaaGreat.K
open Go.RowKit Go.Conc
def WN (P:Program)(c:Code)(Q:Exit->Act->World->Prop)(a:Act)(w:World):Prop:=
 ∀ (b:Frame) (k:List Go.Item) (cs:List Frame),b.kind≠ .early→ ∃ e a' w',Q e a' w'/\Arrives P (lone (b.at a (.code c::k)) cs w) b k cs e a' w'
def LN (P:Program)(ops:Array Oper)(Q:Exit->Act->World->Prop)(l:List Nat)(a:Act)(w:World):Prop:=
 ∀ (b:Frame) (k:List Go.Item) (cs:List Frame),b.kind≠ .early→ ∃ e a' w',Q e a' w'/\Arrives P (lone (b.at a (.inRegion ops l::k)) cs w) b k cs e a' w'
section
variable {P:Program}{Q:Exit->Act->World->Prop}{a:Act}{w:World}{ops:Array Oper}
theorem WN.of {c:Code}(h:c.wp P Q a w):WN P c Q a w:=fun b k cs _=>h b k cs
theorem WN.seq {x y:Code}(h:WN P x (Exit.then (WN P y Q) Q) a w):WN P (.seq x y) Q a w:=by
 intro b k cs hb
 obtain ⟨e,a1,w1,hq,hr⟩:=h b (.code y::k) cs hb
 cases e with
 |normal=>
  obtain ⟨e2,a2,w2,hq2,hr2⟩:=hq b k cs hb
  exact ⟨e2,a2,w2,hq2,.of_steps (.head step_seq hr) hr2⟩
 |exit n=>exact ⟨_,a1,w1,hq,.of_steps (.one step_seq) (.pass (x:= .code y) rfl (fun _ _=> .inl (by simp)) hr)⟩
 |goto n=>exact ⟨_,a1,w1,hq,.of_steps (.one step_seq) (.pass (x:= .code y) rfl (fun _ _=> .inl (by simp)) hr)⟩
 |ret=>exact ⟨_,a1,w1,hq,.of_steps (.one step_seq) (.pass (x:= .code y) rfl (fun _ _=> .inl (by simp)) hr)⟩
 |panic n=>exact ⟨_,a1,w1,hq,.of_steps (.one step_seq) (.pass (x:= .code y) rfl (fun _ _=> .inl (by simp)) hr)⟩
 |outgrown=>exact ⟨_,a1,w1,hq,.of_steps (.one step_seq) (.pass (x:= .code y) rfl (fun _ _=> .inl (by simp)) hr)⟩
theorem WN.block {id:Nat}{c:Code}(h:WN P c (Exit.inBlock id Q) a w):WN P (.block id c) Q a w:=by
 intro b k cs hb
 obtain ⟨e,a1,w1,hq,hr⟩:=h b (.inBlock id::k) cs hb
 cases e with
 |normal=>exact ⟨.normal,a1,w1,hq,.head step_block (Steps.trans hr (.one step_inBlock))⟩
 |exit n=>
  by_cases hn:n=id
  ·simp only [Exit.inBlock,hn,if_true] at hq
   exact ⟨.normal,a1,w1,hq,.head step_block (hr k (by simp [exitTo,hn]))⟩
  ·simp only [Exit.inBlock,hn,B8] at hq
   refine ⟨.exit n,a1,w1,hq,fun k' hk=> .head step_block (hr k' ?_)⟩
   have hne:(id==n)=false:=by simp;exact fun h=>hn h.symm
   simp [exitTo,hne,hk]
 |goto n=>exact ⟨_,a1,w1,hq,fun k' hk=> .head step_block (hr k' (by simp [gotoIn,hk]))⟩
 |ret=>exact ⟨_,a1,w1,hq,.of_steps (.one step_block) hr⟩
 |panic n=>exact ⟨_,a1,w1,hq,.of_steps (.one step_block) hr⟩
 |outgrown=>exact ⟨_,a1,w1,hq,.of_steps (b:=b) (k:=k) (cs:=cs) (e:= .outgrown) (.one step_block) hr⟩
theorem WN.loop {c:Code}(I:Nat->Act->World->Prop)(n:Nat)(h0:I n a w)
  (round: ∀ n a w,I n a w->WN P c (Exit.then (fun a' w'=> ∃ m,m<n/\I m a' w') Q) a w):WN P (.loop c) Q a w:=by
 intro b k cs hb
 have key: ∀ n a w,I n a w→ ∃ e a' w',Q e a' w'/\Arrives P (lone (b.at a (.code c:: .inLoop c::k)) cs w) b k cs e a' w':=by
  intro n
  induction n using Nat.strongRecOn with
  |_ n ih=>
   intro a w hI
   obtain ⟨e,a1,w1,hq,hr⟩:=round n a w hI b (.inLoop c::k) cs hb
   cases e with
   |normal=>
    obtain ⟨m,hm,h1⟩:=hq
    obtain ⟨e2,a2,w2,hq2,hr2⟩:=ih m hm a1 w1 h1
    exact ⟨e2,a2,w2,hq2,.of_steps (Steps.trans hr (.one step_inLoop)) hr2⟩
   |exit n=>exact ⟨_,a1,w1,hq,.pass (x:= .inLoop c) rfl (fun _ _=> .inl (by simp)) hr⟩
   |goto n=>exact ⟨_,a1,w1,hq,.pass (x:= .inLoop c) rfl (fun _ _=> .inl (by simp)) hr⟩
   |ret=>exact ⟨_,a1,w1,hq,.pass (x:= .inLoop c) rfl (fun _ _=> .inl (by simp)) hr⟩
   |panic n=>exact ⟨_,a1,w1,hq,.pass (x:= .inLoop c) rfl (fun _ _=> .inl (by simp)) hr⟩
   |outgrown=>exact ⟨_,a1,w1,hq,.pass (x:= .inLoop c) rfl (fun _ _=> .inl (by simp)) hr⟩
 obtain ⟨e,a',w',hq,hr⟩:=key n a w h0
 exact ⟨e,a',w',hq,.of_steps (.one step_loop) hr⟩
theorem LN.region {id:Nat}(h:LN P ops Q (List.range ops.size) a w):WN P (.region id ops false) Q a w:=by
 intro b k cs hb
 obtain ⟨e,a',w',hq,hr⟩:=h b k cs hb
 exact ⟨e,a',w',hq,.of_steps (.one step_region) hr⟩
theorem LN.nil (h:Q .normal a w):LN P ops Q [] a w:=fun _ _ _ _=>⟨.normal,a,w,h,.one step_region_end⟩
theorem Qdu {b:Frame}{i:Nat}{rest:List Nat}{k:List Go.Item}{o:Oper}(ho:ops[i]? = some o)(v:Value):(b.at a (.inRegion ops (i::rest)::k)).finish v=b.at (a.put o.dst v) (.inRegion ops rest::k):=by
 rw [Frame.finish_at,ho]
 rfl
theorem LN.value {i:Nat}{rest:List Nat}{o:Oper}{v:Value}{w':World}(ho:ops[i]? = some o)(hw:Region.wanted o (yielded ops a.tmps)=true)(hr:(execOp a.eval o).run P w= .ok (.value v) w')
  (h:LN P ops Q rest (a.put o.dst v) w'):LN P ops Q (i::rest) a w:=by
 intro b k cs hb
 obtain ⟨e,a2,w2,hq,har⟩:=h b k cs hb
 refine ⟨e,a2,w2,hq,.of_steps (.one (step_lone_go ?_)) har⟩
 rw [stepG_op ho hw, ← Qdu ho]
 simp [stepG.apply,hr]
theorem LN.send {i:Nat}{rest:List Nat}{o:Oper}{c cap s r:Nat}{buf:Array Value}{v z:Value}{tm:Bool}(ho:ops[i]? = some o)(hw:Region.wanted o (yielded ops a.tmps)=true)
  (hr:(execOp a.eval o).run P w= .ok (.comm #[scase c v z] true .send) w) (hc:w.heap[c]? = some (.chan cap buf false s r tm)) (hroom:buf.size<cap)
  (h:LN P ops Q rest (a.put o.dst undef) (w.setChan c cap (buf.push v) false (s+1) r tm)):LN P ops Q (i::rest) a w:=by
 intro b k cs hb
 obtain ⟨e,a2,w2,hq,har⟩:=h b k cs hb
 refine ⟨e,a2,w2,hq,.of_steps (.one ?_) har⟩
 have hs:=step_lone_send_room (stepG_comm (main:=true) (rest:=rest) (b:=b) (k:=k) (cs:=cs) ho hw hb hr) hc hroom
 rw [Qdu ho] at hs
 exact hs
theorem LN.recv {i:Nat}{rest:List Nat}{o:Oper}{c cap s r:Nat}{buf:Array Value}{z:Value}{tm closed ok:Bool}(ho:ops[i]? = some o)(hw:Region.wanted o (yielded ops a.tmps)=true)
  (hr:(execOp a.eval o).run P w= .ok (.comm #[rcase c z] true (.recv ok)) w) (hc:w.heap[c]? = some (.chan cap buf closed s r tm)) (hs:0<buf.size)
  (h:LN P ops Q rest (a.put o.dst (got ok (buf.getD 0 undef) true)) (w.setChan c cap (buf.extract 1 buf.size) closed s (r+1) tm)):LN P ops Q (i::rest) a w:=by
 intro b k cs hb
 obtain ⟨e,a2,w2,hq,har⟩:=h b k cs hb
 refine ⟨e,a2,w2,hq,.of_steps (.one ?_) har⟩
 have hs:=step_lone_recv_buf ok (stepG_comm (main:=true) (rest:=rest) (b:=b) (k:=k) (cs:=cs) ho hw hb hr) hc hs
 rw [Qdu ho] at hs
 exact hs
theorem LN.shut {i:Nat}{rest:List Nat}{o:Oper}{c cap s r:Nat}{z:Value}{tm ok:Bool}(ho:ops[i]? = some o)(hw:Region.wanted o (yielded ops a.tmps)=true)
  (hr:(execOp a.eval o).run P w= .ok (.comm #[rcase c z] true (.recv ok)) w) (hc:w.heap[c]? = some (.chan cap #[] true s r tm))
  (h:LN P ops Q rest (a.put o.dst (got ok z false)) w):LN P ops Q (i::rest) a w:=by
 intro b k cs hb
 obtain ⟨e,a2,w2,hq,har⟩:=h b k cs hb
 refine ⟨e,a2,w2,hq,.of_steps (.one ?_) har⟩
 have hs:=step_lone_recv_shut ok (stepG_comm (main:=true) (rest:=rest) (b:=b) (k:=k) (cs:=cs) ho hw hb hr) hc
 rw [Qdu ho] at hs
 exact hs
end
theorem WN.calls {P:Program}{f:FuncId}{fn:Func}{c:Code}{args:Array Value}{w:World}{R:Ending->World->Prop}(hf:P.funcs[f]? = some fn)(hb:fn.body=some c)
  (h:WN P c (bodyPost P fn R) {tmps:=args++Array.replicate (fn.ntmps-args.size) undef,defers:=[]} w):Calls P f args w R:=by
 intro cs
 let b:Frame:={(default:Frame) with fn:=f,kind:= .normal}
 have he:Frame.enter P f args .normal=b.at {tmps:=args++Array.replicate (fn.ntmps-args.size) undef,defers:=[]} [.code c]:=by
  simp [Frame.enter,Frame.at,hf,hb,b]
 obtain ⟨e,a',w',hq,har⟩:=h b [] cs (by simp [b])
 rw [←he] at har
 cases e with
 |normal=>
  obtain ⟨hd,v,hr,hR⟩:=hq
  exact ⟨.returned v,w',_,hR,Steps.trans har (.one step_end),rfl,rfl,hd,rfl,fn,hf,hr⟩
 |ret=>
  obtain ⟨hd,v,hr,hR⟩:=hq
  obtain ⟨todo,hs⟩:=har
  exact ⟨.returned v,w',_,hR,hs,rfl,rfl,hd,rfl,fn,hf,hr⟩
 |panic n=>
  obtain ⟨hd,hR⟩:=hq
  obtain ⟨todo,hs⟩:=har
  exact ⟨.panicked n,w',_,hR,hs,rfl,rfl,hd,fn,hf⟩
 |exit n=>exact hq.elim
 |goto n=>exact hq.elim
 |outgrown=>exact ⟨.outgrown,w',b,hq,har.resolve_left (by simp [b]),rfl,trivial⟩
end Go.Proofs.YthlcobdnemhcdaaGreat.K
noncomputable section
namespace Go.Proofs.YthlcobdnemhcdaaGreat.K
open Go.RowKit
theorem QIv {X:Nat->Nat->Prop}{w w':World}(h:Below w.heap.size w w'):Ext0 X w X w':=⟨h.size,fun b o hb hx=>⟨hx,h.cell (p:=⟨b,o,none⟩) hb⟩⟩
theorem Qd7 {X:Nat->Nat->Prop}{w:World}{σ:Pl}:Lent X w σ []:=⟨fun j o hj=>by simp at hj,fun i j b _ hi=>by simp at hi⟩
theorem Qd8 {X X':Nat->Nat->Prop}{w w':World}{σ σ':Pl}{os:List VO}(h:Ends X w σ 0 X' w' σ' os):Below w.heap.size w w':=
 ⟨h.fr.os,h.fr.tape,h.fr.output,h.fr.size,fun b hb=>h.fr.keep b hb (by simp [Y8])⟩
end Go.Proofs.YthlcobdnemhcdaaGreat.K
noncomputable section
namespace Go.Proofs.YthlcobdnemhcdaaGreat.K
open Go.RowKit Go.Conc
def jV (j:Job):Value:= .agg #[.int .i64 j.1,.int .i64 j.2.1.1.1,.int .i64 j.2.1.1.2.1,.int .i64 j.2.1.2.1]
def cJ (l:List Job):List Value:=l.flatMap fun j=>[.int .i64 j.1,.int .i64 j.2.1.1.1,.int .i64 j.2.1.1.2.1,.int .i64 j.2.1.2.1]
theorem cJ_at: ∀ (l:List Job) (k:Nat) (hk:k<l.length),(cJ l)[k*4]? = some (.int .i64 l[k].1)/\(cJ l)[k*4+1]? = some (.int .i64 l[k].2.1.1.1)/\(cJ l)[k*4+2]? = some (.int .i64 l[k].2.1.1.2.1)/\(cJ l)[k*4+3]? = some (.int .i64 l[k].2.1.2.1)
 | [],_,h=>by simp at h
 |x::l,0,_=>⟨rfl,rfl,rfl,rfl⟩
 |x::l,k+1,h=>by
  have:=cJ_at l k (by simpa using h)
  have e:cJ (x::l)= .int .i64 x.1:: .int .i64 x.2.1.1.1:: .int .i64 x.2.1.1.2.1:: .int .i64 x.2.1.2.1::cJ l:=rfl
  rw [e,show (k+1)*4=k*4+1+1+1+1 by omega,DG]
  simp only [BV]
  exact this
def Qv7 (w:World)(c cap:Nat)(l:List Job)(closed:Bool):Prop:= ∃ s r,w.heap[c]? = some (.chan cap (l.map jV).toArray closed s r false)
theorem QIj: ∃ i,Tryz.prog.info? 47=some i/\i.bytes=32:=by
 have h:(Tryz.prog.info? 47).map (·.bytes)=some 32:=by kernel_rfl
 obtain ⟨i,hi,hb⟩:=Bf.1 h
 exact ⟨i,hi,hb⟩
theorem mkChan (w:World)(n:Nat)(hn:n<=100000):(Instr.makeChan 153 (.int .i64 n)).run Tryz.prog w= .ok (.chan (some w.heap.size)) (w.alloc (.chan n #[] false 0 0 false)):=by
 obtain ⟨i,hi,hb⟩:=QIj
 simpa using run_makeChan (P:=Tryz.prog) (w:=w) Tryz.underlying153 hi .i64 n (by omega) (by rw [hb];omega)
end Go.Proofs.YthlcobdnemhcdaaGreat.K
noncomputable section
namespace Go.Proofs.YthlcobdnemhcdaaGreat.K
open Go.RowKit Go.Conc
set_option maxRecDepth 50000 in
set_option maxHeartbeats 1000000 in
theorem QCw (l:List Job)(A:Option Addr)(n c:Nat)(w:World)(hn:l.length=n)(hl:n<=100000)
  (hc:0<n→ ∃ b off,A=some ⟨b,off,none⟩/\b<w.heap.size∧ ∀ j v,(cJ l)[j]? = some v->w.cell? ⟨b,off+j,none⟩=some v):
  Calls Tryz.prog 52 #[.slice A n c] w fun en w'=> ∃ ch,en= .returned (.chan (some ch))/\w.heap.size<=ch/\ch<w'.heap.size/\Qv7 w' ch n l true/\Below w.heap.size w w':=by
 have HC:=Lib.hid hc
 have HN:=Lib.hid hn
 clear hc hn
 have hmk:=mkChan w n hl
 refine WN.calls Tryz.func52 rfl ?_
 simp only [Tryz.ntmps52,Dz,Bq,BG,Nat.reduceAdd,Nat.reduceSub,Array.replicate_succ,
   Array.replicate_zero,List.push_toArray,List.append_toArray,BS,Dm]
 refine WN.seq (WN.of ?_)
 go_wp2_with fail
 refine WN.seq (WN.of ?_)
 go_wp2_with fail
 obtain ⟨W1,hW1⟩: ∃ W1,W1=w.alloc (.chan n #[] false 0 0 false):=⟨_,rfl⟩
 obtain ⟨ch,hch⟩: ∃ ch,ch=w.heap.size:=⟨_,rfl⟩
 rw [←hW1, ← hch]
 have bl1:Below w.heap.size w W1:=hW1▸(Below.refl _ _).alloc (Bw _) _
 have ca1:W1.heap[ch]? = some (.chan n #[] false 0 0 false):=by rw [hW1,hch];exact heap_alloc_new w _
 have HB1:=Lib.hid bl1
 have HCH:=Lib.hid hch
 have HCA:=Lib.hid ca1
 clear hW1 hch bl1 ca1 hmk
 refine WN.seq (WN.seq (WN.of ?_))
 go_wp2_with fail
 refine WN.block (WN.loop (fun m a' w'=> ∃ (k s:Nat) (u5 u12 u13 u14 u15 u16 u17:Value),m+k=n/\a'=⟨#[.slice A n c,undef,.chan none,.chan (some ch),undef,u5,.slice A n c,.int .i64 n,.chan (some ch),.slice A n c,.int .i64 n,.int .i64 k,u12,u13,u14,u15,u16,u17,undef,undef],[]⟩∧
  w'.heap[ch]? = some (.chan n ((l.take k).map jV).toArray false s 0 false)/\Below w.heap.size w w') n ⟨0,0,undef,undef,undef,undef,undef,undef,undef,rfl,rfl, ?_,HB1.out⟩ ?_)
 ·rw [List.take_zero]
  exact HCA.out
 ·rintro m a' w' ⟨k,s,u5,u12,u13,u14,u15,u16,u17,hm,rfl,hca,hbl⟩
  have HCA2:=Lib.hid hca
  have HB2:=Lib.hid hbl
  clear hca hbl
  refine WN.seq (WN.of ?_)
  by_cases hlt:k<n
  ·obtain ⟨bb,off,rfl,hbb,hcs⟩:=HC.out (by omega)
   have hkl:k<l.length:=by rw [HN.out];exact hlt
   obtain ⟨g0,g1,g2,g3⟩:=cJ_at l k hkl
   obtain ⟨t,ht⟩: ∃ t,t=l[k]:=⟨_,rfl⟩
   rw [←ht] at g0 g1 g2 g3
   have dz: ∀ j v,w.cell? ⟨bb,off+j,none⟩=some v->w'.cell? ⟨bb,off+j,none⟩=some v:=fun j v h=>(HB2.out.cell (p:=⟨bb,off+j,none⟩) hbb).trans h
   have d0:=dz _ _ (hcs _ _ g0)
   have d1:=dz _ _ (hcs _ _ g1)
   have d2:=dz _ _ (hcs _ _ g2)
   have d3:=dz _ _ (hcs _ _ g3)
   rw [←DS] at d1 d2 d3
   have HO:=Lib.hid (show l[k]? = some t by rw [ht];exact Bj hkl)
   clear dz hcs g0 g1 g2 g3 ht hkl
   go_wp2_with fail
   refine WN.seq (WN.of ?_)
   go_wp2_with fail
   refine WN.seq (WN.block (WN.seq (WN.of ?_)))
   go_wp2_with fail
   obtain ⟨W3,hW3⟩: ∃ W3,W3=w'.alloc (.cells #[.int .i64 t.1,.int .i64 t.2.1.1.1,.int .i64 t.2.1.1.2.1,.int .i64 t.2.1.2.1] 47):=⟨_,rfl⟩
   obtain ⟨q,hq⟩: ∃ q,q=w'.heap.size:=⟨_,rfl⟩
   rw [←hW3, ← hq]
   have kq:Go.Proofs.YthlcobdnemhcdaaGreat.Blk W3 q 47 #[.int .i64 t.1,.int .i64 t.2.1.1.1,.int .i64 t.2.1.1.2.1,.int .i64 t.2.1.2.1]:=by rw [hW3,hq];exact Go.Proofs.YthlcobdnemhcdaaGreat.Blk.new _ _ _
   have b3:Below w'.heap.size w' W3:=hW3▸(Below.refl _ _).alloc (Bw _) _
   have hchlt:ch<w'.heap.size:=(BQ.1 HCA2.out).1
   have ca3:W3.heap[ch]? = some (.chan n ((l.take k).map jV).toArray false s 0 false):=(b3.block ch hchlt).trans HCA2.out
   have bl3:Below w.heap.size w W3:=UQ HB2.out b3 (by have:=HB2.out.size;omega)
   have x0:=kq.cell 0
   have x1:=kq.cell 1
   have x2:=kq.cell 2
   have x3:=kq.cell 3
   simp only [Dk,BR,BV] at x0 x1 x2 x3
   refine LN.region ?_
   simp only [Dz,Bq,BG,Nat.reduceAdd,List.range,List.range.loop]
   refine LN.value (i:=0) rfl rfl (v:= .chan (some ch)) (w':=W3) (by simp [go_sem]) ?_
   refine LN.value (i:=1) rfl rfl (v:=jV t) (w':=W3) (by simp [go_sem,x0,x1,x2,x3,jV]) ?_
   refine LN.send (i:=2) (c:=ch) (v:=jV t) (z:= .tuple #[]) rfl rfl (by simp [go_sem,scase]) ca3 (by simp;omega) ?_
   refine LN.nil ?_
   have ch4:=heap_setChan W3 ch n (((l.take k).map jV).toArray.push (jV t)) false (s+1) 0 false (by have:=b3.size;omega)
   have bl4:Below w.heap.size w (W3.setChan ch n (((l.take k).map jV).toArray.push (jV t)) false (s+1) 0 false):=below_setChan bl3 (by rw [HCH.out];exact Bw _) _ _ _ _ _ _
   obtain ⟨W4,hW4⟩: ∃ W4,W4=W3.setChan ch n (((l.take k).map jV).toArray.push (jV t)) false (s+1) 0 false:=⟨_,rfl⟩
   rw [←hW4] at ch4 bl4 ⊢
   have e:((l.take k).map jV).toArray.push (jV t)=((l.take (k+1)).map jV).toArray:=by
    rw [List.take_add_one,HO.out]
    simp
   rw [e] at ch4
   have HC4:=Lib.hid ch4
   have HL4:=Lib.hid bl4
   clear hW4 ch4 bl4 e x0 x1 x2 x3 kq b3 ca3 bl3 hW3 d0 d1 d2 d3
   simp only [Exit.inBlock,Exit.then]
   go_frame
   refine WN.of ?_
   go_wp2_with fail
   exact ⟨m-1,by omega,k+1,s+1,_,_,_,_,_,_,_,by omega,rfl,HC4.out,HL4.out⟩
  ·obtain rfl:k=n:=by omega
   go_wp2_with fail
   refine WN.seq (WN.of ?_)
   go_wp2_with fail
   have hcl:=fun ats ty=>run_close_open (P:=Tryz.prog) (w:=w') ats ty HCA2.out
   refine WN.seq (WN.of ?_)
   go_wp2_with fail
   clear hcl
   have hlt2:ch<w'.heap.size:=(BQ.1 HCA2.out).1
   have el:List.take k (List.map jV l)=l.map jV:=DQ (by rw [BL,HN.out];exact Bw _)
   rw [el]
   have ch5:=heap_setChan w' ch k (l.map jV).toArray true s 0 false hlt2
   have bl5:Below w.heap.size w (w'.setChan ch k (l.map jV).toArray true s 0 false):=below_setChan HB2.out (by rw [HCH.out];exact Bw _) _ _ _ _ _ _
   have sz5:ch<(w'.setChan ch k (l.map jV).toArray true s 0 false).heap.size:=by rw [size_setChan];exact hlt2
   obtain ⟨W5,hW5⟩: ∃ W5,W5=w'.setChan ch k (l.map jV).toArray true s 0 false:=⟨_,rfl⟩
   rw [←hW5] at ch5 bl5 sz5
   have hW6:=hW5
   unfold World.setChan at hW6
   rw [←hW6]
   have HF:=Lib.hid (show Qv7 W5 ch k l true/\Below ch w W5/\ch<W5.heap.size from ⟨⟨s,0,ch5⟩,by rw [HCH.out];exact bl5,sz5⟩)
   clear hW5 hW6 ch5 bl5 sz5 hlt2 el
   refine WN.of ?_
   go_wp2_with fail
   go_ret
   exact ⟨ch,rfl,Bw _,HF.out.2.2,HF.out.1,HF.out.2.1⟩
end Go.Proofs.YthlcobdnemhcdaaGreat.K
noncomputable section
namespace Go.Proofs.YthlcobdnemhcdaaGreat.K
open Go.RowKit
noncomputable section
attribute [local irreducible] epV epN prZ
end
end Go.Proofs.YthlcobdnemhcdaaGreat.K
noncomputable section
namespace Go.Proofs.YthlcobdnemhcdaaGreat.K
open Go.RowKit
noncomputable section
theorem QAE {k:Keep}{id:Int}{l:List Certificate}(hk:Ys k 2=true)(hd:ZB id=true)(hl:l.length<=8)(h1:l.all QX=true)(h2:IJ k id l=true):U3 k id l=true:=by
 simp only [Ys,Bb] at hk
 have h8:igt (Qc l) 8=false:=Bp (by simp only [Qc];omega)
 have hi:ine (YH k.1) 2=false:=by rw [QfT,hk.2];rfl
 unfold U3
 rw [hk.1,hi,hd,h8,h1,h2]
 rfl
theorem QAF {c:Int}(h:1<=c/\c<=16):ieq (Yu c).2 0=true:=by
 unfold Yu
 rw [if_neg (by omega)]
 rfl
theorem QAG {l:List Int}(hn:l.Nodup)(hr: ∀ x∈l,1<=x/\x<=16):X9 l=true:=by
 have key: ∀ (k:Nat) (hk:k<l.length),(ieq (Yu l[k]).2 0&& !Q9 (l.take k) l[k])=true:=by
  intro k hk
  rw [QAF (hr _ (Bx hk)),By,BA]
  unfold Q9
  rw [Bool.eq_false_iff]
  intro hc
  have hm:=BH.1 hc
  obtain ⟨j,hj,he⟩:=List.mem_iff_getElem.1 hm
  rw [B6] at hj
  rw [List.getElem_take] at he
  have:=(List.nodup_iff_pairwise_ne.1 hn)
  rw [List.pairwise_iff_getElem] at this
  exact this j k (by omega) hk (by omega) he
 simp only [X9,XL,Bh,List.mem_range'_1]
 intro k hk
 have hk2:k<l.length:=by omega
 simp only [Bm,Bj hk2,BU]
 exact key k hk2
def goodS (l:List Int):Prop:=l.Nodup∧ ∀ x∈l,1<=x/\x<=16
def QgB (l:List Int):Bool:= !igt (Qc l) 16&&(UN l&&l.all ZB)
def QgC (l:List Int):Bool:=UN l&&l.all Fm
theorem QAH {e:Endpoint}(hw:Fl e.1=true)(h1:1<=e.2.1)(h2:e.2.1<=e.2.2.1)(h3:e.2.2.1<=4)(hs:goodS (E1 e))(hi:(WL e).length<=4)(hv:(WL e).all Fs=true)(ha:QgB (GA e)=true)(hh:QgC (Fq e)=true):Za e=true:=by
 simp only [QgB,QgC,Bb] at ha hh
 have g1:ilt e.2.1 1=false:=Bp (by omega)
 have g2:igt e.2.1 e.2.2.1=false:=Bp (by omega)
 have g3:igt e.2.2.1 4=false:=Bp (by omega)
 have g4:igt (Qc (WL e)) 4=false:=Bp (by simp only [Qc];omega)
 unfold Za
 rw [hw,g1,g2,g3,QAG hs.1 hs.2,g4,ha.1,ha.2.1,ha.2.2,hv,hh.1,hh.2]
 rfl
attribute [local irreducible] epV epN prZ
end
end Go.Proofs.YthlcobdnemhcdaaGreat.K
noncomputable section
namespace Go.Proofs.YthlcobdnemhcdaaGreat.K
open Go.RowKit
noncomputable section
end
end Go.Proofs.YthlcobdnemhcdaaGreat.K
noncomputable section
namespace Go.Proofs.YthlcobdnemhcdaaGreat.K
open Go.RowKit
abbrev Xy (s:ByteArray)(k:Nat):Certificate:=(Ua (leafC s JA (Qh .i64 100 (k:Int)) 901) 1).1
def Qfm (s:ByteArray)(k:Nat):Bool:=
 J1 (Xy s k)&&(QX (Xy s k)&&(IJ JA (Qh .i64 100 (k:Int)) [Xy s k]&&(ZB (Qh .i64 100 (k:Int))&&(hasS (QZ (Xy s k)) s&&(!QfB [Xy s k] 11&&(!QfB [Xy s k] 15&&(!QfB [Xy s k] 10&&(ieq (Wu (Xy s k)).1 1&&(ieq (Xy s k).2.2.2.2.2.2.1 0&&(ieq (Xy s k).2.2.2.2.2.2.2.1 901&&(ieq (Xy s k).2.2.2.2.2.1.1 3&&(Fl s&&Jz s))))))))))))
set_option maxRecDepth 100000 in
theorem QLd:(X6.all fun s=>(List.range 3).all fun k=>Qfm s k)=true:=by kernel_rfl
theorem QyM {s:ByteArray}{k:Nat}(hs:s∈X6)(hk:k<3):Qfm s k=true:=
 Bh.1 (Bh.1 QLd s hs) k (Db.2 hk)
def Qfn (e:Endpoint):Prop:= ∃ d k s,e=Xj d k s/\s∈X6/\k<3
theorem QLe:Ys JA 2=true:=by kernel_rfl
theorem QLf (d:Dice):dof d [3,3,4]=3∨dof d [3,3,4]=4:=by
 have h:=WD (d:=d) (l:=[3,3,4]) (by decide)
 simp only [BB,BY,DC] at h
 omega
def Qm4 (l:List Int):Bool:=decide l.Nodup&&l.all fun x=>decide (1<=x/\x<=16)
theorem QLg {l:List Int}(h:Qm4 l=true):goodS l:=by
 simp only [Qm4,Bb,Ba,Bh] at h
 exact h
theorem QLh (d:Dice):Gp d∈[[10,8,2],[8,2],[2,10,8,3],[14,10,8,2],[14,8,2],([14,2,10,8,3]:List Int)]:=by
 have b3:=JC (d:=Qu d [3,3,4]) (n:=3) (by omega)
 unfold Gp
 rcases (show Ql (Qu d [3,3,4]) 3=0∨Ql (Qu d [3,3,4]) 3=1∨Ql (Qu d [3,3,4]) 3=2 by omega) with h|h|h<;>rw [h]<;>cases ieq (dof d [3,3,4]) 4<;>decide
theorem QyN {p:List Int->Bool}(h:[[10,8,2],[8,2],[2,10,8,3],[14,10,8,2],[14,8,2],([14,2,10,8,3]:List Int)].all p=true)(d:Dice):p (Gp d)=true:=Bh.1 h _ (QLh d)
theorem QLi {e:Endpoint}(h:Qfn e):Ze e=true:=by
 obtain ⟨d,k,s,rfl,hs,hk⟩:=h
 have hg:=QyM hs hk
 simp only [Qfm,Bb] at hg
 have hsu:(Gp d).length<=5:=BJ (QyN (p:=fun l=>decide (l.length<=5)) (by decide) d)
 have hc:Z5 [Xy s k]=true:=by
  simp only [Z5,B9,List.all_nil,hg.1,Dl]
  rfl
 unfold Ze
 simp only [Bb,Ba]
 refine ⟨⟨hg.2.2.2.2.2.2.2.2.2.2.2.2.2,⟨?_, ?_, ?_, ?_⟩⟩, ?_⟩
 ·show (Gp d).length<=100000
  omega
 ·exact (show 1<=100000 by decide)
 ·exact (show 1<=100000 by decide)
 ·exact (show 2<=100000 by decide)
 ·show (Xs (Zl s JA (Qh .i64 100 (k:Int)) 1 901)&&true)=true
  rw [Dl]
  exact hc
theorem QLj {e:Endpoint}(h:Qfn e):Za e=true:=by
 obtain ⟨d,k,s,rfl,hs,hk⟩:=h
 have hg:=QyM hs hk
 simp only [Qfm,Bb] at hg
 have hm:=QLf d
 refine QAH (e:=Xj d k s) hg.2.2.2.2.2.2.2.2.2.2.2.2.1 (B4 _) ?_ ?_ (QLg (QyN (p:=Qm4) (by decide) d)) (show 1<=4 by decide) ?_ (show QgB [1]=true by decide) (show QgC [2,3]=true by kernel_rfl)
 ·show (1:Int)<=dof d [3,3,4]
  omega
 ·show dof d [3,3,4]<=4
  omega
 ·show (Fs (Zl s JA (Qh .i64 100 (k:Int)) 1 901)&&true)=true
  rw [Dl]
  refine QAE QLe hg.2.2.2.1 (show 1<=8 by decide) ?_ hg.2.2.1
  show (QX (Xy s k)&&true)=true
  rw [hg.2.1]
  rfl
theorem QyO: ∀ (l:List ByteArray) (k:Nat) (d:Dice),(Zc l k d).1.length=l.length
 | [],_,_=>rfl
 |_::r,k,d=>by simp only [Zc,Bq,QyO r (k+1) (XH d)]
theorem QyP: ∀ (l:List ByteArray) (k:Nat) (d:Dice),(∀ s∈l,s∈X6)->k+l.length<=3→ ∀ e∈(Zc l k d).1,Qfn e
 | [],_,_,_,_,e,he=>by cases he
 |s::r,k,d,h,hk,e,he=>by
  simp only [Zc,BB] at he
  simp only [Bq] at hk
  rcases he with rfl|he
  ·exact ⟨d,k,s,rfl,h s Dw,by omega⟩
  ·exact QyP r (k+1) (XH d) (fun s hs=>h s (B1 _ hs)) (by omega) e he
theorem QLk (d:Dice): ∀ s∈Jo d,s∈X6:=by
 rcases Qji d with h|h<;>rw [h]
 ·exact fun s hs=>List.mem_of_mem_take hs
 ·exact fun s hs=>hs
theorem QLl (d:Dice): ∀ e∈Yh (JB d),Qfn e:=QyP (Jo d) 0 (Qe d 2) (QLk d) (by have:=Vb d;omega)
theorem QyQ (d:Dice):(Yh (JB d)).length=(Jo d).length:=QyO _ _ _
theorem snd_up (d:Dice):Qmg (Yh (JB d)) 0=true:=by
 have hv: ∀ d k s,s∈X6->k<3->Za (Xj d k s)=true:=fun d k s hs hk=>QLj ⟨d,k,s,rfl,hs,hk⟩
 have q1:slt (ByteArray.mk #[97,112,112]) (ByteArray.mk #[100,98])=true:=by kernel_rfl
 have q2:slt (ByteArray.mk #[100,98]) (ByteArray.mk #[119,101,98])=true:=by kernel_rfl
 show Wp (Zc (Jo d) 0 (Qe d 2)).1 (Zc (Jo d) 0 (Qe d 2)).1 0=true
 rcases Qji d with h|h<;>rw [h]
 ·show (Za (Xj _ 0 _)&&true&&(Za (Xj _ 1 _)&&(false||slt (ByteArray.mk #[97,112,112]) (ByteArray.mk #[100,98]))&&true))=true
  rw [hv _ _ _ (by simp) (by decide),hv _ _ _ (by simp) (by decide),q1]
  rfl
 ·show (Za (Xj _ 0 _)&&true&&(Za (Xj _ 1 _)&&(false||slt (ByteArray.mk #[97,112,112]) (ByteArray.mk #[100,98]))&&(Za (Xj _ 2 _)&&(false||slt (ByteArray.mk #[100,98]) (ByteArray.mk #[119,101,98]))&&true)))=true
  rw [hv _ _ _ (by simp) (by decide),hv _ _ _ (by simp) (by decide),hv _ _ _ (by simp) (by decide),q1,q2]
  rfl
def Qfo (a b:Keep):Prop:=a.1<b.1∨(a.1=b.1/\a.2.1<b.2.1)
def edG (n:Int)(l:List Keep)(i k:Int):Prop:=(∀ x∈l,QeD n x=true)/\l.Pairwise Qfo∧ ∀ x∈l,Qfo x (i,(k,()))
theorem Qfp {n:Int}{l:List Keep}{i k i' k':Int}(h:edG n l i k)(hl:i<i'∨(i=i'/\k<=k')):edG n l i' k':=by
 refine ⟨h.1,h.2.1,fun x hx=> ?_⟩
 have:=h.2.2 x hx
 simp only [Qfo] at this ⊢
 omega
theorem Qfq {n:Int}: ∀ (m:Nat) (i k:Int) (l:List Keep) (d:Dice),0<=i->i<n->0<=k->k+m<=n->edG n l i k->edG n (edZ m i k l d).1 i (k+m)
 |0,i,k,l,d,_,_,_,_,h=>Qfp h (.inr ⟨rfl,by omega⟩)
 |m+1,i,k,l,d,h0,h1,h2,h3,h=>by
  have hs:edG n l i (k+1):=Qfp h (.inr ⟨rfl,by omega⟩)
  have e:k+((m+1:Nat):Int)=k+1+m:=by omega
  unfold edZ
  rw [e]
  cases hn:ine i k with
  |false=>exact Qfq m i (k+1) l d h0 h1 (by omega) (by omega) hs
  |true=>
   cases h4:(igt (Ql d 3) 0&&ilt (Qc l) 3) with
   |false=>exact Qfq m i (k+1) l (Qe d 3) h0 h1 (by omega) (by omega) hs
   |true=>
    have hne:i≠k:=by simpa [ine] using hn
    refine Qfq m i (k+1) (l++[(i,(k,()))]) (Qe d 3) h0 h1 (by omega) (by omega) ⟨fun x hx=> ?_, ?_,fun x hx=> ?_⟩
    ·rcases Bv.1 hx with hx|hx
     ·exact h.1 x hx
     ·rw [BT.1 hx]
      simp only [QeD,ilt,ige,Zw,Bb,BA,Bn]
      exact ⟨by omega,by omega,by omega,by omega,hne⟩
    ·rw [DL]
     refine ⟨h.2.1,DM _ _,fun x hx y hy=> ?_⟩
     rw [BT.1 hy]
     exact h.2.2 x hx
    ·rcases Bv.1 hx with hx|hx
     ·exact hs.2.2 x hx
     ·rw [BT.1 hx]
      exact .inr ⟨rfl,by show k<k+1;omega⟩
theorem QyR {n:Int}: ∀ (m nn:Nat) (i:Int) (l:List Keep) (d:Dice),(nn:Int)<=n->0<=i->i+m<=n->edG n l i 0->edG n (edY m nn i l d).1 (i+m) 0
 |0,nn,i,l,d,_,_,_,h=>Qfp h (by omega)
 |m+1,nn,i,l,d,hnn,h0,h1,h=>by
  have:=Qfq nn i 0 l d h0 (by omega) (by omega) (by omega) h
  have e:i+((m+1:Nat):Int)=i+1+m:=by omega
  unfold edY
  rw [e]
  exact QyR m nn (i+1) _ _ hnn (by omega) (by omega) (Qfp this (.inl (by omega)))
theorem QyS {n i k:Int}{l:List Keep}(h:edG n l i k):Yp n l 0=true:=by
 unfold Yp
 rw [Bh]
 intro j hj
 have hj:j<l.length:=by
  rw [List.mem_range'] at hj
  obtain ⟨a,ha,rfl⟩:=hj
  omega
 have at_: ∀ q (hq:q<l.length),V5 l q=l[q]:=fun q hq=>by simp only [V5,Bm,Bj hq,BU]
 unfold QeE
 rw [at_ j hj,h.1 _ (Bx hj),By]
 by_cases h0:j=0
 ·rw [Be h0,Bool.true_or]
 ·rw [Bp h0,Dr,at_ (j-1) (by omega)]
  have hp:=List.pairwise_iff_getElem.1 h.2.1 (j-1) j (by omega) hj (by omega)
  simp only [Qfo] at hp
  simp only [egLt,igt,ige,Zw,Bb,BA,Bn,Bool.and_eq_false_imp,Ba]
  refine ⟨by omega,fun he=>by omega⟩
theorem QLm (d:Dice):Yp (Qc (Yh (JB d))) (Wq (JB d)) 0=true/\(Wq (JB d)).length<=3/\0<(Wq (JB d)).length:=by
 have hn:=Vb d
 have hl:Qc (Yh (JB d))=((Jo d).length:Int):=by rw [Qc,QyQ]
 rw [hl]
 show Yp _ (UB d) 0=true/\(UB d).length<=3/\0<(UB d).length
 unfold UB
 cases hq:ieq (Qc (JF d).1) 0 with
 |true=>
  refine ⟨?_,(show 1<=3 by decide),(show 0<1 by decide)⟩
  show Yp _ [(0,(1,()))] 0=true
  refine QyS (i:=5) (k:=5) ⟨fun x hx=> ?_,DM _ _,fun x hx=> ?_⟩<;>rw [BT.1 hx]
  ·simp only [QeD,ilt,ige,Zw,Bb,BA,Bn]
   exact ⟨by omega,by omega,by omega,by omega,by omega⟩
  ·exact .inl (by decide)
 |false=>
  have hy:=QyR (n:=((Jo d).length:Int)) (Jo d).length (Jo d).length 0 [] (Zc (Jo d) 0 (Qe d 2)).2 (B4 _) (B4 _) (by omega) (⟨fun x hx=>(nomatch hx),List.Pairwise.nil,fun x hx=>(nomatch hx)⟩:edG _ [] 0 0)
  refine ⟨QyS hy, ?_, ?_⟩
  ·have hp: ∀ (m:Nat) (i k:Int) (l:List Keep) (d:Dice),l.length<=3->(edZ m i k l d).1.length<=3:=by
    intro m
    induction m with
    |zero=>exact fun _ _ _ _ h=>h
    |succ m ih=>
     intro i k l d h
     unfold edZ
     cases ine i k with
     |false=>exact ih _ _ _ _ h
     |true=>
      cases h1:igt (Ql d 3) 0 with
      |false=>exact ih _ _ _ _ h
      |true=>
       cases h2:ilt (Qc l) 3 with
       |false=>exact ih _ _ _ _ h
       |true=>
        have:=BJ h2
        simp only [Qc] at this
        exact ih _ _ _ _ (by simp only [Bl,Bk];omega)
   have hr: ∀ (m n:Nat) (i:Int) (l:List Keep) (d:Dice),l.length<=3->(edY m n i l d).1.length<=3:=by
    intro m
    induction m with
    |zero=>exact fun _ _ _ _ h=>h
    |succ m ih=>exact fun n i l d h=>ih n (i+1) _ _ (hp n i 0 l d h)
   exact hr _ _ _ [] _ (by decide)
  ·simp only [Zw,Qc,Bn] at hq
   show 0<(JF d).1.length
   omega
theorem QLn {d:Dice}:JL (ZH d sIt)=true:=by
 have hv:=JC (d:=d) (n:=2) (by omega)
 unfold ZH
 show JL (sIt.getD (Ql d 2).toNat ByteArray.empty)=true
 rcases (show Ql d 2=0∨Ql d 2=1 by omega) with h|h<;>rw [h]<;>kernel_rfl
theorem QLo {d:Dice}:Jz (ZH d sIt)=true:=by
 have hv:=JC (d:=d) (n:=2) (by omega)
 unfold ZH
 show Jz (sIt.getD (Ql d 2).toNat ByteArray.empty)=true
 rcases (show Ql d 2=0∨Ql d 2=1 by omega) with h|h<;>rw [h]<;>kernel_rfl
theorem Qai: ∀ (n:Nat) (d:Dice),(itZ n d).1.all Zp=true/\(itZ n d).1.all Z9=true/\(itZ n d).1.length=n
 |0,_=>⟨rfl,rfl,rfl⟩
 |n+1,d=>by
  have:=Qai n (Wv (Y7 d sIt) (ZH d sIt))
  simp only [itZ,B9,Bq,this,Dl,and_true]
  exact ⟨QAc _ QLn,QLo⟩
theorem QyT (d:Dice):YD (JB d)=true/\YE (JB d)=true:=by
 have hn:=Vb d
 have h1:=snd_up d
 obtain ⟨h2,h3,h4⟩:=QLm d
 have hv3:=JC (d:=(JF d).2) (n:=3) (by omega)
 have hi:=Qai (Ql (JF d).2 3).toNat (Qe (JF d).2 3)
 have hl:(Yh (JB d)).length<=3:=by rw [QyQ];omega
 have hx:QM (JB d)=(itZ (Ql (JF d).2 3).toNat (Qe (JF d).2 3)).1:=rfl
 constructor
 ·unfold YD
  rw [h1,h2,hx,hi.1,show ile (Qc (Yh (JB d))) 16=true from Be (by simp only [Qc];omega),show ile (Qc (Wq (JB d))) 40=true from Be (by simp only [Qc];omega),show ile (Qc (itZ (Ql (JF d).2 3).toNat (Qe (JF d).2 3)).1) 30=true from Be (by simp only [Qc];omega)]
  rfl
 ·unfold YE Yg
  rw [hx,hi.2.1,Be (show (Yh (JB d)).length<=99999/\(Wq (JB d)).length<=99999 by omega),Be (show (itZ (Ql (JF d).2 3).toNat (Qe (JF d).2 3)).1.length<=100000 by omega),By,By,Dl]
  exact Bh.2 fun e he=>QLi (QLl d e he)
end Go.Proofs.YthlcobdnemhcdaaGreat.K
noncomputable section
namespace Go.Proofs.YthlcobdnemhcdaaGreat.K
open Go.RowKit
noncomputable section
open Classical in
end
end Go.Proofs.YthlcobdnemhcdaaGreat.K
noncomputable section
namespace Go.Proofs.YthlcobdnemhcdaaGreat.K
open Go.RowKit
noncomputable section
def Qjg (x:Identity):Identity:=x
-- loop 0: (x12 : (List Certificate)) (x13 : Int) (x14 : Int) (y2 : Identity) (y3_0 : Int) (y3_1 : Int) (y3_2 : Int) (QLs : (List Certificate)); out: ('exit', 0) (y2 : Identity) (y3_0 : Int) (y3_1 : Int) (y3_2 : Int) (QLs : (List Certificate))
def Va (x:Endpoint):Endpoint:=x
-- loop 0: (x21 : (List Identity)) (x22 : Int) (x23 : Int) (y2 : Endpoint) (y3_0 : ByteArray) (y3_1 : Int) (y3_2 : Int) (y3_4 : Bool) (y3_8 : Bool) (y9 : (List Int)) (y12 : (List Int)) (y15 : (List Int)) (QLr : (List Identity)); out: ('exit', 0) (y2 : Endpoint) (y3_0 : ByteArray) (y3_1 : Int) (y3_2 : Int) (y3_4 : Bool) (y3_8 : Bool) (y9 : (List Int)) (y12 : (List Int)) (y15 : (List Int)) (QLr : (List Identity))
def Xi (x:Estate):Estate:=x
def UA (i:Item):Bool:=decide (i.2.2.2.1.length<=1000)
def Yx (x:Estate):Bool:=YE x&&(QM x).all UA
-- loop 0: (x13 : (List Endpoint)) (x14 : Int) (x15 : Int) (y1 : Estate) (y2 : Estate) (y10 : (List Keep)) (Qb : (List Endpoint)) (Qd : (List Item)); out: ('exit', 0) (y1 : Estate) (y2 : Estate) (y10 : (List Keep)) (Qb : (List Endpoint)) (Qd : (List Item))
-- loop 1: (x28 : (List Item)) (x29 : Int) (x30 : Int) (y2 : Estate) (y10 : (List Keep)) (Qb : (List Endpoint)) (Qd : (List Item)); out: ('exit', 2) (y2 : Estate) (y10 : (List Keep)) (Qb : (List Endpoint)) (Qd : (List Item))
end
end Go.Proofs.YthlcobdnemhcdaaGreat.K
noncomputable section
namespace Go.Proofs.YthlcobdnemhcdaaGreat.K
open Go.RowKit
theorem QdR {P:Program}(w:World)(t e:TypeId)(a:Option Addr)(l c:Nat)(h:P.underlying t=some (.slice e)):(binOp .eql t (.slice a l c) (.slice none 0 0)).run P w= .ok (.bool a.isNone) w:=by
 simp [binOp,run_equal_slice_nil w t e a l c h]
def Wl {α:Type}(l:List α):Bool:=decide (l.length<=100000)
theorem own_cG {X:Nat->Nat->Prop}{w:World}{σ:Pl}{B e:Nat}{y:Ty}{l:List y.T}{cells:List Value}{sv:Value}(h:w.ownsRow B e y.sz sv l.length cells)(hc:Cs X w QT (l.flatMap y.cells) cells)(h1: ∀ u∈cells,u.oneCell'=true)(hX: ∀ b q,X b q->b<B):C X w σ (V.t (.sl y) l).d sv:=by
 obtain ⟨g,A,c,rfl,h2,h3,h4⟩:=Sl.of_own h
 have hlt:=h.lt
 show C X w σ (.sl l.length (l.flatMap y.cells)) _
 simp only [C]
 refine ⟨A,c,rfl,h2,h3,fun h0=> ?_,fun h0=> ?_⟩
 ·have:l=[]:=Bt h0
  rw [this]
  rfl
 ·obtain ⟨b,off,rfl,g1,g2⟩:=h4 h0
  refine ⟨b,off,cells,rfl,hc,g1,fun q _ hq=> ?_,fun j u hu=>g2 j u hu,h1⟩
  have:=hX b _ hq
  have:=(hlt b rfl).1
  omega
theorem QvD {P:Program}{f e N:Nat}{y:Ty}{ok:(Ty.pr (.sl y) .nil).T->Bool}(hlt:f<1000000)(hok: ∀ x,ok x=true->x.1.length<=N)
  (h: ∀ (A:Option Addr) (c n:Nat) (cells:List Value) (w:World),Sl w (.slice A n c) y.sz n cells->(∀ u∈cells,u.oneCell'=true)->n<=N→
   Calls P f #[.slice A n c] w fun r w'=> ∃ sv,r= .returned sv/\w'.ownsRow w.heap.size e y.sz sv n cells/\Below w.heap.size w w'):
  Qp P f (Qq (Qo (.pr (.sl y) .nil) ok (fun x=> .t (.sl y) x.1))):=by
 refine Qil (hlt:=hlt) (fun x hx X w σ vs hfin hc=> ?_)
 obtain ⟨l,u0⟩:=x
 have hc:Cs X w σ [D.sl l.length (l.flatMap y.cells)] vs:=hc
 simp only [Cs,C] at hc
 obtain ⟨u,us,rfl,⟨A,c,rfl,hnc,hmx,hz,hp⟩,rfl⟩:=hc
 have hsl: ∃ cells,Sl w (.slice A l.length c) y.sz l.length cells/\(∀ u∈cells,u.oneCell'=true)/\Cs X w QT (List.flatMap y.cells l) cells:=by
  by_cases hq:l=[]
  ·subst hq
   exact ⟨[],⟨by simp,A,c,rfl,B3 _,hmx,fun hn=>absurd hn (by simp)⟩,fun u hu=>(by cases hu),by simp [Cs]⟩
  ·have hn:0<l.length:=List.length_pos_iff.2 hq
   obtain ⟨b,off,vs,rfl,g1,g2⟩:=hp hn
   have hvl:=Cs.len g1
   rw [WP] at hvl
   exact ⟨vs,⟨hvl,_,c,rfl,hnc,hmx,fun _=>⟨b,off,rfl,g2.lt,fun j u hu=>g2.at_ j u hu⟩⟩,g2.one,g1⟩
 obtain ⟨cells,s1,s2,s3⟩:=hsl
 refine (h A c l.length cells w s1 s2 (hok _ hx)).mono ?_
 rintro en w' ⟨sv,rfl,ho,hb⟩
 exact ⟨sv,rfl,own_cG ho (Cs.ext0 (QIv hb) _ _ (fun _ _=>rfl) s3) s2 hfin,hb⟩
def QvE (l:List Identity):List Identity:=l
def QvF:Ent:=XW (.pr (.sl J4) .nil) (fun x=>(Wl x.1)) (fun x=>(.ms 50000)) (fun x=>[.arr 126 J4 (QvE x.1)])
theorem QHI:Q6 Tryz.prog 141:= .inr ⟨by decide,_,Tryz.func141,by kernel_rfl,by kernel_rfl⟩
theorem QHJ:ElemOk Tryz.prog 109 126 4 48:=ElemOk.of (.agg #[.int .i64 0,.int .i64 0,.int .i64 0,.slice none 0 0]) (by kernel_rfl) (by kernel_rfl) (by kernel_rfl) (by decide)
set_option maxHeartbeats 400000 in
theorem QHK (A:Option Addr)(c n:Nat)(cells:List Value)(w:World)(h:Sl w (.slice A n c) 4 n cells)(h1: ∀ u∈cells,u.oneCell'=true)(hn:n<=100000):
  Calls Tryz.prog 141 #[.slice A n c] w fun r w'=> ∃ sv,r= .returned sv/\w'.ownsRow w.heap.size 126 4 sv n cells/\Below w.heap.size w w':=by
 have he:=QdR (P:=Tryz.prog) w 109 126 A n c (by kernel_rfl)
 rcases A with _|ad
 ·have hnil:n=0:=Dy fun h0=>by
   obtain ⟨_,A',c',hv,_,_,h3⟩:=h
   obtain ⟨b,off,e,_⟩:=h3 (by omega)
   rw [e] at hv
   simp at hv
  subst hnil
  have hc:cells=[]:=Bt (by rw [h.1,DR])
  subst hc
  clear h
  simp only [D3] at he
  go_enter Tryz.func141,Tryz.ntmps141
  go_wp2_with fail
  go_ret
  exact ⟨_,rfl,World.ownsRow_nil _ _ _ _,Below.refl _ _⟩
 ·simp only [D4] at he
  have hown:=World.ownsRow_made w #[] (size:=4) (e:=126) 0 (Bw _) (B3 _) rfl
  have hsrc:=h.alloc (.cells #[] 126)
  have HSRC:=Lib.hid hsrc
  clear h hsrc
  go_enter Tryz.func141,Tryz.ntmps141
  go_wp2_with (at_builtin;refine E3 QHJ rfl _ _ rfl w.heap.size (.slice (some ⟨w.heap.size,0,none⟩) 0 0) 0 [] rfl hown (some ad) n c cells rfl HSRC.out h1 (by omega) (by omega) (by simp) ?_;intro v' w4 hown4 hg4 hat4)
  go_ret
  refine ⟨v',rfl,by simpa using hown4, ?_⟩
  have hal:=(Below.refl w.heap.size w).alloc (Bw _) (.cells #[] 126)
  exact GB hal hg4 (Bw _) hal.size
theorem QHL:Qp Tryz.prog 141 (Qq QvF):=
 Qdv (e:=126) (y:=J4) (by decide) (fun x hx=>BJ hx) fun A c n cells w h h1 hn=>QHK A c n cells w h h1 hn
def QvG (l:List Certificate):List Certificate:=l
def QvH:Ent:=XW (.pr (.sl Jg) .nil) (fun x=>(Wl x.1)) (fun x=>(.ms 50000)) (fun x=>[.arr 204 Jg (QvG x.1)])
theorem QHM:Q6 Tryz.prog 194:= .inr ⟨by decide,_,Tryz.func194,by kernel_rfl,by kernel_rfl⟩
theorem QHN:ElemOk Tryz.prog 124 204 15 152:=ElemOk.of (.agg #[.int .i64 0,.string ⟨#[]⟩,.string ⟨#[]⟩,.int .i64 0,.int .i64 0,.int .i64 0,.int .i64 0,.int .i64 0,.int .i64 0,.int .i64 0,.bool false,.int .i64 0,.slice none 0 0,.int .i64 0,.int .i64 0]) (by kernel_rfl) (by kernel_rfl) (by kernel_rfl) (by decide)
set_option maxHeartbeats 400000 in
theorem QHO (A:Option Addr)(c n:Nat)(cells:List Value)(w:World)(h:Sl w (.slice A n c) 15 n cells)(h1: ∀ u∈cells,u.oneCell'=true)(hn:n<=100000):
  Calls Tryz.prog 194 #[.slice A n c] w fun r w'=> ∃ sv,r= .returned sv/\w'.ownsRow w.heap.size 204 15 sv n cells/\Below w.heap.size w w':=by
 have he:=QdR (P:=Tryz.prog) w 124 204 A n c (by kernel_rfl)
 rcases A with _|ad
 ·have hnil:n=0:=Dy fun h0=>by
   obtain ⟨_,A',c',hv,_,_,h3⟩:=h
   obtain ⟨b,off,e,_⟩:=h3 (by omega)
   rw [e] at hv
   simp at hv
  subst hnil
  have hc:cells=[]:=Bt (by rw [h.1,DR])
  subst hc
  clear h
  simp only [D3] at he
  go_enter Tryz.func194,Tryz.ntmps194
  go_wp2_with fail
  go_ret
  exact ⟨_,rfl,World.ownsRow_nil _ _ _ _,Below.refl _ _⟩
 ·simp only [D4] at he
  have hown:=World.ownsRow_made w #[] (size:=15) (e:=204) 0 (Bw _) (B3 _) rfl
  have hsrc:=h.alloc (.cells #[] 204)
  have HSRC:=Lib.hid hsrc
  clear h hsrc
  go_enter Tryz.func194,Tryz.ntmps194
  go_wp2_with (at_builtin;refine E3 QHN rfl _ _ rfl w.heap.size (.slice (some ⟨w.heap.size,0,none⟩) 0 0) 0 [] rfl hown (some ad) n c cells rfl HSRC.out h1 (by omega) (by omega) (by simp) ?_;intro v' w4 hown4 hg4 hat4)
  go_ret
  refine ⟨v',rfl,by simpa using hown4, ?_⟩
  have hal:=(Below.refl w.heap.size w).alloc (Bw _) (.cells #[] 204)
  exact GB hal hg4 (Bw _) hal.size
theorem QHP:Qp Tryz.prog 194 (Qq QvH):=
 Qdv (e:=204) (y:=Jg) (by decide) (fun x hx=>BJ hx) fun A c n cells w h h1 hn=>QHO A c n cells w h h1 hn
def QvI (l:List ByteArray):List ByteArray:=l
def QvJ:Ent:=Qo (.pr (.sl .str) .nil) (fun x=>(Wl x.1)) (fun x=>(.t (.sl .str) (QvI x.1)))
theorem QHQ:Q6 Tryz.prog 195:= .inr ⟨by decide,_,Tryz.func195,by kernel_rfl,by kernel_rfl⟩
theorem QHR:ElemOk Tryz.prog 115 9 1 16:=ElemOk.of (.string ⟨#[]⟩) (by kernel_rfl) (by kernel_rfl) (by kernel_rfl) (by decide)
set_option maxHeartbeats 400000 in
theorem QHS (A:Option Addr)(c n:Nat)(cells:List Value)(w:World)(h:Sl w (.slice A n c) 1 n cells)(h1: ∀ u∈cells,u.oneCell'=true)(hn:n<=100000):
  Calls Tryz.prog 195 #[.slice A n c] w fun r w'=> ∃ sv,r= .returned sv/\w'.ownsRow w.heap.size 9 1 sv n cells/\Below w.heap.size w w':=by
 have he:=QdR (P:=Tryz.prog) w 115 9 A n c (by kernel_rfl)
 rcases A with _|ad
 ·have hnil:n=0:=Dy fun h0=>by
   obtain ⟨_,A',c',hv,_,_,h3⟩:=h
   obtain ⟨b,off,e,_⟩:=h3 (by omega)
   rw [e] at hv
   simp at hv
  subst hnil
  have hc:cells=[]:=Bt (by rw [h.1,DR])
  subst hc
  clear h
  simp only [D3] at he
  go_enter Tryz.func195,Tryz.ntmps195
  go_wp2_with fail
  go_ret
  exact ⟨_,rfl,World.ownsRow_nil _ _ _ _,Below.refl _ _⟩
 ·simp only [D4] at he
  have hown:=World.ownsRow_made w #[] (size:=1) (e:=9) 0 (Bw _) (B3 _) rfl
  have hsrc:=h.alloc (.cells #[] 9)
  have HSRC:=Lib.hid hsrc
  clear h hsrc
  go_enter Tryz.func195,Tryz.ntmps195
  go_wp2_with (at_builtin;refine E3 QHR rfl _ _ rfl w.heap.size (.slice (some ⟨w.heap.size,0,none⟩) 0 0) 0 [] rfl hown (some ad) n c cells rfl HSRC.out h1 (by omega) (by omega) (by simp) ?_;intro v' w4 hown4 hg4 hat4)
  go_ret
  refine ⟨v',rfl,by simpa using hown4, ?_⟩
  have hal:=(Below.refl w.heap.size w).alloc (Bw _) (.cells #[] 9)
  exact GB hal hg4 (Bw _) hal.size
theorem QHT:Qp Tryz.prog 195 (Qq QvJ):=
 QvD (e:=9) (y:= .str) (by decide) (fun x hx=>BJ hx) fun A c n cells w h h1 hn=>QHS A c n cells w h h1 hn
def QdS (l:List Int):List Int:=l
def QvK:Ent:=Qo (.pr (.sl tI) .nil) (fun x=>(Wl x.1)) (fun x=>(.t (.sl tI) (QdS x.1)))
theorem QHU:Q6 Tryz.prog 140:= .inr ⟨by decide,_,Tryz.func140,by kernel_rfl,by kernel_rfl⟩
theorem QHV:ElemOk Tryz.prog 22 3 1 8:=ElemOk.of (.int .i64 0) (by kernel_rfl) (by kernel_rfl) (by kernel_rfl) (by decide)
set_option maxHeartbeats 400000 in
theorem QHW (A:Option Addr)(c n:Nat)(cells:List Value)(w:World)(h:Sl w (.slice A n c) 1 n cells)(h1: ∀ u∈cells,u.oneCell'=true)(hn:n<=100000):
  Calls Tryz.prog 140 #[.slice A n c] w fun r w'=> ∃ sv,r= .returned sv/\w'.ownsRow w.heap.size 3 1 sv n cells/\Below w.heap.size w w':=by
 have he:=QdR (P:=Tryz.prog) w 22 3 A n c (by kernel_rfl)
 rcases A with _|ad
 ·have hnil:n=0:=Dy fun h0=>by
   obtain ⟨_,A',c',hv,_,_,h3⟩:=h
   obtain ⟨b,off,e,_⟩:=h3 (by omega)
   rw [e] at hv
   simp at hv
  subst hnil
  have hc:cells=[]:=Bt (by rw [h.1,DR])
  subst hc
  clear h
  simp only [D3] at he
  go_enter Tryz.func140,Tryz.ntmps140
  go_wp2_with fail
  go_ret
  exact ⟨_,rfl,World.ownsRow_nil _ _ _ _,Below.refl _ _⟩
 ·simp only [D4] at he
  have hown:=World.ownsRow_made w #[] (size:=1) (e:=3) 0 (Bw _) (B3 _) rfl
  have hsrc:=h.alloc (.cells #[] 3)
  have HSRC:=Lib.hid hsrc
  clear h hsrc
  go_enter Tryz.func140,Tryz.ntmps140
  go_wp2_with (at_builtin;refine E3 QHV rfl _ _ rfl w.heap.size (.slice (some ⟨w.heap.size,0,none⟩) 0 0) 0 [] rfl hown (some ad) n c cells rfl HSRC.out h1 (by omega) (by omega) (by simp) ?_;intro v' w4 hown4 hg4 hat4)
  go_ret
  refine ⟨v',rfl,by simpa using hown4, ?_⟩
  have hal:=(Below.refl w.heap.size w).alloc (Bw _) (.cells #[] 3)
  exact GB hal hg4 (Bw _) hal.size
theorem QHX:Qp Tryz.prog 140 (Qq QvK):=
 QvD (e:=3) (y:=tI) (by decide) (fun x hx=>BJ hx) fun A c n cells w h h1 hn=>QHW A c n cells w h h1 hn
end Go.Proofs.YthlcobdnemhcdaaGreat.K
noncomputable section
namespace Go.Proofs.YthlcobdnemhcdaaGreat.K
open Go.RowKit
noncomputable section
theorem Qqy {α:Type}{l:List α}{k:Nat}(hk:k<l.length):l.set k l[k]=l:=List.set_getElem_self hk
abbrev QbF:Sh:=⟨[(1,.ptr 1 0),(2,.ptr 2 0),(10,.ms 7),(11,.ty tI),(12,.ty tI)],[(1,.bag [.ty tI,.ty tI,.ty tI,.ms 7]),(2,.box J4),(7,.arr 204 Jg),(5007,.no),(10007,.no),(15007,.no)]⟩
abbrev QB6:Sh:=⟨[(1,.ptr 1 0),(2,.ptr 2 0)],[(1,.bag [.ty tI,.ty tI,.ty tI,.ms 7]),(2,.box J4),(7,.arr 204 Jg),(5007,.no),(10007,.no),(15007,.no)]⟩
def QhO:Fg:=QbF.f
def Qqz:TC:=aF Tryz.f142 [(58,pL 0 QhO),(933,.fg ⟨[(1,none),(2,none)],[(1,some J4),(2,some J4),(7,none),(5007,none),(10007,none),(15007,none)]⟩),(3737,pD [(0,[1,7,5007,10007,15007]),(1,[1,7,5007,10007,15007]),(2,[]),(3,[4]),(4,[4]),(5,[]),(6,[7,5007,10007,15007]),(7,[7,5007,10007,15007]),(8,[1,2,7,5007,10007,15007])] (.of [0,1,2,3,4,5,6,7,8]))]
def QqA:TC:=lb 0 Qqz
def QqB (x11 x12 y1_0 y1_1 y1_2:Int)(y2:Identity)(y7:List Certificate):VS:=QbF.st ((),(),(),x11,x12,()) ((y1_0,y1_1,y1_2,(),()),y2,y7,(),(),(),())
def QhP (y1_0 y1_1 y1_2:Int)(y2:Identity)(y7:List Certificate):VS:=QB6.st ((),(),()) ((y1_0,y1_1,y1_2,(),()),y2,y7,(),(),(),())
def QB7:VS->Option (Bool×List (Bool×Exit×VS)):=mkL QbF (fun x y=>(decide (0<=x.2.2.2.2.1/\x.2.2.2.2.1<=x.2.2.2.1/\x.2.2.2.1=(y.2.2.1.length:Int))&&Z5 y.2.2.1)) (fun x y=>[(true,.exit 0,QhP (y.1.1) (y.1.2.1) (y.1.2.2.1) (y.2.1) (y.2.2.1))])
def QhQ:G:=gG 27 [(194,QvH),(195,QvJ)] (Ls [QB7])
def Ov (x11 x12 y1_0 y1_1 y1_2:Int)(y2:Identity)(y7:List Certificate):OX:=QA (QC QhQ QhO QqA) (QqB x11 x12 y1_0 y1_1 y1_2 y2 y7)
def Ow (kk:Int->Int->Int->Int->Int->Identity->List Certificate->OX)(x11 x12 y1_0 y1_1 y1_2:Int)(y2:Identity)(y7:List Certificate):OX:=
 let a3:=Int.toNat x12
 let a5:=lgt Jg y7 a3
 let a1:=((a5.2).2)
 let a2:=(((((a1.2).2).2).2).2)
 let a4:=(((a2.2).2).2)
 br (ilt x12 x11) (br (cIx y7 x12) (br (cLd y7 a3) (br (Wl (a4.1)) (br (cIx y7 x12) (br (cLd y7 a3) (kk x11 (Qh .i64 x12 1) y1_0 y1_1 y1_2 y2 (List.set y7 a3 (a5.1,((a5.2).1,(a1.1,((a1.2).1,(((a1.2).2).1,((((a1.2).2).2).1,(((((a1.2).2).2).2).1,(a2.1,((a2.2).1,(((a2.2).2).1,((QvI (a4.1)),a4.2))))))))))))) none) none) none) none) none) (some (.exit 0,QhP y1_0 y1_1 y1_2 y2 y7))
def QbG (x11 x12 y1_0 y1_1 y1_2:Int)(y2:Identity)(y7:List Certificate):OX:=some (.exit 0,QhP (y1_0) (y1_1) (y1_2) (y2) (y7))
theorem QqC (x11 x12 y1_0 y1_1 y1_2:Int)(y2:Identity)(y7:List Certificate):Ov x11 x12 y1_0 y1_1 y1_2 y2 y7=Ow Ov x11 x12 y1_0 y1_1 y1_2 y2 y7:=lnT (x:=Ow (fun x11 x12 y1_0 y1_1 y1_2 y2 y7=>some (.normal,QqB x11 x12 y1_0 y1_1 y1_2 y2 y7)) x11 x12 y1_0 y1_1 y1_2 y2 y7) (by simp only [Ow,nxA];rfl)
def QqD (p0:Identity):OV:=
 let a1:=QvG p0.2.2.1
 br (Wl p0.2.2.1) (br (decide (0<=(0:Int)/\(0:Int)<=(Qc a1)/\(Qc a1)=(a1.length:Int))&&Z5 a1) (some (.t J4 (((p0.1.1),((p0.1.2.1),())),((p0.2.1),(a1,()))),[])) none) none
theorem QB8 (x11 x12 y1_0 y1_1 y1_2:Int)(y2:Identity)(y7:List Certificate)(h:(decide (0<=x12/\x12<=x11/\x11=(y7.length:Int))&&Z5 y7)=true):Ov x11 x12 y1_0 y1_1 y1_2 y2 y7=QbG x11 x12 y1_0 y1_1 y1_2 y2 y7:=by
 simp only [Bb,Ba] at h
 obtain ⟨⟨h0,h1,rfl⟩,hc⟩:=h
 obtain ⟨k,rfl⟩:=Bu h0
 have hl:=Qnt hc
 refine Q5 y7 (fun k=>Ov (y7.length:Int) (k:Int) y1_0 y1_1 y1_2 y2 y7=QbG (y7.length:Int) (k:Int) y1_0 y1_1 y1_2 y2 y7) ?_ ?_ k (by omega)
 ·rw [QqC]
  simp only [Ow,QbG,QD,BX,BW,Qj]
 ·intro k hk ih
  rw [QqC]
  have c1:Wl (QZ y7[k])=true:=Be (by have:=Qng (Qzf hc hk);omega)
  have c2:cLd y7 k=true:=by simp only [cLd,Ba];exact hk
  simp only [Ow,QD,QI,hk,Br,Qf,Bd,QW (show k<4611686018427387904 by omega),QO (y:=Jg) hk,c2]
  refine brY c1 ?_
  show Ov (y7.length:Int) ((k+1:Nat):Int) y1_0 y1_1 y1_2 y2 (y7.set k y7[k])=_
  rw [Qqy hk,ih]
  simp only [QbG]
theorem QB9:LO QhQ QhO QqA 0:=QN (s:=QbF) fun x y h _ q=>by simp only [QK,QL] at q;exact (QB8 x.2.2.2.1 x.2.2.2.2.1 y.1.1 y.1.2.1 y.1.2.2.1 y.2.1 y.2.2.1 h).trans q
theorem s_f142 (x:Identity)(h:Xs x=true):QqD x=some (.t J4 (Qjg x),[]):=by
 have h:Z5 x.2.2.1=true:=h
 have hl:=Qnt h
 unfold QqD
 refine brY (Be hl) (brY ?_ rfl)
 refine Bg.2 ⟨Be ⟨B4 0, ?_,rfl⟩,h⟩
 simp only [Qc]
 omega
def QqE:Ent:=Qo (.pr J4 .nil) (fun x=>(Xs x.1)) (fun x=>(.t J4 (Qjg x.1)))
theorem QCa:EM 142 QqE:=mS (lk:=lkL (lkc QB9 lkn)) QhQ Qqz [((.c 2 true 4),some J4)] false (gB (gC QHM QHP (gC QHQ QHT gN))) fun m=>Qt m fun x hok=>kT (s_f142 x.1 hok)
abbrev QbH:Sh:=⟨[(1,.ptr 1 0),(2,.ptr 2 0),(22,.ms 16),(23,.ty tI),(24,.ty tI)],[(1,.bag [.ty .str,.ty tI,.ty tI,.ty (.sl tI),.ty .bool,.ms 16,.ty (.sl tI),.ty (.sl tI),.ty .bool]),(2,.box QJ),(16,.arr 126 J4),(5016,.no),(10016,.no),(15016,.no)]⟩
abbrev QCb:Sh:=⟨[(1,.ptr 1 0),(2,.ptr 2 0)],[(1,.bag [.ty .str,.ty tI,.ty tI,.ty (.sl tI),.ty .bool,.ms 16,.ty (.sl tI),.ty (.sl tI),.ty .bool]),(2,.box QJ),(16,.arr 126 J4),(5016,.no),(10016,.no),(15016,.no)]⟩
def QhR:Fg:=QbH.f
def QqF:TC:=aF Tryz.f89 [(6,.fz [16,5016,10016,15016]),(6,pD [(0,[1]),(1,[1]),(2,[]),(3,[1]),(4,[1]),(5,[]),(6,[1]),(7,[1]),(8,[]),(9,[1]),(10,[1]),(11,[16,5016,10016,15016]),(12,[1]),(13,[1,2,16,5016,10016,15016]),(14,[1]),(15,[1,2,16,5016,10016,15016]),(16,[1]),(17,[1,2,16,5016,10016,15016]),(18,[1]),(19,[1,2,16,5016,10016,15016])] (.of [0,1,2,3,4,5,6,7,8,9,10,12,11,13,14,15,16,17,18,19])),(58,pL 0 QhR),(933,.fg ⟨[(1,none),(2,none)],[(1,some QJ),(2,some QJ),(16,none),(5016,none),(10016,none),(15016,none)]⟩),(3737,pD [(0,[1,16,5016,10016,15016]),(1,[1,16,5016,10016,15016]),(2,[]),(3,[4]),(4,[]),(5,[16,5016,10016,15016]),(6,[1,2,16,5016,10016,15016])] (.of [0,1,2,3,4,5,6]))]
def QqG:TC:=lb 0 QqF
def QqH (x23 x24:Int)(y1_0:ByteArray)(y1_1 y1_2:Int)(y1_3:List Int)(y1_4:Bool)(y1_6 y1_7:List Int)(y1_8:Bool)(y2:Endpoint)(y16:List Identity):VS:=QbH.st ((),(),(),x23,x24,()) ((y1_0,y1_1,y1_2,y1_3,y1_4,(),y1_6,y1_7,y1_8,()),y2,y16,(),(),(),())
def QhS (y1_0:ByteArray)(y1_1 y1_2:Int)(y1_3:List Int)(y1_4:Bool)(y1_6 y1_7:List Int)(y1_8:Bool)(y2:Endpoint)(y16:List Identity):VS:=QCb.st ((),(),()) ((y1_0,y1_1,y1_2,y1_3,y1_4,(),y1_6,y1_7,y1_8,()),y2,y16,(),(),(),())
def QCc:VS->Option (Bool×List (Bool×Exit×VS)):=mkL QbH (fun x y=>(decide (0<=x.2.2.2.2.1/\x.2.2.2.2.1<=x.2.2.2.1/\x.2.2.2.1=(y.2.2.1.length:Int)/\y.2.2.1.length<=100000)&&y.2.2.1.all Xs)) (fun x y=>[(true,.exit 0,QhS (y.1.1) (y.1.2.1) (y.1.2.2.1) (y.1.2.2.2.1) (y.1.2.2.2.2.1) (y.1.2.2.2.2.2.2.1) (y.1.2.2.2.2.2.2.2.1) (y.1.2.2.2.2.2.2.2.2.1) (y.2.1) (y.2.2.1))])
def QhT:G:=gG 37 [(140,QvK),(141,QvF),(142,QqE)] (Ls [QCc])
def Ox (x23 x24:Int)(y1_0:ByteArray)(y1_1 y1_2:Int)(y1_3:List Int)(y1_4:Bool)(y1_6 y1_7:List Int)(y1_8:Bool)(y2:Endpoint)(y16:List Identity):OX:=QA (QC QhT QhR QqG) (QqH x23 x24 y1_0 y1_1 y1_2 y1_3 y1_4 y1_6 y1_7 y1_8 y2 y16)
def Oy (kk:Int->Int->ByteArray->Int->Int->List Int->Bool->List Int->List Int->Bool->Endpoint->List Identity->OX)(x23 x24:Int)(y1_0:ByteArray)(y1_1 y1_2:Int)(y1_3:List Int)(y1_4:Bool)(y1_6 y1_7:List Int)(y1_8:Bool)(y2:Endpoint)(y16:List Identity):OX:=
 let a1:=Int.toNat x24
 let a2:=lgt J4 y16 a1
 br (ilt x24 x23) (br (cIx y16 x24) (br (cLd y16 a1) (br (Xs a2) (br (cIx y16 x24) (br (cLd y16 a1) (kk x23 (Qh .i64 x24 1) y1_0 y1_1 y1_2 y1_3 y1_4 y1_6 y1_7 y1_8 y2 (List.set y16 a1 (Qjg a2))) none) none) none) none) none) (some (.exit 0,QhS y1_0 y1_1 y1_2 y1_3 y1_4 y1_6 y1_7 y1_8 y2 y16))
def QbI (x23 x24:Int)(y1_0:ByteArray)(y1_1 y1_2:Int)(y1_3:List Int)(y1_4:Bool)(y1_6 y1_7:List Int)(y1_8:Bool)(y2:Endpoint)(y16:List Identity):OX:=some (.exit 0,QhS (y1_0) (y1_1) (y1_2) (y1_3) (y1_4) (y1_6) (y1_7) (y1_8) (y2) (y16))
theorem QqI (x23 x24:Int)(y1_0:ByteArray)(y1_1 y1_2:Int)(y1_3:List Int)(y1_4:Bool)(y1_6 y1_7:List Int)(y1_8:Bool)(y2:Endpoint)(y16:List Identity):Ox x23 x24 y1_0 y1_1 y1_2 y1_3 y1_4 y1_6 y1_7 y1_8 y2 y16=Oy Ox x23 x24 y1_0 y1_1 y1_2 y1_3 y1_4 y1_6 y1_7 y1_8 y2 y16:=lnT (x:=Oy (fun x23 x24 y1_0 y1_1 y1_2 y1_3 y1_4 y1_6 y1_7 y1_8 y2 y16=>some (.normal,QqH x23 x24 y1_0 y1_1 y1_2 y1_3 y1_4 y1_6 y1_7 y1_8 y2 y16)) x23 x24 y1_0 y1_1 y1_2 y1_3 y1_4 y1_6 y1_7 y1_8 y2 y16) (by simp only [Oy,nxA];rfl)
def r_f89 (p0:Endpoint):OV:=
 let a1:=QvE p0.2.2.2.2.2.1
 br (Wl p0.2.2.2.1) (br (Wl p0.2.2.2.2.2.2.1) (br (Wl p0.2.2.2.2.2.2.2.1) (br (Wl p0.2.2.2.2.2.1) (br (decide (0<=(0:Int)/\(0:Int)<=(Qc a1)/\(Qc a1)=(a1.length:Int)/\a1.length<=100000)&&a1.all Xs) (some (.t QJ ((p0.1),((p0.2.1),((p0.2.2.1),((QdS p0.2.2.2.1),((p0.2.2.2.2.1),(a1,((QdS p0.2.2.2.2.2.2.1),((QdS p0.2.2.2.2.2.2.2.1),((p0.2.2.2.2.2.2.2.2.1),()))))))))),[])) none) none) none) none) none
theorem QCd (x23 x24:Int)(y1_0:ByteArray)(y1_1 y1_2:Int)(y1_3:List Int)(y1_4:Bool)(y1_6 y1_7:List Int)(y1_8:Bool)(y2:Endpoint)(y16:List Identity)(h:(decide (0<=x24/\x24<=x23/\x23=(y16.length:Int)/\y16.length<=100000)&&y16.all Xs)=true):Ox x23 x24 y1_0 y1_1 y1_2 y1_3 y1_4 y1_6 y1_7 y1_8 y2 y16=QbI x23 x24 y1_0 y1_1 y1_2 y1_3 y1_4 y1_6 y1_7 y1_8 y2 y16:=by
 simp only [Bb,Ba] at h
 obtain ⟨⟨h0,h1,rfl,hl⟩,hc⟩:=h
 obtain ⟨k,rfl⟩:=Bu h0
 refine Q5 y16 (fun k=>Ox (y16.length:Int) (k:Int) y1_0 y1_1 y1_2 y1_3 y1_4 y1_6 y1_7 y1_8 y2 y16=QbI (y16.length:Int) (k:Int) y1_0 y1_1 y1_2 y1_3 y1_4 y1_6 y1_7 y1_8 y2 y16) ?_ ?_ k (by omega)
 ·rw [QqI]
  simp only [Oy,QbI,QD,BX,BW,Qj]
 ·intro k hk ih
  rw [QqI]
  have c1:Xs y16[k]=true:=Bh.1 hc _ (Bx hk)
  have c2:cLd y16 k=true:=by simp only [cLd,Ba];exact hk
  simp only [Oy,QD,QI,hk,Br,Qf,Bd,QW (show k<4611686018427387904 by omega),QO (y:=J4) hk,c2,c1]
  show Ox (y16.length:Int) ((k+1:Nat):Int) y1_0 y1_1 y1_2 y1_3 y1_4 y1_6 y1_7 y1_8 y2 (y16.set k y16[k])=_
  rw [Qqy hk,ih]
  simp only [QbI]
theorem QCe:LO QhT QhR QqG 0:=QN (s:=QbH) fun x y h _ q=>by simp only [QK,QL] at q;exact (QCd x.2.2.2.1 x.2.2.2.2.1 y.1.1 y.1.2.1 y.1.2.2.1 y.1.2.2.2.1 y.1.2.2.2.2.1 y.1.2.2.2.2.2.2.1 y.1.2.2.2.2.2.2.2.1 y.1.2.2.2.2.2.2.2.2.1 y.2.1 y.2.2.1 h).trans q
theorem s_f89 (x:Endpoint)(h:Ze x=true):r_f89 x=some (.t QJ (Va x),[]):=by
 obtain ⟨_,h1,h2,h3,h4,h5⟩:=QDJ h
 unfold r_f89
 refine brY (Be (show (E1 x).length<=100000 by omega)) (brY (Be (show (GA x).length<=100000 by omega)) (brY (Be (show (Fq x).length<=100000 by omega)) (brY (Be (show (WL x).length<=100000 by omega)) (brY ?_ rfl))))
 refine Bg.2 ⟨Be ⟨B4 0, ?_,rfl, ?_⟩,h5⟩
 ·simp only [Qc]
  omega
 ·exact h2
def QhU:Ent:=Qo (.pr QJ .nil) (fun x=>(Ze x.1)) (fun x=>(.t QJ (Va x.1)))
theorem QqJ:EM 89 QhU:=mS (lk:=lkL (lkc QCe lkn)) QhT QqF [((.c 2 true 9),some QJ)] false (gB (gC QHU QHX (gC QHI QHL (gD QCa gN)))) fun m=>Qt m fun x hok=>kT (s_f89 x.1 hok)
def QBv:List DO:=dT Tryz.f51 5
abbrev Uh:Sh:=⟨[(1,.ptr 1 0),(2,.ptr 2 0),(3,.ptr 3 0),(14,.ty (.sl QJ)),(15,.ty tI),(16,.ty tI)],[(1,.box Qr),(2,.box Qr),(3,.bag [.ms 20300,.ms 8,.ms 20302]),(8,.arr 113 Qi),(11,.no),(25,.no),(44,.no),(20300,.arr 111 QJ),(20302,.arr 62 Qm)]⟩
abbrev Qg6:Sh:=⟨[(1,.ptr 1 0),(2,.ptr 2 0),(3,.ptr 3 0)],[(1,.box Qr),(2,.box Qr),(3,.bag [.ms 20300,.ms 8,.ms 20302]),(8,.arr 113 Qi),(11,.no),(25,.no),(44,.no),(20300,.arr 111 QJ),(20302,.arr 62 Qm)]⟩
abbrev Ui:Sh:=⟨[(2,.ptr 2 0),(3,.ptr 3 0),(29,.ty (.sl Qm)),(30,.ty tI),(31,.ty tI)],[(2,.box Qr),(3,.bag [.ms 20300,.ms 8,.ms 20302]),(8,.arr 113 Qi),(11,.no),(25,.no),(44,.no),(20300,.arr 111 QJ),(20302,.arr 62 Qm)]⟩
abbrev Qg7:Sh:=⟨[(2,.ptr 2 0),(3,.ptr 3 0)],[(2,.box Qr),(3,.bag [.ms 20300,.ms 8,.ms 20302]),(8,.arr 113 Qi),(11,.no),(25,.no),(44,.no),(20300,.arr 111 QJ),(20302,.arr 62 Qm)]⟩
def U6:Fg:=Uh.f
def U7:Fg:=Ui.f
def Xc:TC:=aF Tryz.f51 [(58,.nf 3 2 62 20302),(58,.nf 3 0 111 20300),(58,pL 0 U6),(933,.fg ⟨[(1,none),(2,none),(3,none)],[(1,some Qr),(2,some Qr),(3,some Qr),(8,none),(11,none),(25,none),(44,none),(20300,none),(20302,none)]⟩),(3737,pD [(0,[3,8,11,25,44,20300,20302]),(1,[3,8,11,25,44,20300,20302]),(2,[5]),(3,[]),(4,[]),(5,[2,3,8,11,25,44,5025,10025,15025,20300,20302]),(6,[3,8,11,25,44,20300,20302]),(7,[2,3,8,11,25,44,20300,20302])] (.of [0,1,2,3,4,5,6,7])),(122,.nf 3 0 111 20300),(122,.nf 3 2 62 20302),(122,.nf 7 3 45 20703),(122,pL 1 U7),(1957,.fg ⟨[(2,none),(3,none)],[(2,some Qr),(3,some Qr),(8,none),(11,none),(25,none),(44,none),(20300,none),(20302,none)]⟩)]
def FX:TC:=lb 0 Xc
def FY:TC:=lb 1 Xc
def GW:List (RV×Option Ty):=[((.c 2 true 3),none)]
def FZ (x14:List Endpoint)(x15 x16:Int)(y1 y2:Estate)(y8:List Keep)(Qb:List Endpoint)(Qd:List Item):VS:=Uh.st ((),(),(),x14,x15,x16,()) (y1,y2,((),(),(),()),y8,(),(),(),Qb,Qd,())
def U8 (y1 y2:Estate)(y8:List Keep)(Qb:List Endpoint)(Qd:List Item):VS:=Qg6.st ((),(),(),()) (y1,y2,((),(),(),()),y8,(),(),(),Qb,Qd,())
def F0 (x29:List Item)(x30 x31:Int)(y2:Estate)(y8:List Keep)(Qb:List Endpoint)(Qd:List Item):VS:=Ui.st ((),(),x29,x30,x31,()) (y2,((),(),(),()),y8,(),(),(),Qb,Qd,())
def U9 (y2:Estate)(y8:List Keep)(Qb:List Endpoint)(Qd:List Item):VS:=Qg7.st ((),(),()) (y2,((),(),(),()),y8,(),(),(),Qb,Qd,())
def Qg8:VS->Option (Bool×List (Bool×Exit×VS)):=mkL Uh (fun x y=>(Qy x.2.2.2.1 x.2.2.2.2.1 x.2.2.2.2.2.1&&(x.2.2.2.1.all Ze&&decide (y.2.2.2.2.2.2.2.1.length<=x.2.2.2.2.2.1)))) (fun x y=>[(true,.exit 0,U8 (y.1) (y.2.1) (y.2.2.2.1) (y.2.2.2.2.2.2.2.1++x.2.2.2.1.drop x.2.2.2.2.2.1.toNat) (y.2.2.2.2.2.2.2.2.1))])
def Qg9:VS->Option (Bool×List (Bool×Exit×VS)):=mkL Ui (fun x y=>(Qy x.2.2.1 x.2.2.2.1 x.2.2.2.2.1&&(x.2.2.1.all UA&&decide (y.2.2.2.2.2.2.2.1.length<=x.2.2.2.2.1)))) (fun x y=>[(true,.exit 2,U9 (y.1) (y.2.2.1) (y.2.2.2.2.2.2.1) (y.2.2.2.2.2.2.2.1++x.2.2.1.drop x.2.2.2.2.1.toNat))])
def ZX:G:=⟨TYs,[8,35],48,EL [(89,QhU)],keeps,(Ls [Qg8,Qg9]),IL [],RL []⟩
def Uj (x14:List Endpoint)(x15 x16:Int)(y1 y2:Estate)(y8:List Keep)(Qb:List Endpoint)(Qd:List Item):OX:=QA (QC ZX U6 FX) (FZ x14 x15 x16 y1 y2 y8 Qb Qd)
def Wx (kk:List Endpoint->Int->Int->Estate->Estate->List Keep->List Endpoint->List Item->OX)(x14:List Endpoint)(x15 x16:Int)(y1 y2:Estate)(y8:List Keep)(Qb:List Endpoint)(Qd:List Item):OX:=
 let a1:=Va (lgt QJ x14 (Int.toNat x16))
 let a2:=((a1.2).1,(((a1.2).2).1,((((a1.2).2).2).1,(((((a1.2).2).2).2).1,((((((a1.2).2).2).2).2).1,(((((((a1.2).2).2).2).2).2).1,((((((((a1.2).2).2).2).2).2).2).1,(((((((((a1.2).2).2).2).2).2).2).2).1,()))))))))
 br (ilt x16 x15) (br (cIx x14 x16) (br (Ze (lgt QJ x14 (Int.toNat x16))) (br (Qx Qb ([(a1.1,a2)]) 144) (kk x14 x15 (Qh .i64 x16 1) y1 y2 y8 (Qb++([(a1.1,a2)])) Qd) none) none) none) (some (.exit 0,U8 y1 y2 y8 Qb Qd))
def Uk (x14:List Endpoint)(x15 x16:Int)(y1 y2:Estate)(y8:List Keep)(Qb:List Endpoint)(Qd:List Item):OX:=some (.exit 0,U8 (y1) (y2) (y8) (Qb++x14.drop x16.toNat) (Qd))
theorem Of (x14:List Endpoint)(x15 x16:Int)(y1 y2:Estate)(y8:List Keep)(Qb:List Endpoint)(Qd:List Item):Uj x14 x15 x16 y1 y2 y8 Qb Qd=Wx Uj x14 x15 x16 y1 y2 y8 Qb Qd:=lnT (x:=Wx (fun x14 x15 x16 y1 y2 y8 Qb Qd=>some (.normal,FZ x14 x15 x16 y1 y2 y8 Qb Qd)) x14 x15 x16 y1 y2 y8 Qb Qd) (by simp only [Wx,nxA];rfl)
def Ul (x29:List Item)(x30 x31:Int)(y2:Estate)(y8:List Keep)(Qb:List Endpoint)(Qd:List Item):OX:=QA (QC ZX U7 FY) (F0 x29 x30 x31 y2 y8 Qb Qd)
def Wy (kk:List Item->Int->Int->Estate->List Keep->List Endpoint->List Item->OX)(x29:List Item)(x30 x31:Int)(y2:Estate)(y8:List Keep)(Qb:List Endpoint)(Qd:List Item):OX:=
 let a1:=lgt Qm x29 (Int.toNat x31)
 let a2:=(((a1.2).2).2)
 br (ilt x31 x30) (br (cIx x29 x31) (br (Qx ([]:List Link) (a2.1) 24) (br (Qx Qd ([(a1.1,((a1.2).1,(((a1.2).2).1,((([]:List Link)++(a2.1)),((a2.2).1,())))))]) 64) (kk x29 x30 (Qh .i64 x31 1) y2 y8 Qb (Qd++([(a1.1,((a1.2).1,(((a1.2).2).1,((([]:List Link)++(a2.1)),((a2.2).1,())))))]))) none) none) none) (some (.exit 2,U9 y2 y8 Qb Qd))
def Um (x29:List Item)(x30 x31:Int)(y2:Estate)(y8:List Keep)(Qb:List Endpoint)(Qd:List Item):OX:=some (.exit 2,U9 (y2) (y8) (Qb) (Qd++x29.drop x31.toNat))
theorem Og (x29:List Item)(x30 x31:Int)(y2:Estate)(y8:List Keep)(Qb:List Endpoint)(Qd:List Item):Ul x29 x30 x31 y2 y8 Qb Qd=Wy Ul x29 x30 x31 y2 y8 Qb Qd:=lnT (x:=Wy (fun x29 x30 x31 y2 y8 Qb Qd=>some (.normal,F0 x29 x30 x31 y2 y8 Qb Qd)) x29 x30 x31 y2 y8 Qb Qd) (by simp only [Wy,nxA];rfl)
def GX (p0:Estate):OV:=
 let a1:=((((p0).2).2).1)
 br (Qx ([]:List Keep) p0.2.1 16) (br (Qy p0.1 (Qc p0.1) (0:Int)&&(p0.1.all Ze&&decide (([]:List Endpoint).length<=(0:Int)))) (br (Qy a1 (Qc a1) (0:Int)&&(a1.all UA&&decide (([]:List Item).length<=(0:Int)))) (some (.ag [(.ms 50000),(.ms 50001),(.ms 50002)],[.arr 111 QJ (([]:List Endpoint)++p0.1.drop (0:Int).toNat),.arr 113 Qi (([]:List Keep)++p0.2.1),.arr 62 Qm (([]:List Item)++a1.drop (0:Int).toNat)])) none) none) none
theorem Qha (p0:Estate):QP ZX Xc GW true [.t Qr p0] []=GX p0:=by kernel_rfl
theorem ok_f51:Option.map (trC Tryz.prog) Tryz.f51.body=some Xc.er:=by kernel_rfl
theorem QBy:XV Tryz.prog Tryz.f51.results.toList=some (GW.map Prod.fst):=by kernel_rfl
theorem QpO:Q6 Tryz.prog 51:= .inr ⟨by decide,_,Tryz.func51,by kernel_rfl,by kernel_rfl⟩
theorem Qhb:GOk Tryz.prog ZX:=Jw _ (gA (gD QqJ gN))
theorem Qhc (x14:List Endpoint)(x15 x16:Int)(y1 y2:Estate)(y8:List Keep)(Qb:List Endpoint)(Qd:List Item)(h:(Qy x14 x15 x16&&(x14.all Ze&&decide (Qb.length<=x16)))=true):Uj x14 x15 x16 y1 y2 y8 Qb Qd=Uk x14 x15 x16 y1 y2 y8 Qb Qd:=by
 simp only [Bb,Ba] at h
 obtain ⟨h0,hc,hl⟩:=h
 obtain ⟨rfl,h3,k,rfl,hk⟩:=JR h0
 clear h0
 revert Qb
 refine Q5 x14 (fun k=> ∀ (Qb:List Endpoint),(Qb.length:Int)<=(k:Int)->Uj x14 (x14.length:Int) (k:Int) y1 y2 y8 Qb Qd=Uk x14 (x14.length:Int) (k:Int) y1 y2 y8 Qb Qd) ?_ ?_ k hk
 ·intro Qb _
  rw [Of]
  simp only [Wx,Uk,QD,BX,BW,Qj,Bd,B5,BP]
 ·intro k hk ih Qb hl
  rw [Of]
  have c1:Ze x14[k]=true:=Bh.1 hc _ (Bx hk)
  simp only [Wx,QD,QI,hk,Br,Qf,Bd,QW (show k<4611686018427387904 by omega),QO (y:=QJ) hk,c1]
  refine brY (JE (by omega) (by simp only [Bk];omega)) ?_
  refine Eq.trans (ih (Qb++[x14[k]]) (by simp only [Bl,Bk];omega)) ?_
  simp only [Uk,Bd,Bi hk,BN,BM]
theorem Qhd (x29:List Item)(x30 x31:Int)(y2:Estate)(y8:List Keep)(Qb:List Endpoint)(Qd:List Item)(h:(Qy x29 x30 x31&&(x29.all UA&&decide (Qd.length<=x31)))=true):Ul x29 x30 x31 y2 y8 Qb Qd=Um x29 x30 x31 y2 y8 Qb Qd:=by
 simp only [Bb,Ba] at h
 obtain ⟨h0,hc,hl⟩:=h
 obtain ⟨rfl,h3,k,rfl,hk⟩:=JR h0
 clear h0
 revert Qd
 refine Q5 x29 (fun k=> ∀ (Qd:List Item),(Qd.length:Int)<=(k:Int)->Ul x29 (x29.length:Int) (k:Int) y2 y8 Qb Qd=Um x29 (x29.length:Int) (k:Int) y2 y8 Qb Qd) ?_ ?_ k hk
 ·intro Qd _
  rw [Og]
  simp only [Wy,Um,QD,BX,BW,Qj,Bd,B5,BP]
 ·intro k hk ih Qd hl
  rw [Og]
  have c1:x29[k].2.2.2.1.length<=1000:=BJ (Bh.1 hc _ (Bx hk))
  simp only [Wy,QD,QI,hk,Br,Qf,Bd,QW (show k<4611686018427387904 by omega),QO (y:=Qm) hk]
  refine brY (JE (by decide) (by simp only [BG];omega)) (brY (JE (by omega) (by simp only [Bk];omega)) ?_)
  refine Eq.trans (ih (Qd++[x29[k]]) (by simp only [Bl,Bk];omega)) ?_
  simp only [Um,Bd,Bi hk,BN,BM]
theorem Qhe:LO ZX U6 FX 0:=QN (s:=Uh) fun x y h _ q=>by simp only [QK,QL] at q;exact (Qhc x.2.2.2.1 x.2.2.2.2.1 x.2.2.2.2.2.1 y.1 y.2.1 y.2.2.2.1 y.2.2.2.2.2.2.2.1 y.2.2.2.2.2.2.2.2.1 h).trans q
theorem Qhf:LO ZX U7 FY 1:=QN (s:=Ui) fun x y h _ q=>by simp only [QK,QL] at q;exact (Qhd x.2.2.1 x.2.2.2.1 x.2.2.2.2.1 y.1 y.2.2.1 y.2.2.2.2.2.2.1 y.2.2.2.2.2.2.2.1 h).trans q
theorem Qhg:Xc.lok ZX:=by
 repeat (first|exact trivial|exact Qhe|exact Qhf|refine ⟨?_, ?_⟩)
theorem Qhh (x:Estate)(h:Yx x=true):GX x=some (.ag [.ms 50000,.ms 50001,.ms 50002],[.arr 111 QJ (Xi x).1,.arr 113 Qi (Xi x).2.1,.arr 62 Qm (Xi x).2.2.1]):=by
 obtain ⟨h,h6⟩:=Bg.1 h
 simp only [YE,Bb,Ba] at h
 obtain ⟨⟨h1,h2⟩,h3,h4⟩:=h
 have h5:=Is h4
 unfold GX
 have hx:x.2.1.length<=99999:=h2
 refine brY (JE (by decide) (by simp only [BG];omega)) (brY ?_ (brY ?_ rfl))
 ·rw [JS (show (Yh x).length<=100000 by omega),h3,By,By]
  exact Be (B4 _)
 ·rw [JS h5,h6,By,By]
  exact Be (B4 _)
def F1:Ent:=XW (.pr Qr .nil) (fun x=>(Yx x.1)) (fun x=>(.ag [(.ms 50000),(.ms 50001),(.ms 50002)])) (fun x=>[.arr 111 QJ ((Xi x.1).1),.arr 113 Qi (((Xi x.1).2).1),.arr 62 Qm ((((Xi x.1).2).2).1)])
theorem Qhi:Qp Tryz.prog 51 (Qq F1):=Qrp (R:=QP ZX Xc GW true) (mG Tryz.func51 (by kernel_rfl) Tryz.ntmps51 (by kernel_rfl) Qhb Qhg) fun x hok=>(Qha x.1).trans (Qhh x.1 hok)
end
end Go.Proofs.YthlcobdnemhcdaaGreat.K
noncomputable section
namespace Go.Proofs.YthlcobdnemhcdaaGreat.K.PJ
open Go.RowKit
noncomputable section
def QBv:List DO:=dT Tryz.f51 5
abbrev Uh:Sh:=⟨[(1,.ptr 1 0),(2,.ptr 2 0),(3,.ptr 3 0),(14,.ty (.sl QJ)),(15,.ty tI),(16,.ty tI)],[(1,.box Qr),(2,.box Qr),(3,.bag [.ms 20300,.ms 8,.ms 20302]),(8,.arr 113 Qi),(11,.no),(25,.no),(44,.no),(20300,.arr 111 QJ),(20302,.arr 62 Qm)]⟩
abbrev Qg6:Sh:=⟨[(1,.ptr 1 0),(2,.ptr 2 0),(3,.ptr 3 0)],[(1,.box Qr),(2,.box Qr),(3,.bag [.ms 20300,.ms 8,.ms 20302]),(8,.arr 113 Qi),(11,.no),(25,.no),(44,.no),(20300,.arr 111 QJ),(20302,.arr 62 Qm)]⟩
abbrev Ui:Sh:=⟨[(2,.ptr 2 0),(3,.ptr 3 0),(29,.ty (.sl Qm)),(30,.ty tI),(31,.ty tI)],[(2,.box Qr),(3,.bag [.ms 20300,.ms 8,.ms 20302]),(8,.arr 113 Qi),(11,.no),(25,.no),(44,.no),(20300,.arr 111 QJ),(20302,.arr 62 Qm)]⟩
abbrev Qg7:Sh:=⟨[(2,.ptr 2 0),(3,.ptr 3 0)],[(2,.box Qr),(3,.bag [.ms 20300,.ms 8,.ms 20302]),(8,.arr 113 Qi),(11,.no),(25,.no),(44,.no),(20300,.arr 111 QJ),(20302,.arr 62 Qm)]⟩
def U6:Fg:=Uh.f
def U7:Fg:=Ui.f
def Xc:TC:=aF Tryz.f51 [(58,.nf 3 2 62 20302),(58,.nf 3 0 111 20300),(58,pL 0 U6),(933,.fg ⟨[(1,none),(2,none),(3,none)],[(1,some Qr),(2,some Qr),(3,some Qr),(8,none),(11,none),(25,none),(44,none),(20300,none),(20302,none)]⟩),(3737,pD [(0,[3,8,11,25,44,20300,20302]),(1,[3,8,11,25,44,20300,20302]),(2,[5]),(3,[]),(4,[]),(5,[2,3,8,11,25,44,5025,10025,15025,20300,20302]),(6,[3,8,11,25,44,20300,20302]),(7,[2,3,8,11,25,44,20300,20302])] (.of [0,1,2,3,4,5,6,7])),(122,.nf 3 0 111 20300),(122,.nf 3 2 62 20302),(122,.nf 7 3 45 20703),(122,pL 1 U7),(1957,.fg ⟨[(2,none),(3,none)],[(2,some Qr),(3,some Qr),(8,none),(11,none),(25,none),(44,none),(20300,none),(20302,none)]⟩)]
def FX:TC:=lb 0 Xc
def FY:TC:=lb 1 Xc
def GW:List (RV×Option Ty):=[((.c 2 true 3),some Qr)]
def FZ (x14:List Endpoint)(x15 x16:Int)(y1 y2:Estate)(y8:List Keep)(Qb:List Endpoint)(Qd:List Item):VS:=Uh.st ((),(),(),x14,x15,x16,()) (y1,y2,((),(),(),()),y8,(),(),(),Qb,Qd,())
def U8 (y1 y2:Estate)(y8:List Keep)(Qb:List Endpoint)(Qd:List Item):VS:=Qg6.st ((),(),(),()) (y1,y2,((),(),(),()),y8,(),(),(),Qb,Qd,())
def F0 (x29:List Item)(x30 x31:Int)(y2:Estate)(y8:List Keep)(Qb:List Endpoint)(Qd:List Item):VS:=Ui.st ((),(),x29,x30,x31,()) (y2,((),(),(),()),y8,(),(),(),Qb,Qd,())
def U9 (y2:Estate)(y8:List Keep)(Qb:List Endpoint)(Qd:List Item):VS:=Qg7.st ((),(),()) (y2,((),(),(),()),y8,(),(),(),Qb,Qd,())
def Qg8:VS->Option (Bool×List (Bool×Exit×VS)):=mkL Uh (fun x y=>(Qy x.2.2.2.1 x.2.2.2.2.1 x.2.2.2.2.2.1&&(x.2.2.2.1.all Ze&&decide (y.2.2.2.2.2.2.2.1.length<=x.2.2.2.2.2.1)))) (fun x y=>[(true,.exit 0,U8 (y.1) (y.2.1) (y.2.2.2.1) (y.2.2.2.2.2.2.2.1++x.2.2.2.1.drop x.2.2.2.2.2.1.toNat) (y.2.2.2.2.2.2.2.2.1))])
def Qg9:VS->Option (Bool×List (Bool×Exit×VS)):=mkL Ui (fun x y=>(Qy x.2.2.1 x.2.2.2.1 x.2.2.2.2.1&&(x.2.2.1.all UA&&decide (y.2.2.2.2.2.2.2.1.length<=x.2.2.2.2.1)))) (fun x y=>[(true,.exit 2,U9 (y.1) (y.2.2.1) (y.2.2.2.2.2.2.1) (y.2.2.2.2.2.2.2.1++x.2.2.1.drop x.2.2.2.2.1.toNat))])
def ZX:G:=⟨TYs,[8,35],48,EL [(89,QhU)],keeps,(Ls [Qg8,Qg9]),IL [],RL []⟩
def QpM (x14:List Endpoint)(x15 x16:Int)(y1 y2:Estate)(y8:List Keep)(Qb:List Endpoint)(Qd:List Item):OX:=
 let a1:=Va (lgt QJ x14 (Int.toNat x16))
 let a2:=((a1.2).1,(((a1.2).2).1,((((a1.2).2).2).1,(((((a1.2).2).2).2).1,((((((a1.2).2).2).2).2).1,(((((((a1.2).2).2).2).2).2).1,((((((((a1.2).2).2).2).2).2).2).1,(((((((((a1.2).2).2).2).2).2).2).2).1,()))))))))
 br (ilt x16 x15) (br (cIx x14 x16) (br (Ze (lgt QJ x14 (Int.toNat x16))) (br (Qx Qb ([(a1.1,a2)]) 144) (some (.normal,FZ x14 x15 (Qh .i64 x16 1) y1 y2 y8 (Qb++([(a1.1,a2)])) Qd)) none) none) none) (some (.exit 0,U8 y1 y2 y8 Qb Qd))
def Uj (x14:List Endpoint)(x15 x16:Int)(y1 y2:Estate)(y8:List Keep)(Qb:List Endpoint)(Qd:List Item):OX:=QA (QC ZX U6 FX) (FZ x14 x15 x16 y1 y2 y8 Qb Qd)
def Wx (x14:List Endpoint)(x15 x16:Int)(y1 y2:Estate)(y8:List Keep)(Qb:List Endpoint)(Qd:List Item):OX:=
 let a1:=Va (lgt QJ x14 (Int.toNat x16))
 let a2:=((a1.2).1,(((a1.2).2).1,((((a1.2).2).2).1,(((((a1.2).2).2).2).1,((((((a1.2).2).2).2).2).1,(((((((a1.2).2).2).2).2).2).1,((((((((a1.2).2).2).2).2).2).2).1,(((((((((a1.2).2).2).2).2).2).2).2).1,()))))))))
 br (ilt x16 x15) (br (cIx x14 x16) (br (Ze (lgt QJ x14 (Int.toNat x16))) (br (Qx Qb ([(a1.1,a2)]) 144) (Uj x14 x15 (Qh .i64 x16 1) y1 y2 y8 (Qb++([(a1.1,a2)])) Qd) none) none) none) (some (.exit 0,U8 y1 y2 y8 Qb Qd))
def Uk (x14:List Endpoint)(x15 x16:Int)(y1 y2:Estate)(y8:List Keep)(Qb:List Endpoint)(Qd:List Item):OX:=some (.exit 0,U8 (y1) (y2) (y8) (Qb++x14.drop x16.toNat) (Qd))
theorem QBw (x14:List Endpoint)(x15 x16:Int)(y1 y2:Estate)(y8:List Keep)(Qb:List Endpoint)(Qd:List Item):QC ZX U6 FX (FZ x14 x15 x16 y1 y2 y8 Qb Qd)=QpM x14 x15 x16 y1 y2 y8 Qb Qd:=by kernel_rfl
theorem Of (x14:List Endpoint)(x15 x16:Int)(y1 y2:Estate)(y8:List Keep)(Qb:List Endpoint)(Qd:List Item):Uj x14 x15 x16 y1 y2 y8 Qb Qd=Wx x14 x15 x16 y1 y2 y8 Qb Qd:=(G7 _ _).trans (by
 rw [QBw]
 simp only [QpM,Wx,YJ,YY,YZ,Y0,Y2]
 rfl)
def QpN (x29:List Item)(x30 x31:Int)(y2:Estate)(y8:List Keep)(Qb:List Endpoint)(Qd:List Item):OX:=
 let a1:=lgt Qm x29 (Int.toNat x31)
 let a2:=(((a1.2).2).2)
 br (ilt x31 x30) (br (cIx x29 x31) (br (Qx ([]:List Link) (a2.1) 24) (br (Qx Qd ([(a1.1,((a1.2).1,(((a1.2).2).1,((([]:List Link)++(a2.1)),((a2.2).1,())))))]) 64) (some (.normal,F0 x29 x30 (Qh .i64 x31 1) y2 y8 Qb (Qd++([(a1.1,((a1.2).1,(((a1.2).2).1,((([]:List Link)++(a2.1)),((a2.2).1,())))))])))) none) none) none) (some (.exit 2,U9 y2 y8 Qb Qd))
def Ul (x29:List Item)(x30 x31:Int)(y2:Estate)(y8:List Keep)(Qb:List Endpoint)(Qd:List Item):OX:=QA (QC ZX U7 FY) (F0 x29 x30 x31 y2 y8 Qb Qd)
def Wy (x29:List Item)(x30 x31:Int)(y2:Estate)(y8:List Keep)(Qb:List Endpoint)(Qd:List Item):OX:=
 let a1:=lgt Qm x29 (Int.toNat x31)
 let a2:=(((a1.2).2).2)
 br (ilt x31 x30) (br (cIx x29 x31) (br (Qx ([]:List Link) (a2.1) 24) (br (Qx Qd ([(a1.1,((a1.2).1,(((a1.2).2).1,((([]:List Link)++(a2.1)),((a2.2).1,())))))]) 64) (Ul x29 x30 (Qh .i64 x31 1) y2 y8 Qb (Qd++([(a1.1,((a1.2).1,(((a1.2).2).1,((([]:List Link)++(a2.1)),((a2.2).1,())))))]))) none) none) none) (some (.exit 2,U9 y2 y8 Qb Qd))
def Um (x29:List Item)(x30 x31:Int)(y2:Estate)(y8:List Keep)(Qb:List Endpoint)(Qd:List Item):OX:=some (.exit 2,U9 (y2) (y8) (Qb) (Qd++x29.drop x31.toNat))
theorem QBx (x29:List Item)(x30 x31:Int)(y2:Estate)(y8:List Keep)(Qb:List Endpoint)(Qd:List Item):QC ZX U7 FY (F0 x29 x30 x31 y2 y8 Qb Qd)=QpN x29 x30 x31 y2 y8 Qb Qd:=by kernel_rfl
theorem Og (x29:List Item)(x30 x31:Int)(y2:Estate)(y8:List Keep)(Qb:List Endpoint)(Qd:List Item):Ul x29 x30 x31 y2 y8 Qb Qd=Wy x29 x30 x31 y2 y8 Qb Qd:=(G7 _ _).trans (by
 rw [QBx]
 simp only [QpN,Wy,YJ,YY,YZ,Y0,Y2]
 rfl)
def GX (p0:Estate):OV:=
 let a1:=((((p0).2).2).1)
 br (Qx ([]:List Keep) p0.2.1 16) (br (Qy p0.1 (Qc p0.1) (0:Int)&&(p0.1.all Ze&&decide (([]:List Endpoint).length<=(0:Int)))) (br (Qy a1 (Qc a1) (0:Int)&&(a1.all UA&&decide (([]:List Item).length<=(0:Int)))) (some (.t Qr ((([]:List Endpoint)++p0.1.drop (0:Int).toNat),((([]:List Keep)++p0.2.1),((([]:List Item)++a1.drop (0:Int).toNat),()))),[])) none) none) none
theorem Qha (p0:Estate):QP ZX Xc GW false [.t Qr p0] []=GX p0:=by kernel_rfl
theorem ok_f51:Option.map (trC Tryz.prog) Tryz.f51.body=some Xc.er:=by kernel_rfl
theorem QBy:XV Tryz.prog Tryz.f51.results.toList=some (GW.map Prod.fst):=by kernel_rfl
theorem QpO:Q6 Tryz.prog 51:= .inr ⟨by decide,_,Tryz.func51,by kernel_rfl,by kernel_rfl⟩
theorem Qhb:GOk Tryz.prog ZX:=Jw _ (gA (gD QqJ gN))
theorem Qhc (x14:List Endpoint)(x15 x16:Int)(y1 y2:Estate)(y8:List Keep)(Qb:List Endpoint)(Qd:List Item)(h:(Qy x14 x15 x16&&(x14.all Ze&&decide (Qb.length<=x16)))=true):Uj x14 x15 x16 y1 y2 y8 Qb Qd=Uk x14 x15 x16 y1 y2 y8 Qb Qd:=by
 simp only [Bb,Ba] at h
 obtain ⟨h0,hc,hl⟩:=h
 obtain ⟨rfl,h3,k,rfl,hk⟩:=JR h0
 clear h0
 revert Qb
 refine Q5 x14 (fun k=> ∀ (Qb:List Endpoint),(Qb.length:Int)<=(k:Int)->Uj x14 (x14.length:Int) (k:Int) y1 y2 y8 Qb Qd=Uk x14 (x14.length:Int) (k:Int) y1 y2 y8 Qb Qd) ?_ ?_ k hk
 ·intro Qb _
  rw [Of]
  simp only [Wx,Uk,QD,BX,BW,Qj,Bd,B5,BP]
 ·intro k hk ih Qb hl
  rw [Of]
  have c1:Ze x14[k]=true:=Bh.1 hc _ (Bx hk)
  simp only [Wx,QD,QI,hk,Br,Qf,Bd,QW (show k<4611686018427387904 by omega),QO (y:=QJ) hk,c1]
  refine brY (JE (by omega) (by simp only [Bk];omega)) ?_
  refine Eq.trans (ih (Qb++[x14[k]]) (by simp only [Bl,Bk];omega)) ?_
  simp only [Uk,Bd,Bi hk,BN,BM]
theorem Qhd (x29:List Item)(x30 x31:Int)(y2:Estate)(y8:List Keep)(Qb:List Endpoint)(Qd:List Item)(h:(Qy x29 x30 x31&&(x29.all UA&&decide (Qd.length<=x31)))=true):Ul x29 x30 x31 y2 y8 Qb Qd=Um x29 x30 x31 y2 y8 Qb Qd:=by
 simp only [Bb,Ba] at h
 obtain ⟨h0,hc,hl⟩:=h
 obtain ⟨rfl,h3,k,rfl,hk⟩:=JR h0
 clear h0
 revert Qd
 refine Q5 x29 (fun k=> ∀ (Qd:List Item),(Qd.length:Int)<=(k:Int)->Ul x29 (x29.length:Int) (k:Int) y2 y8 Qb Qd=Um x29 (x29.length:Int) (k:Int) y2 y8 Qb Qd) ?_ ?_ k hk
 ·intro Qd _
  rw [Og]
  simp only [Wy,Um,QD,BX,BW,Qj,Bd,B5,BP]
 ·intro k hk ih Qd hl
  rw [Og]
  have c1:x29[k].2.2.2.1.length<=1000:=BJ (Bh.1 hc _ (Bx hk))
  simp only [Wy,QD,QI,hk,Br,Qf,Bd,QW (show k<4611686018427387904 by omega),QO (y:=Qm) hk]
  refine brY (JE (by decide) (by simp only [BG];omega)) (brY (JE (by omega) (by simp only [Bk];omega)) ?_)
  refine Eq.trans (ih (Qd++[x29[k]]) (by simp only [Bl,Bk];omega)) ?_
  simp only [Um,Bd,Bi hk,BN,BM]
theorem Qhe:LO ZX U6 FX 0:=QN (s:=Uh) fun x y h _ q=>by simp only [QK,QL] at q;exact (Qhc x.2.2.2.1 x.2.2.2.2.1 x.2.2.2.2.2.1 y.1 y.2.1 y.2.2.2.1 y.2.2.2.2.2.2.2.1 y.2.2.2.2.2.2.2.2.1 h).trans q
theorem Qhf:LO ZX U7 FY 1:=QN (s:=Ui) fun x y h _ q=>by simp only [QK,QL] at q;exact (Qhd x.2.2.1 x.2.2.2.1 x.2.2.2.2.1 y.1 y.2.2.1 y.2.2.2.2.2.2.1 y.2.2.2.2.2.2.2.1 h).trans q
theorem Qhg:Xc.lok ZX:=by
 repeat (first|exact trivial|exact Qhe|exact Qhf|refine ⟨?_, ?_⟩)
theorem Qhh (x:Estate)(h:Yx x=true):GX x=some (.t Qr (Xi x),[]):=by
 obtain ⟨h,h6⟩:=Bg.1 h
 simp only [YE,Bb,Ba] at h
 obtain ⟨⟨h1,h2⟩,h3,h4⟩:=h
 have h5:=Is h4
 unfold GX
 have hx:x.2.1.length<=99999:=h2
 refine brY (JE (by decide) (by simp only [BG];omega)) (brY ?_ (brY ?_ rfl))
 ·rw [JS (show (Yh x).length<=100000 by omega),h3,By,By]
  exact Be (B4 _)
 ·rw [JS h5,h6,By,By]
  exact Be (B4 _)
def F1:Ent:=Qo (.pr Qr .nil) (fun x=>(Yx x.1)) (fun x=>(.t Qr (Xi x.1)))
theorem Qhi:Qp Tryz.prog 51 (Qq F1):=Qt (R:=QP ZX Xc GW false) (mG Tryz.func51 (by kernel_rfl) Tryz.ntmps51 (by kernel_rfl) Qhb Qhg) fun x hok=>(Qha x.1).trans (Qhh x.1 hok)
theorem copyMeets {w:World}{X:Nat->Nat->Prop}{e:Estate}{u:Value}(hfin: ∀ b q,X b q->b<w.heap.size)(hs:C X w QT (V.t Qr e).d u)(h:Yx e=true):
  Calls Tryz.prog 51 #[u] w fun en w'=> ∃ v X' σ',en= .returned v/\C X' w' σ' (V.t Qr e).d v/\Ends X w QT 0 X' w' σ' []:=by
 have hF:Qq F1 [.t Qr e] []=some (.t Qr (Xi e),[]):=by
  unfold F1
  exact Qb6 (a:= .pr Qr .nil) (x:=(e,())) (by simp [Ty.args,QlK]) h
 refine (WX (by decide) (Qhi _ _ _ _ hF X w QT [u] hfin Qd7 ⟨u,_,rfl,hs,rfl⟩)).mono ?_
 rintro en w' ⟨v,X',σ',rfl,h1,h2⟩
 exact ⟨v,X',σ',rfl,h1,h2⟩
end
end Go.Proofs.YthlcobdnemhcdaaGreat.K.PJ
