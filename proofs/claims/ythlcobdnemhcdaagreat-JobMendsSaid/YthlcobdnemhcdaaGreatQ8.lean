import Derived.Test.YthlcobdnemhcdaaGreatQ3
import Derived.Test.YthlcobdnemhcdaaGreatQ6
import Derived.Test.YthlcobdnemhcdaaGreatQ7
import Derived.Test.YthlcobdnemhcdaaGreatQ4
import Derived.RangeFuncCalls
import Derived.RangeFuncBound
import Derived.Shelf.RegionOpen
import Derived.OwnWalkIn
import Derived.TacticsInMore
import Derived.LoopNIn
import Derived.LoopIn
set_option linter.unusedSimpArgs false
set_option linter.unusedVariables false
noncomputable section
namespace Go.Proofs.YthlcobdnemhcdaaGreat.K
open Go.RowKit
def Y6 {α:Type}(l:List α):List (Int×(α×Unit)):=(l.zipIdx.map fun p=>((p.2:Int),(p.1,()))).reverse
def QjF:Itr:=QmN [.ptr 50000 0] [(.sl QU)] (.pr tI (.pr QU .nil)) (fun d=>true) (fun d=>(Y6 d.1))
def QEs:TC:=aF Tryz.f151 []
def g_f151:G:=gG 4 [] (fun _ _=>none)
def r_f151 (p0:List Rule):OV:=some (.fn 203 [(.ptr 50000 0)],[.box (.t (.sl QU) p0)])
def Qtb:Ent:=XW (.pr (.sl QU) .nil) (fun _=>true) (fun x=> .fn 203 [.ptr 50000 0]) (fun x=>[.box (.t (.sl QU) x.1)])
theorem QEt:EM 151 Qtb:=mS g_f151 QEs [((.t 2),none)] true (gB gN) fun m=>Qrp m fun x _=>by kernel_rfl
end Go.Proofs.YthlcobdnemhcdaaGreat.K
noncomputable section
namespace Go.Proofs.YthlcobdnemhcdaaGreat.K
open Go.RowKit Go.Shelf
attribute [local go_sem] Oper.semAt_some
def YV (vs:List Value)(sz:Nat):Nat->List (Array Value)
 |0=>[]
 |k+1=> #[.int .i64 (k:Int),.agg ((vs.drop (k*sz)).take sz).toArray]::YV vs sz k
theorem QCf (vs:List Value)(sz:Nat): ∀ n k,k<n->(YV vs sz n).drop k=YV vs sz (n-k)
 |0,k,h=>by omega
 |n+1,0,_=>rfl
 |n+1,k+1,h=>by
  rw [YV,List.drop_succ_cons,QCf vs sz n k (by omega)]
  congr 1
  omega
theorem w64 (m:Nat)(h:m<=maxLen):wrap64 ((m:Int)-1)=(m:Int)-1:=by
 simp only [maxLen] at h
 unfold wrap64
 omega
set_option maxRecDepth 100000 in
set_option maxHeartbeats 1000000 in
theorem QCg (Bs b0 off c n:Nat)(A:Option Addr)(vs:List Value)(Xf:Nat->Nat->Prop)(w:World)(hnc:n<=c)(hcm:c<=maxLen)
  (hBs:w.cell? ⟨Bs,0,none⟩=some (.slice A n c)) (hBl:Bs<w.heap.size) (hBx: ∀ q, ¬ Xf Bs q)
  (hA:0<n->A=some ⟨b0,off,none⟩/\vs.length=n*6/\b0<w.heap.size/\(∀ j,j<vs.length→ ¬ Xf b0 (off+j))∧ ∀ j v,vs[j]? = some v->w.cell? ⟨b0,off+j,none⟩=some v):
  Il Tryz.prog 203 [.pointer (some ⟨Bs,0,none⟩)] (YV vs 6 n) Xf w:=by
 intro l J Jx W hJ hJx hK hY h0 _
 have HA:=Lib.hid hA
 clear hA
 refine callsIn_of_wp (F:=Fw none) Tryz.func203 rfl trivial ?_ rfl
 simp only [Tryz.ntmps203,Dz,Bq,BG,Nat.reduceAdd,Nat.reduceSub,Array.replicate_succ,Array.replicate_zero,List.push_toArray,List.append_toArray,BS,Dm]
 have hb0:W.cell? ⟨Bs,0,none⟩=some (.slice A n c):=((hK _ W h0).2 Bs 0 hBl (hBx 0)).trans hBs
 gi_wp2
 gi_loopw [3] (fun i wr=> ∃ k:Nat,k<=n/\i= .int .i64 ((k:Int)-1)/\J (YV vs 6 k) wr)
  (fun i _=>(intOf i+1).toNat)
 case atStart=>exact ⟨n,Bw _,congrArg (Value.int .i64) (w64 n (by omega)),h0⟩
 case round=>
  obtain ⟨k,hk,rfl,hJs⟩:=hrel
  have hbx:wr.cell? ⟨Bs,0,none⟩=some (.slice A n c):=((hK _ wr hJs).2 Bs 0 hBl (hBx 0)).trans hBs
  cases k with
  |zero=>
   gi_wp2
   go_end0
   exact ⟨⟨_,rfl⟩,.inl hJs⟩
  |succ q=>
   obtain ⟨rfl,hvl,hbl,hnx,hcl⟩:=HA.out (by omega)
   obtain ⟨fn,tmps,assign,body,hy,hR⟩:=hY _ _ wr hJs
   have cel: ∀ i,i<6→ ∃ v,vs[q*6+i]? = some v/\wr.cell? ⟨b0,off+(q*6+i),none⟩=some v:=by
    intro i hi
    have hlt:q*6+i<vs.length:=by omega
    exact ⟨_,Bj hlt,((hK _ wr hJs).2 b0 _ hbl (hnx _ hlt)).trans (hcl _ _ (Bj hlt))⟩
   obtain ⟨v0,e0,c0⟩:=cel 0 (by omega)
   obtain ⟨v1,e1,c1⟩:=cel 1 (by omega)
   obtain ⟨v2,e2,c2⟩:=cel 2 (by omega)
   obtain ⟨v3,e3,c3⟩:=cel 3 (by omega)
   obtain ⟨v4,e4,c4⟩:=cel 4 (by omega)
   obtain ⟨v5,e5,c5⟩:=cel 5 (by omega)
   rw [DK] at e0 c0
   rw [←DS] at c1 c2 c3 c4 c5
   have hag:((vs.drop (q*6)).take 6)=[v0,v1,v2,v3,v4,v5]:=by
    apply List.ext_getElem?
    intro i
    rcases Dc i 6 with hi|hi
    ·rw [DX hi,Df]
     rcases i with _|_|_|_|_|_|i
     ·rw [DK,e0];rfl
     ·rw [e1];rfl
     ·rw [e2];rfl
     ·rw [e3];rfl
     ·rw [e4];rfl
     ·rw [e5];rfl
     ·omega
    ·rw [List.getElem?_take_eq_none hi,DH (by simpa using hi)]
   rw [hag] at hy
   have q1:((q+1:Nat):Int)-1=(q:Int):=by omega
   rw [q1]
   clear hnx hcl cel hY
   gi_wp2
   refine hR.mono ?_
   rintro e W3 (⟨rfl,hJ3⟩|⟨rfl,hJx3⟩)
   ·gi_wp2
    go_roundw
    case rel=>exact ⟨q,by omega,congrArg (Value.int .i64) (w64 q (by omega)),hJ3⟩
    case measure=>simp [intOf,w64 q (by omega)]
   ·gi_wp2
    refine bodyPost_ret (results_none rfl _ _ _) rfl ?_
    exact ⟨⟨_,rfl⟩,.inr hJx3⟩
theorem QhV (vs:List Value)(sz:Nat): ∀ n,(YV vs sz n).length=n
 |0=>rfl
 |n+1=>by rw [YV,Bq,QhV vs sz n]
theorem QqK (vs:List Value)(sz:Nat): ∀ n i,i<n->(YV vs sz n)[i]? = some #[.int .i64 ((n-1-i:Nat):Int),.agg ((vs.drop ((n-1-i)*sz)).take sz).toArray]
 |0,i,h=>by omega
 |n+1,0,_=>by simp [YV]
 |n+1,i+1,h=>by
  rw [YV,BV,QqK vs sz n i (by omega)]
  have:n-1-i=n+1-1-(i+1):=by omega
  rw [this]
theorem QCh {α:Type}(l:List α)(i:Nat)(h:i<l.length):(Y6 l)[i]? = some (((l.length-1-i:Nat):Int),(l[l.length-1-i]'(by omega),())):=by
 unfold Y6
 rw [List.getElem?_reverse (by simpa using h)]
 simp
theorem QCi {P:Program}{gf:FuncId}{y:Ty}{sz:Nat}(hgf:gf<1000000)(hrow:y.row=true)(hsz:y.sz=sz)(eg: ∀ args w,(callFunc gf args).run P w= .ok (.enter gf args) w)
  (hw: ∀ (Bs b0 off c n:Nat) (A:Option Addr) (vs:List Value) (Xf:Nat->Nat->Prop) (w:World),n<=c->c<=maxLen->w.cell? ⟨Bs,0,none⟩=some (.slice A n c)->Bs<w.heap.size->(∀ q, ¬ Xf Bs q)→
   (0<n->A=some ⟨b0,off,none⟩/\vs.length=n*sz/\b0<w.heap.size/\(∀ j,j<vs.length→ ¬ Xf b0 (off+j))∧ ∀ j v,vs[j]? = some v->w.cell? ⟨b0,off+j,none⟩=some v)->Il P gf [.pointer (some ⟨Bs,0,none⟩)] (YV vs sz n) Xf w):
  Iters P gf (QmN [.ptr 50000 0] [.sl y] (.pr (.int .i64) (.pr y .nil)) (fun _=>true) (fun d=>Y6 d.1)):=by
 refine Iters.weak hgf eg fun caps objs yr rows h X w σ lb hfin hl hc=> ?_
 unfold QmN at h
 split at h
 ·rename_i x d hx hd
  simp only [Bc,Bo,true_and] at h
  cases h
  have hcaps:=OD hx
  subst hcaps
  cases objs with
  |nil=>simp [Y3] at hd
  |cons o os=>
   cases o with
   |box cv=>
    cases os with
    |cons o2 os=>simp [Y3] at hd
    |nil=>
     simp only [Y3] at hd
     split at hd
     ·rename_i l u hl1 _
      simp only [Bc] at hd
      subst hd
      have hcv:=SV.rd_mk (s:= .ty (.sl y)) (v:=cv) (x:=l) (by simpa [Qb4,Ty.row] using hl1)
      subst hcv
      obtain ⟨⟨Bs,ty,us,h1,h2,h3,h4⟩,_⟩:=hl.at_ 0 _ rfl
      have h3':Cs X w σ [.sl (List.length l) (List.flatMap y.cells l)] us:=h3
      obtain ⟨uv,rfl,h5⟩:=h3'.one
      simp only [C] at h5
      obtain ⟨A,c,rfl,g1,g2,g3,g4⟩:=h5
      simp only [G5,SV.mk,V.ds,V.d,Cs,C] at hc
      obtain ⟨p,ps,rfl,⟨b',e1,rfl⟩,rfl⟩:=hc
      have h1:σ 50000= .box Bs:=h1
      rw [h1] at e1
      injection e1 with e1
      subst e1
      have hcell:w.cell? ⟨Bs,0,none⟩=some (.slice A (List.length l) c):=by simp [World.cell?, h2]
      have hBl:=(BQ.1 h2).1
      have hBx: ∀ q, ¬ (X Bs q∧ ∀ j,j<[VO.box ((SV.ty (.sl y)).mk l)].length->(σ (50000+j)).blk≠some Bs):=fun q hq=>hq.2 0 (by simp) (by rw [h1];rfl)
      rcases D0 (List.length l) with h0|hp
      ·have hl0:l=[]:=Bt h0
       subst hl0
       exact ⟨YV [] sz 0,⟨rfl,fun i r v hr=>by simp [Y6] at hr⟩,hw Bs 0 0 c 0 A [] _ w g1 g2 hcell hBl hBx (fun h=>absurd h (by omega))⟩
      ·obtain ⟨b0,off,vs,rfl,g5,g6⟩:=g4 hp
       have hvl:=g5.len
       rw [WP,hsz] at hvl
       refine ⟨YV vs sz (List.length l),⟨by rw [QhV];simp [Y6],fun i r v hr hv=> ?_⟩,hw Bs b0 off c (List.length l) _ vs _ w g1 g2 hcell hBl hBx (fun _=>⟨rfl,hvl,g6.lt,fun j hj hx=>g6.nx j hj hx.1,fun j v hv=>g6.at_ j v hv⟩)⟩
       have hi:i<List.length l:=by
        have:=(BD.1 hv).1
        rwa [QhV] at this
       rw [QCh _ _ hi] at hr
       rw [QqK _ _ _ _ hi] at hv
       injection hr with hr
       injection hv with hv
       subst hr hv
       simp only [Ty.canon,V.ds,V.d,Cs]
       refine ⟨_,_,rfl,(by simp only [Ty.d,C];exact ⟨trivial,rfl⟩),_,_,rfl, ?_,rfl⟩
       rw [Ty.d_row _ _ hrow]
       simp only [C]
       refine ⟨_,rfl, ?_⟩
       have k1:=(g5.drop_ ((List.length l-1-i)*y.sz))
       rw [Fv,Bi (by omega),BO] at k1
       have k2:=k1.take_ y.sz
       rw [List.take_left' (y.cells_len _),hsz] at k2
       exact k2
     ·cases hd
   |no=>simp [Y3] at hd
   |arr e t l=>simp [Y3] at hd
 ·cases h
theorem QCj:Iters Tryz.prog 203 QjF:=
 QCi (y:=QU) (sz:=6) (by decide) rfl rfl (enters_of Tryz.func203 (by kernel_rfl) rfl) QCg
end Go.Proofs.YthlcobdnemhcdaaGreat.K
noncomputable section
namespace Go.Proofs.YthlcobdnemhcdaaGreat.K
open Go.RowKit
def F6 (zs:List (Int×(Rule×Unit)))(u:Keep)(p d:Int):Option Int:=(zs.find? fun z=>YU z.2.1 u p d).map (·.1)
def Oo (zs:List (Int×(Rule×Unit)))(u:Keep)(p d _x:Int):Bool:=(F6 zs u p d).isSome
def Oq (zs:List (Int×(Rule×Unit)))(u:Keep)(p d _x:Int):Int:=(F6 zs u p d).getD 0
def ZY (y:Policy)(u:Keep)(p d:Int):Int:=(F6 (Y6 y.1) u p d).getD (-1)
abbrev Qbw:Sh:=⟨[(5,.ptr 60000 0),(6,.ptr 60001 0),(7,.ptr 60002 0),(8,.ptr 60003 0)],[(60000,.box Qi),(60001,.box tI),(60002,.box tI),(60003,.bag [.ty tI])]⟩
def Ga:Fg:=Qbw.f
def Qbx:TC:=(.sq (.reg (rT Tryz.f96 2)) (.reg (rT Tryz.f96 3)))
def Qby:TC:=(.bk 1 (.sq (.reg (rT Tryz.f96 4)) (.cd (.t 31) (.sq (.reg (rT Tryz.f96 5)) (.fg ⟨[],[(60000,some Qi),(60001,some tI),(60002,some tI),(60003,none)]⟩ .rt)) .sk)))
def tc_f96:TC:=(.sq (.reg (rT Tryz.f96 0)) (.sq (.sq (.reg (rT Tryz.f96 1)) (.bk 0 (.rf 0 Ga (.t 13) (.pr tI (.pr QU .nil)) [14,15] [5,6,7,8] Qbx Qby))) (.sq (.reg (rT Tryz.f96 6)) .rt)))
def Xz (JI:Keep)(JH Jy Zb:Int):VS:=Qbw.st ((),(),(),(),()) (JI,JH,Jy,(Zb,()),())
def Qbz:VS->List (Ty.T (.pr tI (.pr QU .nil)))->Option (Bool×List (Bool×Exit×VS)):=mkR Qbw (fun zs x y=>true) (fun zs x y=>[((Oo zs y.1 y.2.1 y.2.2.1 y.2.2.2.1.1),.ret,Xz (y.1) (y.2.1) (y.2.2.1) (Oq zs y.1 y.2.1 y.2.2.1 y.2.2.2.1.1)),(true,.normal,Xz (y.1) (y.2.1) (y.2.2.1) (y.2.2.2.1.1))])
def F7:G:=⟨TYs,[],33,EL [(151,Qtb),(152,Qpx)],keeps,(Ls [fun _=>none]),IL [(203,QjF)],(RL [⟨(.pr tI (.pr QU .nil)),Qbz⟩])⟩
def Qqk (z:(Int×(Rule×Unit)))(JI:Keep)(JH Jy Zb:Int):OX:=br (Ww z.2.1 JI JH) (br (ile z.2.1.2.2.2.2.1 Jy) (br (ilt Jy z.2.1.2.2.2.2.2.1) (some (.ret,Xz JI JH Jy z.1)) (some (.normal,Xz JI JH Jy Zb))) (some (.normal,Xz JI JH Jy Zb))) (some (.normal,Xz JI JH Jy Zb))
def F8 (zs:List (Int×(Rule×Unit)))(JI:Keep)(JH Jy Zb:Int):OX:=XP (GN F7 Ga (.pr tI (.pr QU .nil)) [14,15] Qbx Qby) zs (Xz JI JH Jy Zb)
def QhF (z:(Int×(Rule×Unit)))(zs:List (Int×(Rule×Unit)))(JI:Keep)(JH Jy Zb:Int):OX:=br (Ww z.2.1 JI JH) (br (ile z.2.1.2.2.2.2.1 Jy) (br (ilt Jy z.2.1.2.2.2.2.2.1) (some (.ret,Xz JI JH Jy z.1)) (F8 zs JI JH Jy Zb)) (F8 zs JI JH Jy Zb)) (F8 zs JI JH Jy Zb)
def Qql (zs:List (Int×(Rule×Unit)))(JI:Keep)(JH Jy Zb:Int):OX:=br (Oo zs JI JH Jy Zb) (some (.ret,Xz (JI) (JH) (Jy) (Oq zs JI JH Jy Zb)))<|some (.normal,Xz (JI) (JH) (Jy) (Zb))
theorem QBR (z:(Int×(Rule×Unit)))(JI:Keep)(JH Jy Zb:Int):GN F7 Ga (.pr tI (.pr QU .nil)) [14,15] Qbx Qby z (Xz JI JH Jy Zb)=Qqk z JI JH Jy Zb:=by kernel_rfl
theorem QBS (JI:Keep)(JH:Int)(Jy:Int)(Zb:Int):F8 [] JI JH Jy Zb=some (.normal,Xz JI JH Jy Zb):=rfl
theorem QBT (z:(Int×(Rule×Unit)))(zs:List (Int×(Rule×Unit)))(JI:Keep)(JH Jy Zb:Int):F8 (z::zs) JI JH Jy Zb=QhF z zs JI JH Jy Zb:=(QCS _ _ _ _).trans (by
 rw [QBR]
 simp only [Qqk,QhF,YJ,YY,YZ,Y0,Y2]
 rfl)
def r_f96 (p0:Policy)(p1:Keep)(p2 p3:Int):OV:=br (Oo (Y6 p0.1) p1 p2 p3 0) (some (.t tI (Oq (Y6 p0.1) p1 p2 p3 0),[])) (some (.t tI (-1),[]))
theorem QBU (zs:List (Int×(Rule×Unit)))(JI:Keep)(JH Jy Zb:Int)(h:true=true):F8 zs JI JH Jy Zb=Qql zs JI JH Jy Zb:=by
 clear h
 induction zs with
 |nil=>
  rw [QBS]
  rfl
 |cons z zs ih=>
  rw [QBT]
  simp only [QhF,ih,Qql,Oo,Oq,F6,List.find?_cons,YU,I8,ile,ilt,Estate.Endpoints,Estate.Edges,Estate.Items,Policy.Rules,Policy.Keeps,Keep.Alg,Keep.Bits,Link.Use,Link.Day,Job.Item,Job.Link,Item.Name,Item.Kind,Item.Purpose,Item.Links,Item.Until,Rule.Allow,Rule.Alg,Rule.Below,Rule.Purpose,Rule.From,Rule.To,Exception.Use,Exception.Purpose,Exception.Endpoint,Exception.Days,Exception.Seals,Dice.L,Dice.At,Endpoint.Name,Endpoint.Least,Endpoint.Most,Endpoint.Suites,Endpoint.OwnOrder,Endpoint.Identities,Endpoint.Anchors,Endpoint.Hashes,Endpoint.Fallback,Identity.Key,Identity.KeyId,Identity.Chain,Change.Endpoint,Change.Kind,Change.Number,Change.At,Change.Identity,Rules.p,Rules.l,Rules.o,Rules.day,Method.outcome,Method.uses,Certificate.Serial,Certificate.Issuer,Certificate.Subject,Certificate.Key,Certificate.KeyId,Certificate.Hash,Certificate.From,Certificate.To,Certificate.Authority,Certificate.Path,Certificate.Names,Certificate.Seal,LinkX.day,LinkX.fall,LinkX.falls,Suite.Code,Suite.Name,Suite.Exchange,Suite.Sign,Suite.Cipher,Suite.Mac,Suite.Least,Suite.Most,Row.name,Row.kind,Row.way,Row.sizes,Row.strengths,Talk.server,Talk.version,Talk.suites,Symbol.name,Symbol.kind]
  cases h1:Ww z.2.1 JI JH<;>cases h2:decide (z.2.1.2.2.2.2.1<=Jy)<;>cases h3:decide (Jy<z.2.1.2.2.2.2.2.1)<;>simp [Qf,Qj]
theorem QBV: ∀ S (rows:List (Ty.T (.pr tI (.pr QU .nil)))) l p,F7.R 0 (fgt Ga S) (.pr tI (.pr QU .nil)) rows=some (true,l)->YB l=some p->XP (GN F7 Ga (.pr tI (.pr QU .nil)) [14,15] Qbx Qby) rows (fgt Ga S)=some p:=by
 intro S rows l p hR hp
 rw [show F7.R 0 (fgt Ga S) (.pr tI (.pr QU .nil)) rows=Qbz (fgt Ga S) rows from RL_at (l:=[⟨(.pr tI (.pr QU .nil)),Qbz⟩]) (j:=0) (F:=Qbz) rfl _ _] at hR
 refine QCR (s:=Qbw) ⟨by decide,by decide⟩ (by kernel_rfl) (fun zs x y hok p hp=> ?_) S rows l p hR hp
 simp only [QK,QL] at hp
 exact (QBU zs y.1 y.2.1 y.2.2.1 y.2.2.2.1.1 (by first|rfl|simpa using hok)).trans hp
theorem s_f96 (p0:Policy)(p1:Keep)(p2 p3:Int):r_f96 p0 p1 p2 p3=some (.t tI (ZY p0 p1 p2 p3),[]):=by
 simp only [r_f96,ZY,Oo,Oq]
 cases F6 (Y6 p0.1) p1 p2 p3<;>simp [Qf,Qj]
def QhG:Ent:=Qo (.pr QE (.pr Qi (.pr tI (.pr tI .nil)))) (fun x=>true) (fun x=>(.t tI (ZY x.1 x.2.1 x.2.2.1 x.2.2.2.1)))
theorem Qqm:EM 96 QhG:=mS (lk:=(by repeat first|exact trivial|exact QBV|constructor)) F7 tc_f96 [((.c 8 false 1),some tI)] false (Jw _ (gA (gD QEt (gD QBb gN)))
 [(203,QjF)] (by
 intro p hp
 simp only [BB,BY,DC] at hp
 rcases hp with rfl
 ·exact QCj)) fun m=>Qt m fun x _=>kT (s_f96 x.1 x.2.1 x.2.2.1 x.2.2.2.1)
end Go.Proofs.YthlcobdnemhcdaaGreat.K
noncomputable section
namespace Go.Proofs.YthlcobdnemhcdaaGreat.K
open Go.RowKit
def Zh {α:Type}(m:α->Bool):List α->Option Nat
 | []=>none
 |a::l=>match Zh m l with
  |some k=>some (k+1)
  |none=>if m a then some 0 else none
theorem Qcd {α:Type}{m:α->Bool}{l2:List α}: ∀ l1:List α,Zh m (l1++l2)=match Zh m l2 with|some k=>some (l1.length+k)|none=>Zh m l1
 | []=>by
  simp only [BS,BG,DW]
  cases Zh m l2<;>rfl
 |a::l1=>by
  simp only [Dm,Zh,Qcd l1,Bq]
  cases Zh m l2 with
  |none=>rfl
  |some k=>simp only [Bc];omega
theorem QrX {α:Type}{m:α->Bool}: ∀ {l:List α},Zh m l=none↔ ∀ a,a∈l->m a=false
 | []=>by simp [Zh]
 |a::l=>by
  have ih:=QrX (m:=m) (l:=l)
  simp only [Zh]
  cases h:Zh m l with
  |some k=>
   have: ¬ ∀ a,a∈l->m a=false:=fun g=>by rw [ih.2 g] at h;cases h
   simp only [BB,forall_eq_or_imp,reduceCtorEq,false_iff,not_and]
   exact fun _=>this
  |none=>
   have g:=ih.1 h
   cases hm:m a<;>simp_all
theorem QiB {α:Type}{m:α->Bool}: ∀ {l:List α} {k:Nat},Zh m l=some k↔ ∃ h:k<l.length,m l[k]=true∧ ∀ j (hj:j<l.length),k<j->m l[j]=false
 | [],k=>by simp [Zh]
 |a::l,k=>by
  have ih:= @QiB α m l
  simp only [Zh]
  cases h:Zh m l with
  |some i=>
   obtain ⟨h1,h2,h3⟩:=ih.1 h
   simp only [Bc]
   constructor
   ·rintro rfl
    refine ⟨by simp;omega,by simpa using h2,fun j hj hk=> ?_⟩
    cases j with
    |zero=>omega
    |succ j=>simpa using h3 j (by simpa using hj) (by omega)
   ·rintro ⟨g1,g2,g3⟩
    cases k with
    |zero=>
     have:=g3 (i+1) (by simp;omega) (by omega)
     simp [h2] at this
    |succ k=>
     have g1':k<l.length:=by simpa using g1
     simp only [DG] at g2
     have:Zh m l=some k:=ih.2 ⟨g1',g2,fun j hj hk=>by have:=g3 (j+1) (by rw [Bq];omega) (by omega);rwa [DG] at this⟩
     rw [this] at h
     injection h with h
     omega
  |none=>
   have g:=QrX.1 h
   cases hm:m a with
   |true=>
    simp only [if_true,Bc]
    constructor
    ·rintro rfl
     refine ⟨by simp,by simpa using hm,fun j hj hk=> ?_⟩
     cases j with
     |zero=>omega
     |succ j=>simp only [DG];exact g _ (Bx _)
    ·rintro ⟨g1,g2,g3⟩
     cases k with
     |zero=>rfl
     |succ k=>
      simp only [DG] at g2
      rw [g _ (Bx _)] at g2
      cases g2
   |false=>
    simp only [BE,B8,reduceCtorEq,false_iff]
    rintro ⟨g1,g2,g3⟩
    cases k with
    |zero=>simp [hm] at g2
    |succ k=>
     simp only [DG] at g2
     rw [g _ (Bx _)] at g2
     cases g2
theorem QDj {α:Type}(l:List α)(a:α):Y6 (l++[a])=((l.length:Int),(a,()))::Y6 l:=by
 unfold Y6
 simp [List.zipIdx_append]
theorem QDk {α:Type}{P:List α->Prop}(h0:P [])(h1: ∀ l a,P l->P (l++[a]))(l:List α):P l:=by
 have: ∀ r:List α,P r.reverse:=by
  intro r
  induction r with
  |nil=>exact h0
  |cons a r ih=>rw [List.reverse_cons];exact h1 _ _ ih
 have h:=this l.reverse
 rwa [List.reverse_reverse] at h
theorem QDl {α:Type}{m:α->Bool}(l:List α):((Y6 l).find? fun z=>m z.2.1).map (·.1)=(Zh m l).map fun k:Nat=>(k:Int):=by
 induction l using QDk with
 |h0=>rfl
 |h1 l a ih=>
  rw [QDj,List.find?_cons,Qcd]
  simp only [Zh]
  cases hm:m a
  ·simpa using ih
  ·simp
def Yw (rs:List Rule)(u:Keep)(p d:Int):Option Nat:=Zh (fun r=>YU r u p d) rs
theorem QiC {y:Policy}{u:Keep}{p d:Int}:ZY y u p d=match Yw y.1 u p d with|some k=>(k:Int)|none=> -1:=by
 unfold ZY F6 Yw
 rw [QDl (m:=fun r=>YU r u p d)]
 cases Zh (fun r=>YU r u p d) y.1<;>rfl
theorem QDm {y:Policy}{u:Keep}{p d:Int}: -1<=ZY y u p d/\ZY y u p d<y.1.length:=by
 rw [QiC]
 cases h:Yw y.1 u p d with
 |none=>simp only;omega
 |some k=>
  obtain ⟨h1,_⟩:=QiB.1 h
  simp only
  omega
def Qce (rs:List Rule)(u:Keep)(p d:Int):Bool:=match Yw rs u p d with
 |some k=>(rs[k]?.map fun r:Rule=>r.1).getD true
 |none=>true
def Zs (y:Policy)(u:Keep)(p d:Int):Bool:=Qce y.1 u p d
def asc (l:List Int):Prop:=l.Pairwise (· < ·)
theorem QrY: ∀ {a b:List Int},asc a->asc b->(∀ x,x∈a↔x∈b)->a=b
 | [],[],_,_,_=>rfl
 | [],y::b,_,_,h=>absurd ((h y).2 (by simp)) (by simp)
 |x::a,[],_,_,h=>absurd ((h x).1 (by simp)) (by simp)
 |x::a,y::b,ha,hb,h=>by
  obtain ⟨ha1,ha2⟩:=Dj.1 ha
  obtain ⟨hb1,hb2⟩:=Dj.1 hb
  have e:x=y:=by
   rcases BB.1 ((h x).1 (by simp)) with e|e
   ·exact e
   ·rcases BB.1 ((h y).2 (by simp)) with e'|e'
    ·exact e'.symm
    ·have:=ha1 y e'
     have:=hb1 x e
     omega
  subst e
  rw [QrY ha2 hb2 fun z=> ?_]
  constructor
  ·intro hz
   have:=ha1 z hz
   rcases BB.1 ((h z).1 (by simp [hz])) with e|e
   ·omega
   ·exact e
  ·intro hz
   have:=hb1 z hz
   rcases BB.1 ((h z).2 (by simp [hz])) with e|e
   ·omega
   ·exact e
theorem QrZ {d:Array Int}(hs:d.toList.Pairwise (· ≤ ·)): ∀ m,m<=d.size->asc (Lib.compactUpTo d m)/\(∀ x,x∈Lib.compactUpTo d m↔x∈d.toList.take m)/\(0<m→ ∀ x,x∈Lib.compactUpTo d m->x<=d[m-1]!)
 |0,_=>⟨List.Pairwise.nil,fun x=>by simp [Lib.compactUpTo],fun h=>absurd h (by omega)⟩
 |m+1,hm=>by
  obtain ⟨h1,h2,h3⟩:=QrZ hs m (by omega)
  rw [Lib.compactUpTo_succ]
  have hsz:m<d.size:=by omega
  have hle:m<d.toList.length:=by simpa using hsz
  have et:d.toList.take (m+1)=d.toList.take m++[d.toList[m]]:=List.take_succ_eq_append_getElem hle
  have eg:d[m]! = d.toList[m]:=by simp [hsz]
  have hle2: ∀ x,x∈d.toList.take m->x<=d[m]! :=by
   intro x hx
   rw [eg]
   obtain ⟨i,hi,rfl⟩:=List.getElem_of_mem hx
   have hi':i<m:=by rw [B6] at hi;omega
   rw [List.getElem_take]
   exact (List.pairwise_iff_getElem.1 hs) i m (by omega) hle hi'
  by_cases hk:Lib.keeps d m=true
  ·rw [if_pos hk]
   have hlt: ∀ x,x∈Lib.compactUpTo d m->x<d[m]! :=by
    intro x hx
    have h4:0<m:=by
     rcases D0 m with rfl|h
     ·simp [Lib.compactUpTo] at hx
     ·exact h
    have h5:=h3 h4 x hx
    simp only [Lib.keeps,Ba] at hk
    have h6:d[m-1]! ≤ d[m]! :=hle2 _ (by
     have e:d[m-1]! = d.toList[m-1]:=by simp [show m-1<d.size by omega]
     rw [e,List.mem_take_iff_getElem]
     exact ⟨m-1,by omega,rfl⟩)
    rcases hk with hk|hk
    ·omega
    ·omega
   refine ⟨?_,fun x=> ?_,fun _ x hx=> ?_⟩
   ·refine DL.2 ⟨h1,DM _ _,fun a ha b hb=> ?_⟩
    rw [BT.1 hb]
    exact hlt a ha
   ·rw [et,Bv,Bv,h2 x,eg]
   ·rw [D1]
    rcases Bv.1 hx with hx|hx
    ·exact Int.le_of_lt (hlt x hx)
    ·rw [BT.1 hx]
     exact B4 _
  ·have hk':Lib.keeps d m=false:=by simpa using hk
   rw [hk']
   simp only [BE,B8,BP]
   simp only [Lib.keeps,Bn,not_or,Decidable.not_not] at hk'
   have h4:0<m:=by omega
   have e:d[m-1]! = d.toList[m-1]:=by simp [show m-1<d.size by omega]
   refine ⟨h1,fun x=> ?_,fun _ x hx=> ?_⟩
   ·rw [et,Bv,h2 x]
    constructor
    ·exact .inl
    ·rintro (h|h)
     ·exact h
     ·rw [BT.1 h, ← eg,hk'.2,e,List.mem_take_iff_getElem]
      exact ⟨m-1,by omega,rfl⟩
   ·rw [D1,hk'.2]
    exact h3 h4 x hx
theorem Qr0 {l:List Int}(hs:l.Pairwise (· ≤ ·)):asc (Lib.compact l)∧ ∀ x,x∈Lib.compact l↔x∈l:=by
 have h:=QrZ (d:=l.toArray) (by simpa using hs) l.length (by simp)
 refine ⟨h.1,fun x=> ?_⟩
 have:=h.2.1 x
 rw [show Lib.compact l=Lib.compactUpTo l.toArray l.length from rfl,this,DQ (by simp)]
theorem Qr1 (l:List Int):(YK l).Pairwise (· ≤ ·):=by
 have:=List.pairwise_mergeSort (le:=fun x y:Int=>decide (x<=y)) (fun a b c h1 h2=>by simp only [Ba] at *; omega) (fun a b=>by simp only [Dh,Ba];omega) l
 exact this.imp fun h=>BJ h
theorem QDn {l:List Int}{x:Int}:x∈YK l↔x∈l:=List.mem_mergeSort
def J9:List Int->Int->List Int
 | [],n=>[n]
 |a::l,n=>if a<n then a::J9 l n else if a=n then a::l else n::a::l
theorem Qcf {n x:Int}: ∀ {l:List Int},x∈J9 l n↔x=n∨x∈l
 | []=>by simp [J9]
 |a::l=>by
  have ih:=Qcf (n:=n) (x:=x) (l:=l)
  unfold J9
  split
  ·rw [BB,BB,ih]
   exact ⟨fun h=>h.elim (fun h=> .inr (.inl h)) (fun h=>h.elim .inl fun h=> .inr (.inr h)),fun h=>h.elim (fun h=> .inr (.inl h)) (fun h=>h.elim .inl fun h=> .inr (.inr h))⟩
  ·split
   ·rename_i h
    subst h
    rw [BB]
    exact ⟨fun h=>h.elim .inl fun h=> .inr (.inr h),fun h=>h.elim .inl id⟩
   ·rw [BB]
theorem QiD {n:Int}: ∀ {l:List Int},asc l->asc (J9 l n)
 | [],_=>DM _ _
 |a::l,h=>by
  obtain ⟨h1,h2⟩:=Dj.1 h
  unfold J9
  split
  ·refine Dj.2 ⟨fun x hx=> ?_,QiD h2⟩
   rcases Qcf.1 hx with e|hx
   ·omega
   ·exact h1 x hx
  ·split
   ·exact h
   ·refine Dj.2 ⟨fun x hx=> ?_,h⟩
    rcases BB.1 hx with e|hx
    ·omega
    ·have:=h1 x hx
     omega
def Ya (rs:List Rule):List Int:=rs.flatMap fun r=>[r.2.2.2.2.1,r.2.2.2.2.2.1]
def ZE (rs:List Rule):List Int:=Lib.compact (YK ((0::Ya rs)++[40001]))
def cutsR (rs:List Rule):List Int:=rs.foldl (fun l r=>J9 (J9 l r.2.2.2.2.1) r.2.2.2.2.2.1) [0,40001]
theorem Qr2: ∀ (rs:List Rule) (l:List Int),asc l->asc (rs.foldl (fun l r=>J9 (J9 l r.2.2.2.2.1) r.2.2.2.2.2.1) l)∧ ∀ x,x∈rs.foldl (fun l r=>J9 (J9 l r.2.2.2.2.1) r.2.2.2.2.2.1) l↔x∈l∨x∈Ya rs
 | [],l,h=>⟨h,fun x=>by simp [Ya]⟩
 |r::rs,l,h=>by
  obtain ⟨h1,h2⟩:=Qr2 rs (J9 (J9 l r.2.2.2.2.1) r.2.2.2.2.2.1) (QiD (QiD h))
  refine ⟨h1,fun x=> ?_⟩
  rw [Dt,h2 x,Qcf,Qcf]
  simp only [Ya,BO,Bv,BB,BY,DC]
  constructor
  ·rintro ((h|h|h)|h)
   ·exact .inr (.inl (.inr h))
   ·exact .inr (.inl (.inl h))
   ·exact .inl h
   ·exact .inr (.inr h)
  ·rintro (h|(h|h)|h)
   ·exact .inl (.inr (.inr h))
   ·exact .inl (.inr (.inl h))
   ·exact .inl (.inl h)
   ·exact .inr h
theorem Gn {rs:List Rule}{x:Int}:x∈ZE rs↔x=0∨x=40001∨x∈Ya rs:=by
 unfold ZE
 rw [(Qr0 (Qr1 _)).2,QDn]
 simp only [Bv,BB,BY,DC]
 constructor
 ·rintro ((h|h)|h)
  ·exact .inl h
  ·exact .inr (.inr h)
  ·exact .inr (.inl h)
 ·rintro (h|h|h)
  ·exact .inl (.inl h)
  ·exact .inr h
  ·exact .inl (.inr h)
theorem Qcg (rs:List Rule):asc (ZE rs):=(Qr0 (Qr1 _)).1
theorem QDo (rs:List Rule):ZE rs=cutsR rs:=by
 have h:=Qr2 rs [0,40001] (by unfold asc;simp)
 refine QrY (Qcg rs) h.1 fun x=> ?_
 rw [Gn]
 unfold cutsR
 rw [h.2 x]
 simp only [BB,BY,DC]
 exact ⟨fun h=>h.elim (fun h=> .inl (.inl h)) fun h=>h.elim (fun h=> .inl (.inr h)) .inr,fun h=>h.elim (fun h=>h.elim .inl fun h=> .inr (.inl h)) fun h=> .inr (.inr h)⟩
def Y4 (out:List Keep)(a b:Int):List Keep:=match out.getLast? with
 |some s=>if s.2.1=a then out.dropLast++[(s.1,b,())] else out++[(a,b,())]
 |none=>[(a,b,())]
def Y5 (f:Int->Bool):List Int->List Keep->List Keep
 |a::b::r,out=>Y5 f (b::r) (if f a then Y4 out a b else out)
 |_,out=>out
def Jk (y:Policy)(u:Keep)(p:Int):List Keep:=Y5 (Zs y u p) (ZE y.1) []
end Go.Proofs.YthlcobdnemhcdaaGreat.K
noncomputable section
namespace Go.Proofs.YthlcobdnemhcdaaGreat.K
open Go.RowKit
def tc_f95:TC:=aF Tryz.f95 []
def g_f95:G:=gG 25 [(96,QhG)] (fun _ _=>none)
def r_f95 (p0:Policy)(p1:Keep)(p2 p3:Int):OV:=
 let a1:=ZY p0 p1 p2 p3
 br (ilt a1 0) (some (.t .bool true,[])) (br (cIx p0.1 a1) (some (.t .bool ((lgt QU p0.1 (Int.toNat a1)).1),[])) none)
theorem Qwp (y:Policy)(u:Keep)(p d:Int):Zs y u p d=(ilt (ZY y u p d) 0||(y.1.getD (ZY y u p d).toNat QU.zero).1):=by
 unfold Zs Qce
 have h:=QiC (y:=y) (u:=u) (p:=p) (d:=d)
 cases hq:Yw y.1 u p d with
 |none=>
  rw [hq] at h
  simp only at h
  rw [h]
  rfl
 |some k=>
  rw [hq] at h
  simp only at h
  rw [h]
  obtain ⟨h1,_⟩:=QiB.1 hq
  have e1:ilt (k:Int) 0=false:=by simp only [ilt,Bn];omega
  simp only [e1,Dr,Bd,Bj h1,B7,BU,Bm]
theorem Qwq {y:Policy}{u:Keep}{p d:Int}(h:ilt (ZY y u p d) 0=false):cIx y.1 (ZY y u p d)=true:=by
 have h2:=QDm (y:=y) (u:=u) (p:=p) (d:=d)
 simp only [ilt,Bn] at h
 simp only [cIx,Ba]
 omega
theorem s_f95 (y:Policy)(u:Keep)(p d:Int):r_f95 y u p d=some (.t .bool (Zs y u p d),[]):=by
 simp only [r_f95,Qwp]
 cases h:ilt (ZY y u p d) 0 with
 |true=>simp [Qf]
 |false=>
  rw [Qwq h,Qj,Qf,Dr,lgt]
def Qli:Ent:=Qo (.pr QE (.pr Qi (.pr tI (.pr tI .nil)))) (fun x=>true) (fun x=>(.t .bool (Zs x.1 x.2.1 x.2.2.1 x.2.2.2.1)))
theorem Qwr:EM 95 Qli:=mS g_f95 tc_f95 [((.t 8),some .bool)] false (gB (gD Qqm gN)) fun m=>Qt m fun x _=>kT (s_f95 x.1 x.2.1 x.2.2.1 x.2.2.2.1)
def Zk (y:Policy)(u:Keep)(p d:Int):Int:=if Jr y=false then 25 else if Je u=false then 7 else if p<1∨4<p∨d<0∨40000<d then 2 else 0
def GG (y:Policy)(_u:Keep)(_p _d:Int):Bool:=Jl y
def Z0 (y:Policy)(_u:Keep)(_p:Int):Bool:=Jl y
def tc_f94:TC:=aF Tryz.f94 []
def g_f94:G:=gG 34 [(90,Qdm),(92,Gm)] (fun _ _=>none)
def r_f94 (p0:Policy)(p1:Keep)(p2 p3:Int):OV:=br (Jl p0) (br (ine (Zj p0) 0) (some (.t tI (Zj p0),[])) (br (!(Je p1)) (some (.t tI 7,[])) (br (ilt p2 1) (some (.t tI 2,[])) (br (igt p2 4) (some (.t tI 2,[])) (br (ilt p3 0) (some (.t tI 2,[])) (br (igt p3 40000) (some (.t tI 2,[])) (some (.t tI 0,[])))))))) none
theorem s_f94 (y:Policy)(u:Keep)(p d:Int)(h:GG y u p d=true):r_f94 y u p d=some (.t tI (Zk y u p d),[]):=by
 have h:Jl y=true:=h
 simp only [r_f94,h,Qf,Zj,Zk]
 cases Jr y with
 |false=>rfl
 |true=>
  simp only [if_true,show ine 0 0=false from rfl,Qj,Bool.true_eq_false,B8]
  cases Je u with
  |false=>rfl
  |true=>
   simp only [BK,Qj,Bool.true_eq_false,B8]
   repeat' (refine QV ?_ ?_<;>intro _)
   all_goals simp only [igt,ilt,Ba,Bn] at*
   all_goals first
    |rw [if_pos (by omega)]
    |rw [if_neg (by omega)]
def Qlj:Ent:=Qo (.pr QE (.pr Qi (.pr tI (.pr tI .nil)))) (fun x=>(GG x.1 x.2.1 x.2.2.1 x.2.2.2.1)) (fun x=>(.t tI (Zk x.1 x.2.1 x.2.2.1 x.2.2.2.1)))
theorem Qws:EM 94 Qlj:=mS g_f94 tc_f94 [((.t 8),some tI)] false (gB (gD Qkg (gD G9 gN))) fun m=>Qt m fun x hok=>kT (s_f94 x.1 x.2.1 x.2.2.1 x.2.2.2.1 hok)
def Yn (y:Policy)(u:Keep)(p d:Int):Bool×Int×Int:=if Zk y u p d=0 then (Zs y u p d,ZY y u p d,0) else (false,0,Zk y u p d)
def tc_f55:TC:=aF Tryz.f55 [(14,pD [(0,[4]),(1,[5]),(2,[]),(3,[]),(4,[]),(5,[4]),(6,[5]),(7,[]),(8,[]),(9,[]),(10,[]),(11,[]),(12,[])] (.of [0,1,2,3,4,5,6,7,8,9,10,11,12]))]
def g_f55:G:=gG 30 [(94,Qlj),(95,Qli),(96,QhG)] (fun _ _=>none)
def r_f55 (p0:Policy)(p1:Keep)(p2 p3:Int):OV:=br (GG p0 p1 p2 p3) (br (ine (Zk p0 p1 p2 p3) 0) (some (.tu [(.t .bool false),(.t tI 0),(.t tI (Zk p0 p1 p2 p3))],[])) (some (.tu [(.t .bool (Zs p0 p1 p2 p3)),(.t tI (ZY p0 p1 p2 p3)),(.t tI 0)],[]))) none
theorem s_f55 (y:Policy)(u:Keep)(p d:Int)(h:GG y u p d=true):r_f55 y u p d=some (.tu [.t .bool (Yn y u p d).1,.t tI (Yn y u p d).2.1,.t tI (Yn y u p d).2.2],[]):=by
 simp only [r_f55,h,Qf,Yn,Qfa]
 by_cases h0:Zk y u p d=0<;>simp [h0,Qf,Qj]
def Qwt:Ent:=Qo (.pr QE (.pr Qi (.pr tI (.pr tI .nil)))) (fun x=>(GG x.1 x.2.1 x.2.2.1 x.2.2.2.1)) (fun x=>(.tu [(.t .bool ((Yn x.1 x.2.1 x.2.2.1 x.2.2.2.1).1)),(.t tI (((Yn x.1 x.2.1 x.2.2.1 x.2.2.2.1).2).1)),(.t tI (((Yn x.1 x.2.1 x.2.2.1 x.2.2.2.1).2).2))]))
theorem ms_f55:EM 55 Qwt:=mS g_f55 tc_f55 [((.t 8),some .bool),((.t 9),some tI),((.t 10),some tI)] false (gB (gD Qws (gD Qwr (gD Qqm gN)))) fun m=>Qt m fun x hok=>kT (s_f55 x.1 x.2.1 x.2.2.1 x.2.2.2.1 hok)
def Yf (y:Policy):List Int:=ZE y.1
abbrev Qd9:Sh:=⟨[(3,.ms 6),(8,.ty (.sl QU)),(9,.ty tI),(10,.ty tI)],[(3,.no),(6,.arr 3 tI),(20,.no),(24,.no)]⟩
abbrev Qwu:Sh:=⟨[(3,.ms 6)],[(3,.no),(6,.arr 3 tI),(20,.no),(24,.no)]⟩
def Qlk:Fg:=Qd9.f
def Qwv:TC:=aF Tryz.f235 [(58,.nw 3 3),(58,pL 0 Qlk),(933,.fg Qwu.f)]
def Qww:TC:=lb 0 Qwv
def Qwx (x8:List Rule)(x9 x10:Int)(y6:List Int):VS:=Qd9.st ((),x8,x9,x10,()) ((),y6,(),(),())
def Qll (y6:List Int):VS:=Qwu.st ((),()) ((),y6,(),(),())
def QIw:VS->Option (Bool×List (Bool×Exit×VS)):=mkL Qd9 (fun x y=>(Qy x.2.1 x.2.2.1 x.2.2.2.1&&decide (y.2.1.length<=1+2*x.2.2.2.1))) (fun x y=>[(true,.exit 0,Qll (y.2.1++Ya (x.2.1.drop x.2.2.2.1.toNat)))])
def Qlm:G:=⟨TYs,[6],29,EL [(252,QpK),(264,QpL)],keeps,(Ls [QIw]),IL [],RL []⟩
def Qea (x8:List Rule)(x9 x10:Int)(y6:List Int):OX:=QA (QC Qlm Qlk Qww) (Qwx x8 x9 x10 y6)
def VN (kk:List Rule->Int->Int->List Int->OX)(x8:List Rule)(x9 x10:Int)(y6:List Int):OX:=
 let a1:=(((((lgt QU x8 (Int.toNat x10)).2).2).2).2)
 br (ilt x10 x9) (br (cIx x8 x10) (br (Qx y6 ([a1.1,(a1.2).1]) 8) (kk x8 x9 (Qh .i64 x10 1) (y6++([a1.1,(a1.2).1]))) none) none) (some (.exit 0,Qll y6))
def Qeb (x8:List Rule)(x9 x10:Int)(y6:List Int):OX:=some (.exit 0,Qll (y6++Ya (x8.drop x10.toNat)))
theorem Qwy (x8:List Rule)(x9 x10:Int)(y6:List Int):Qea x8 x9 x10 y6=VN Qea x8 x9 x10 y6:=lnT (x:=VN (fun x8 x9 x10 y6=>some (.normal,Qwx x8 x9 x10 y6)) x8 x9 x10 y6) (by simp only [VN,nxA];rfl)
def Qwz (p0:Policy):OV:=
 let a1:=(p0.1.drop (0:Int).toNat)
 let a2:=YK ((([0])++Ya a1)++([40001]))
 br (Qy p0.1 (Qc p0.1) (0:Int)&&decide (([0]).length<=1+2*(0:Int))) (br (Qx (([0])++Ya a1) ([40001]) 8) (br (WC ((([0])++Ya a1)++([40001]))) (br (WC a2) (some (.t (.sl tI) (Lib.compact a2),[])) none) none) none) none
theorem QIx (x8:List Rule)(x9 x10:Int)(y6:List Int)(h:(Qy x8 x9 x10&&decide (y6.length<=1+2*x10))=true):Qea x8 x9 x10 y6=Qeb x8 x9 x10 y6:=by
 simp only [Bb,Ba] at h
 obtain ⟨h0,h4⟩:=h
 obtain ⟨rfl,h3,k,rfl,hk⟩:=JR h0
 clear h0
 revert y6
 refine Q5 x8 (fun k=> ∀ y6:List Int,(y6.length:Int)<=1+2*(k:Int)->Qea x8 (x8.length:Int) (k:Int) y6=Qeb x8 (x8.length:Int) (k:Int) y6) ?_ ?_ k hk
 ·intro y6 _
  rw [Qwy]
  simp [VN,Qeb,QD,Qj,Ya]
 ·intro k hk ih y6 hy
  rw [Qwy]
  simp only [VN,QD,QI,hk,Br,Qf,Bd,QW (show k<4611686018427387904 by omega),QO (y:=QU) hk]
  rw [Wr (by simp;omega) (by omega),Qf,ih _ (by simp;omega)]
  simp only [Qeb,Bd,Bi hk,Ya,BO,BN]
theorem QIy:LO Qlm Qlk Qww 0:=QN (s:=Qd9) fun x y h _ q=>by simp only [QK,QL] at q;exact (QIx x.2.1 x.2.2.1 x.2.2.2.1 y.2.1 h).trans q
theorem QwA (l:List Rule):(Ya l).length=2*l.length:=by
 induction l with
 |nil=>rfl
 |cons a l ih=>simp only [Ya,BO,Bl,Bq,BG] at ih ⊢; omega
theorem s_f235 (y:Policy)(h:Jl y=true):Qwz y=some (.t (.sl tI) (Yf y),[]):=by
 simp only [Jl,Q2,Bb,Ba] at h
 have e1:Qy y.1 (Qc y.1) 0=true:=JS h.1
 simp only [Qwz,e1,By]
 have hl:=QwA y.1
 have e2:decide ((([0]:List Int).length:Int)<=1+2*0)=true:=by decide
 simp only [e2,Qf,BC,BF]
 rw [Wr (by simp;omega) (by omega),Qf]
 rw [show WC (([0]++Ya y.1)++[40001])=true by simp [WC];omega]
 simp only [Qf]
 rw [show WC (YK (([0]++Ya y.1)++[40001]))=true by simp [WC,YK];omega]
 rfl
def QwB:Ent:=Qo (.pr QE .nil) (fun x=>(Jl x.1)) (fun x=>(.t (.sl tI) (Yf x.1)))
theorem QIz:EM 235 QwB:=mS (lk:=lkL (lkc QIy lkn)) Qlm Qwv [((.t 2),some (.sl tI))] false (Jw _ (gA (gC QBr QBt (gC QBs QBu gN)))) fun m=>Qt m fun x hok=>kT (s_f235 x.1 hok)
end Go.Proofs.YthlcobdnemhcdaaGreat.K
noncomputable section
namespace Go.Proofs.YthlcobdnemhcdaaGreat.K
open Go.RowKit
def Ws (y:Policy)(u:Keep)(p:Int)(l:List Int)(out:List Keep):List Keep:=Y5 (Zs y u p) l out
abbrev IS:Sh:=⟨[(2,.ty tI),(3,.ptr 3 0),(4,.ptr 4 0),(7,.ms 7),(8,.ty (.sl tI)),(17,.ty tI),(18,.ty tI)],[(3,.box QE),(4,.box Qi),(7,.arr 70 Qi),(61,.no)]⟩
abbrev QnV:Sh:=⟨[(7,.ms 7)],[(7,.arr 70 Qi),(61,.no)]⟩
def QfN:Fg:=IS.f
def QnW:TC:=aF Tryz.f198 [(122,.nw 7 70),(122,pL 0 QfN),(1957,.fg QnV.f),(15666,pD [(0,[]),(1,[]),(2,[]),(3,[]),(4,[]),(5,[]),(6,[]),(7,[]),(8,[]),(9,[]),(10,[])] (.of [0,1,2,3,4,5,6,7,8,9,10])),(125338,.fg IS.f)]
def QnX:TC:=lb 0 QnW
def QnY (x2:Int)(x8:List Int)(x17 x18:Int)(y3:Policy)(y4:Keep)(y7:List Keep):VS:=IS.st (x2,(),(),(),x8,x17,x18,()) (y3,y4,y7,(),())
def QfO (y7:List Keep):VS:=QnV.st ((),()) (y7,(),())
def Qzz:VS->Option (Bool×List (Bool×Exit×VS)):=mkL IS (fun x y=>(decide (x.2.2.2.2.2.1=(x.2.2.2.2.1.length:Int)-1/\0<=x.2.2.2.2.2.2.1/\x.2.2.2.2.2.2.1<=x.2.2.2.2.2.1/\x.2.2.2.2.1.length<=500000/\(y.2.2.1.length:Int)<=x.2.2.2.2.2.2.1))) (fun x y=>[(true,.exit 0,QfO (Ws y.1 y.2.1 x.1 (x.2.2.2.2.1.drop x.2.2.2.2.2.2.1.toNat) y.2.2.1))])
def QfP:G:=gG 64 [(95,Qli),(235,QwB)] (Ls [Qzz])
def IT (x2:Int)(x8:List Int)(x17 x18:Int)(y3:Policy)(y4:Keep)(y7:List Keep):OX:=QA (QC QfP QfN QnX) (QnY x2 x8 x17 x18 y3 y4 y7)
def Qaz (kk:Int->List Int->Int->Int->Policy->Keep->List Keep->OX)(x2:Int)(x8:List Int)(x17 x18:Int)(y3:Policy)(y4:Keep)(y7:List Keep):OX:=
 let a1:=((lgt tI x8 (Int.toNat x18)),((lgt tI x8 (Int.toNat (Qh .i64 x18 1))),()))
 br (Qx y7 ([a1]) 16) (kk x2 x8 x17 (Qh .i64 x18 1) y3 y4 (y7++([a1]))) none
def IU (kk:Int->List Int->Int->Int->Policy->Keep->List Keep->OX)(x2:Int)(x8:List Int)(x17 x18:Int)(y3:Policy)(y4:Keep)(y7:List Keep):OX:=
 let a1:=Int.toNat (Qs .i64 (Qc y7) 1)
 let a2:=Qh .i64 x18 1
 let a3:=lgt Qi y7 a1
 let a4:=cIx y7 (Qs .i64 (Qc y7) 1)
 let a5:=lgt tI x8 (Int.toNat x18)
 br (ilt x18 x17) (br (cIx x8 x18) (br (cIx x8 a2) (br (!(Zs y3 y4 x2 a5)) (kk x2 x8 x17 a2 y3 y4 y7) (br (igt (Qc y7) 0) (br a4 (br (cLd y7 a1) (br (ieq ((a3.2).1) a5) (br a4 (br (cLd y7 a1) (kk x2 x8 x17 a2 y3 y4 (List.set y7 a1 (a3.1,((lgt tI x8 (Int.toNat a2)),(a3.2).2)))) none) none) (Qaz kk x2 x8 x17 x18 y3 y4 y7)) none) none) (Qaz kk x2 x8 x17 x18 y3 y4 y7))) none) none) (some (.exit 0,QfO y7))
def FR (x2:Int)(x8:List Int)(x17 x18:Int)(y3:Policy)(y4:Keep)(y7:List Keep):OX:=some (.exit 0,QfO (Ws y3 y4 x2 (x8.drop x18.toNat) y7))
theorem QnZ (x2:Int)(x8:List Int)(x17 x18:Int)(y3:Policy)(y4:Keep)(y7:List Keep):IT x2 x8 x17 x18 y3 y4 y7=IU IT x2 x8 x17 x18 y3 y4 y7:=lnT (x:=IU (fun x2 x8 x17 x18 y3 y4 y7=>some (.normal,QnY x2 x8 x17 x18 y3 y4 y7)) x2 x8 x17 x18 y3 y4 y7) (by simp only [IU,Qaz,nxA];rfl)
def Qn0 (p0:Policy)(p1:Keep)(p2:Int):OV:=
 let a1:=Qs .i64 (Qc (Yf p0)) 1
 br (Jl p0) (br (decide (a1=((Yf p0).length:Int)-1/\0<=(0:Int)/\(0:Int)<=a1/\(Yf p0).length<=500000/\(([]:List Keep).length:Int)<=(0:Int))) (some (.t (.sl Qi) (Ws p0 p1 p2 ((Yf p0).drop (0:Int).toNat) ([]:List Keep)),[])) none) none
theorem QaA (l:List Keep)(s:Keep)(a b:Int):Y4 (l++[s]) a b=if s.2.1=a then l++[(s.1,b,())] else (l++[s])++[(a,b,())]:=by
 unfold Y4
 rw [List.getLast?_concat,List.dropLast_concat]
theorem QfQ (l:List Keep)(a b:Int):(Y4 l a b).length<=l.length+1:=by
 rcases DI l with rfl|⟨l,s,rfl⟩
 ·simp [Y4]
 ·rw [DJ,QaA]
  split<;>simp
theorem Qn1 {f:List Keep->OX}(y:List Keep)(a b:Int)(hl:y.length<=500000):
  (br (igt (Qc y) 0)
   (br (cIx y (Qs .i64 (Qc y) 1))
    (br (cLd y (Int.toNat (Qs .i64 (Qc y) 1)))
     (br (ieq (((lgt Qi y (Int.toNat (Qs .i64 (Qc y) 1))).2).1) a)
      (br (cIx y (Qs .i64 (Qc y) 1))
       (br (cLd y (Int.toNat (Qs .i64 (Qc y) 1)))
        (f (List.set y (Int.toNat (Qs .i64 (Qc y) 1)) ((lgt Qi y (Int.toNat (Qs .i64 (Qc y) 1))).1,(b,((lgt Qi y (Int.toNat (Qs .i64 (Qc y) 1))).2).2))))
        none) none)
      (br (Qx y [(a,(b,()))] 16) (f (y++[(a,(b,()))])) none)) none) none)
   (br (Qx y [(a,(b,()))] 16) (f (y++[(a,(b,()))])) none))=f (Y4 y a b):=by
 have e0:Qx y [(a,(b,()))] 16=true:=Wr (by simp;omega) (by omega)
 rw [e0]
 simp only [Qf]
 rcases DI y with rfl|⟨l,s,rfl⟩
 ·rfl
 ·rw [DJ] at*
  have e1:Qs .i64 (Qc (l++[s])) 1=(l.length:Int):=by
   have:Qc (l++[s])=(l.length:Int)+1:=by simp [Qc]
   rw [this,J5 (by rw [Bl,Bk] at hl;omega)]
   omega
  have h2:l.length<(l++[s]).length:=by simp
  have e2:igt (Qc (l++[s])) 0=true:=by simp only [igt,Qc,Bl,Bk,Ba];omega
  have e3:cLd (l++[s]) l.length=true:=by simp [cLd]
  have e4:lgt Qi (l++[s]) l.length=s:=by rw [QO (y:=Qi) h2];simp
  rw [e1,e2]
  simp only [Qf,QI,h2,Br,Bd,e3,e4,QaA,Zw]
  by_cases hs:s.2.1=a
  ·simp only [hs,Br,Qf,if_true]
   congr 1
   obtain ⟨s1,s2,s3⟩:=s
   simp
  ·simp [hs,Qj]
theorem QzA (x2:Int)(x8:List Int)(x17 x18:Int)(y3:Policy)(y4:Keep)(y7:List Keep)(h:(decide (x17=(x8.length:Int)-1/\0<=x18/\x18<=x17/\x8.length<=500000/\(y7.length:Int)<=x18))=true):IT x2 x8 x17 x18 y3 y4 y7=FR x2 x8 x17 x18 y3 y4 y7:=by
 simp only [Ba] at h
 obtain ⟨rfl,h1,h2,h3,h4⟩:=h
 obtain ⟨k,rfl⟩:=Bu h1
 revert y7
 refine Qae (x8.length-1) (fun k=> ∀ y7:List Keep,(y7.length:Int)<=(k:Int)->IT x2 x8 ((x8.length:Int)-1) (k:Int) y3 y4 y7=FR x2 x8 ((x8.length:Int)-1) (k:Int) y3 y4 y7) ?_ ?_ k (by omega)
 ·intro y7 _
  rw [QnZ]
  have e1:ilt ((x8.length-1:Nat):Int) ((x8.length:Int)-1)=false:=by simp only [ilt,Bn];omega
  have e2:x8.drop (x8.length-1)=[x8[x8.length-1]'(by omega)]:=by
   rw [Bi (by omega)]
   congr 1
   exact Dq (by omega)
  simp only [IU,e1,Qj,FR,Bd,e2,Ws,Y5]
 ·intro k hk ih y7 hy
  rw [QnZ]
  have e1:ilt (k:Int) ((x8.length:Int)-1)=true:=by simp only [ilt,Ba];omega
  have hk1:k<x8.length:=by omega
  have hk2:k+1<x8.length:=by omega
  have ea:Qh .i64 (k:Int) 1=((k+1:Nat):Int):=QW (by omega)
  simp only [IU,Qaz,e1,ea,Qf,QI,hk1,hk2,Br,Bd,QO (y:=tI) hk1,QO (y:=tI) hk2]
  rw [Qn1 (f:=fun z=>IT x2 x8 ((x8.length:Int)-1) ((k+1:Nat):Int) y3 y4 z) y7 _ _ (by omega)]
  have el:FR x2 x8 ((x8.length:Int)-1) (k:Int) y3 y4 y7=FR x2 x8 ((x8.length:Int)-1) ((k+1:Nat):Int) y3 y4 (if Zs y3 y4 x2 x8[k] then Y4 y7 x8[k] x8[k+1] else y7):=by
   simp only [FR,Ws,Bd]
   rw [Bi hk1,Bi hk2]
   rfl
  rw [el]
  have hp:=QfQ y7 x8[k] x8[k+1]
  cases hc:Zs y3 y4 x2 x8[k] with
  |true=>
   simp only [BK,Qj,if_true]
   exact ih _ (by omega)
  |false=>
   simp only [DA,Qf,BE,B8]
   exact ih _ (by omega)
theorem QzB:LO QfP QfN QnX 0:=QN (s:=IS) fun x y h _ q=>by simp only [QK,QL] at q;exact (QzA x.1 x.2.2.2.2.1 x.2.2.2.2.2.1 x.2.2.2.2.2.2.1 y.1 y.2.1 y.2.2.1 h).trans q
theorem QzC (l:List Int):(Lib.compact l).length<=l.length:=by
 unfold Lib.compact Lib.compactUpTo
 rw [BL]
 exact Do (List.length_filter_le _ _) (by simp)
theorem QfR (rs:List Rule):2<=(ZE rs).length/\(ZE rs).length<=2*rs.length+2:=by
 constructor
 ·have h1:(0:Int)∈ZE rs:=Gn.2 (.inl rfl)
  have h2:(40001:Int)∈ZE rs:=Gn.2 (.inr (.inl rfl))
  match hq:ZE rs with
  | []=>rw [hq] at h1;cases h1
  | [a]=>
   rw [hq] at h1 h2
   rw [BT] at h1 h2
   omega
  |_::_::_=>simp
 ·unfold ZE
  refine Do (QzC _) ?_
  have:=QwA rs
  unfold YK
  rw [List.length_mergeSort]
  simp
  omega
theorem s_f198 (y:Policy)(u:Keep)(p:Int)(h:Z0 y u p=true):Qn0 y u p=some (.t (.sl Qi) (Jk y u p),[]):=by
 have h:Jl y=true:=h
 have h':=h
 simp only [Jl,Q2,Bb,Ba] at h'
 have hl:2<=(Yf y).length/\(Yf y).length<=2*y.1.length+2:=QfR y.1
 have e1:Qs .i64 (Qc (Yf y)) 1=((Yf y).length:Int)-1:=J5 (by unfold Qc;omega)
 simp only [Qn0,h,Qf,e1,BC,BF]
 rw [Yq (by simp;omega),Qf]
 rfl
def Qn2:Ent:=Qo (.pr QE (.pr Qi (.pr tI .nil))) (fun x=>(Z0 x.1 x.2.1 x.2.2.1)) (fun x=>(.t (.sl Qi) (Jk x.1 x.2.1 x.2.2.1)))
theorem QzD:EM 198 Qn2:=mS (lk:=lkL (lkc QzB lkn)) QfP QnW [((.t 6),some (.sl Qi))] false (gB (gD Qwr (gD QIz gN))) fun m=>Qt m fun x hok=>kT (s_f198 x.1 x.2.1 x.2.2.1 hok)
def GU (y:Policy)(u:Keep)(p:Int):List Keep×Int:=if Zk y u p 0=0 then (Jk y u p,0) else ([],Zk y u p 0)
def JW (l:List Keep):Int×Bool:=match l.getLast? with
 |none=>(0,true)
 |some s=>if s.2.1=40001 then (0,false) else (s.2.1,true)
def ZJ (y:Policy)(u:Keep)(p:Int):Int×Bool×Int:=if Zk y u p 0=0 then ((JW (Jk y u p)).1,(JW (Jk y u p)).2,0) else (0,false,Zk y u p 0)
def QzE:TC:=aF Tryz.f149 []
def g_f149:G:=gG 42 [(94,Qlj),(198,Qn2)] (fun _ _=>none)
def Qn3 (p0:Policy)(p1:Keep)(p2:Int):OV:=
 let a1:=Jk p0 p1 p2
 let a2:=Qs .i64 (Qc a1) 1
 let a3:=(((lgt Qi a1 (Int.toNat a2)).2).1)
 br (GG p0 p1 p2 0) (br (ine (Zk p0 p1 p2 0) 0) (some (.tu [(.t tI 0),(.t .bool false),(.t tI (Zk p0 p1 p2 0))],[])) (br (Z0 p0 p1 p2) (br (ieq (Qc a1) 0) (some (.tu [(.t tI 0),(.t .bool true),(.t tI 0)],[])) (br (cIx a1 a2) (br (ieq a3 40001) (some (.tu [(.t tI 0),(.t .bool false),(.t tI 0)],[])) (br (cIx a1 a2) (some (.tu [(.t tI a3),(.t .bool true),(.t tI 0)],[])) none)) none)) none)) none
theorem Qn4 {f:Int->Bool}: ∀ (l:List Int) (out:List Keep),(Y5 f l out).length<=out.length+l.length
 | [],out=>by simp [Y5]
 | [a],out=>by simp [Y5]
 |a::b::r,out=>by
  have h:=Qn4 (f:=f) (b::r) (if f a then Y4 out a b else out)
  have h2:=QfQ out a b
  simp only [Y5,Bq] at h ⊢
  split at h<;>simp_all<;>omega
theorem Qn5 (y:Policy)(u:Keep)(p:Int):(Jk y u p).length<=2*y.1.length+2:=by
 have:=Qn4 (f:=Zs y u p) (ZE y.1) []
 have:=QfR y.1
 unfold Jk
 simp at*
 omega
theorem s_f149 (y:Policy)(u:Keep)(p:Int)(h:Z0 y u p=true):Qn3 y u p=some (.tu [.t tI (ZJ y u p).1,.t .bool (ZJ y u p).2.1,.t tI (ZJ y u p).2.2],[]):=by
 have h4:GG y u p 0=true:=h
 have h5:Jl y=true:=h
 simp only [Jl,Q2,Bb,Ba] at h5
 have hl:=Qn5 y u p
 simp only [Qn3,h,h4,Qf,ZJ,Qfa,JW]
 by_cases h0:Zk y u p 0=0
 ·simp only [h0,ne_eq,not_true_eq_false,BW,Qj,if_true]
  generalize Jk y u p=z at*
  rcases DI z with rfl|⟨l,s,rfl⟩
  ·rfl
  ·rw [DJ] at*
   have e1:Qs .i64 (Qc (l++[s])) 1=(l.length:Int):=by
    have:Qc (l++[s])=(l.length:Int)+1:=by simp [Qc]
    rw [this,J5 (by rw [Bl,Bk] at hl;omega)]
    omega
   have h2:l.length<(l++[s]).length:=by simp
   have e2:ieq (Qc (l++[s])) 0=false:=by simp only [Zw,Qc,Bl,Bk,Bn];omega
   have e4:lgt Qi (l++[s]) l.length=s:=by rw [QO (y:=Qi) h2];simp
   rw [e1,e2,List.getLast?_concat]
   simp only [Qj,QI,h2,Br,Qf,Bd,e4,Zw]
   by_cases hs:s.2.1=40001<;>simp [hs,Qf,Qj]
 ·simp [h0,Qf]
def Qn6:Ent:=Qo (.pr QE (.pr Qi (.pr tI .nil))) (fun x=>(Z0 x.1 x.2.1 x.2.2.1)) (fun x=>(.tu [(.t tI ((ZJ x.1 x.2.1 x.2.2.1).1)),(.t .bool (((ZJ x.1 x.2.1 x.2.2.1).2).1)),(.t tI (((ZJ x.1 x.2.1 x.2.2.1).2).2))]))
theorem QzF:EM 149 Qn6:=mS g_f149 QzE [((.t 6),some tI),((.t 7),some .bool),((.t 8),some tI)] false (gB (gD Qws (gD QzD gN))) fun m=>Qt m fun x hok=>kT (s_f149 x.1 x.2.1 x.2.2.1 hok)
end Go.Proofs.YthlcobdnemhcdaaGreat.K
noncomputable section
namespace Go.Proofs.YthlcobdnemhcdaaGreat.K
open Go.RowKit
abbrev charB:Int->Bool:=XN
abbrev namedF:ByteArray->Bool:=JL
abbrev Qyi:ByteArray->Bool:=Jz
theorem QKL {s:ByteArray}(h:namedF s=true):s.size<=32:=by
 have h:((Q3 s).all charB&&decide (1<=s.size/\s.size<=32))=true:=h
 simp only [Bb,Ba] at h
 exact h.2.2
def J6 (x:LinkX):Int×Bool:=(imx x.1 x.2.1,x.2.2.1)
def QKM:TC:=aF Tryz.f328 [(6,pD [(0,[1]),(1,[1]),(2,[1]),(3,[1]),(4,[]),(5,[1]),(6,[1]),(7,[]),(8,[])] (.of [0,1,2,3,4,5,6,7,8]))]
def g_f328:G:=gG 11 [] (fun _ _=>none)
def r_f328 (p0:LinkX):OV:=some (.tu [(.t tI (imx p0.1 p0.2.1)),(.t .bool p0.2.2.1)],[])
theorem s_f328 (x:LinkX):r_f328 x=some (.tu [.t tI (J6 x).1,.t .bool (J6 x).2],[]):=rfl
def QmO:Ent:=Qo (.pr Jq .nil) (fun x=>true) (fun x=>(.tu [(.t tI ((J6 x.1).1)),(.t .bool ((J6 x.1).2))]))
theorem Qyj:EM 328 QmO:=mS g_f328 QKM [((.t 2),some tI),((.t 3),some .bool)] false (gB gN) fun m=>Qt m fun x _=>kT (s_f328 x.1)
def QmP (l:List LinkX):Int:=(l.length:Int)
def Z3 (s:Int×Bool)(x:LinkX):Int×Bool:=if (J6 x).2&&(!s.2||ilt (J6 x).1 s.1) then ((J6 x).1,true) else s
def XS (l:List LinkX):Int×Bool:=l.foldl Z3 (0,false)
abbrev Qfc:Sh:=⟨[(4,.ty tI),(5,.ty .bool),(10,.ty (.sl Jq)),(11,.ty tI),(12,.ty tI)],[]⟩
abbrev Qyk:Sh:=⟨[(4,.ty tI),(5,.ty .bool)],[]⟩
def QmQ:Fg:=Qfc.f
def Qfd:TC:=aF Tryz.f330 [(58,pL 0 QmQ),(933,.fg Qyk.f)]
def Qyl:TC:=lb 0 Qfd
def Qym:List (RV×Option Ty):=[((.t 2),some tI),((.t 3),some .bool)]
def Qyn (x4:Int)(x5:Bool)(x10:List LinkX)(x11 x12:Int):VS:=Qfc.st (x4,x5,x10,x11,x12,()) ()
def QmR (x4:Int)(x5:Bool):VS:=Qyk.st (x4,x5,()) ()
def QKN:VS->Option (Bool×List (Bool×Exit×VS)):=mkL Qfc (fun x y=>(Qy x.2.2.1 x.2.2.2.1 x.2.2.2.2.1)) (fun x y=>[(true,.exit 0,QmR (((x.2.2.1.drop x.2.2.2.2.1.toNat).foldl Z3 (x.1,x.2.1)).1) (((x.2.2.1.drop x.2.2.2.2.1.toNat).foldl Z3 (x.1,x.2.1)).2))])
def IB:G:=gG 35 [(328,QmO)] (Ls [QKN])
def Qfe (x4:Int)(x5:Bool)(x10:List LinkX)(x11 x12:Int):OX:=QA (QC IB QmQ Qyl) (Qyn x4 x5 x10 x11 x12)
def Qag (kk:Int->Bool->List LinkX->Int->Int->OX)(x4:Int)(x5:Bool)(x10:List LinkX)(x11 x12:Int):OX:=
 let a1:=J6 (lgt Jq x10 (Int.toNat x12))
 let a2:=Qh .i64 x12 1
 br (ilt x12 x11) (br (cIx x10 x12) (br (a1.2) (br (!x5) (kk (a1.1) true x10 x11 a2) (br (ilt (a1.1) x4) (kk (a1.1) true x10 x11 a2) (kk x4 x5 x10 x11 a2))) (kk x4 x5 x10 x11 a2)) none) (some (.exit 0,QmR x4 x5))
def IC (x4:Int)(x5:Bool)(x10:List LinkX)(x11 x12:Int):OX:=
 let a1:=((x10.drop x12.toNat).foldl Z3 (x4,x5))
 some (.exit 0,QmR (a1.1) (a1.2))
theorem Qyo (x4:Int)(x5:Bool)(x10:List LinkX)(x11 x12:Int):Qfe x4 x5 x10 x11 x12=Qag Qfe x4 x5 x10 x11 x12:=lnT (x:=Qag (fun x4 x5 x10 x11 x12=>some (.normal,Qyn x4 x5 x10 x11 x12)) x4 x5 x10 x11 x12) (by simp only [Qag,nxA];rfl)
def QmS (p0:List LinkX):OV:=
 let a1:=(p0.drop (0:Int).toNat)
 let a2:=(a1.foldl Z3 ((0:Int),false))
 br (Qy p0 (Qc p0) (0:Int)) (some (.tu [(.t tI (a2.1)),(.t .bool (a2.2))],[])) none
theorem e_f330 (p0:List LinkX):QP IB Qfd Qym false [.t (.sl Jq) p0] []=QmS p0:=by kernel_rfl
theorem QKO:GOk Tryz.prog IB:=Jw _ (gA (gD Qyj gN))
theorem QKP (x4:Int)(x5:Bool)(x10:List LinkX)(x11 x12:Int)(h:(Qy x10 x11 x12)=true):Qfe x4 x5 x10 x11 x12=IC x4 x5 x10 x11 x12:=by
 obtain ⟨rfl,h3,k,rfl,hk⟩:=JR h
 clear h
 revert x4 x5
 refine Q5 x10 (fun k=> ∀ (x4:Int) (x5:Bool),Qfe x4 x5 x10 (x10.length:Int) (k:Int)=IC x4 x5 x10 (x10.length:Int) (k:Int)) ?_ ?_ k hk
 ·intro x4 x5
  rw [Qyo]
  simp [Qag,IC,QD,Qj]
 ·intro k hk ih x4 x5
  rw [Qyo]
  simp only [Qag,QD,QI,hk,Br,Qf,Bd,QW (show k<4611686018427387904 by omega),QO (y:=Jq) hk,ih]
  have el:IC x4 x5 x10 (x10.length:Int) (k:Int)=IC (Z3 (x4,x5) x10[k]).1 (Z3 (x4,x5) x10[k]).2 x10 (x10.length:Int) ((k+1:Nat):Int):=by
   simp only [IC,Bd,Bi hk,Dt]
  rw [el]
  unfold Z3
  cases hg:(J6 x10[k]).2<;>cases x5<;>cases hi:ilt (J6 x10[k]).1 x4<;>rfl
theorem QKQ:LO IB QmQ Qyl 0:=QN (s:=Qfc) fun x y h _ q=>by simp only [QK,QL] at q;exact (QKP x.1 x.2.1 x.2.2.1 x.2.2.2.1 x.2.2.2.2.1 h).trans q
theorem QKR:Qfd.lok IB:=by
 repeat (first|exact trivial|exact QKQ|refine ⟨?_, ?_⟩)
theorem s_f330 (l:List LinkX)(h:Q2 l=true):QmS l=some (.tu [.t tI (XS l).1,.t .bool (XS l).2],[]):=by
 simp only [Q2,Ba] at h
 simp only [QmS,JS h,Qf,BC,BF]
 rfl
def Qyp:Ent:=Qo (.pr (.sl Jq) .nil) (fun x=>(Q2 x.1)) (fun x=>(.tu [(.t tI ((XS x.1).1)),(.t .bool ((XS x.1).2))]))
theorem QKS:Qp Tryz.prog 330 (Qq Qyp):=Qt (R:=QP IB Qfd Qym false) (mG Tryz.func330 (by kernel_rfl) Tryz.ntmps330 (by kernel_rfl) QKO QKR) fun x hok=>(e_f330 x.1).trans (s_f330 x.1 hok)
def Qff (_:List LinkX):Bool:=false
def QmT:TC:=aF Tryz.f331 []
def Qyq:List (RV×Option Ty):=[((.t 2),some .bool)]
def Qfg:G:=gG 3 [] (fun _ _=>none)
def Qyr (p0:List LinkX):OV:=some (.t .bool false,[])
theorem e_f331 (p0:List LinkX):QP Qfg QmT Qyq false [.t (.sl Jq) p0] []=Qyr p0:=by kernel_rfl
theorem QKT:GOk Tryz.prog Qfg:=Jw _ (fun p hp=>by cases hp)
theorem QKU:QmT.lok Qfg:=by repeat (first|exact trivial|refine ⟨?_, ?_⟩)
theorem s_f331 (l:List LinkX):Qyr l=some (.t .bool (Qff l),[]):=rfl
def Qys:Ent:=Qo (.pr (.sl Jq) .nil) (fun x=>true) (fun x=>(.t .bool (Qff x.1)))
theorem QKV:Qp Tryz.prog 331 (Qq Qys):=Qt (R:=QP Qfg QmT Qyq false) (mG Tryz.func331 (by kernel_rfl) Tryz.ntmps331 (by kernel_rfl) QKT QKU) fun x _=>(e_f331 x.1).trans (s_f331 x.1)
def J7 (a:LinkX):List LinkX->Nat
 | []=>0
 |x::r=>if !a.2.2.1||ilt x.1 a.2.1 then J7 x r+1 else 0
def Xx:List LinkX->Nat
 | []=>0
 |a::r=>J7 a r
def Jp (l:List LinkX):Int:=1+(Xx l:Int)
abbrev Qfh:Sh:=⟨[(0,.ty (.sl Jq)),(3,.ty tI)],[]⟩
abbrev Qyt:Sh:=⟨[(3,.ty tI)],[]⟩
def QmU:Fg:=Qfh.f
def Qyu:TC:=aF Tryz.f332 [(28,pL 0 QmU),(224,pD [(0,[]),(1,[]),(2,[]),(3,[]),(4,[]),(5,[]),(6,[]),(7,[]),(8,[]),(9,[]),(10,[]),(11,[]),(12,[]),(13,[]),(14,[]),(15,[]),(16,[]),(17,[]),(18,[]),(19,[]),(20,[]),(21,[]),(22,[]),(23,[]),(24,[]),(25,[]),(26,[])] (.of [0,1,2,3,4,5,6,7,8,9,10,11,12,13,14,15,16,17,18,19,20,21,22,23,24,25,26])),(451,.fg Qyt.f)]
def Qyv:TC:=lb 0 Qyu
def Qyw (x0:List LinkX)(x3:Int):VS:=Qfh.st (x0,x3,()) ()
def Qah (x3:Int):VS:=Qyt.st (x3,()) ()
def QKW:VS->Option (Bool×List (Bool×Exit×VS)):=mkL Qfh (fun x y=>(decide (1<=x.2.1/\x.2.1<=x.1.length+1/\x.1.length<=100000))) (fun x y=>[(true,.exit 0,Qah (x.2.1+(Xx (x.1.drop (x.2.1-1).toNat):Int)))])
def QmV:G:=gG 34 [] (Ls [QKW])
def Qfi (x0:List LinkX)(x3:Int):OX:=QA (QC QmV QmU Qyv) (Qyw x0 x3)
def ID (kk:List LinkX->Int->OX)(x0:List LinkX)(x3:Int):OX:=
 let a1:=((lgt Jq x0 (Int.toNat (Qs .i64 x3 1))).2)
 let a2:=cIx x0 (Qs .i64 x3 1)
 br (ilt x3 (Qc x0)) (br a2 (br (!((a1.2).1)) (kk x0 (Qh .i64 x3 1)) (br (cIx x0 x3) (br a2 (br (ilt ((lgt Jq x0 (Int.toNat x3)).1) (a1.1)) (kk x0 (Qh .i64 x3 1)) (some (.exit 0,Qah x3))) none) none)) none) (some (.exit 0,Qah x3))
def FM (x0:List LinkX)(x3:Int):OX:=some (.exit 0,Qah (x3+(Xx (x0.drop (x3-1).toNat):Int)))
theorem Qyx (x0:List LinkX)(x3:Int):Qfi x0 x3=ID Qfi x0 x3:=lnT (x:=ID (fun x0 x3=>some (.normal,Qyw x0 x3)) x0 x3) (by simp only [ID,nxA];rfl)
def Qyy (p0:List LinkX):OV:=br (decide (1<=(1:Int)/\(1:Int)<=p0.length+1/\p0.length<=100000)) (some (.t tI ((1:Int)+(Xx (p0.drop ((1:Int)-1).toNat):Int)),[])) none
theorem QKX (x0:List LinkX)(x3:Int)(h:(decide (1<=x3/\x3<=x0.length+1/\x0.length<=100000))=true):Qfi x0 x3=FM x0 x3:=by
 simp only [Ba] at h
 obtain ⟨h1,h2,h3⟩:=h
 obtain ⟨k,hk⟩: ∃ k:Nat,x3=(k:Int)+1:=⟨(x3-1).toNat,by omega⟩
 subst hk
 refine Qae x0.length (fun k=>Qfi x0 ((k:Int)+1)=FM x0 ((k:Int)+1)) ?_ ?_ k (by omega)
 ·rw [Qyx]
  have e1:ilt ((x0.length:Int)+1) (Qc x0)=false:=by simp only [ilt,Qc,Bn];omega
  have e2:((x0.length:Int)+1-1).toNat=x0.length:=by omega
  simp [ID,FM,e1,Qj,Xx]
 ·intro k hk ih
  rw [Qyx]
  have e2:((k:Int)+1-1).toNat=k:=by omega
  have e3:Qs .i64 ((k:Int)+1) 1=(k:Int):=by rw [J5 (by omega)];omega
  have e4:Qh .i64 ((k:Int)+1) 1=((k+1:Nat):Int)+1:=by rw [JU (by omega)];omega
  have e5:((((k+1:Nat):Int))+1-1).toNat=k+1:=by omega
  have e6:(k:Int)+1=((k+1:Nat):Int):=by omega
  by_cases hk2:k+1<x0.length
  ·have e1:ilt ((k:Int)+1) (Qc x0)=true:=by simp only [ilt,Qc,Ba];omega
   simp only [ID,e1,e3,e4,Qf,QI,hk,Br,Bd,QO (y:=Jq) hk,ih]
   rw [e6]
   simp only [QI,hk2,Br,Qf,Bd,QO (y:=Jq) hk2]
   have el:FM x0 ((k+1:Nat):Int)=if !x0[k].2.2.1||ilt x0[k+1].1 x0[k].2.1 then FM x0 (((k+1:Nat):Int)+1) else some (.exit 0,Qah ((k+1:Nat):Int)):=by
    have e7:(((k+1:Nat):Int)-1).toNat=k:=by omega
    simp only [FM,e5,e7,Bi hk,Bi hk2,Xx,J7]
    split
    ·congr 3
     omega
    ·simp
   rw [el]
   cases x0[k].2.2.1<;>cases ilt x0[k+1].1 x0[k].2.1<;>rfl
  ·have e1:ilt ((k:Int)+1) (Qc x0)=false:=by simp only [ilt,Qc,Bn];omega
   have e7:x0.drop (k+1)=[]:=Dq (by omega)
   simp only [ID,e1,Qj,FM,e2,Bi hk,e7,Xx,J7]
   simp
theorem QKY:LO QmV QmU Qyv 0:=QN (s:=Qfh) fun x y h _ q=>by simp only [QK,QL] at q;exact (QKX x.1 x.2.1 h).trans q
theorem s_f332 (l:List LinkX)(h:Q2 l=true):Qyy l=some (.t tI (Jp l),[]):=by
 simp only [Q2,Ba] at h
 simp only [Qyy]
 rw [Yq ⟨B4 1,by omega,h⟩,Qf]
 rfl
def QmW:Ent:=Qo (.pr (.sl Jq) .nil) (fun x=>(Q2 x.1)) (fun x=>(.t tI (Jp x.1)))
theorem Qyz:EM 332 QmW:=mS (lk:=lkL (lkc QKY lkn)) QmV Qyu [((.t 2),some tI)] false (gB gN) fun m=>Qt m fun x hok=>kT (s_f332 x.1 hok)
theorem QmX (a:LinkX): ∀ l:List LinkX,J7 a l<=l.length
 | []=>by simp [J7]
 |x::r=>by
  have:=QmX x r
  unfold J7
  split<;>simp<;>omega
theorem Qfj {l:List LinkX}(h:l≠[]):1<=Jp l/\Jp l<=l.length:=by
 cases l with
 |nil=>exact absurd rfl h
 |cons a l=>
  have:=QmX a l
  simp only [Jp,Xx,Bq]
  omega
def Zf (l:List LinkX):LinkX:=l.getD (Jp l-1).toNat Jq.zero
def JN (l:List LinkX):Int×Bool:=if (J6 (Zf l)).2 then ((J6 (Zf l)).1,true) else (0,false)
def FN (l:List LinkX):Bool:=Q2 l&& !l.isEmpty
def QmY:TC:=aF Tryz.f333 []
def QyA:List (RV×Option Ty):=[((.t 2),some tI),((.t 3),some .bool)]
def Qfk:G:=gG 19 [(328,QmO),(332,QmW)] (fun _ _=>none)
def QmZ (p0:List LinkX):OV:=
 let a1:=J6 (lgt Jq p0 (Int.toNat (Qs .i64 (Jp p0) 1)))
 br (Q2 p0) (br (cIx p0 (Qs .i64 (Jp p0) 1)) (br (!(a1.2)) (some (.tu [(.t tI 0),(.t .bool false)],[])) (some (.tu [(.t tI (a1.1)),(.t .bool true)],[]))) none) none
theorem e_f333 (p0:List LinkX):QP Qfk QmY QyA false [.t (.sl Jq) p0] []=QmZ p0:=by kernel_rfl
theorem QKZ:GOk Tryz.prog Qfk:=Jw _ (gA (gD Qyj (gD Qyz gN)))
theorem QK0:QmY.lok Qfk:=by repeat (first|exact trivial|refine ⟨?_, ?_⟩)
theorem s_f333 (l:List LinkX)(h:FN l=true):QmZ l=some (.tu [.t tI (JN l).1,.t .bool (JN l).2],[]):=by
 simp only [FN,Bb] at h
 have hn:l≠[]:=by
  intro e
  rw [e] at h
  simp at h
 have hc:=Qfj hn
 have hl:=h.1
 simp only [Q2,Ba] at hl
 have e1:Qs .i64 (Jp l) 1=Jp l-1:=J5 (by omega)
 have e2:cIx l (Jp l-1)=true:=by simp only [cIx,Ba];omega
 simp only [QmZ,h.1,e1,e2,Qf,lgt]
 show br (!(J6 (Zf l)).2) (some (V.tu [.t tI 0,.t .bool false],[])) (some (V.tu [.t tI (J6 (Zf l)).1,.t .bool true],[]))=_
 unfold JN
 by_cases hg:(J6 (Zf l)).2=true
 ·rw [if_pos hg,hg]
  rfl
 ·rw [if_neg hg,show (J6 (Zf l)).2=false by simpa using hg]
  rfl
def QyB:Ent:=Qo (.pr (.sl Jq) .nil) (fun x=>(FN x.1)) (fun x=>(.tu [(.t tI ((JN x.1).1)),(.t .bool ((JN x.1).2))]))
theorem QK1:Qp Tryz.prog 333 (Qq QyB):=Qt (R:=QP Qfk QmY QyA false) (mG Tryz.func333 (by kernel_rfl) Tryz.ntmps333 (by kernel_rfl) QKZ QK0) fun x hok=>(e_f333 x.1).trans (s_f333 x.1 hok)
def ZV (l:List LinkX):Bool:=ieq (Jp l) (Qc l)
def Qm0:TC:=aF Tryz.f334 []
def QyC:List (RV×Option Ty):=[((.t 2),some .bool)]
def Qfl:G:=gG 8 [(332,QmW)] (fun _ _=>none)
def Qm1 (p0:List LinkX):OV:=br (Q2 p0) (some (.t .bool (ieq (Jp p0) (Qc p0)),[])) none
theorem e_f334 (p0:List LinkX):QP Qfl Qm0 QyC false [.t (.sl Jq) p0] []=Qm1 p0:=by kernel_rfl
theorem QK2:GOk Tryz.prog Qfl:=Jw _ (gA (gD Qyz gN))
theorem QK3:Qm0.lok Qfl:=by repeat (first|exact trivial|refine ⟨?_, ?_⟩)
theorem s_f334 (l:List LinkX)(h:Q2 l=true):Qm1 l=some (.t .bool (ZV l),[]):=by
 simp only [Qm1,h,Qf,ZV]
def QyD:Ent:=Qo (.pr (.sl Jq) .nil) (fun x=>(Q2 x.1)) (fun x=>(.t .bool (ZV x.1)))
theorem QK4:Qp Tryz.prog 334 (Qq QyD):=Qt (R:=QP Qfl Qm0 QyC false) (mG Tryz.func334 (by kernel_rfl) Tryz.ntmps334 (by kernel_rfl) QK2 QK3) fun x hok=>(e_f334 x.1).trans (s_f334 x.1 hok)
def QyE:Ent:=spI 216
theorem QK5:Q6 Tryz.prog 1003459:= .inl (by kernel_rfl)
theorem QK6:Qp Tryz.prog 1003459 (Qq QyE):=QrG (t:=216) (e:=215) (by kernel_rfl) (by decide)
def QyF:Ent:=spI 217
theorem QK7:Q6 Tryz.prog 1003475:= .inl (by kernel_rfl)
theorem QK8:Qp Tryz.prog 1003475 (Qq QyF):=QrG (t:=217) (e:=215) (by kernel_rfl) (by decide)
def Qm2:Ent:=spM 216 Qyp
theorem QyG:Q6 Tryz.prog 1000031:= .inl (by kernel_rfl)
theorem QyH:Qp Tryz.prog 1000031 (Qq Qm2):=Qb7 (t:=216) (i:=1) (fn:=330) (name:=GI.getD 1 "") (by kernel_rfl) (fun v w=>by kernel_rfl) ⟨_,Tryz.func330,by kernel_rfl,by kernel_rfl⟩ (by decide) QKS
def QyI:Ent:=spM 216 Qys
theorem QK9:Q6 Tryz.prog 1000047:= .inl (by kernel_rfl)
theorem QLa:Qp Tryz.prog 1000047 (Qq QyI):=Qb7 (t:=216) (i:=2) (fn:=331) (name:=GI.getD 2 "") (by kernel_rfl) (fun v w=>by kernel_rfl) ⟨_,Tryz.func331,by kernel_rfl,by kernel_rfl⟩ (by decide) QKV
def Qm3:Ent:=spM 217 QyB
theorem QyJ:Q6 Tryz.prog 1000031:= .inl (by kernel_rfl)
theorem QyK:Qp Tryz.prog 1000031 (Qq Qm3):=Qb7 (t:=217) (i:=1) (fn:=333) (name:=GI.getD 1 "") (by kernel_rfl) (fun v w=>by kernel_rfl) ⟨_,Tryz.func333,by kernel_rfl,by kernel_rfl⟩ (by decide) QK1
def QyL:Ent:=spM 217 QyD
theorem QLb:Q6 Tryz.prog 1000047:= .inl (by kernel_rfl)
theorem QLc:Qp Tryz.prog 1000047 (Qq QyL):=Qb7 (t:=217) (i:=2) (fn:=334) (name:=GI.getD 2 "") (by kernel_rfl) (fun v w=>by kernel_rfl) ⟨_,Tryz.func334,by kernel_rfl,by kernel_rfl⟩ (by decide) QK4
end Go.Proofs.YthlcobdnemhcdaaGreat.K
noncomputable section
namespace Go.Proofs.YthlcobdnemhcdaaGreat.K
open Go.RowKit
def Qsx (y:Policy):Bool:=decide (y.1.length<=10000)
theorem QDK {y:Policy}(h:Jr y=true):y.1.length<=60/\y.2.1.length<=60:=by
 simp only [Jr,Bb,Ba] at h
 exact h.2
theorem O1 {y:Policy}(h:Jr y=true):Jl y=true/\Qsx y=true:=by
 have:=QDK h
 simp only [Jl,Qsx,Q2,Bb,Ba]
 omega
end Go.Proofs.YthlcobdnemhcdaaGreat.K
noncomputable section
namespace Go.Proofs.YthlcobdnemhcdaaGreat.K
open Go.RowKit
def inK (s:Keep)(d:Int):Prop:=s.1<=d/\d<s.2.1
def inL (l:List Keep)(d:Int):Prop:= ∃ s,s∈l/\inK s d
end Go.Proofs.YthlcobdnemhcdaaGreat.K
noncomputable section
namespace Go.Proofs.YthlcobdnemhcdaaGreat.K
open Go.RowKit
def WS (s:List Keep)(hi:Int):Prop:=s.Pairwise (fun a b=>a.2.1<b.1)∧ ∀ k,k∈s->0<=k.1/\k.1<k.2.1/\k.2.1<=hi
theorem WS.mono {s:List Keep}{a b:Int}(h:WS s a)(hab:a<=b):WS s b:=⟨h.1,fun k hk=>by have:=h.2 k hk;omega⟩
theorem QqL {out:List Keep}{a b:Int}(h:WS out a)(h0:0<=a)(hab:a<b):WS (Y4 out a b) b:=by
 rcases DI out with rfl|⟨l,s,rfl⟩
 ·refine ⟨by simp [Y4],fun k hk=> ?_⟩
  simp only [Y4,List.getLast?_nil,BT] at hk
  subst hk
  exact ⟨h0,hab,B4 b⟩
 ·rw [DJ] at*
  obtain ⟨h1,h2⟩:=h
  obtain ⟨p1,_,p2⟩:=DL.1 h1
  rw [QaA]
  split
  ·rename_i hs
   refine ⟨DL.2 ⟨p1,DM _ _,fun x hx y hy=> ?_⟩,fun k hk=> ?_⟩
   ·rw [BT.1 hy]
    exact p2 x hx s (by simp)
   ·rcases Bv.1 hk with hk|hk
    ·have:=h2 k (by simp [hk]);omega
    ·rw [BT.1 hk]
     have:=h2 s (by simp)
     simp only
     omega
  ·rename_i hs
   have g:=h2 s (by simp)
   refine ⟨DL.2 ⟨h1,DM _ _,fun x hx y hy=> ?_⟩,fun k hk=> ?_⟩
   ·rw [BT.1 hy]
    rcases Bv.1 hx with hx|hx
    ·have:=p2 x hx s (by simp);simp only;omega
    ·rw [BT.1 hx];simp only;omega
   ·rcases Bv.1 hk with hk|hk
    ·have:=h2 k hk;omega
    ·rw [BT.1 hk];simp only;omega
theorem QhW {l1 l2:List Keep}{d:Int}:inL (l1++l2) d↔inL l1 d∨inL l2 d:=by
 unfold inL
 constructor
 ·rintro ⟨s,hs,h⟩
  rcases Bv.1 hs with hs|hs
  ·exact .inl ⟨s,hs,h⟩
  ·exact .inr ⟨s,hs,h⟩
 ·rintro (⟨s,hs,h⟩|⟨s,hs,h⟩)
  ·exact ⟨s,by simp [hs],h⟩
  ·exact ⟨s,by simp [hs],h⟩
theorem QbJ {s:Keep}{d:Int}:inL [s] d↔s.1<=d/\d<s.2.1:=by
 unfold inL inK
 simp
theorem QCk {out:List Keep}{a b d:Int}(h:WS out a)(hab:a<b):inL (Y4 out a b) d↔inL out d∨(a<=d/\d<b):=by
 rcases DI out with rfl|⟨l,s,rfl⟩
 ·have:inL (Y4 [] a b) d↔a<=d/\d<b:=QbJ
  rw [this]
  constructor
  ·exact .inr
  ·rintro (⟨s,hs,_⟩|h)
   ·cases hs
   ·exact h
 ·rw [DJ] at*
  have g:=h.2 s (by simp)
  rw [QaA]
  split
  ·rename_i hs
   rw [QhW,QhW,QbJ,QbJ]
   simp only
   constructor
   ·rintro (h|h)
    ·exact .inl (.inl h)
    ·by_cases h2:d<a
     ·exact .inl (.inr (by omega))
     ·exact .inr (by omega)
   ·rintro ((h|h)|h)
    ·exact .inl h
    ·exact .inr (by omega)
    ·exact .inr (by omega)
  ·rw [QhW,QbJ]
def Gd (f:Int->Bool):List Int->Int->Prop
 |a::b::r,d=>(f a=true/\a<=d/\d<b)∨Gd f (b::r) d
 |_,_=>False
theorem QqM {f:Int->Bool}{hi:Int}: ∀ (l:List Int) (a:Int) (out:List Keep),asc (a::l)->0<=a->(∀ x,x∈a::l->x<=hi)->WS out a->WS (Y5 f (a::l) out) hi
 | [],a,out,_,_,h,hw=>hw.mono (h a (by simp))
 |b::r,a,out,ha,h0,h,hw=>by
  obtain ⟨h1,h2⟩:=Dj.1 ha
  have hab:a<b:=h1 b (by simp)
  unfold Y5
  refine QqM r b _ h2 (by omega) (fun x hx=>h x (by simp at hx;simp [hx])) ?_
  split
  ·exact QqL hw h0 hab
  ·exact hw.mono (by omega)
theorem QhX {f:Int->Bool}{d:Int}: ∀ (l:List Int) (a:Int) (out:List Keep),asc (a::l)->0<=a->WS out a->(inL (Y5 f (a::l) out) d↔inL out d∨Gd f (a::l) d)
 | [],a,out,_,_,hw=>by simp [Y5,Gd]
 |b::r,a,out,ha,h0,hw=>by
  obtain ⟨h1,h2⟩:=Dj.1 ha
  have hab:a<b:=h1 b (by simp)
  unfold Y5 Gd
  by_cases hf:f a=true
  ·rw [if_pos hf,QhX r b _ h2 (by omega) (QqL hw h0 hab),QCk hw hab]
   simp only [hf,true_and]
   exact or_assoc
  ·rw [if_neg hf,QhX r b _ h2 (by omega) (hw.mono (by omega))]
   constructor
   ·rintro (h|h)
    ·exact .inl h
    ·exact .inr (.inr h)
   ·rintro (h|h|h)
    ·exact .inl h
    ·exact absurd h.1 hf
    ·exact .inr h
theorem QqN {f:Int->Bool}{d:Int}: ∀ {l:List Int} {a:Int},asc (a::l)->Gd f (a::l) d->a<=d
 | [],_,_,h=>by cases h
 |b::r,a,ha,h=>by
  obtain ⟨h1,h2⟩:=Dj.1 ha
  rcases h with h|h
  ·exact h.2.1
  ·have:=QqN h2 h
   have:=h1 b (by simp)
   omega
theorem QqO {f:Int->Bool}{d:Int}: ∀ {l:List Int} {a:Int},asc (a::l)->a<=d->(∃ x,x∈a::l/\d<x)->(∀ c,c∈a::l->c<=d->(∀ x,x∈a::l->x<=d->x<=c)->f d=f c)->(Gd f (a::l) d↔f d=true)
 | [],a,_,h1,⟨x,hx,h2⟩,_=>by
  rw [BT.1 hx] at h2
  omega
 |b::r,a,ha,h1,⟨x,hx,h2⟩,H=>by
  obtain ⟨g1,g2⟩:=Dj.1 ha
  have hab:a<b:=g1 b (by simp)
  unfold Gd
  by_cases hd:d<b
  ·have e:f d=f a:=H a (by simp) h1 fun z hz hzd=>by
    rcases BB.1 hz with e|hz
    ·omega
    ·rcases BB.1 hz with e|hz
     ·omega
     ·have:=(Dj.1 g2).1 z hz
      omega
   have hn: ¬ Gd f (b::r) d:=fun h=>by have:=QqN g2 h;omega
   rw [e]
   constructor
   ·rintro (h|h)
    ·exact h.1
    ·exact absurd h hn
   ·exact fun h=> .inl ⟨h,h1,hd⟩
  ·have hx':x∈b::r:=by
    rcases BB.1 hx with e|hx
    ·omega
    ·exact hx
   have ih:=QqO (f:=f) g2 (by omega) ⟨x,hx',h2⟩ fun c hc hcd hm=>H c (by simp at hc;simp [hc]) hcd fun z hz hzd=>by
    rcases BB.1 hz with e|hz
    ·have:=hm b (by simp) (by omega)
     omega
    ·exact hm z hz hzd
   rw [←ih]
   constructor
   ·rintro (h|h)
    ·omega
    ·exact h
   ·exact .inr
theorem QqP {α:Type}{m m':α->Bool}: ∀ {l:List α},(∀ a,a∈l->m a=m' a)->Zh m l=Zh m' l
 | [],_=>rfl
 |a::l,h=>by
  unfold Zh
  rw [QqP (l:=l) fun b hb=>h b (by simp [hb]),h a (by simp)]
theorem QCl {rs:List Rule}{u:Keep}{p c d:Int}(hc:c<=d)(hm: ∀ x,x∈ZE rs->x<=d->x<=c):Yw rs u p d=Yw rs u p c:=by
 refine QqP fun r hr=> ?_
 unfold YU I8
 have e1:r.2.2.2.2.1∈ZE rs:=Gn.2 (.inr (.inr (DD.2 ⟨r,hr,by simp⟩)))
 have e2:r.2.2.2.2.2.1∈ZE rs:=Gn.2 (.inr (.inr (DD.2 ⟨r,hr,by simp⟩)))
 have g1:=hm _ e1
 have g2:=hm _ e2
 congr 2
 ·rw [decide_eq_decide]
  simp only [Estate.Endpoints,Estate.Edges,Estate.Items,Policy.Rules,Policy.Keeps,Keep.Alg,Keep.Bits,Link.Use,Link.Day,Job.Item,Job.Link,Item.Name,Item.Kind,Item.Purpose,Item.Links,Item.Until,Rule.Allow,Rule.Alg,Rule.Below,Rule.Purpose,Rule.From,Rule.To,Exception.Use,Exception.Purpose,Exception.Endpoint,Exception.Days,Exception.Seals,Dice.L,Dice.At,Endpoint.Name,Endpoint.Least,Endpoint.Most,Endpoint.Suites,Endpoint.OwnOrder,Endpoint.Identities,Endpoint.Anchors,Endpoint.Hashes,Endpoint.Fallback,Identity.Key,Identity.KeyId,Identity.Chain,Change.Endpoint,Change.Kind,Change.Number,Change.At,Change.Identity,Rules.p,Rules.l,Rules.o,Rules.day,Method.outcome,Method.uses,Certificate.Serial,Certificate.Issuer,Certificate.Subject,Certificate.Key,Certificate.KeyId,Certificate.Hash,Certificate.From,Certificate.To,Certificate.Authority,Certificate.Path,Certificate.Names,Certificate.Seal,LinkX.day,LinkX.fall,LinkX.falls,Suite.Code,Suite.Name,Suite.Exchange,Suite.Sign,Suite.Cipher,Suite.Mac,Suite.Least,Suite.Most,Row.name,Row.kind,Row.way,Row.sizes,Row.strengths,Talk.server,Talk.version,Talk.suites,Symbol.name,Symbol.kind]
  omega
 ·rw [decide_eq_decide]
  simp only [Estate.Endpoints,Estate.Edges,Estate.Items,Policy.Rules,Policy.Keeps,Keep.Alg,Keep.Bits,Link.Use,Link.Day,Job.Item,Job.Link,Item.Name,Item.Kind,Item.Purpose,Item.Links,Item.Until,Rule.Allow,Rule.Alg,Rule.Below,Rule.Purpose,Rule.From,Rule.To,Exception.Use,Exception.Purpose,Exception.Endpoint,Exception.Days,Exception.Seals,Dice.L,Dice.At,Endpoint.Name,Endpoint.Least,Endpoint.Most,Endpoint.Suites,Endpoint.OwnOrder,Endpoint.Identities,Endpoint.Anchors,Endpoint.Hashes,Endpoint.Fallback,Identity.Key,Identity.KeyId,Identity.Chain,Change.Endpoint,Change.Kind,Change.Number,Change.At,Change.Identity,Rules.p,Rules.l,Rules.o,Rules.day,Method.outcome,Method.uses,Certificate.Serial,Certificate.Issuer,Certificate.Subject,Certificate.Key,Certificate.KeyId,Certificate.Hash,Certificate.From,Certificate.To,Certificate.Authority,Certificate.Path,Certificate.Names,Certificate.Seal,LinkX.day,LinkX.fall,LinkX.falls,Suite.Code,Suite.Name,Suite.Exchange,Suite.Sign,Suite.Cipher,Suite.Mac,Suite.Least,Suite.Most,Row.name,Row.kind,Row.way,Row.sizes,Row.strengths,Talk.server,Talk.version,Talk.suites,Symbol.name,Symbol.kind]
  omega
theorem QCm {y:Policy}{u:Keep}{p c d:Int}(hc:c<=d)(hm: ∀ x,x∈ZE y.1->x<=d->x<=c):Zs y u p d=Zs y u p c:=by
 unfold Zs Qce
 rw [QCl hc hm]
theorem QCn {y:Policy}(h:Jr y=true){r:Rule}(hr:r∈y.1):Zy r=true:=by
 simp only [Jr,Bb] at h
 exact Bh.1 h.1.1 r hr
theorem QqQ {y:Policy}(h:Jr y=true){x:Int}(hx:x∈ZE y.1):0<=x/\x<=40001:=by
 rcases Gn.1 hx with rfl|rfl|hx
 ·omega
 ·omega
 ·obtain ⟨r,hr,hx⟩:=DD.1 hx
  have:=QCn h hr
  simp only [Zy,Ba,Estate.Endpoints,Estate.Edges,Estate.Items,Policy.Rules,Policy.Keeps,Keep.Alg,Keep.Bits,Link.Use,Link.Day,Job.Item,Job.Link,Item.Name,Item.Kind,Item.Purpose,Item.Links,Item.Until,Rule.Allow,Rule.Alg,Rule.Below,Rule.Purpose,Rule.From,Rule.To,Exception.Use,Exception.Purpose,Exception.Endpoint,Exception.Days,Exception.Seals,Dice.L,Dice.At,Endpoint.Name,Endpoint.Least,Endpoint.Most,Endpoint.Suites,Endpoint.OwnOrder,Endpoint.Identities,Endpoint.Anchors,Endpoint.Hashes,Endpoint.Fallback,Identity.Key,Identity.KeyId,Identity.Chain,Change.Endpoint,Change.Kind,Change.Number,Change.At,Change.Identity,Rules.p,Rules.l,Rules.o,Rules.day,Method.outcome,Method.uses,Certificate.Serial,Certificate.Issuer,Certificate.Subject,Certificate.Key,Certificate.KeyId,Certificate.Hash,Certificate.From,Certificate.To,Certificate.Authority,Certificate.Path,Certificate.Names,Certificate.Seal,LinkX.day,LinkX.fall,LinkX.falls,Suite.Code,Suite.Name,Suite.Exchange,Suite.Sign,Suite.Cipher,Suite.Mac,Suite.Least,Suite.Most,Row.name,Row.kind,Row.way,Row.sizes,Row.strengths,Talk.server,Talk.version,Talk.suites,Symbol.name,Symbol.kind] at this
  simp only [BB,BY,DC] at hx
  omega
theorem QqR {y:Policy}(h:Jr y=true): ∃ l,ZE y.1=0::l:=by
 have h0:(0:Int)∈ZE y.1:=Gn.2 (.inl rfl)
 have ha:=Qcg y.1
 cases hq:ZE y.1 with
 |nil=>rw [hq] at h0;cases h0
 |cons a l=>
  rw [hq] at h0 ha
  have ha0:=QqQ h (x:=a) (by rw [hq];simp)
  rcases BB.1 h0 with e|h0
  ·exact ⟨l,by rw [e]⟩
  ·have:=(Dj.1 ha).1 0 h0
   omega
theorem QCo {y:Policy}{u:Keep}{p:Int}(h:Jr y=true):WS (Jk y u p) 40001:=by
 obtain ⟨l,hl⟩:=QqR h
 have ha:=Qcg y.1
 unfold Jk
 rw [hl] at ha ⊢
 exact QqM l 0 [] ha (B4 0) (fun x hx=>(QqQ h (by rw [hl];exact hx)).2) ⟨List.Pairwise.nil,fun k hk=>by cases hk⟩
theorem QCp {y:Policy}{u:Keep}{p d:Int}(h:Jr y=true)(h0:0<=d)(h1:d<=40000):inL (Jk y u p) d↔Zs y u p d=true:=by
 obtain ⟨l,hl⟩:=QqR h
 have ha:=Qcg y.1
 unfold Jk
 rw [hl] at ha ⊢
 rw [QhX l 0 [] ha (B4 0) ⟨List.Pairwise.nil,fun k hk=>by cases hk⟩]
 have h4:(40001:Int)∈0::l:=by rw [←hl];exact Gn.2 (.inr (.inl rfl))
 rw [QqO ha h0 ⟨40001,h4,by omega⟩ fun c _ hcd hm=>QCm hcd (by rw [hl];exact hm)]
 constructor
 ·rintro (⟨s,hs,_⟩|h)
  ·cases hs
  ·exact h
 ·exact .inr
theorem QhY {y:Policy}{u:Keep}{p:Int}(h:Jr y=true):
  (Jk y u p=[]/\JW (Jk y u p)=(0,true))∨
  ∃ l s,Jk y u p=l++[s]/\0<=s.1/\s.1<s.2.1/\s.2.1<=40001/\(∀ k,k∈l->k.2.1<=s.1)/\JW (Jk y u p)=if s.2.1<=40000 then (s.2.1,true) else (0,false):=by
 have hw:=QCo (u:=u) (p:=p) h
 rcases DI (Jk y u p) with e|⟨l,s,e⟩
 ·exact .inl ⟨e,by rw [e];rfl⟩
 ·right
  rw [DJ] at e
  rw [e] at hw ⊢
  obtain ⟨p1,_,p2⟩:=DL.1 hw.1
  have g:=hw.2 s (by simp)
  refine ⟨l,s,rfl,g.1,g.2.1,g.2.2,fun k hk=> ?_, ?_⟩
  ·have:=p2 k hk s (by simp)
   omega
  ·unfold JW
   rw [List.getLast?_concat]
   simp only
   split<;>split<;>first|rfl|omega
end Go.Proofs.YthlcobdnemhcdaaGreat.K
noncomputable section
namespace Go.Proofs.YthlcobdnemhcdaaGreat.K
open Go.RowKit
def lkF (y:Policy)(p:Int)(x:Link):LinkX:=(x.2.1,((JW (Jk y x.1 p)).1,((JW (Jk y x.1 p)).2,())))
def QB (y:Policy)(i:Item):List LinkX:=i.2.2.2.1.map (lkF y i.2.2.1)
def QQ (y:Policy)(i:Item):Bool:=Jr y&&Zp i
def ofA (y:Policy)(i:Item):List LinkX×Int:=(QB y i,0)
def ofE (y:Policy)(_i:Item):Int:=if Jr y then 30 else 25
def XO (y:Policy)(i:Item):Bool:=QQ y i&&ieq i.2.1 1
def WW (y:Policy)(i:Item):Bool:=QQ y i&&ieq i.2.1 2
def GH (y:Policy)(i:Item):Bool:=Jl y&&Qyi i.1&& !QQ y i
theorem FA: ∀ {l:List Link} {pv:Option Int},Z8 pv l=true→ ∀ x,x∈l->Je x.1=true/\0<=x.2.1/\x.2.1<=40000
 | [],_,_,_,hx=>by cases hx
 |a::l,pv,h,x,hx=>by
  rw [Gg,Bb,Bb,Bb,Ba] at h
  rcases BB.1 hx with rfl|hx
  ·exact ⟨h.1.1.1,h.1.1.2⟩
  ·exact FA h.2 x hx
theorem Qln {y:Policy}{u:Keep}{p:Int}(hp:Jr y=true)(hv:Je u=true)(h1:1<=p)(h2:p<=4):ZJ y u p=((JW (Jk y u p)).1,(JW (Jk y u p)).2,0):=by
 have ee:Zk y u p 0=0:=by
  unfold Zk
  rw [hp,hv]
  simp only [Bool.true_eq_false,B8]
  rw [if_neg (by omega)]
 unfold ZJ
 rw [if_pos ee]
abbrev Qec:Sh:=⟨[(2,.ptr 2 0),(3,.ptr 3 0),(8,.ms 8),(25,.ty (.sl QH)),(26,.ty tI),(27,.ty tI)],[(2,.box QE),(3,.box Qm),(8,.arr 215 Jq),(51,.no)]⟩
abbrev QwC:Sh:=⟨[(4,.ni),(5,.ty tI)],[]⟩
abbrev QwD:Sh:=⟨[(3,.ptr 3 0),(8,.ms 8)],[(3,.box Qm),(8,.arr 215 Jq),(51,.no)]⟩
def Qlo:Fg:=Qec.f
def Qed:TC:=aF Tryz.f91 [(250,.nw 8 215),(250,pL 0 Qlo),(4005,.fg QwD.f),(512821,.fg QwC.f)]
def QwE:TC:=lb 0 Qed
def QwF:List (RV×Option Ty):=[((.t 4),none),((.t 5),some tI)]
def QwG (x25:List Link)(x26 x27:Int)(y2:Policy)(y3:Item)(y8:List LinkX):VS:=Qec.st ((),(),(),x25,x26,x27,()) (y2,y3,y8,(),())
def Qlp (x5:Int):VS:=QwC.st ((),x5,()) ()
def Qlq (y3:Item)(y8:List LinkX):VS:=QwD.st ((),(),()) (y3,y8,(),())
def QIA:VS->Option (Bool×List (Bool×Exit×VS)):=mkL Qec (fun x y=>(QQ y.1 y.2.1&&(x.2.2.2.1==y.2.1.2.2.2.1)&&Qy x.2.2.2.1 x.2.2.2.2.1 x.2.2.2.2.2.1&&decide ((y.2.2.1.length:Int)<=x.2.2.2.2.2.1))) (fun x y=>[((false),.ret,Qlp (0)),(true,.exit 0,Qlq (y.2.1) (y.2.2.1++(x.2.2.2.1.drop x.2.2.2.2.2.1.toNat).map (lkF y.1 y.2.1.2.2.1)))])
def Ih:G:=gG 60 [(90,Qdm),(122,Qh7),(149,Qn6),(1003459,QyE),(1003475,QyF)] (Ls [QIA])
def Qee (x25:List Link)(x26 x27:Int)(y2:Policy)(y3:Item)(y8:List LinkX):OX:=QA (QC Ih Qlo QwE) (QwG x25 x26 x27 y2 y3 y8)
def VP (kk:List Link->Int->Int->Policy->Item->List LinkX->OX)(x25:List Link)(x26 x27:Int)(y2:Policy)(y3:Item)(y8:List LinkX):OX:=
 let a1:=ZJ y2 ((lgt QH x25 (Int.toNat x27)).1) y3.2.2.1
 let a2:=(((lgt QH x25 (Int.toNat x27)).2).1,(a1.1,((a1.2).1,())))
 br (ilt x27 x26) (br (cIx x25 x27) (br (Z0 y2 ((lgt QH x25 (Int.toNat x27)).1) y3.2.2.1) (br (ine ((a1.2).2) 0) (some (.ret,Qlp ((a1.2).2))) (br (Qx y8 ([a2]) 24) (kk x25 x26 (Qh .i64 x27 1) y2 y3 (y8++([a2]))) none)) none) none) (some (.exit 0,Qlq y3 y8))
def Qef (x25:List Link)(x26 x27:Int)(y2:Policy)(y3:Item)(y8:List LinkX):OX:=br (false) (some (.ret,Qlp (0)))<|some (.exit 0,Qlq (y3) (y8++(x25.drop x27.toNat).map (lkF y2 y3.2.2.1)))
theorem QwH (x25:List Link)(x26 x27:Int)(y2:Policy)(y3:Item)(y8:List LinkX):Qee x25 x26 x27 y2 y3 y8=VP Qee x25 x26 x27 y2 y3 y8:=lnT (x:=VP (fun x25 x26 x27 y2 y3 y8=>some (.normal,QwG x25 x26 x27 y2 y3 y8)) x25 x26 x27 y2 y3 y8) (by simp only [VP,nxA];rfl)
def FB (p0:Policy)(p1:Item):OV:=
 let a1:=(p1.2.2.2.1.drop (0:Int).toNat)
 br (Jl p0) (br (ine (Zj p0) 0) (some (.tu [(.c .nilIface),(.t tI (Zj p0))],[])) (br (Z9 p1) (br (ine (ZD p1) 0) (some (.tu [(.c .nilIface),(.t tI (ZD p1))],[])) (br (QQ p0 p1&&(p1.2.2.2.1==p1.2.2.2.1)&&Qy p1.2.2.2.1 (Qc p1.2.2.2.1) (0:Int)&&decide ((([]:List LinkX).length:Int)<=(0:Int))) (br (false) (some (.tu [(.c .nilIface),(.t tI (0))],[])) (br (ieq (((p1).2).1) 1) (some (.tu [(.ifc 216 (.t (.sl Jq) (([]:List LinkX)++a1.map (lkF p0 p1.2.2.1)))),(.t tI 0)],[])) (some (.tu [(.ifc 217 (.t (.sl Jq) (([]:List LinkX)++a1.map (lkF p0 p1.2.2.1)))),(.t tI 0)],[])))) none)) none)) none
theorem Qlr (p0:Policy)(p1:Item):QP Ih Qed QwF false [.t QE p0,.t Qm p1] []=FB p0 p1:=by kernel_rfl
theorem Qls:Q6 Tryz.prog 91:= .inr ⟨by decide,_,Tryz.func91,by kernel_rfl,by kernel_rfl⟩
theorem gk_f91:GOk Tryz.prog Ih:=Jw _ (gA (gD Qkg (gD Qq2 (gD QzF (gC QK5 QK6 (gC QK7 QK8 gN))))))
theorem QIB (x25:List Link)(x26 x27:Int)(y2:Policy)(y3:Item)(y8:List LinkX)(h:(QQ y2 y3&&(x25==y3.2.2.2.1)&&Qy x25 x26 x27&&decide ((y8.length:Int)<=x27))=true):Qee x25 x26 x27 y2 y3 y8=Qef x25 x26 x27 y2 y3 y8:=by
 simp only [Bb,Di,Ba] at h
 obtain ⟨⟨⟨hf,hx⟩,h0⟩,h4⟩:=h
 obtain ⟨rfl,h3,k,rfl,hk⟩:=JR h0
 clear h0
 simp only [QQ,Bb] at hf
 have hi:=Jn.1 hf.2
 have hpl: ∀ u q,Z0 y2 u q=true:=fun u q=>(O1 hf.1).1
 revert y8
 refine Q5 x25 (fun k=> ∀ y8:List LinkX,(y8.length:Int)<=(k:Int)->Qee x25 (x25.length:Int) (k:Int) y2 y3 y8=Qef x25 (x25.length:Int) (k:Int) y2 y3 y8) ?_ ?_ k hk
 ·intro y8 _
  rw [QwH]
  simp [VP,Qef,QD,Qj]
 ·intro k hk ih y8 hy
  rw [QwH]
  have hv:=FA hi.2.2.2.2.1 x25[k] (by rw [←hx];exact Bx hk)
  have ef:=Qln (u:=x25[k].1) (p:=y3.2.2.1) hf.1 hv.1 hi.2.2.1.1 hi.2.2.1.2
  simp only [VP,QD,QI,hk,Br,Qf,Bd,QW (show k<4611686018427387904 by omega),QO (y:=QH) hk,hpl,ef,show ine 0 0=false from rfl,Qj]
  rw [Wr (by simp;omega) (by omega),Qf,ih _ (by simp;omega)]
  simp only [Qef,Bd,Bi hk,BI,BN,Qj]
  rfl
theorem QIC:LO Ih Qlo QwE 0:=QN (s:=Qec) fun x y h _ q=>by simp only [QK,QL] at q;exact (QIB x.2.2.2.1 x.2.2.2.2.1 x.2.2.2.2.2.1 y.1 y.2.1 y.2.2.1 h).trans q
theorem lk_f91:Qed.lok Ih:=by
 repeat (first|exact trivial|exact QIC|refine ⟨?_, ?_⟩)
theorem Qlt:Qp Tryz.prog 91 (QP Ih Qed QwF false):=mG Tryz.func91 (by kernel_rfl) Tryz.ntmps91 (by kernel_rfl) gk_f91 lk_f91
theorem QwI {y:Policy}{i:Item}(h:QQ y i=true):FB y i=br (ieq i.2.1 1) (some (.tu [.ifc 216 (.t (.sl Jq) (QB y i)),.t tI 0],[])) (some (.tu [.ifc 217 (.t (.sl Jq) (QB y i)),.t tI 0],[])):=by
 have hf:=h
 simp only [QQ,Bb] at hf
 have hi:=Jn.1 hf.2
 have hn:Z9 i=true:=Be (by have:=QKL hi.1;omega)
 simp only [FB,(O1 hf.1).1,hn,Zj,hf.1,ZD,hf.2,if_true,show ine 0 0=false from rfl,Qf,Qj,h,beq_self_eq_true,By,JS (show i.2.2.2.1.length<=100000 by omega)]
 rw [Yq (by simp),Qf]
 rfl
theorem s_f91A (y:Policy)(i:Item)(h:XO y i=true):FB y i=some (.tu [.ifc 216 (.t (.sl Jq) (ofA y i).1),.t tI (ofA y i).2],[]):=by
 simp only [XO,Bb] at h
 rw [QwI h.1,h.2]
 rfl
theorem s_f91B (y:Policy)(i:Item)(h:WW y i=true):FB y i=some (.tu [.ifc 217 (.t (.sl Jq) (ofA y i).1),.t tI (ofA y i).2],[]):=by
 simp only [WW,Bb] at h
 have h2:=h.2
 simp only [Zw,Ba] at h2
 rw [QwI h.1,h2]
 rfl
theorem s_f91E (y:Policy)(i:Item)(h:GH y i=true):FB y i=some (.tu [.c .nilIface,.t tI (ofE y i)],[]):=by
 simp only [GH,Bb,BA,QQ,Bool.and_eq_false_iff] at h
 have hn:Z9 i=true:=h.1.2
 simp only [FB,h.1.1,hn,Zj,ZD,ofE,Qf]
 cases hp:Jr y with
 |false=>rfl
 |true=>
  have hq:Zp i=false:=h.2.resolve_left (by rw [hp];simp)
  simp only [hq,if_true,show ine 0 0=false from rfl,Qj]
  rfl
def Qeg:Ent:=Qo (.pr QE (.pr Qm .nil)) (fun x=>(XO x.1 x.2.1)) (fun x=>(.tu [(.ifc 216 (.t (.sl Jq) ((ofA x.1 x.2.1).1))),(.t tI ((ofA x.1 x.2.1).2))]))
theorem Qlu:Q6 Tryz.prog 91:=Qls
theorem Qlv:Qp Tryz.prog 91 (Qq Qeg):=Qt Qlt fun x hok=>(Qlr x.1 x.2.1).trans (s_f91A x.1 x.2.1 hok)
def Qeh:Ent:=Qo (.pr QE (.pr Qm .nil)) (fun x=>(WW x.1 x.2.1)) (fun x=>(.tu [(.ifc 217 (.t (.sl Jq) ((ofA x.1 x.2.1).1))),(.t tI ((ofA x.1 x.2.1).2))]))
theorem Qlw:Q6 Tryz.prog 91:=Qls
theorem Qlx:Qp Tryz.prog 91 (Qq Qeh):=Qt Qlt fun x hok=>(Qlr x.1 x.2.1).trans (s_f91B x.1 x.2.1 hok)
def Qei:Ent:=Qo (.pr QE (.pr Qm .nil)) (fun x=>(GH x.1 x.2.1)) (fun x=>(.tu [(.c .nilIface),(.t tI (ofE x.1 x.2.1))]))
theorem Qly:Q6 Tryz.prog 91:=Qls
theorem Qlz:Qp Tryz.prog 91 (Qq Qei):=Qt Qlt fun x hok=>(Qlr x.1 x.2.1).trans (s_f91E x.1 x.2.1 hok)
end Go.Proofs.YthlcobdnemhcdaaGreat.K
noncomputable section
namespace Go.Proofs.YthlcobdnemhcdaaGreat.K
open Go.RowKit
def U4 (y:Policy)(_u:Keep)(_p _d:Int):Bool:=Q2 y.1
abbrev Qat:Sh:=⟨[(2,.ty tI),(3,.ty tI),(4,.ptr 4 0),(5,.ptr 5 0),(9,.ty tI)],[(4,.box QE),(5,.box Qi)]⟩
abbrev Qnu:Sh:=⟨[(8,.ty tI)],[]⟩
abbrev Qnv:Sh:=⟨[],[]⟩
def QfC:Fg:=Qat.f
def Qnw:TC:=aF Tryz.f108 [(26,pL 0 QfC),(419,.fg Qnv.f),(840,pD [(0,[4]),(1,[4]),(2,[]),(3,[]),(4,[]),(5,[5]),(6,[]),(7,[]),(8,[])] (.of [0,1,2,3,4,5,6,7,8])),(3365,.fg Qnu.f)]
def Qnx:TC:=lb 0 Qnw
def Qny (x2 x3 x9:Int)(y4:Policy)(y5:Keep):VS:=Qat.st (x2,x3,(),(),x9,()) (y4,y5,())
def QfD (x8:Int):VS:=Qnu.st (x8,()) ()
def QfE  : VS:=Qnv.st () ()
def Qzi:VS->Option (Bool×List (Bool×Exit×VS)):=mkL Qat (fun x y=>(decide (-1<=x.2.2.2.2.1/\x.2.2.2.2.1<y.1.1.length/\y.1.1.length<=100000))) (fun x y=>[(((Yw (y.1.1.take (x.2.2.2.2.1+1).toNat) y.2.1 x.1 x.2.1).isSome),.ret,QfD ((Yw (y.1.1.take (x.2.2.2.2.1+1).toNat) y.2.1 x.1 x.2.1).getD 0:Nat)),(true,.exit 0,QfE)])
def QfF:G:=gG 28 [(160,Qpz)] (Ls [Qzi])
def QfG (x2 x3 x9:Int)(y4:Policy)(y5:Keep):OX:=QA (QC QfF QfC Qnx) (Qny x2 x3 x9 y4 y5)
def IM (kk:Int->Int->Int->Policy->Keep->OX)(x2 x3 x9:Int)(y4:Policy)(y5:Keep):OX:=br (ige x9 0) (br (cIx y4.1 x9) (br (YU (lgt QU y4.1 (Int.toNat x9)) y5 x2 x3) (some (.ret,QfD x9)) (kk x2 x3 (Qs .i64 x9 1) y4 y5)) none) (some (.exit 0,QfE))
def Qnz (x2 x3 x9:Int)(y4:Policy)(y5:Keep):OX:=
 let a1:=Yw (y4.1.take (x9+1).toNat) y5 x2 x3
 br (a1.isSome) (some (.ret,QfD (a1.getD 0:Nat)))<|some (.exit 0,QfE)
theorem QnA (x2 x3 x9:Int)(y4:Policy)(y5:Keep):QfG x2 x3 x9 y4 y5=IM QfG x2 x3 x9 y4 y5:=lnT (x:=IM (fun x2 x3 x9 y4 y5=>some (.normal,Qny x2 x3 x9 y4 y5)) x2 x3 x9 y4 y5) (by simp only [IM,nxA];rfl)
def QnB (p0:Policy)(p1:Keep)(p2 p3:Int):OV:=
 let a1:=Qs .i64 (Qc p0.1) 1
 let a2:=Yw (p0.1.take (a1+1).toNat) p1 p2 p3
 br (decide (-1<=a1/\a1<p0.1.length/\p0.1.length<=100000)) (br (a2.isSome) (some (.t tI (a2.getD 0:Nat),[])) (some (.t tI (-1),[]))) none
theorem QnC {α:Type}{l:List α}{k:Nat}(h:k<l.length):l.take (k+1)=l.take k++[l[k]]:=List.take_succ_eq_append_getElem h
theorem Qzj {l:List Rule}{k:Nat}(h:k<l.length){u:Keep}{p d:Int}:Yw (l.take (k+1)) u p d=if YU l[k] u p d then some k else Yw (l.take k) u p d:=by
 rw [QnC h]
 unfold Yw
 rw [Qcd]
 simp only [Zh]
 have e:(l.take k).length=k:=by simp;omega
 rw [e]
 split<;>rename_i hq
 ·split at hq
  ·rename_i hm
   injection hq with hq
   subst hq
   rw [if_pos hm]
   rfl
  ·cases hq
 ·split at hq
  ·cases hq
  ·rename_i hm
   rw [if_neg hm]
theorem Qzk (x2 x3 x9:Int)(y4:Policy)(y5:Keep)(h:(decide (-1<=x9/\x9<y4.1.length/\y4.1.length<=100000))=true):QfG x2 x3 x9 y4 y5=Qnz x2 x3 x9 y4 y5:=by
 simp only [Ba] at h
 obtain ⟨h1,h2,h3⟩:=h
 obtain ⟨k,hk⟩: ∃ k:Nat,x9=(k:Int)-1:=⟨(x9+1).toNat,by omega⟩
 subst hk
 have h4:k<=y4.1.length:=by omega
 clear h1 h2
 induction k with
 |zero=>
  rw [QnA]
  have e1:ige (((0:Nat):Int)-1) 0=false:=rfl
  simp only [IM,e1,Qj]
  rfl
 |succ k ih=>
  rw [QnA]
  have e1:ige (((k+1:Nat):Int)-1) 0=true:=by simp only [ige,Ba];omega
  have e2:(((k+1:Nat):Int)-1)=(k:Int):=by omega
  have e3:Qs .i64 (k:Int) 1=(k:Int)-1:=J5 (by omega)
  have hk:k<y4.1.length:=by omega
  rw [e2] at e1 ⊢
  simp only [IM,e1,e3,Qf,QI,hk,Br,Bd,QO (y:=QU) hk,ih (by omega)]
  have e4:((k:Int)+1).toNat=k+1:=by omega
  have e5:((k:Int)-1+1).toNat=k:=by omega
  simp only [Qnz,e4,e5,Qzj hk]
  cases hm:YU y4.1[k] y5 x2 x3 with
  |true=>rfl
  |false=>rfl
theorem Qzl:LO QfF QfC Qnx 0:=QN (s:=Qat) fun x y h _ q=>by simp only [QK,QL] at q;exact (Qzk x.1 x.2.1 x.2.2.2.2.1 y.1 y.2.1 h).trans q
theorem s_f108 (y:Policy)(u:Keep)(p d:Int)(h:U4 y u p d=true):QnB y u p d=some (.t tI (ZY y u p d),[]):=by
 have h:Q2 y.1=true:=h
 simp only [Q2,Ba] at h
 have e1:Qs .i64 (Qc y.1) 1=(y.1.length:Int)-1:=J5 (by unfold Qc;omega)
 have e2:((y.1.length:Int)-1+1).toNat=y.1.length:=by omega
 simp only [QnB,e1,e2,List.take_length]
 rw [Yq ⟨by omega,by omega,h⟩,Qf,QiC]
 cases Yw y.1 u p d<;>rfl
def QnD:Ent:=Qo (.pr QE (.pr Qi (.pr tI (.pr tI .nil)))) (fun x=>(U4 x.1 x.2.1 x.2.2.1 x.2.2.2.1)) (fun x=>(.t tI (ZY x.1 x.2.1 x.2.2.1 x.2.2.2.1)))
theorem Qzm:EM 108 QnD:=mS (lk:=lkL (lkc Qzl lkn)) QfF Qnw [((.t 8),some tI)] false (gB (gD QBd gN)) fun m=>Qt m fun x hok=>kT (s_f108 x.1 x.2.1 x.2.2.1 x.2.2.2.1 hok)
def Qzn:TC:=aF Tryz.f107 []
def g_f107:G:=gG 25 [(108,QnD)] (fun _ _=>none)
def QnE (p0:Policy)(p1:Keep)(p2 p3:Int):OV:=
 let a1:=ZY p0 p1 p2 p3
 br (U4 p0 p1 p2 p3) (br (ilt a1 0) (some (.t .bool true,[])) (br (cIx p0.1 a1) (some (.t .bool ((lgt QU p0.1 (Int.toNat a1)).1),[])) none)) none
theorem s_f107 (y:Policy)(u:Keep)(p d:Int)(h:U4 y u p d=true):QnE y u p d=some (.t .bool (Zs y u p d),[]):=by
 simp only [QnE,h,Qf,Qwp]
 cases h:ilt (ZY y u p d) 0 with
 |true=>simp [Qf]
 |false=>rw [Qwq h,Qj,Qf,Dr,lgt]
def QnF:Ent:=Qo (.pr QE (.pr Qi (.pr tI (.pr tI .nil)))) (fun x=>(U4 x.1 x.2.1 x.2.2.1 x.2.2.2.1)) (fun x=>(.t .bool (Zs x.1 x.2.1 x.2.2.1 x.2.2.2.1)))
theorem Qzo:EM 107 QnF:=mS g_f107 Qzn [((.t 8),some .bool)] false (gB (gD Qzm gN)) fun m=>Qt m fun x hok=>kT (s_f107 x.1 x.2.1 x.2.2.1 x.2.2.2.1 hok)
def FP (y:Policy)(u:Keep)(p:Int):Int:=Zk y u p 0
def Qzp:TC:=aF Tryz.f106 []
def g_f106:G:=gG 22 [(103,Qkn),(105,OL)] (fun _ _=>none)
def QnG (p0:Policy)(p1:Keep)(p2:Int):OV:=br (Jl p0) (br (ine (Zj p0) 0) (some (.t tI (Zj p0),[])) (br (!(Je p1)) (some (.t tI 7,[])) (br (ilt p2 1) (some (.t tI 2,[])) (br (igt p2 4) (some (.t tI 2,[])) (some (.t tI 0,[])))))) none
theorem s_f106 (y:Policy)(u:Keep)(p:Int)(h:Z0 y u p=true):QnG y u p=some (.t tI (FP y u p),[]):=by
 have h:Jl y=true:=h
 simp only [QnG,h,Qf,Zj,FP,Zk]
 cases Jr y with
 |false=>rfl
 |true=>
  simp only [if_true,show ine 0 0=false from rfl,Qj,Bool.true_eq_false,B8]
  cases Je u with
  |false=>rfl
  |true=>
   simp only [BK,Qj,Bool.true_eq_false,B8]
   repeat' (refine QV ?_ ?_<;>intro _)
   all_goals simp only [igt,ilt,Ba,Bn] at*
   all_goals first
    |rw [if_pos (by omega)]
    |rw [if_neg (by omega)]
def QnH:Ent:=Qo (.pr QE (.pr Qi (.pr tI .nil))) (fun x=>(Z0 x.1 x.2.1 x.2.2.1)) (fun x=>(.t tI (FP x.1 x.2.1 x.2.2.1)))
theorem Qzq:EM 106 QnH:=mS g_f106 Qzp [((.t 6),some tI)] false (gB (gD Qu1 (gD Qcc gN))) fun m=>Qt m fun x hok=>kT (s_f106 x.1 x.2.1 x.2.2.1 hok)
def low (l:List Int)(n:Int):Nat:=(l.takeWhile fun a=>decide (a<n)).length
def Ub (l:List Int)(_n:Int):Bool:=decide (l.length<=500000)
abbrev IN:Sh:=⟨[(0,.ty (.sl tI)),(1,.ty tI),(5,.ty tI)],[]⟩
def QfH:Fg:=IN.f
def QnI:TC:=aF Tryz.f209 [(28,pL 0 QfH),(451,.fg IN.f),(62,pD [(0,[33,5033,10033,15033]),(1,[]),(2,[]),(3,[]),(4,[33,37,5037,10037,15037]),(5,[]),(6,[]),(7,[33,37,40,5040,10040,15040]),(8,[]),(9,[]),(10,[]),(11,[33,37,40,44,5044,10044,15044]),(12,[33,37,40,44])] (.of [1,2,3,5,6,8,9,10,0,4,7,11,12]))]
def QnJ:TC:=lb 0 QnI
def FQ (x0:List Int)(x1 x5:Int):VS:=IN.st (x0,x1,x5,()) ()
def Qzr:VS->Option (Bool×List (Bool×Exit×VS)):=mkL IN (fun x y=>(decide (0<=x.2.2.1/\x.2.2.1<=x.1.length/\x.1.length<=500000))) (fun x y=>[(true,.exit 0,FQ (x.1) (x.2.1) (x.2.2.1+(low (x.1.drop x.2.2.1.toNat) x.2.1:Nat)))])
def QfI:G:=⟨TYs,[33],45,EL [],keeps,(Ls [Qzr]),IL [],RL []⟩
def Qau (x0:List Int)(x1 x5:Int):OX:=QA (QC QfI QfH QnJ) (FQ x0 x1 x5)
def IO (kk:List Int->Int->Int->OX)(x0:List Int)(x1 x5:Int):OX:=br (ilt x5 (Qc x0)) (br (cIx x0 x5) (br (ilt (lgt tI x0 (Int.toNat x5)) x1) (kk x0 x1 (Qh .i64 x5 1)) (some (.exit 0,FQ x0 x1 x5))) none) (some (.exit 0,FQ x0 x1 x5))
def Qav (x0:List Int)(x1 x5:Int):OX:=some (.exit 0,FQ (x0) (x1) (x5+(low (x0.drop x5.toNat) x1:Nat)))
theorem QnK (x0:List Int)(x1 x5:Int):Qau x0 x1 x5=IO Qau x0 x1 x5:=lnT (x:=IO (fun x0 x1 x5=>some (.normal,FQ x0 x1 x5)) x0 x1 x5) (by simp only [IO,nxA];rfl)
def IP (p0:List Int)(p1:Int):OV:=
 let a1:=(low (p0.drop (0:Int).toNat) p1:Nat)
 let a2:=(List.length (p0):Nat)
 let a3:=(lsl (p0) 0 ((0:Int)+a1))
 let a4:=(lsl (p0) ((0:Int)+a1) (a2:Int))
 br (cSl (p0) 0 ((0:Int)+a1) (a2:Int)) (br (cSl (p0) ((0:Int)+a1) (a2:Int) (a2:Int)) (br (Qx ([]:List Int) a3 8) (br (Qx (([]:List Int)++a3) ([(p1)]) 8) (br (Qx ((([]:List Int)++a3)++([(p1)])) a4 8) (some (.t (.sl tI) (((([]:List Int)++a3)++([(p1)]))++a4),[])) none) none) none) none) none
def QnL (p0:List Int)(p1:Int):OV:=
 let a1:=(low (p0.drop (0:Int).toNat) p1:Nat)
 br (decide (0<=(0:Int)/\(0:Int)<=p0.length/\p0.length<=500000)) (br (ilt ((0:Int)+a1) (Qc (p0))) (br (cIx (p0) ((0:Int)+a1)) (br (ieq (lgt tI (p0) (Int.toNat ((0:Int)+a1))) (p1)) (some (.t (.sl tI) (p0),[])) (IP p0 p1)) none) (IP p0 p1)) none
theorem Qzs (x0:List Int)(x1 x5:Int)(h:(decide (0<=x5/\x5<=x0.length/\x0.length<=500000))=true):Qau x0 x1 x5=Qav x0 x1 x5:=by
 simp only [Ba] at h
 obtain ⟨h1,h2,h3⟩:=h
 obtain ⟨k,rfl⟩:=Bu h1
 refine Q5 x0 (fun k=>Qau x0 x1 (k:Int)=Qav x0 x1 (k:Int)) ?_ ?_ k (by omega)
 ·rw [QnK]
  simp [IO,Qav,QD,Qc,Qj,low]
 ·intro k hk ih
  rw [QnK]
  simp only [IO,QD,Qc,QI,hk,Br,Qf,Bd,QW (show k<4611686018427387904 by omega),ih,QO (y:=tI) hk]
  simp only [Qav,Bd,Bi hk,low,List.takeWhile_cons,ilt]
  by_cases hc:x0[k]<x1
  ·simp only [hc,Br,Qf,if_true,Bq]
   congr 3
   omega
  ·simp only [hc,BW,Qj,BE,B8,BG]
   rfl
theorem Qzt:LO QfI QfH QnJ 0:=QN (s:=IN) fun x y h _ q=>by simp only [QK,QL] at q;exact (Qzs x.1 x.2.1 x.2.2.1 h).trans q
theorem low_le (l:List Int)(n:Int):low l n<=l.length:=by
 unfold low
 exact (List.takeWhile_prefix _).length_le
theorem QfJ (n:Int): ∀ l:List Int,J9 l n=if l[low l n]? = some n then l else l.take (low l n)++[n]++l.drop (low l n)
 | []=>by simp [J9,low]
 |a::l=>by
  have ih:=QfJ n l
  unfold J9
  by_cases h:a<n
  ·have e:low (a::l) n=low l n+1:=by simp [low,h]
   rw [if_pos h,e,ih,BV]
   split<;>simp
  ·have e:low (a::l) n=0:=by simp [low,h]
   rw [if_neg h,e]
   by_cases h2:a=n
   ·simp [h2]
   ·simp [h2]
theorem QnM (n:Int)(l:List Int):(J9 l n).length<=l.length+1:=by
 rw [QfJ]
 split<;>simp
 omega
theorem s_f209 (l:List Int)(n:Int)(h:Ub l n=true):QnL l n=some (.t (.sl tI) (J9 l n),[]):=by
 simp only [Ub,Ba] at h
 have hl:=low_le l n
 have e1:IP l n=some (.t (.sl tI) (l.take (low l n)++[n]++l.drop (low l n)),[]):=by
  simp only [IP,BC,BF,Int.zero_add]
  have c1:cSl l 0 (low l n:Nat) ((l.length:Nat):Int)=true:=by simp only [cSl,Ba];omega
  have c2:cSl l (low l n:Nat) ((l.length:Nat):Int) ((l.length:Nat):Int)=true:=by simp only [cSl,Ba];omega
  have v1:lsl l 0 (low l n:Nat)=l.take (low l n):=by simp [lsl]
  have v2:lsl l (low l n:Nat) ((l.length:Nat):Int)=l.drop (low l n):=by
   simp only [lsl,Bd]
   rw [DQ (by simp)]
  rw [c1,c2,v1,v2]
  simp only [Qf]
  rw [Wr (by simp;omega) (by omega),Qf,Wr (by simp;omega) (by omega),Qf,Wr (by simp;omega) (by omega),Qf]
  rfl
 simp only [QnL,IP] at e1 ⊢
 rw [e1]
 simp only [BC,BF,Int.zero_add]
 rw [Yq ⟨B4 0,by omega,h⟩,Qf,QfJ]
 by_cases hk:low l n<l.length
 ·simp only [Qc,QD,QI,hk,Br,Qf,Bd,QO (y:=tI) hk,Bj hk,Bc,Zw]
  by_cases hq:l[low l n]=n
  ·simp only [hq,Br,Qf,if_true]
  ·simp only [hq,BW,Qj,B8]
 ·have hn:l[low l n]? = none:=DH (by omega)
  simp only [Qc,QD,hk,BW,Qj,hn,reduceCtorEq,B8]
def QnN:Ent:=Qo (.pr (.sl tI) (.pr tI .nil)) (fun x=>(Ub x.1 x.2.1)) (fun x=>(.t (.sl tI) (J9 x.1 x.2.1)))
theorem Qzu:EM 209 QnN:=mS (lk:=lkL (lkc Qzt lkn)) QfI QnI [((.t 4),some (.sl tI))] false (Jw _ (fun p hp=>by cases hp)) fun m=>Qt m fun x hok=>kT (s_f209 x.1 x.2.1 hok)
def IQ (l:List Int)(rs:List Rule):List Int:=rs.foldl (fun l r=>J9 (J9 l r.2.2.2.2.1) r.2.2.2.2.2.1) l
abbrev Qaw:Sh:=⟨[(1,.ptr 1 0),(3,.ty (.sl tI)),(4,.ty tI)],[(1,.box QE)]⟩
abbrev QnO:Sh:=⟨[(3,.ty (.sl tI))],[]⟩
def QfK:Fg:=Qaw.f
def QnP:TC:=aF Tryz.f162 [(58,pL 0 QfK),(931,.fg QnO.f),(932,pD [(0,[]),(1,[1]),(2,[1]),(3,[]),(4,[]),(5,[]),(6,[]),(7,[]),(8,[1]),(9,[1]),(10,[]),(11,[]),(12,[]),(13,[]),(14,[]),(15,[])] (.of [0,1,2,3,4,5,6,7,8,9,10,11,12,13,14,15]))]
def QnQ:TC:=lb 0 QnP
def QnR (x3:List Int)(x4:Int)(y1:Policy):VS:=Qaw.st ((),x3,x4,()) (y1,())
def QfL (x3:List Int):VS:=QnO.st (x3,()) ()
def Qzv:VS->Option (Bool×List (Bool×Exit×VS)):=mkL Qaw (fun x y=>(decide (0<=x.2.2.1/\x.2.2.1<=y.1.1.length/\y.1.1.length<=100000/\(x.2.1.length:Int)<=2+2*x.2.2.1))) (fun x y=>[(true,.exit 0,QfL (IQ x.2.1 (y.1.1.drop x.2.2.1.toNat)))])
def QfM:G:=gG 29 [(209,QnN)] (Ls [Qzv])
def Qax (x3:List Int)(x4:Int)(y1:Policy):OX:=QA (QC QfM QfK QnQ) (QnR x3 x4 y1)
def IR (kk:List Int->Int->Policy->OX)(x3:List Int)(x4:Int)(y1:Policy):OX:=
 let a1:=(((((lgt QU y1.1 (Int.toNat x4)).2).2).2).2)
 br (ilt x4 (Qc y1.1)) (br (cIx y1.1 x4) (br (Ub x3 (a1.1)) (br (cIx y1.1 x4) (br (Ub (J9 x3 (a1.1)) ((a1.2).1)) (kk (J9 (J9 x3 (a1.1)) ((a1.2).1)) (Qh .i64 x4 1) y1) none) none) none) none) (some (.exit 0,QfL x3))
def Qay (x3:List Int)(x4:Int)(y1:Policy):OX:=some (.exit 0,QfL (IQ x3 (y1.1.drop x4.toNat)))
theorem QnS (x3:List Int)(x4:Int)(y1:Policy):Qax x3 x4 y1=IR Qax x3 x4 y1:=lnT (x:=IR (fun x3 x4 y1=>some (.normal,QnR x3 x4 y1)) x3 x4 y1) (by simp only [IR,nxA];rfl)
def QnT (p0:Policy):OV:=br (decide (0<=(0:Int)/\(0:Int)<=p0.1.length/\p0.1.length<=100000/\(([0,40001]).length:Int)<=2+2*(0:Int))) (some (.t (.sl tI) (IQ ([0,40001]) (p0.1.drop (0:Int).toNat)),[])) none
theorem Qzw (x3:List Int)(x4:Int)(y1:Policy)(h:(decide (0<=x4/\x4<=y1.1.length/\y1.1.length<=100000/\(x3.length:Int)<=2+2*x4))=true):Qax x3 x4 y1=Qay x3 x4 y1:=by
 simp only [Ba] at h
 obtain ⟨h1,h2,h3,h4⟩:=h
 obtain ⟨k,rfl⟩:=Bu h1
 revert x3
 refine Q5 y1.1 (fun k=> ∀ x3:List Int,(x3.length:Int)<=2+2*(k:Int)->Qax x3 (k:Int) y1=Qay x3 (k:Int) y1) ?_ ?_ k (by omega)
 ·intro x3 _
  rw [QnS]
  simp [IR,Qay,QD,Qc,Qj,IQ]
 ·intro k hk ih x3 hy
  rw [QnS]
  have l1:=QnM y1.1[k].2.2.2.2.1 x3
  have l2:=QnM y1.1[k].2.2.2.2.2.1 (J9 x3 y1.1[k].2.2.2.2.1)
  simp only [IR,QD,Qc,QI,hk,Br,Qf,Bd,QW (show k<4611686018427387904 by omega),QO (y:=QU) hk]
  rw [show Ub x3 y1.1[k].2.2.2.2.1=true by simp only [Ub,Ba];omega,Qf,show Ub (J9 x3 y1.1[k].2.2.2.2.1) y1.1[k].2.2.2.2.2.1=true by simp only [Ub,Ba];omega,Qf,ih _ (by omega)]
  simp only [Qay,Bd,Bi hk,IQ,Dt]
theorem Qzx:LO QfM QfK QnQ 0:=QN (s:=Qaw) fun x y h _ q=>by simp only [QK,QL] at q;exact (Qzw x.2.1 x.2.2.1 y.1 h).trans q
theorem s_f162 (y:Policy)(h:Jl y=true):QnT y=some (.t (.sl tI) (Yf y),[]):=by
 simp only [Jl,Q2,Bb,Ba] at h
 simp only [QnT,BC,BF]
 rw [Yq ⟨B4 0,by omega,h.1,by decide⟩,Qf,Yf,QDo]
 rfl
def QnU:Ent:=Qo (.pr QE .nil) (fun x=>(Jl x.1)) (fun x=>(.t (.sl tI) (Yf x.1)))
theorem Qzy:EM 162 QnU:=mS (lk:=lkL (lkc Qzx lkn)) QfM QnP [((.t 2),some (.sl tI))] false (gB (gD Qzu gN)) fun m=>Qt m fun x hok=>kT (s_f162 x.1 hok)
end Go.Proofs.YthlcobdnemhcdaaGreat.K
noncomputable section
namespace Go.Proofs.YthlcobdnemhcdaaGreat.K
open Go.RowKit Go.Shelf
attribute [local go_sem] Oper.semAt_some
end Go.Proofs.YthlcobdnemhcdaaGreat.K
noncomputable section
namespace Go.Proofs.YthlcobdnemhcdaaGreat.K
open Go.RowKit
end Go.Proofs.YthlcobdnemhcdaaGreat.K
noncomputable section
namespace Go.Proofs.YthlcobdnemhcdaaGreat.K
open Go.RowKit
end Go.Proofs.YthlcobdnemhcdaaGreat.K
noncomputable section
namespace Go.Proofs.YthlcobdnemhcdaaGreat.K
open Go.RowKit
def orO {α:Type}(a b:Option α):Option α:=match a with
 |some x=>some x
 |none=>b
theorem QgD {RA RB RE:Fun}{a:List V}{o:List VO}{rA rB rE x:OV}(hA:RA a o=rA)(hB:RB a o=rB)(hE:RE a o=rE)(h:orO rA (orO rB rE)=x):orF RA (orF RB RE) a o=x:=by
 unfold orF
 rw [hA,hB,hE]
 cases rA<;>cases rB<;>exact h
def J8 (y:Policy)(i:Item):Bool:=Jl y&&Qyi i.1
theorem QgE {y:Policy}{i:Item}(h:J8 y i=true):(XO y i=true/\i.2.1=1/\QQ y i=true)∨(XO y i=false/\WW y i=true/\i.2.1=2/\QQ y i=true)∨(XO y i=false/\WW y i=false/\GH y i=true/\QQ y i=false):=by
 cases hf:QQ y i with
 |false=>exact .inr (.inr ⟨by simp [XO,hf],by simp [WW,hf],by rw [GH,hf];simpa [J8] using h,rfl⟩)
 |true=>
  have hf2:=hf
  simp only [QQ,Bb] at hf2
  have hk:=(Jn.1 hf2.2).2.1
  by_cases h1:i.2.1=1
  ·exact .inl ⟨by simp [XO,hf,h1,ieq],h1,rfl⟩
  ·have h2:i.2.1=2:=by omega
   exact .inr (.inl ⟨by simp [XO,h2,ieq],by simp [WW,hf,h2,ieq],h2,rfl⟩)
theorem I5 (y:Policy)(i:Item):ine (ofE y i) 0=true:=by
 unfold ofE
 split<;>rfl
theorem GV {y:Policy}{i:Item}(h:QQ y i=true):Q2 (QB y i)=true/\FN (QB y i)=true/\cIx i.2.2.2.1 0=true/\Qs .i64 (Qc i.2.2.2.1) 1=((i.2.2.2.1.length-1:Nat):Int)/\cIx i.2.2.2.1 ((i.2.2.2.1.length-1:Nat):Int)=true:=by
 simp only [QQ,Bb] at h
 have hi:=(Jn.1 h.2).2.2.2.1
 have hl:(QB y i).length=i.2.2.2.1.length:=by simp [QB]
 have h5:Q2 (QB y i)=true:=Be (by omega)
 refine ⟨h5, ?_,by simp only [cIx,Ba];omega, ?_,by simp only [cIx,Ba];omega⟩
 ·rw [FN,h5,By]
  cases hq:QB y i with
  |nil=>rw [hq] at hl;simp at hl;omega
  |cons a l=>rfl
 ·rw [J5 (by unfold Qc;omega)]
  unfold Qc
  omega
def YI (y:Policy)(i:Item):Int×Int:=if QQ y i then (if ieq i.2.1 1 then QmP (QB y i) else Jp (QB y i),0) else (0,ofE y i)
def JX (y:Policy)(i:Item):Int×Bool:=if ieq i.2.1 1 then XS (QB y i) else JN (QB y i)
def Q7 (y:Policy)(i:Item):Int×Bool×Int:=if QQ y i then ((JX y i).1,(JX y i).2,0) else (0,false,ofE y i)
def QgF:TC:=(.sq (.reg (rT Tryz.f111 0)) (.sq (.reg (rT Tryz.f111 1)) (.sq (.sq (.reg (rT Tryz.f111 2)) (.cd (.t 18) (.sq (.reg (rT Tryz.f111 3)) .rt) .sk)) (.sq (.reg (rT Tryz.f111 4)) (.sq (.reg (rT Tryz.f111 5)) .rt)))))
def Qpo:List (RV×Option Ty):=[((.t 4),some tI),((.t 5),some .bool),((.t 6),some tI)]
def Qa5:G:=gG 27 [(91,Qeg),(1000031,Qm2)] (fun _ _=>none)
def I6 (p0:Policy)(p1:Item):OV:=
 let a1:=((ofA p0 p1).1)
 br (XO p0 p1) (br (ine ((ofA p0 p1).2) 0) (some (.tu [(.t tI 0),(.t .bool false),(.t tI ((ofA p0 p1).2))],[])) (br (Q2 a1) (some (.tu [(.t tI ((XS a1).1)),(.t .bool ((XS a1).2)),(.t tI 0)],[])) none)) none
theorem QAI (p0:Policy)(p1:Item):QP Qa5 QgF Qpo false [.t QE p0,.t Qm p1] []=I6 p0 p1:=by kernel_rfl
theorem QAJ:GOk Tryz.prog Qa5:=Jw _ (gA (gC Qlu Qlv (gC QyG QyH gN)))
theorem QAK:QgF.lok Qa5:=by repeat (first|exact trivial|refine ⟨?_, ?_⟩)
theorem QAL:Qp Tryz.prog 111 (QP Qa5 QgF Qpo false):=mG Tryz.func111 (by kernel_rfl) Tryz.ntmps111 (by kernel_rfl) QAJ QAK
def QgG:TC:=(.sq (.reg (rT Tryz.f111 0)) (.sq (.reg (rT Tryz.f111 1)) (.sq (.sq (.reg (rT Tryz.f111 2)) (.cd (.t 18) (.sq (.reg (rT Tryz.f111 3)) .rt) .sk)) (.sq (.reg (rT Tryz.f111 4)) (.sq (.reg (rT Tryz.f111 5)) .rt)))))
def Qpp:List (RV×Option Ty):=[((.t 4),some tI),((.t 5),some .bool),((.t 6),some tI)]
def Qa6:G:=gG 27 [(91,Qeh),(1000031,Qm3)] (fun _ _=>none)
def Qa7 (p0:Policy)(p1:Item):OV:=
 let a1:=((ofA p0 p1).1)
 br (WW p0 p1) (br (ine ((ofA p0 p1).2) 0) (some (.tu [(.t tI 0),(.t .bool false),(.t tI ((ofA p0 p1).2))],[])) (br (FN a1) (some (.tu [(.t tI ((JN a1).1)),(.t .bool ((JN a1).2)),(.t tI 0)],[])) none)) none
theorem QAM (p0:Policy)(p1:Item):QP Qa6 QgG Qpp false [.t QE p0,.t Qm p1] []=Qa7 p0 p1:=by kernel_rfl
theorem QAN:GOk Tryz.prog Qa6:=Jw _ (gA (gC Qlw Qlx (gC QyJ QyK gN)))
theorem QAO:QgG.lok Qa6:=by repeat (first|exact trivial|refine ⟨?_, ?_⟩)
theorem QAP:Qp Tryz.prog 111 (QP Qa6 QgG Qpp false):=mG Tryz.func111 (by kernel_rfl) Tryz.ntmps111 (by kernel_rfl) QAN QAO
def QgH:TC:=(.sq (.reg (rT Tryz.f111 0)) (.sq (.reg (rT Tryz.f111 1)) (.sq (.sq (.reg (rT Tryz.f111 2)) (.cd (.t 18) (.sq (.reg (rT Tryz.f111 3)) .rt) .sk)) (.sq (.reg (rT Tryz.f111 4)) (.sq (.reg (rT Tryz.f111 5)) .rt)))))
def Qpq:List (RV×Option Ty):=[((.t 4),some tI),((.t 5),some .bool),((.t 6),some tI)]
def Qa8:G:=gG 27 [(91,Qei)] (fun _ _=>none)
def QgI (p0:Policy)(p1:Item):OV:=br (GH p0 p1) (br (ine (ofE p0 p1) 0) (some (.tu [(.t tI 0),(.t .bool false),(.t tI (ofE p0 p1))],[])) none) none
theorem QAQ (p0:Policy)(p1:Item):QP Qa8 QgH Qpq false [.t QE p0,.t Qm p1] []=QgI p0 p1:=by kernel_rfl
theorem QAR:GOk Tryz.prog Qa8:=Jw _ (gA (gC Qly Qlz gN))
theorem QAS:QgH.lok Qa8:=by repeat (first|exact trivial|refine ⟨?_, ?_⟩)
theorem QAT:Qp Tryz.prog 111 (QP Qa8 QgH Qpq false):=mG Tryz.func111 (by kernel_rfl) Tryz.ntmps111 (by kernel_rfl) QAR QAS
theorem s_f111 (y:Policy)(i:Item)(h:J8 y i=true):orO (I6 y i) (orO (Qa7 y i) (QgI y i))=some (.tu [.t tI (Q7 y i).1,.t .bool (Q7 y i).2.1,.t tI (Q7 y i).2.2],[]):=by
 rcases QgE h with ⟨a1,a2,a3⟩|⟨a0,a1,a2,a3⟩|⟨a0,b0,a1,a3⟩
 ·obtain ⟨a4,_,a5,_,_⟩:=GV a3
  simp only [I6,a1,Qf,ofA,show ine 0 0=false from rfl,Qj,Q7,JX,a3,if_true,Zw,a2,Br,a4,orO]
 ·obtain ⟨a4,a6,a5,e7,e8⟩:=GV a3
  simp only [I6,Qa7,a0,a1,Qf,ofA,show ine 0 0=false from rfl,Qj,Q7,JX,a3,if_true,Zw,a2,a4,a6,orO]
  rfl
 ·have a2:=I5 y i
  simp only [I6,Qa7,QgI,a0,b0,a1,Qf,Qj,a2,Q7,a3,BE,B8,orO]
def Qpr:Ent:=Qo (.pr QE (.pr Qm .nil)) (fun x=>(J8 x.1 x.2.1)) (fun x=>(.tu [(.t tI ((Q7 x.1 x.2.1).1)),(.t .bool (((Q7 x.1 x.2.1).2).1)),(.t tI (((Q7 x.1 x.2.1).2).2))]))
theorem QAU:Q6 Tryz.prog 111:= .inr ⟨by decide,_,Tryz.func111,by kernel_rfl,by kernel_rfl⟩
theorem QAV:Qp Tryz.prog 111 (Qq Qpr):=Qt (Es QAL (Es QAP QAT)) fun x hok=>QgD (QAI x.1 x.2.1) (QAM x.1 x.2.1) (QAQ x.1 x.2.1) (s_f111 x.1 x.2.1 hok)
def ZK (y:Policy)(i:Item):Int:=if (JN (QB y i)).2 then Qs .i64 (JN (QB y i)).1 1 else 40000
def Q4 (i:Item):Int:=(lgt QH i.2.2.2.1 (i.2.2.2.1.length-1)).2.1
def J2 (y:Policy)(i:Item):Int×Bool×Int:=if QQ y i then (if ieq i.2.1 1 then (0,false,0) else if ZV (QB y i) then (if ile (ZK y i) (Q4 i) then (0,false,0) else (ZK y i,true,0)) else (0,false,0)) else (0,false,ofE y i)
def QgJ:TC:=(.sq (.reg (rT Tryz.f112 0)) (.sq (.reg (rT Tryz.f112 1)) (.sq (.sq (.reg (rT Tryz.f112 2)) (.cd (.t 24) (.sq (.reg (rT Tryz.f112 3)) .rt) .sk)) (.sq (.reg (rT Tryz.f112 4)) (.sq (.sq (.reg (rT Tryz.f112 5)) (.sq (.reg (rT Tryz.f112 6)) (.cd (.t 31) (.reg (rT Tryz.f112 7)) .sk))) (.sq (.sq (.reg (rT Tryz.f112 8)) (.cd (.t 44) (.sq (.reg (rT Tryz.f112 9)) .rt) .sk)) (.sq (.reg (rT Tryz.f112 10)) .rt)))))))
def Qps:List (RV×Option Ty):=[((.t 4),some tI),((.t 5),some .bool),((.t 6),some tI)]
def Qa9:G:=gG 46 [(91,Qeg),(1000031,Qm2),(1000047,QyI)] (fun _ _=>none)
def I7 (p0:Policy)(p1:Item):OV:=
 let a1:=Qs .i64 (Qc p1.2.2.2.1) 1
 let a2:=((ofA p0 p1).1)
 let a3:=(((lgt QH p1.2.2.2.1 (Int.toNat a1)).2).1)
 let a4:=Qs .i64 ((XS a2).1) 1
 let a5:=((ofA p0 p1).2)
 br (XO p0 p1) (br (ine a5 0) (some (.tu [(.t tI 0),(.t .bool false),(.t tI a5)],[])) (br (!(Qff a2)) (some (.tu [(.t tI 0),(.t .bool false),(.t tI a5)],[])) (br (Q2 a2) (br ((XS a2).2) (br (cIx p1.2.2.2.1 a1) (br (ile a4 a3) (some (.tu [(.t tI 0),(.t .bool false),(.t tI 0)],[])) (some (.tu [(.t tI a4),(.t .bool true),(.t tI 0)],[]))) none) (br (cIx p1.2.2.2.1 a1) (br (ile 40000 a3) (some (.tu [(.t tI 0),(.t .bool false),(.t tI 0)],[])) (some (.tu [(.t tI 40000),(.t .bool true),(.t tI 0)],[]))) none)) none))) none
theorem QAW (p0:Policy)(p1:Item):QP Qa9 QgJ Qps false [.t QE p0,.t Qm p1] []=I7 p0 p1:=by kernel_rfl
theorem QAX:GOk Tryz.prog Qa9:=Jw _ (gA (gC Qlu Qlv (gC QyG QyH (gC QK9 QLa gN))))
theorem QAY:QgJ.lok Qa9:=by repeat (first|exact trivial|refine ⟨?_, ?_⟩)
theorem QAZ:Qp Tryz.prog 112 (QP Qa9 QgJ Qps false):=mG Tryz.func112 (by kernel_rfl) Tryz.ntmps112 (by kernel_rfl) QAX QAY
def QgK:TC:=(.sq (.reg (rT Tryz.f112 0)) (.sq (.reg (rT Tryz.f112 1)) (.sq (.sq (.reg (rT Tryz.f112 2)) (.cd (.t 24) (.sq (.reg (rT Tryz.f112 3)) .rt) .sk)) (.sq (.reg (rT Tryz.f112 4)) (.sq (.sq (.reg (rT Tryz.f112 5)) (.sq (.reg (rT Tryz.f112 6)) (.cd (.t 31) (.reg (rT Tryz.f112 7)) .sk))) (.sq (.sq (.reg (rT Tryz.f112 8)) (.cd (.t 44) (.sq (.reg (rT Tryz.f112 9)) .rt) .sk)) (.sq (.reg (rT Tryz.f112 10)) .rt)))))))
def Qpt:List (RV×Option Ty):=[((.t 4),some tI),((.t 5),some .bool),((.t 6),some tI)]
def Qba:G:=gG 46 [(91,Qeh),(1000031,Qm3),(1000047,QyL)] (fun _ _=>none)
def Qbb (p0:Policy)(p1:Item):OV:=
 let a1:=Qs .i64 (Qc p1.2.2.2.1) 1
 let a2:=((ofA p0 p1).1)
 let a3:=(((lgt QH p1.2.2.2.1 (Int.toNat a1)).2).1)
 let a4:=Qs .i64 ((JN a2).1) 1
 let a5:=((ofA p0 p1).2)
 br (WW p0 p1) (br (ine a5 0) (some (.tu [(.t tI 0),(.t .bool false),(.t tI a5)],[])) (br (Q2 a2) (br (!(ZV a2)) (some (.tu [(.t tI 0),(.t .bool false),(.t tI a5)],[])) (br (FN a2) (br ((JN a2).2) (br (cIx p1.2.2.2.1 a1) (br (ile a4 a3) (some (.tu [(.t tI 0),(.t .bool false),(.t tI 0)],[])) (some (.tu [(.t tI a4),(.t .bool true),(.t tI 0)],[]))) none) (br (cIx p1.2.2.2.1 a1) (br (ile 40000 a3) (some (.tu [(.t tI 0),(.t .bool false),(.t tI 0)],[])) (some (.tu [(.t tI 40000),(.t .bool true),(.t tI 0)],[]))) none)) none)) none)) none
theorem QA0 (p0:Policy)(p1:Item):QP Qba QgK Qpt false [.t QE p0,.t Qm p1] []=Qbb p0 p1:=by kernel_rfl
theorem QA1:GOk Tryz.prog Qba:=Jw _ (gA (gC Qlw Qlx (gC QyJ QyK (gC QLb QLc gN))))
theorem QA2:QgK.lok Qba:=by repeat (first|exact trivial|refine ⟨?_, ?_⟩)
theorem QA3:Qp Tryz.prog 112 (QP Qba QgK Qpt false):=mG Tryz.func112 (by kernel_rfl) Tryz.ntmps112 (by kernel_rfl) QA1 QA2
def QgL:TC:=(.sq (.reg (rT Tryz.f112 0)) (.sq (.reg (rT Tryz.f112 1)) (.sq (.sq (.reg (rT Tryz.f112 2)) (.cd (.t 24) (.sq (.reg (rT Tryz.f112 3)) .rt) .sk)) (.sq (.reg (rT Tryz.f112 4)) (.sq (.sq (.reg (rT Tryz.f112 5)) (.sq (.reg (rT Tryz.f112 6)) (.cd (.t 31) (.reg (rT Tryz.f112 7)) .sk))) (.sq (.sq (.reg (rT Tryz.f112 8)) (.cd (.t 44) (.sq (.reg (rT Tryz.f112 9)) .rt) .sk)) (.sq (.reg (rT Tryz.f112 10)) .rt)))))))
def Qpu:List (RV×Option Ty):=[((.t 4),some tI),((.t 5),some .bool),((.t 6),some tI)]
def Qbc:G:=gG 46 [(91,Qei)] (fun _ _=>none)
def QgM (p0:Policy)(p1:Item):OV:=br (GH p0 p1) (br (ine (ofE p0 p1) 0) (some (.tu [(.t tI 0),(.t .bool false),(.t tI (ofE p0 p1))],[])) none) none
theorem QA4 (p0:Policy)(p1:Item):QP Qbc QgL Qpu false [.t QE p0,.t Qm p1] []=QgM p0 p1:=by kernel_rfl
theorem QA5:GOk Tryz.prog Qbc:=Jw _ (gA (gC Qly Qlz gN))
theorem QA6:QgL.lok Qbc:=by repeat (first|exact trivial|refine ⟨?_, ?_⟩)
theorem QA7:Qp Tryz.prog 112 (QP Qbc QgL Qpu false):=mG Tryz.func112 (by kernel_rfl) Tryz.ntmps112 (by kernel_rfl) QA5 QA6
theorem s_f112 (y:Policy)(i:Item)(h:J8 y i=true):orO (I7 y i) (orO (Qbb y i) (QgM y i))=some (.tu [.t tI (J2 y i).1,.t .bool (J2 y i).2.1,.t tI (J2 y i).2.2],[]):=by
 rcases QgE h with ⟨a1,a2,a3⟩|⟨a0,a1,a2,a3⟩|⟨a0,b0,a1,a3⟩
 ·obtain ⟨a4,_,a5,_,_⟩:=GV a3
  simp only [I7,a1,Qf,ofA,show ine 0 0=false from rfl,Qj,J2,a3,if_true,Zw,a2,Br,orO,Qff,DA]
 ·obtain ⟨a4,a6,a5,e7,e8⟩:=GV a3
  simp only [I7,Qbb,a0,a1,Qf,ofA,show ine 0 0=false from rfl,Qj,J2,a3,if_true,Zw,a2,a4,a6,e7,e8,Bd,orO]
  simp only [show decide ((2:Int)=1)=false from rfl,BE,B8]
  have hd:(lgt QH i.2.2.2.1 (i.2.2.2.1.length-1)).2.1=Q4 i:=rfl
  rw [hd]
  by_cases q1:ZV (QB y i)=true
  ·rw [if_pos q1,q1,BK,Qj]
   by_cases q2:(JN (QB y i)).2=true
   ·have e9:ZK y i=Qs .i64 (JN (QB y i)).1 1:=by unfold ZK;rw [if_pos q2]
    rw [q2,Qf,e9]
    by_cases q3:ile (Qs .i64 (JN (QB y i)).1 1) (Q4 i)=true
    ·rw [if_pos q3,q3]
     rfl
    ·rw [if_neg q3,show ile (Qs .i64 (JN (QB y i)).1 1) (Q4 i)=false by simpa using q3]
     rfl
   ·have e9:ZK y i=40000:=by unfold ZK;rw [if_neg q2]
    rw [show (JN (QB y i)).2=false by simpa using q2,Qj,e9]
    by_cases q3:ile 40000 (Q4 i)=true
    ·rw [if_pos q3,q3]
     rfl
    ·rw [if_neg q3,show ile 40000 (Q4 i)=false by simpa using q3]
     rfl
  ·rw [if_neg q1,show ZV (QB y i)=false by simpa using q1]
   rfl
 ·have a2:=I5 y i
  simp only [I7,Qbb,QgM,a0,b0,a1,Qf,Qj,a2,J2,a3,BE,B8,orO]
def Qpv:Ent:=Qo (.pr QE (.pr Qm .nil)) (fun x=>(J8 x.1 x.2.1)) (fun x=>(.tu [(.t tI ((J2 x.1 x.2.1).1)),(.t .bool (((J2 x.1 x.2.1).2).1)),(.t tI (((J2 x.1 x.2.1).2).2))]))
theorem QA8:Q6 Tryz.prog 112:= .inr ⟨by decide,_,Tryz.func112,by kernel_rfl,by kernel_rfl⟩
theorem QA9:Qp Tryz.prog 112 (Qq Qpv):=Qt (Es QAZ (Es QA3 QA7)) fun x hok=>QgD (QAW x.1 x.2.1) (QA0 x.1 x.2.1) (QA4 x.1 x.2.1) (s_f112 x.1 x.2.1 hok)
end Go.Proofs.YthlcobdnemhcdaaGreat.K
noncomputable section
namespace Go.Proofs.YthlcobdnemhcdaaGreat.K
open Go.RowKit
def cnd (a x:LinkX):Bool:= !a.2.2.1||ilt x.1 a.2.1
end Go.Proofs.YthlcobdnemhcdaaGreat.K
noncomputable section
namespace Go.Proofs.YthlcobdnemhcdaaGreat.K
open Go.RowKit
theorem fallI {y:Policy}{u:Keep}{p f:Int}(h:Jr y=true)(hf:JW (Jk y u p)=(f,true)):0<=f/\f<=40000:=by
 rcases QhY (u:=u) (p:=p) h with ⟨e,ef⟩|⟨l,s,e,g1,g2,g3,g4,ef⟩
 ·rw [ef] at hf
  injection hf with hf _
  omega
 ·rw [ef] at hf
  split at hf
  ·injection hf with hf _
   omega
  ·injection hf with _ hf
   cases hf
theorem QGt (x:LinkX):(J6 x).1=max x.1 x.2.1:=by
 show imx x.1 x.2.1=_
 unfold imx
 split<;>omega
theorem Qu2 (l:List LinkX):JN l=if (J6 (Zf l)).2 then ((J6 (Zf l)).1,true) else (0,false):=rfl
theorem Qu3 {l:List LinkX}:(JN l).2=true↔(Zf l).2.2.1=true:=by
 rw [Qu2]
 show (if (Zf l).2.2.1 then ((J6 (Zf l)).1,true) else (0,false)).2=true↔_
 split<;>simp [*]
theorem QGu {l:List LinkX}(h:(Zf l).2.2.1=true):JN l=((J6 (Zf l)).1,true):=by
 rw [Qu2]
 exact if_pos h
theorem QGv {a b:LinkX}:cnd a b=false↔a.2.2.1=true/\a.2.1<=b.1:=by
 unfold cnd ilt
 rw [Bool.or_eq_false_iff,Bool.not_eq_false',Bn,Int.not_lt]
theorem Qu4: ∀ {l:List Link} {pv:Option Int},Z8 pv l=true->l.Pairwise (fun x y=>x.2.1<y.2.1)∧ ∀ d,pv=some d→ ∀ x,x∈l->d<x.2.1
 | [],_,_=>⟨List.Pairwise.nil,fun d _ x hx=>(by cases hx)⟩
 |a::l,pv,h=>by
  rw [Gg,Bb,Bb,Bb] at h
  obtain ⟨h1,h2⟩:=Qu4 h.2
  refine ⟨Dj.2 ⟨fun x hx=>h2 a.2.1 rfl x hx,h1⟩,fun d hd x hx=> ?_⟩
  subst hd
  have h3:a.2.1 > d:=BJ h.1.2
  rcases BB.1 hx with rfl|hx
  ·exact h3
  ·have:=h2 a.2.1 rfl x hx
   omega
end Go.Proofs.YthlcobdnemhcdaaGreat.K
noncomputable section
namespace Go.Proofs.YthlcobdnemhcdaaGreat.K
open Go.RowKit
def X7 (l:List Link):List Link:=l
def QcJ:Ent:=XW (.pr (.sl QH) .nil) (fun x=>(Q2 x.1)) (fun x=>(.ms 50000)) (fun x=>[.arr 45 QH (X7 x.1)])
theorem QjD:Q6 Tryz.prog 93:= .inr ⟨by decide,_,Tryz.func93,by kernel_rfl,by kernel_rfl⟩
theorem QEp:ElemOk Tryz.prog 60 45 3 24:=ElemOk.of (.agg #[.int .i64 0,.int .i64 0,.int .i64 0]) (by kernel_rfl) (by kernel_rfl) (by kernel_rfl) (by decide)
theorem QEq {P:Program}(w:World)(t e:TypeId)(a:Option Addr)(l c:Nat)(h:P.underlying t=some (.slice e)):(binOp .eql t (.slice a l c) (.slice none 0 0)).run P w= .ok (.bool a.isNone) w:=by
 simp [binOp,run_equal_slice_nil w t e a l c h]
set_option maxHeartbeats 400000 in
theorem QEr (A:Option Addr)(c n:Nat)(cells:List Value)(w:World)(h:Sl w (.slice A n c) 3 n cells)(h1: ∀ u∈cells,u.oneCell'=true)(hn:n<=100000):
  Calls Tryz.prog 93 #[.slice A n c] w fun r w'=> ∃ sv,r= .returned sv/\w'.ownsRow w.heap.size 45 3 sv n cells/\Below w.heap.size w w':=by
 have he:=QEq (P:=Tryz.prog) w 60 45 A n c (by kernel_rfl)
 rcases A with _|ad
 ·have hnil:n=0:=Dy fun h0=>by
   obtain ⟨_,A',c',hv,_,_,h3⟩:=h
   obtain ⟨b,off,e,_⟩:=h3 (by omega)
   rw [e] at hv
   simp at hv
  subst hnil
  have hc:cells=[]:=Bt (by rw [h.1,DR])
  subst hc
  clear h
  simp only [D3] at he
  go_enter Tryz.func93,Tryz.ntmps93
  go_wp2_with fail
  go_ret
  exact ⟨_,rfl,World.ownsRow_nil _ _ _ _,Below.refl _ _⟩
 ·simp only [D4] at he
  have hown:=World.ownsRow_made w #[] (size:=3) (e:=45) 0 (Bw _) (B3 _) rfl
  have hsrc:=h.alloc (.cells #[] 45)
  have HSRC:=Lib.hid hsrc
  clear h hsrc
  go_enter Tryz.func93,Tryz.ntmps93
  go_wp2_with (at_builtin;refine E3 QEp rfl _ _ rfl w.heap.size (.slice (some ⟨w.heap.size,0,none⟩) 0 0) 0 [] rfl hown (some ad) n c cells rfl HSRC.out h1 (by omega) (by omega) (by simp) ?_;intro v' w4 hown4 hg4 hat4)
  go_ret
  refine ⟨v',rfl,by simpa using hown4, ?_⟩
  have hal:=(Below.refl w.heap.size w).alloc (Bw _) (.cells #[] 45)
  exact GB hal hg4 (Bw _) hal.size
theorem QjE:Qp Tryz.prog 93 (Qq QcJ):=
 Qdv (e:=45) (y:=QH) (by decide) (fun x hx=>BJ hx) fun A c n cells w h h1 hn=>QEr A c n cells w h h1 hn
end Go.Proofs.YthlcobdnemhcdaaGreat.K
noncomputable section
namespace Go.Proofs.YthlcobdnemhcdaaGreat.K
open Go.RowKit
def Gz:Item:=(ByteArray.mk #[],(0,(0,(([]:List Link),(0,())))))
def Zn (y:Policy)(i:Item)(u:Keep)(day:Int):Int:=if QQ y i=false then ofE y i else if Je u=false then 7 else if day<=Q4 i∨40000<day then 13 else if i.2.2.2.1.length=8 then 3 else 0
def Q8 (i:Item)(u:Keep)(day:Int):Item:=(i.1,(i.2.1,(i.2.2.1,(i.2.2.2.1++[(u,(day,()))],(i.2.2.2.2.1,())))))
def Yc (y:Policy)(i:Item)(u:Keep)(day:Int):Item×Int:=if Zn y i u day=0 then (Q8 i u day,0) else (Gz,Zn y i u day)
def Qdw (y:Policy)(i:Item)(_u:Keep)(_day:Int):Bool:=J8 y i
def QGx:List DO:=dT Tryz.f54 10
def Qks:TC:=(.sq (.reg (rT Tryz.f54 0)) (.sq (.reg (rT Tryz.f54 1)) (.sq (.bk 0 (.sq (.reg (rT Tryz.f54 2)) (.cd (.t 18) (.sq (.reg (rT Tryz.f54 3)) .rt) (.sq (.reg (rT Tryz.f54 4)) (.cd (.t 23) (.sq (.reg (rT Tryz.f54 5)) .rt) (.sq (.reg (rT Tryz.f54 6)) (.cd (.t 28) (.sq (.reg (rT Tryz.f54 7)) .rt) (.sq (.reg (rT Tryz.f54 8)) (.cd (.t 45) (.sq (.reg (rT Tryz.f54 9)) .rt) .sk))))))))) (.sq (.dr QGx [(0,[5,53,58,5053,10053,15053]),(1,[5,53,58,5053,10053,15053]),(2,[5,8,53,58,5053,10053,15053]),(3,[6]),(4,[]),(5,[]),(6,[]),(7,[5,8,53,58,5053,5058,10053,10058,15053,15058]),(8,[5,53,58,5053,10053,15053]),(9,[5,8,53,58,5053,10053,15053])] (.of [0,1,3,4,5,6,2,7,8,9])) (.sq (.reg (rT Tryz.f54 11)) .rt)))))
def Qu5:List (RV×Option Ty):=[((.c 8 true 5),some Qm),((.t 9),some tI)]
def Qdx:G:=gG 61 [(91,Qeg),(92,Gm),(93,QcJ)] (fun _ _=>none)
def Vy (p0:Policy)(p1:Item)(p2:Keep)(p3:Int):OV:=
 let a1:=ByteArray.mk #[]
 let a2:=((p2.1,(p2.2.1,())),(p3,()))
 let a3:=Qc p1.2.2.2.1
 br (XO p0 p1) (br (ine ((ofA p0 p1).2) 0) (some (.tu [(.t Qm (a1,(0,(0,(([]:List Link),(0,())))))),(.t tI ((ofA p0 p1).2))],[])) (br (!(Je p2)) (some (.tu [(.t Qm (a1,(0,(0,(([]:List Link),(0,())))))),(.t tI 7)],[])) (br (cIx p1.2.2.2.1 (Qs .i64 a3 1)) (br (ile p3 (((lgt QH p1.2.2.2.1 (Int.toNat (Qs .i64 a3 1))).2).1)) (some (.tu [(.t Qm (a1,(0,(0,(([]:List Link),(0,())))))),(.t tI 13)],[])) (br (igt p3 40000) (some (.tu [(.t Qm (a1,(0,(0,(([]:List Link),(0,())))))),(.t tI 13)],[])) (br (ieq a3 8) (some (.tu [(.t Qm (a1,(0,(0,(([]:List Link),(0,())))))),(.t tI 3)],[])) (br (Q2 p1.2.2.2.1) (br (Qx (X7 p1.2.2.2.1) ([a2]) 24) (some (.tu [(.t Qm (p1.1,(p1.2.1,(p1.2.2.1,(((X7 p1.2.2.2.1)++([a2])),(p1.2.2.2.2.1,())))))),(.t tI 0)],[])) none) none)))) none))) none
theorem e_f54A (p0:Policy)(p1:Item)(p2:Keep)(p3:Int):QP Qdx Qks Qu5 false [.t QE p0,.t Qm p1,.t Qi p2,.t tI p3] []=Vy p0 p1 p2 p3:=by kernel_rfl
theorem QGy:GOk Tryz.prog Qdx:=Jw _ (gA (gC Qlu Qlv (gD G9 (gC QjD QjE gN))))
theorem QGz:Qks.lok Qdx:=by repeat (first|exact trivial|refine ⟨?_, ?_⟩)
theorem QGA:Qp Tryz.prog 54 (QP Qdx Qks Qu5 false):=mG Tryz.func54 (by kernel_rfl) Tryz.ntmps54 (by kernel_rfl) QGy QGz
def QGB:List DO:=dT Tryz.f54 10
def Qkt:TC:=(.sq (.reg (rT Tryz.f54 0)) (.sq (.reg (rT Tryz.f54 1)) (.sq (.bk 0 (.sq (.reg (rT Tryz.f54 2)) (.cd (.t 18) (.sq (.reg (rT Tryz.f54 3)) .rt) (.sq (.reg (rT Tryz.f54 4)) (.cd (.t 23) (.sq (.reg (rT Tryz.f54 5)) .rt) (.sq (.reg (rT Tryz.f54 6)) (.cd (.t 28) (.sq (.reg (rT Tryz.f54 7)) .rt) (.sq (.reg (rT Tryz.f54 8)) (.cd (.t 45) (.sq (.reg (rT Tryz.f54 9)) .rt) .sk))))))))) (.sq (.dr QGB [(0,[5,53,58,5053,10053,15053]),(1,[5,53,58,5053,10053,15053]),(2,[5,8,53,58,5053,10053,15053]),(3,[6]),(4,[]),(5,[]),(6,[]),(7,[5,8,53,58,5053,5058,10053,10058,15053,15058]),(8,[5,53,58,5053,10053,15053]),(9,[5,8,53,58,5053,10053,15053])] (.of [0,1,3,4,5,6,2,7,8,9])) (.sq (.reg (rT Tryz.f54 11)) .rt)))))
def Qu6:List (RV×Option Ty):=[((.c 8 true 5),some Qm),((.t 9),some tI)]
def Qdy:G:=gG 61 [(91,Qeh),(92,Gm),(93,QcJ)] (fun _ _=>none)
def Qdz (p0:Policy)(p1:Item)(p2:Keep)(p3:Int):OV:=
 let a1:=ByteArray.mk #[]
 let a2:=((p2.1,(p2.2.1,())),(p3,()))
 let a3:=Qc p1.2.2.2.1
 br (WW p0 p1) (br (ine ((ofA p0 p1).2) 0) (some (.tu [(.t Qm (a1,(0,(0,(([]:List Link),(0,())))))),(.t tI ((ofA p0 p1).2))],[])) (br (!(Je p2)) (some (.tu [(.t Qm (a1,(0,(0,(([]:List Link),(0,())))))),(.t tI 7)],[])) (br (cIx p1.2.2.2.1 (Qs .i64 a3 1)) (br (ile p3 (((lgt QH p1.2.2.2.1 (Int.toNat (Qs .i64 a3 1))).2).1)) (some (.tu [(.t Qm (a1,(0,(0,(([]:List Link),(0,())))))),(.t tI 13)],[])) (br (igt p3 40000) (some (.tu [(.t Qm (a1,(0,(0,(([]:List Link),(0,())))))),(.t tI 13)],[])) (br (ieq a3 8) (some (.tu [(.t Qm (a1,(0,(0,(([]:List Link),(0,())))))),(.t tI 3)],[])) (br (Q2 p1.2.2.2.1) (br (Qx (X7 p1.2.2.2.1) ([a2]) 24) (some (.tu [(.t Qm (p1.1,(p1.2.1,(p1.2.2.1,(((X7 p1.2.2.2.1)++([a2])),(p1.2.2.2.2.1,())))))),(.t tI 0)],[])) none) none)))) none))) none
theorem e_f54B (p0:Policy)(p1:Item)(p2:Keep)(p3:Int):QP Qdy Qkt Qu6 false [.t QE p0,.t Qm p1,.t Qi p2,.t tI p3] []=Qdz p0 p1 p2 p3:=by kernel_rfl
theorem QGC:GOk Tryz.prog Qdy:=Jw _ (gA (gC Qlw Qlx (gD G9 (gC QjD QjE gN))))
theorem QGD:Qkt.lok Qdy:=by repeat (first|exact trivial|refine ⟨?_, ?_⟩)
theorem QGE:Qp Tryz.prog 54 (QP Qdy Qkt Qu6 false):=mG Tryz.func54 (by kernel_rfl) Tryz.ntmps54 (by kernel_rfl) QGC QGD
def QGF:List DO:=dT Tryz.f54 10
def Qku:TC:=(.sq (.reg (rT Tryz.f54 0)) (.sq (.reg (rT Tryz.f54 1)) (.sq (.bk 0 (.sq (.reg (rT Tryz.f54 2)) (.cd (.t 18) (.sq (.reg (rT Tryz.f54 3)) .rt) (.sq (.reg (rT Tryz.f54 4)) (.cd (.t 23) (.sq (.reg (rT Tryz.f54 5)) .rt) (.sq (.reg (rT Tryz.f54 6)) (.cd (.t 28) (.sq (.reg (rT Tryz.f54 7)) .rt) (.sq (.reg (rT Tryz.f54 8)) (.cd (.t 45) (.sq (.reg (rT Tryz.f54 9)) .rt) .sk))))))))) (.sq (.dr QGF [(0,[5,53,58,5053,10053,15053]),(1,[5,53,58,5053,10053,15053]),(2,[5,8,53,58,5053,10053,15053]),(3,[6]),(4,[]),(5,[]),(6,[]),(7,[5,8,53,58,5053,5058,10053,10058,15053,15058]),(8,[5,53,58,5053,10053,15053]),(9,[5,8,53,58,5053,10053,15053])] (.of [0,1,3,4,5,6,2,7,8,9])) (.sq (.reg (rT Tryz.f54 11)) .rt)))))
def Qu7:List (RV×Option Ty):=[((.c 8 true 5),some Qm),((.t 9),some tI)]
def QdA:G:=gG 61 [(91,Qei),(92,Gm),(93,QcJ)] (fun _ _=>none)
def Qkv (p0:Policy)(p1:Item)(p2:Keep)(p3:Int):OV:=
 let a1:=ByteArray.mk #[]
 let a2:=((p2.1,(p2.2.1,())),(p3,()))
 let a3:=Qc p1.2.2.2.1
 br (GH p0 p1) (br (ine (ofE p0 p1) 0) (some (.tu [(.t Qm (a1,(0,(0,(([]:List Link),(0,())))))),(.t tI (ofE p0 p1))],[])) (br (!(Je p2)) (some (.tu [(.t Qm (a1,(0,(0,(([]:List Link),(0,())))))),(.t tI 7)],[])) (br (cIx p1.2.2.2.1 (Qs .i64 a3 1)) (br (ile p3 (((lgt QH p1.2.2.2.1 (Int.toNat (Qs .i64 a3 1))).2).1)) (some (.tu [(.t Qm (a1,(0,(0,(([]:List Link),(0,())))))),(.t tI 13)],[])) (br (igt p3 40000) (some (.tu [(.t Qm (a1,(0,(0,(([]:List Link),(0,())))))),(.t tI 13)],[])) (br (ieq a3 8) (some (.tu [(.t Qm (a1,(0,(0,(([]:List Link),(0,())))))),(.t tI 3)],[])) (br (Q2 p1.2.2.2.1) (br (Qx (X7 p1.2.2.2.1) ([a2]) 24) (some (.tu [(.t Qm (p1.1,(p1.2.1,(p1.2.2.1,(((X7 p1.2.2.2.1)++([a2])),(p1.2.2.2.2.1,())))))),(.t tI 0)],[])) none) none)))) none))) none
theorem e_f54E (p0:Policy)(p1:Item)(p2:Keep)(p3:Int):QP QdA Qku Qu7 false [.t QE p0,.t Qm p1,.t Qi p2,.t tI p3] []=Qkv p0 p1 p2 p3:=by kernel_rfl
theorem QGG:GOk Tryz.prog QdA:=Jw _ (gA (gC Qly Qlz (gD G9 (gC QjD QjE gN))))
theorem QGH:Qku.lok QdA:=by repeat (first|exact trivial|refine ⟨?_, ?_⟩)
theorem QGI:Qp Tryz.prog 54 (QP QdA Qku Qu7 false):=mG Tryz.func54 (by kernel_rfl) Tryz.ntmps54 (by kernel_rfl) QGG QGH
theorem Qu8 {y:Policy}{i:Item}{u:Keep}{day:Int}(h:QQ y i=true)(a5:ofE y i=ofE y i):
  br (!(Je u)) (some (V.tu [(.t Qm Gz),(.t tI 7)],[])) (br (cIx i.2.2.2.1 (Qs .i64 (Qc i.2.2.2.1) 1)) (br (ile day (lgt QH i.2.2.2.1 (Int.toNat (Qs .i64 (Qc i.2.2.2.1) 1))).2.1) (some (.tu [(.t Qm Gz),(.t tI 13)],([]:List VO))) (br (igt day 40000) (some (.tu [(.t Qm Gz),(.t tI 13)],[])) (br (ieq (Qc i.2.2.2.1) 8) (some (.tu [(.t Qm Gz),(.t tI 3)],[])) (br (Q2 i.2.2.2.1) (br (Qx (X7 i.2.2.2.1) ([((u.1,(u.2.1,())),(day,()))]) 24) (some (.tu [(.t Qm (i.1,(i.2.1,(i.2.2.1,(((X7 i.2.2.2.1)++([((u.1,(u.2.1,())),(day,()))])),(i.2.2.2.2.1,())))))),(.t tI 0)],[])) none) none)))) none)=some (.tu [.t Qm (Yc y i u day).1,.t tI (Yc y i u day).2],[]):=by
 obtain ⟨_,_,_,e7,e8⟩:=GV h
 have hf:=h
 simp only [QQ,Bb] at hf
 have hl:=(Jn.1 hf.2).2.2.2.1
 have c1:Q2 i.2.2.2.1=true:=Be (by omega)
 have c2:Qx (X7 i.2.2.2.1) ([((u.1,(u.2.1,())),(day,()))]) 24=true:=Wr (by simp [X7];omega) (by omega)
 rw [e7,e8,c1,c2]
 simp only [Qf,Bd]
 have hd:(lgt QH i.2.2.2.1 (i.2.2.2.1.length-1)).2.1=Q4 i:=rfl
 rw [hd]
 have e0:Zn y i u day=if Je u=false then 7 else if day<=Q4 i∨40000<day then 13 else if i.2.2.2.1.length=8 then 3 else 0:=by
  unfold Zn
  rw [if_neg (show ¬ QQ y i=false by rw [h];simp)]
 have fin: ∀ n, ¬ n=0->Zn y i u day=n->some (V.tu [(.t Qm Gz),(.t tI n)],([]:List VO))=some (.tu [.t Qm (Yc y i u day).1,.t tI (Yc y i u day).2],[]):=fun n hn e=>by
  unfold Yc
  rw [e,if_neg hn]
 cases hv:Je u with
 |false=>
  rw [hv,if_pos rfl] at e0
  exact fin 7 (by omega) e0
 |true=>
  rw [hv,if_neg (show ¬ true=false by simp)] at e0
  rw [BK,Qj]
  refine QV (fun g=> ?_) (fun g1=>QV (fun g=> ?_) (fun g2=>QV (fun g=> ?_) (fun g3=> ?_)))
  ·rw [if_pos (.inl (BJ g))] at e0
   exact fin 13 (by omega) e0
  ·rw [if_pos (.inr (BJ g))] at e0
   exact fin 13 (by omega) e0
  ·have g1:=Du g1
   have g2:=Du g2
   simp only [Zw,Qc,Ba] at g
   rw [if_neg (by omega),if_pos (by omega)] at e0
   exact fin 3 (by omega) e0
  ·have g1:=Du g1
   have g2:=Du g2
   simp only [Zw,Qc,Bn] at g3
   rw [if_neg (by omega),if_neg (by omega)] at e0
   unfold Yc
   rw [if_pos e0]
   rfl
theorem s_f54 (y:Policy)(i:Item)(u:Keep)(day:Int)(h:Qdw y i u day=true):orO (Vy y i u day) (orO (Qdz y i u day) (Qkv y i u day))=some (.tu [.t Qm (Yc y i u day).1,.t tI (Yc y i u day).2],[]):=by
 rcases QgE (show J8 y i=true from h) with ⟨a1,a2,a3⟩|⟨a0,a1,a2,a3⟩|⟨a0,b0,a1,a3⟩
 ·unfold Vy
  rw [a1,Qf,show ine (ofA y i).2 0=false from rfl,Qj]
  have:=Qu8 (u:=u) (day:=day) a3 rfl
  unfold Gz at this
  rw [this]
  rfl
 ·unfold Vy Qdz
  rw [a0,a1,Qf,Qj,show ine (ofA y i).2 0=false from rfl,Qj]
  have:=Qu8 (u:=u) (day:=day) a3 rfl
  unfold Gz at this
  rw [this]
  rfl
 ·have a2:=I5 y i
  have a4:Zn y i u day=ofE y i:=by unfold Zn;rw [if_pos a3]
  have a5: ¬ ofE y i=0:=by simpa [ine] using a2
  unfold Vy Qdz Qkv
  rw [a0,b0,a1,Qf,Qj,a2,Qf]
  unfold Yc
  rw [a4,if_neg a5]
  rfl
def Qu9:Ent:=Qo (.pr QE (.pr Qm (.pr Qi (.pr tI .nil)))) (fun x=>(Qdw x.1 x.2.1 x.2.2.1 x.2.2.2.1)) (fun x=>(.tu [(.t Qm ((Yc x.1 x.2.1 x.2.2.1 x.2.2.2.1).1)),(.t tI ((Yc x.1 x.2.1 x.2.2.1 x.2.2.2.1).2))]))
theorem en_f54:Q6 Tryz.prog 54:= .inr ⟨by decide,_,Tryz.func54,by kernel_rfl,by kernel_rfl⟩
theorem ms_f54:Qp Tryz.prog 54 (Qq Qu9):=Qt (Es QGA (Es QGE QGI)) fun x hok=>QgD (e_f54A x.1 x.2.1 x.2.2.1 x.2.2.2.1) (e_f54B x.1 x.2.1 x.2.2.1 x.2.2.2.1) (e_f54E x.1 x.2.1 x.2.2.1 x.2.2.2.1) (s_f54 x.1 x.2.1 x.2.2.1 x.2.2.2.1 hok)
end Go.Proofs.YthlcobdnemhcdaaGreat.K
