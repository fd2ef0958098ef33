import Derived.Test.YtkmobehaikjdjaaGreatQ6
import Derived.Test.YtkmobehaikjdjaaGreatQ3
import Derived.RangeFuncCalls
import Derived.RangeFuncBound
import Derived.Shelf.RegionOpen
import Derived.OwnWalkIn
import Derived.TacticsInMore
import Derived.LoopNIn
import Derived.LoopIn
import Derived.Lib.SliceRun
set_option maxRecDepth 100000
set_option linter.unusedSimpArgs false
set_option linter.unusedVariables false
noncomputable section
namespace Go.Proofs.YtkmobehaikjdjaaGreat
namespace K
open Go.RowKit
def YQ (s:Ac)(o:List Int)(v:Int)(k:Nat):List Aa:=((List.range' k (17-k)).filter fun (j:Nat)=>Xz s o v (j:Int)).map fun (j:Nat)=>(v,((j:Int),()))
theorem QRm {s:Ac}{o:List Int}{v:Int}{k:Nat}(hk:k<17):YQ s o v k=if Xz s o v (k:Int)=true then (v,((k:Int),()))::YQ s o v (k+1) else YQ s o v (k+1):=by
 have:17-k=(17-(k+1))+1:=by omega
 unfold YQ
 rw [this,Dr,DU]
 split<;>rfl
theorem QRn (s:Ac)(o:List Int)(v:Int)(k:Nat):(YQ s o v k).length<=17-k:=by
 unfold YQ
 rw [BT]
 exact B5 (DG _ _) (Nat.le_of_eq List.length_range')
def XM (s:Ac)(o:List Int)(v n:Nat):List Aa:=(List.range' v n).flatMap fun (j:Nat)=>YQ s o (j:Int) 1
abbrev hiC (c s:Ac):Int:=imn c.2.2.1 s.2.2.1
abbrev loC (c s:Ac):Int:=imx c.2.1 s.2.1
def Xo (c s:Ac):List Aa:=bif !Uw c s then [] else XM s (QI c) (loC c s).toNat (hiC c s+1-loC c s).toNat
abbrev Qgj:Sh:=⟨[(2,.ptr 2 0),(3,.ptr 3 0),(5,.ms 5),(6,.ty tI),(7,.ty tI)],[(2,.box Qp),(3,.box Qp),(5,.arr 108 Qe),(45,.no)]⟩
abbrev Qbc:Sh:=⟨[(2,.ptr 2 0),(3,.ptr 3 0),(5,.ms 5),(6,.ty tI)],[(2,.box Qp),(3,.box Qp),(5,.arr 108 Qe),(45,.no)]⟩
abbrev QAM:Sh:=⟨[(5,.ms 5)],[(5,.arr 108 Qe),(45,.no)]⟩
def QoA:Fg:=Qgj.f
def QoB:Fg:=Qbc.f
def QoC:TC:=aF Tryz.f76 [(122,.nw 5 108),(122,pL 1 QoB),(1955,.fg QAM.f),(7826,.nw 5 108),(7826,pL 0 QoA),(125219,.fg Qbc.f)]
def QAN:TC:=lb 0 QoC
def QAO:TC:=lb 1 QoC
def QAP (x6 x7:Int)(y2 y3:Ac)(y5:List Aa):VS:=Qgj.st ((),(),(),x6,x7,()) (y2,y3,y5,(),())
def Qbd (x6:Int)(y2 y3:Ac)(y5:List Aa):VS:=Qbc.st ((),(),(),x6,()) (y2,y3,y5,(),())
def QoD (y5:List Aa):VS:=QAM.st ((),()) (y5,(),())
def QRo:VS->Option (Bool×List (Bool×Exit×VS)):=mkL Qgj (fun x y=>(decide (1<=x.2.2.2.2.1/\x.2.2.2.2.1<=17/\(y.2.2.1.length:Int)<=200+x.2.2.2.2.1)&&YW y.2.1 (QI y.1))) (fun x y=>[(true,.exit 2,Qbd (x.2.2.2.1) (y.1) (y.2.1) (y.2.2.1++YQ y.2.1 (QI y.1) x.2.2.2.1 x.2.2.2.2.1.toNat))])
def QRp:VS->Option (Bool×List (Bool×Exit×VS)):=mkL Qbc (fun x y=>(decide (1<=x.2.2.2.1/\x.2.2.2.1<=5/\hiC y.1 y.2.1<=4/\(y.2.2.1.length:Int)<=16*x.2.2.2.1)&&YW y.2.1 (QI y.1))) (fun x y=>[(true,.exit 0,QoD (y.2.2.1++XM y.2.1 (QI y.1) x.2.2.2.1.toNat (hiC y.1 y.2.1+1-x.2.2.2.1).toNat))])
def Qbe:G:=gG 47 [(71,VA),(124,QJh)] (Ls [QRo,QRp])
def Qgk (x6 x7:Int)(y2 y3:Ac)(y5:List Aa):OX:=Qu (Qx Qbe QoA QAN) (QAP x6 x7 y2 y3 y5)
def Qbf (kk:Int->Int->Ac->Ac->List Aa->OX)(x6 x7:Int)(y2 y3:Ac)(y5:List Aa):OX:=br (ile x7 16) (br (QcW y3 y2.2.2.2.1 x6 x7) (br (Xz y3 y2.2.2.2.1 x6 x7) (br (Qt y5 ([(x6,(x7,()))]) 16) (kk x6 (Qi .i64 x7 1) y2 y3 (y5++([(x6,(x7,()))]))) none) (kk x6 (Qi .i64 x7 1) y2 y3 y5)) none) (some (.exit 2,Qbd x6 y2 y3 y5))
def Qgl (x6 x7:Int)(y2 y3:Ac)(y5:List Aa):OX:=some (.exit 2,Qbd (x6) (y2) (y3) (y5++YQ y3 (QI y2) x6 x7.toNat))
theorem QAQ (x6 x7 y2 y3 y5):Qgk x6 x7 y2 y3 y5=Qbf Qgk x6 x7 y2 y3 y5:=lnT (x:=Qbf (fun x6 x7 y2 y3 y5=>some (.normal,QAP x6 x7 y2 y3 y5)) x6 x7 y2 y3 y5) (by simp only [Qbf,nxA];rfl)
def Qgm (x6:Int)(y2 y3:Ac)(y5:List Aa):OX:=Qu (Qx Qbe QoB QAO) (Qbd x6 y2 y3 y5)
def Oh (kk:Int->Ac->Ac->List Aa->OX)(x6:Int)(y2 y3:Ac)(y5:List Aa):OX:=br (ile x6 (imn y2.2.2.1 y3.2.2.1)) (br (decide (1<=(1:Int)/\(1:Int)<=17/\(y5.length:Int)<=200+(1:Int))&&YW y3 (QI y2)) (kk (Qi .i64 (x6) 1) (y2) (y3) (y5++YQ y3 (QI y2) x6 (1:Int).toNat)) none) (some (.exit 0,QoD y5))
def Qbg (x6:Int)(y2 y3:Ac)(y5:List Aa):OX:=some (.exit 0,QoD (y5++XM y3 (QI y2) x6.toNat (hiC y2 y3+1-x6).toNat))
theorem QAR (x6 y2 y3 y5):Qgm x6 y2 y3 y5=Oh Qgm x6 y2 y3 y5:=lnT (x:=Oh (fun x6 y2 y3 y5=>some (.normal,Qbd x6 y2 y3 y5)) x6 y2 y3 y5) (by simp only [Oh,nxA];rfl)
def r_f76 (p0 p1:Ac):OV:=
 let a1:=imx p0.2.1 p1.2.1
 br (QY p0) (br (ine (Zy p0) 0) (some (.t (.sl Qe) ([]:List Aa),[])) (br (QY p1) (br (ine (Zy p1) 0) (some (.t (.sl Qe) ([]:List Aa),[])) (br (decide (1<=a1/\a1<=5/\hiC p0 p1<=4/\(([]:List Aa).length:Int)<=16*a1)&&YW p1 (QI p0)) (some (.t (.sl Qe) (([]:List Aa)++XM p1 (QI p0) a1.toNat (hiC p0 p1+1-a1).toNat),[])) none)) none)) none
theorem QRq (x6 x7:Int)(y2 y3:Ac)(y5:List Aa)(h:(decide (1<=x7/\x7<=17/\(y5.length:Int)<=200+x7)&&YW y3 (QI y2))=true):Qgk x6 x7 y2 y3 y5=Qgl x6 x7 y2 y3 y5:=by
 obtain ⟨h,hc⟩:=Bf.1 h
 obtain ⟨h0,h1,h2⟩:=Bw h
 clear h
 obtain ⟨k,rfl⟩:=Bm (show 0<=x7 by omega)
 obtain ⟨m,hm⟩: ∃ m,m=17-k:=⟨_,rfl⟩
 have key: ∀ (m k:Nat) (y5:List Aa),m=17-k->k<=17->y5.length<=200+k->Qgk x6 (k:Int) y2 y3 y5=Qgl x6 (k:Int) y2 y3 y5:=by
  intro m
  induction m with
  |zero=>
   intro k y5 hm h1 h2
   have:k=17:=by omega
   subst this
   rw [QAQ]
   simp only [Qbf,Qgl,show ile ((17:Nat):Int) 16=false from rfl,Qh,Bb,YQ,D0,List.range'_zero,List.filter_nil,D1,BH]
  |succ m ih=>
   intro k y5 hm h1 h2
   rw [QAQ]
   have c1: ∀ v w,QcW y3 (QI y2) v w=true:=fun _ _=>hc
   have c2: ∀ v:Aa,Qt y5 [v] 16=true:=fun v=>QX (by omega) (by simp only [Bh];omega)
   simp only [Qbf,show ile (k:Int) 16=true from Bc (by omega),Qd,c1,c2,QO (k:=k)]
   rw [ih (k+1) y5 (by omega) (by omega) (by omega),ih (k+1) (y5++[(x6,((k:Int),()))]) (by omega) (by omega) (by simp only [Bj,Bh];omega)]
   simp only [Qgl,Bb,QRm (show k<17 by omega)]
   cases Xz y3 (QI y2) x6 (k:Int) with
   |true=>simp only [Qd,if_true,BG,BD]
   |false=>simp only [Qh,BE,Dc]
 exact key m k y5 hm (by omega) (by omega)
theorem QRr (x6:Int)(y2 y3:Ac)(y5:List Aa)(h:(decide (1<=x6/\x6<=5/\hiC y2 y3<=4/\(y5.length:Int)<=16*x6)&&YW y3 (QI y2))=true):Qgm x6 y2 y3 y5=Qbg x6 y2 y3 y5:=by
 obtain ⟨h,hc⟩:=Bf.1 h
 obtain ⟨h0,h1,h2,h3⟩:=Bw h
 clear h
 obtain ⟨k,rfl⟩:=Bm (show 0<=x6 by omega)
 have key: ∀ (m k:Nat) (y5:List Aa),m=5-k->1<=k->k<=5->y5.length<=16*k->Qgm (k:Int) y2 y3 y5=Qbg (k:Int) y2 y3 y5:=by
  intro m
  induction m with
  |zero=>
   intro k y5 hm h0 h1 h3
   have:k=5:=by omega
   subst this
   rw [QAR]
   have e:(hiC y2 y3+1-((5:Nat):Int)).toNat=0:=by omega
   simp only [Oh,Qbg,show ile ((5:Nat):Int) (imn y2.2.2.1 y3.2.2.1)=false from Bn (by show ¬ _<=hiC y2 y3;omega),Qh,e,XM,List.range'_zero,List.flatMap_nil,BH]
  |succ m ih=>
   intro k y5 hm h0 h1 h3
   rw [QAR]
   by_cases hk:(k:Int)<=hiC y2 y3
   ·have e1:(hiC y2 y3+1-(k:Int)).toNat=(hiC y2 y3+1-((k+1:Nat):Int)).toNat+1:=by omega
    have c0:(decide ((1:Int)<=1/\(1:Int)<=17/\(y5.length:Int)<=200+1)&&YW y3 (QI y2))=true:=Bf.2 ⟨Bc (by omega),hc⟩
    have hr:=QRn y3 (QI y2) (k:Int) 1
    have hi:=ih (k+1) (y5++YQ y3 (QI y2) (k:Int) 1) (by omega) (by omega) (by omega) (by simp only [Bj];omega)
    simp only [Oh,show ile (k:Int) (imn y2.2.2.1 y3.2.2.1)=true from Bc hk,Qd,QO (k:=k)]
    refine Eq.trans (congrArg (fun b=>br b _ _) c0) ?_
    rw [Qd]
    refine Eq.trans hi ?_
    simp only [Qbg,Bb,e1,XM,Dr,BV,BG]
   ·have e1:(hiC y2 y3+1-(k:Int)).toNat=0:=by omega
    simp only [Oh,show ile (k:Int) (imn y2.2.2.1 y3.2.2.1)=false from Bn hk,Qh,Qbg,e1,XM,List.range'_zero,List.flatMap_nil,BH]
 exact key (5-k) k y5 rfl (by omega) (by omega) (by omega)
theorem QRs:LO Qbe QoA QAN 0:=QC (s:=Qgj) fun x y h _ q=>by simp only [QA,QB] at q;exact (QRq x.2.2.2.1 x.2.2.2.2.1 y.1 y.2.1 y.2.2.1 h).trans q
theorem QRt:LO Qbe QoB QAO 1:=QC (s:=Qbc) fun x y h _ q=>by simp only [QA,QB] at q;exact (QRr x.2.2.2.1 y.1 y.2.1 y.2.2.1 h).trans q
theorem s_f76 (c s)(h:WZ c s=true):r_f76 c s=some (.t (.sl Qe) (Xo c s),[]):=by
 obtain ⟨hc,hs⟩:=Bf.1 h
 have hs':=Gc hs
 have hc':=Gc hc
 simp only [r_f76,hc,hs,Qd,Qdb]
 unfold Xo Uw
 cases hv:Jj c with
 |false=>rfl
 |true=>
  cases hw:Jj s with
  |false=>rfl
  |true=>
   have v1:=FT hv
   have v2:=FT hw
   have b1:1<=loC c s/\loC c s<=4:=by simp only [loC,imx];omega
   have b2:hiC c s<=4:=by simp only [hiC,imn];omega
   have c0:(decide (1<=loC c s/\loC c s<=5/\hiC c s<=4/\(([]:List Aa).length:Int)<=16*loC c s)&&YW s (QI c))=true:=Bf.2 ⟨Bc ⟨b1.1,by omega,b2,by simp only [Bv];omega⟩,Bc ⟨hs'.2.2.1,hs'.2.1,hc'.2.1⟩⟩
   rw [BA,Qh,Qh]
   refine Eq.trans (congrArg (fun b=>br b _ _) c0) ?_
   rfl
def QAS:Ent:=Qm (.pr Qp (.pr Qp .nil)) (fun x=>(WZ x.1 x.2.1)) (fun x=>(.t (.sl Qe) (Xo x.1 x.2.1)))
theorem ms_f76:EM 76 QAS:=mS (lk:=lkL (lkc QRt (lkc QRs lkn))) Qbe QoC [((.t 4),some (.sl Qe))] false (gB (gD Qdj (gD QYS gN))) fun m=>Qq m fun x hok=>kT (s_f76 x.1 x.2.1 hok)
theorem QX2 (l:List Int):(YS l).Pairwise (· ≤ ·):=by
 have:=List.pairwise_mergeSort (le:=fun x y:Int=>decide (x<=y)) (fun a b c h1 h2=>by simp only [Ba] at *; omega) (fun a b=>by simp only [Dj,Ba];omega) l
 exact this.imp fun h=>Bw h
theorem QX3 {l:List Int}{p:Int->Bool}(hn:l.Nodup)(hr: ∀ x∈l,1<=x/\x<=16)(hp: ∀ x,p x=true->x∈l):(YS l).filter p=(((List.range' 1 16).filter fun (j:Nat)=>p (j:Int)).map fun (j:Nat)=>(j:Int)):=by
 have hperm:(YS l).Perm l:=List.mergeSort_perm _ _
 refine List.Perm.eq_of_pairwise (le:=(· ≤ ·)) (fun a b _ _ h1 h2=>by omega) ((QX2 l).filter _) ?_ ?_
 ·rw [List.pairwise_map]
  refine List.Pairwise.filter _ ?_
  refine (List.pairwise_lt_range' (s:=1) (n:=16)).imp fun h=>by omega
 ·refine (List.perm_ext_iff_of_nodup ((hperm.nodup_iff.2 hn).filter _) ?_).2 fun a=> ?_
  ·rw [List.nodup_iff_pairwise_ne,List.pairwise_map]
   refine List.Pairwise.filter _ ?_
   refine (List.pairwise_lt_range' (s:=1) (n:=16)).imp fun h=>by omega
  ·simp only [DL,Dd,List.mem_range'_1,hperm.mem_iff]
   constructor
   ·rintro ⟨h1,h2⟩
    have:=hr a h1
    exact ⟨a.toNat,⟨by omega,by rw [Int.toNat_of_nonneg (by omega)];exact h2⟩,Int.toNat_of_nonneg (by omega)⟩
   ·rintro ⟨j,⟨_,h2⟩,rfl⟩
    exact ⟨hp _ h2,h2⟩
def rowS (s:Ac)(o:List Int)(v:Int)(l:List Int):List Aa:=(l.filter fun j=>Xz s o v j).map fun j=>(v,(j,()))
theorem QX4 {l:List Int}(h:YO l=true): ∀ x∈l,1<=x/\x<=16:=by
 intro x hx
 obtain ⟨k,hk,rfl⟩:=DZ.1 hx
 exact (QtQ h k hk).1
theorem QX5 {s:Ac}{o:List Int}{v:Int}(h:YO o=true):rowS s o v (YS o)=YQ s o v 1:=by
 unfold rowS YQ
 rw [QX3 (p:=fun j=>Xz s o v j) (QKe h) (QX4 h) (fun x hx=>by
  simp only [Xz,Bd] at hx
  exact BR.1 hx.2.2.2.1),DR]
 rfl
theorem QX6 {c:Ac}(h:Jj c=true):YO (QI c)=true:=by
 simp only [Jj,Bd] at h
 exact h.2.2.2.2.1
end K
namespace K
open Go.RowKit Go.Shelf
attribute [local go_sem] Oper.semAt_some
set_option maxHeartbeats 1000000 in
theorem QHs (Bs b0 off c n:Nat)(A:Option Addr)(vs:List Value)(Xf:Nat->Nat->Prop)(w:World)(hreach:n*8<=140737488351232)(hvl:vs.length=n)
  (hBs:w.cell? ⟨Bs,0,none⟩=some (.slice A n c)) (hBl:Bs<w.heap.size)
  (hA:0<n->A=some ⟨b0,off,none⟩/\b0<w.heap.size/\(∀ j,j<vs.length→ ¬ Xf b0 (off+j))∧ ∀ j v,vs[j]? = some v->w.cell? ⟨b0,off+j,none⟩=some v):
  FV Tryz.prog 181 [.pointer (some ⟨Bs,0,none⟩)] (vs.map fun v=> #[v]) Xf w:=by
 intro l J Jx W hJ hJx hK hY h0 hst
 have HA:=Lib.hid hA
 clear hA
 refine callsIn_of_wp (F:=Fw none) Tryz.func181 rfl trivial ?_ rfl
 simp only [Tryz.ntmps181,List.size_toArray,Br,Bv,Nat.reduceAdd,Nat.reduceSub,Array.replicate_succ,Array.replicate_zero,List.push_toArray,List.append_toArray,BM,Du]
 have hb0:W.cell? ⟨Bs,0,none⟩=some (.slice A n c):=(hst Bs 0 hBl).trans hBs
 gi_wp2
 gi_loopw [7] (fun i wr=> ∃ k:Nat,k<=n/\i= .int .i64 (k:Int)/\J ((vs.drop k).map fun v=> #[v]) wr)
  (fun i _=>n-(intOf i).toNat)
 case atStart=>exact ⟨0,B0 _,rfl,h0⟩
 case round=>
  obtain ⟨k,hk,rfl,hJs⟩:=hrel
  by_cases hlt:k<n
  ·obtain ⟨rfl,hbl,hnx,hcl⟩:=HA.out (by omega)
   have hlt2:k<vs.length:=by omega
   rw [Bg hlt2,BO] at hJs
   obtain ⟨fn,tmps,assign,body,hy,hR⟩:=hY _ _ wr hJs
   have hcx':wr.cell? ⟨b0,off+k,none⟩=some vs[k]:=((hK _ wr hJs).2 b0 _ hbl (hnx _ hlt2)).trans (hcl _ _ (Bl hlt2))
   clear hnx hcl hY
   gi_wp2
   refine hR.mono ?_
   rintro e W3 (⟨rfl,hJ3⟩|⟨rfl,hJx3⟩)
   ·gi_wp2
    go_roundw
    case rel=>exact ⟨k+1,by omega,by simp,hJ3⟩
    case measure=>simp [intOf];omega
   ·gi_wp2
    refine bodyPost_ret (results_none rfl _ _ _) rfl ?_
    exact ⟨⟨_,rfl⟩,.inr hJx3⟩
  ·obtain rfl:k=n:=by omega
   rw [List.drop_of_length_le (by omega)] at hJs
   gi_wp2
   go_end0
   exact ⟨⟨_,rfl⟩,.inl hJs⟩
def WT (l:List Int):Bool:=decide (l.length<=100000)
def U6 (l:List Int):List (Int×Unit):=l.map fun x=>(x,())
def Qjd:Itr:=Fs [.ptr 50000 0] [(.sl tI)] (.pr tI .nil) (fun d=>(WT d.1)) (fun d=>(U6 d.1))
def QXG:TC:=aF Tryz.f147 []
def g_f147:G:=gG 4 [] (fun _ _=>none)
def r_f147 (p0:List Int):OV:=some (.fn 181 [(.ptr 50000 0)],[.box (.t (.sl tI) p0)])
def QHt:Ent:=UQ (.pr (.sl tI) .nil) (fun _=>true) (fun x=> .fn 181 [.ptr 50000 0]) (fun x=>[.box (.t (.sl tI) x.1)])
theorem QXH:EM 147 QHt:=mS g_f147 QXG [((.t 2),none)] true (gB gN) fun m=>QgW m fun x _=>by kernel_rfl
theorem QHu (l:List Int):l.flatMap tI.cells=l.map fun x=>D.v (.int .i64 x):=by
 induction l with
 |nil=>rfl
 |cons x r ih=>rw [BV,ih,BO];rfl
theorem QXI:Iters Tryz.prog (181+1000000) Qjd:=by
 refine Iters.strong (enters_of Tryz.func181 (by kernel_rfl) rfl) fun caps objs yr rows h X w Z lb hfin hl hc=> ?_
 unfold Qjd Fs at h
 split at h
 ·rename_i x d hx hd
  simp only [Be,Bq] at h
  obtain ⟨hok,h⟩:=h
  cases h
  have hcaps:=Ow hx
  subst hcaps
  cases objs with
  |nil=>simp [Ym] at hd
  |cons o os=>
   cases o with
   |box cv=>
    cases os with
    |cons o2 os=>simp [Ym] at hd
    |nil=>
     simp only [Ym] at hd
     split at hd
     ·rename_i l u hl1 _
      simp only [Be] at hd
      subst hd
      have hlen:l.length<=100000:=Bw hok
      have hcv:=SV.rd_mk (s:= .ty (.sl tI)) (v:=cv) (x:=l) (by simpa [QbF,Ty.row] using hl1)
      subst hcv
      obtain ⟨⟨Bs,ty,us,h1,h2,h3,h4⟩,_⟩:=hl.at_ 0 _ rfl
      have h3':Cs X w Z [.sl (List.length l) (List.flatMap tI.cells l)] us:=h3
      obtain ⟨uv,rfl,h5⟩:=h3'.one
      simp only [C] at h5
      obtain ⟨A,c,rfl,g1,g2,g3,g4⟩:=h5
      simp only [Fm,SV.mk,V.ds,V.d,Cs,C] at hc
      obtain ⟨p,ps,rfl,⟨b',e1,rfl⟩,rfl⟩:=hc
      have h1:Z 50000= .box Bs:=h1
      rw [h1] at e1
      injection e1 with e1
      subst e1
      have hcell:w.cell? ⟨Bs,0,none⟩=some (.slice A (List.length l) c):=by simp [World.cell?, h2]
      have hBl:=(B7.1 h2).1
      rcases DW (List.length l) with h0|hp
      ·have hl0:l=[]:=BJ h0
       subst hl0
       exact ⟨[],⟨rfl,fun i r v hr=>by simp [U6] at hr⟩,QHs Bs 0 0 c 0 A [] _ w (by omega) rfl hcell hBl (fun h=>absurd h (by omega))⟩
      ·obtain ⟨b0,off,vs,rfl,g5,g6⟩:=g4 hp
       have hvl:=g5.len
       rw [QHu,BT] at hvl
       refine ⟨vs.map fun v=> #[v],⟨by simp [U6,hvl],fun i r v hr hv=> ?_⟩,QHs Bs b0 off c (List.length l) _ vs _ w (by omega) hvl hcell hBl (fun _=>⟨rfl,g6.lt,fun j hj hx=>g6.nx j hj hx,fun j v hv=>g6.at_ j v hv⟩)⟩
       rw [QHu] at g5
       simp only [U6,Dm,Bk] at hr hv
       obtain ⟨x,hx,rfl⟩:=hr
       obtain ⟨u,hu,rfl⟩:=hv
       have hd:(l.map fun x=>D.v (.int .i64 x))[i]? = some (.v (.int .i64 x)):=by rw [Dm,hx];rfl
       obtain ⟨u2,hu2,hcu⟩:=g5.at_ hd
       rw [hu] at hu2
       injection hu2 with hu2
       subst hu2
       simp only [Ty.canon,V.ds,V.d,Cs]
       refine ⟨_,_,rfl, ?_,rfl⟩
       rw [(C.v hcu).1]
       simp only [Ty.d,C]
       exact ⟨trivial,rfl⟩
     ·cases hd
   |no=>simp [Ym] at hd
   |arr e t l=>simp [Ym] at hd
 ·cases h
def idL (l:List Int):List Int:=l
def Oj (l:List Int):List Int:=YS l
abbrev Qgq:Sh:=⟨[(2,.ptr 60000 0)],[(60000,.bag [.ms 20200]),(11,.no),(20200,.arr 3 tI),(50000,.box (.sl tI))]⟩
def Fh:Fg:=Qgq.f
def Qgr:TC:=(.reg (rT Tryz.f209 2))
def Qgs:TC:=(.bk 1 (.reg (rT Tryz.f209 3)))
def QRx:TC:=(.sq (.reg (rT Tryz.f209 0)) (.sq (.sq (.reg (rT Tryz.f209 1)) (.bk 0 (.nf 2 0 3 20200 (.rf 0 Fh (.t 6) (.pr tI .nil) [7] [2] Qgr Qgs)))) (.sq (.reg (rT Tryz.f209 4)) .rt)))
def Qbi (ZG Qa:List Int):VS:=Qgq.st ((),()) (((),()),(),ZG,Qa,())
def Qgt:VS->List (Ty.T (.pr tI .nil))->Option (Bool×List (Bool×Exit×VS)):=mkR Qgq (fun zs x y=>(decide (zs.length+y.2.2.1.length<=100000))) (fun zs x y=>[(true,.normal,Qbi (y.2.2.1++zs.map (fun z=>z.1)) (y.2.2.2.1))])
def Ok:G:=⟨TYs,[],13,EL [],Yx,(Ls [fun _=>none]),IL [(1000181,Qjd)],(RL [⟨(.pr tI .nil),Qgt⟩])⟩
def QA0 (z:(Int×Unit))(ZG Qa:List Int):OX:=br (Qt ZG ([z.1]) 8) (some (.normal,Qbi (ZG++([z.1])) Qa)) none
def QoJ (zs:List (Int×Unit))(ZG Qa:List Int):OX:=X7 (UD Ok Fh (.pr tI .nil) [7] Qgr Qgs) zs (Qbi ZG Qa)
def QoK (z:(Int×Unit))(zs:List (Int×Unit))(ZG Qa:List Int):OX:=br (Qt ZG ([z.1]) 8) (QoJ zs (ZG++([z.1])) Qa) none
def QoL (zs:List (Int×Unit))(ZG Qa:List Int):OX:=some (.normal,Qbi (ZG++zs.map (fun z=>z.1)) (Qa))
theorem QRy (z:(Int×Unit))(ZG Qa:List Int):UD Ok Fh (.pr tI .nil) [7] Qgr Qgs z (Qbi ZG Qa)=QA0 z ZG Qa:=by kernel_rfl
theorem QRz (z:(Int×Unit))(zs:List (Int×Unit))(ZG Qa:List Int):QoJ (z::zs) ZG Qa=QoK z zs ZG Qa:=(QCQ _ _ _ _).trans (by
 rw [QRy]
 simp only [QA0,QoK,Ud,UR,US,UT,UU]
 rfl)
def QA1 (d0:List Int):OV:=br (WT d0) (br (decide ((U6 d0).length+([]:List Int).length<=100000)) (some (.ms 50001,[.box (.t (.sl tI) (d0)),.arr 3 tI (([]:List Int)++(U6 d0).map (fun z=>z.1))])) none) none
theorem QRA (zs:List (Int×Unit))(ZG Qa:List Int)(h:(decide (zs.length+ZG.length<=100000))=true):QoJ zs ZG Qa=QoL zs ZG Qa:=by
 induction zs generalizing ZG with
 |nil=>
  simp only [QoL,D1,BH]
  rfl
 |cons z zs ih=>
  rw [QRz]
  have h:=Bw h
  rw [Br] at h
  have c1:Qt ZG [z.1] 8=true:=QX (by omega) (by simp only [Bh];omega)
  simp only [QoK,c1,Qd]
  rw [ih (ZG++[z.1]) (Bc (by simp only [Bj,Bh];omega))]
  simp only [QoL,BO,BG,BD]
theorem QRB: ∀ S (rows:List (Ty.T (.pr tI .nil))) l p,Ok.R 0 (fgt Fh S) (.pr tI .nil) rows=some (true,l)->Y0 l=some p->X7 (UD Ok Fh (.pr tI .nil) [7] Qgr Qgs) rows (fgt Fh S)=some p:=by
 intro S rows l p hR hp
 rw [show Ok.R 0 (fgt Fh S) (.pr tI .nil) rows=Qgt (fgt Fh S) rows from RL_at (l:=[⟨(.pr tI .nil),Qgt⟩]) (j:=0) (F:=Qgt) rfl _ _] at hR
 refine QCP (s:=Qgq) ⟨by decide,by decide⟩ (by kernel_rfl) (fun zs x y hok p hp=> ?_) S rows l p hR hp
 simp only [QA,QB] at hp
 exact (QRA zs y.2.2.1 y.2.2.2.1 (by first|rfl|simpa using hok)).trans hp
theorem QRC (l:List Int):(U6 l).map (fun z=>z.1)=l:=by
 unfold U6
 rw [DR]
 exact List.map_id _
theorem QRD (l:List Int)(h:WT l=true):QA1 l=some (.ms 50001,[.box (.t (.sl tI) l),.arr 3 tI (idL l)]):=by
 have hl:l.length<=100000:=Bw h
 have c1:decide ((U6 l).length+([]:List Int).length<=100000)=true:=Bc (by simp only [U6,BT,Bv];omega)
 simp only [QA1,h,Qd]
 refine Eq.trans (congrArg (fun b=>br b _ _) c1) ?_
 rw [Qd,BM,QRC]
 rfl
def QA2:Ent:=Wl [.nl,.fn 181 [(50000,0)]] [.box (.sl tI)] (fun x y=>(WT y.1)) (fun x y=>(.ms 50001)) (fun x y=>[.box (.t (.sl tI) y.1),.arr 3 tI (idL y.1)])
theorem QRE:EM 209 QA2:=mS (lk:=(by repeat first|exact trivial|exact QRB|constructor)) Ok QRx [((.t 4),none)] true (Zq _ (fun p hp=>by cases hp) [(1000181,Qjd)] (by
 intro p hp
 simp only [BQ,B3,Dt] at hp
 rcases hp with rfl
 ·exact QXI)) fun m=>WP (Y8 m fun x y hok=>kT (QRD y.1 hok))
def QRF:TC:=aF Tryz.f179 []
def QRG:G:=gG 5 [(209,QA2)] (fun _ _=>none)
def QA3 (d0:List Int):OV:=br (WT d0) (some (.ms 50001,[.box (.t (.sl tI) d0),.arr 3 tI (idL d0)])) none
theorem QRH (l:List Int)(h:WT l=true):QA3 l=some (.ms 50001,[.box (.t (.sl tI) l),.arr 3 tI (idL l)]):=by
 simp only [QA3,h,Qd]
def QA4:Ent:=Wl [.fn 181 [(50000,0)]] [.box (.sl tI)] (fun x y=>(WT y.1)) (fun x y=>(.ms 50001)) (fun x y=>[.box (.t (.sl tI) y.1),.arr 3 tI (idL y.1)])
theorem QRI:EM 179 QA4:=mS QRG QRF [((.t 2),none)] true (gB (gD QRE gN)) fun m=>WP (Y8 m fun x y hok=>kT (QRH y.1 hok))
def QRJ:TC:=aF Tryz.f146 []
def QRK:G:=gG 9 [(179,QA4),(180,QEH)] (fun _ _=>none)
def QA5 (d0:List Int):OV:=br (WT d0) (br (Qg2 (idL d0)) (some (.ms 50001,[.box (.t (.sl tI) d0),.arr 3 tI (YS (idL d0))])) none) none
theorem QRL (l:List Int)(h:WT l=true):QA5 l=some (.ms 50001,[.box (.t (.sl tI) l),.arr 3 tI (Oj l)]):=by
 have hl:l.length<=100000:=Bw h
 have c1:Qg2 (idL l)=true:=Bc (by show l.length<_;omega)
 simp only [QA5,h,c1,Qd]
 rfl
def QA6:Ent:=Wl [.fn 181 [(50000,0)]] [.box (.sl tI)] (fun x y=>(WT y.1)) (fun x y=>(.ms 50001)) (fun x y=>[.box (.t (.sl tI) y.1),.arr 3 tI (Oj y.1)])
theorem QRM:EM 146 QA6:=mS QRK QRJ [((.t 2),none)] true (gB (gD QRI (gC QUC QUD gN))) fun m=>WP (Y8 m fun x y hok=>kT (QRL y.1 hok))
def W6 (t:An)(v:Int)(l:List Int):List Aa:=(l.filter fun j=>FR t j).map fun j=>(v,(j,()))
theorem QZU {t:An}{v x:Int}{r:List Int}:W6 t v (x::r)=if FR t x=true then (v,(x,()))::W6 t v r else W6 t v r:=by
 unfold W6
 rw [DU]
 split<;>rfl
theorem QZV (t:An)(v:Int)(l:List Int):(W6 t v l).length<=l.length:=by
 unfold W6
 rw [BT]
 exact DG _ _
def FS (s:Ac)(o l:List Int)(v n:Nat):List Aa:=(List.range' v n).flatMap fun (j:Nat)=>W6 (s,((j:Int),(o,()))) (j:Int) l
theorem QZW {s:Ac}{o:List Int}{v n:Nat}(h:YO o=true):FS s o (YS o) v n=XM s o v n:=by
 unfold FS XM
 congr 1
 funext j
 exact QX5 h
abbrev QkH:Sh:=⟨[(2,.ptr 2 0),(3,.ptr 3 0),(5,.ms 5),(6,.ms 18),(7,.ty tI),(8,.ptr 8 0),(38,.ms 18),(39,.ty tI),(40,.ty tI)],[(2,.box Qp),(3,.box Qp),(5,.arr 108 Qe),(8,.box QaL),(18,.arr 3 tI),(52,.no),(5018,.no),(10018,.no),(15018,.no)]⟩
abbrev Qdl:Sh:=⟨[(2,.ptr 2 0),(3,.ptr 3 0),(5,.ms 5),(6,.ms 18),(7,.ty tI)],[(2,.box Qp),(3,.box Qp),(5,.arr 108 Qe),(18,.arr 3 tI),(52,.no),(5018,.no),(10018,.no),(15018,.no)]⟩
abbrev QKK:Sh:=⟨[(5,.ms 5)],[(5,.arr 108 Qe),(52,.no)]⟩
def Qt6:Fg:=QkH.f
def Qt7:Fg:=Qdl.f
def Qt8:TC:=aF Tryz.f111 [(250,.nw 5 108),(250,pL 1 Qt7),(4003,.fg QKK.f),(32038,.nw 5 108),(32038,pL 0 Qt6),(512613,.fg Qdl.f)]
def QKL:TC:=lb 0 Qt8
def QKM:TC:=lb 1 Qt8
def QKN (x7 x39 x40:Int)(y2 y3:Ac)(y5:List Aa)(y8:An)(y18:List Int):VS:=QkH.st ((),(),(),(),x7,(),(),x39,x40,()) (y2,y3,y5,y8,y18,(),(),(),(),())
def Qdm (x7:Int)(y2 y3:Ac)(y5:List Aa)(y18:List Int):VS:=Qdl.st ((),(),(),(),x7,()) (y2,y3,y5,y18,(),(),(),(),())
def Qt9 (y5:List Aa):VS:=QKK.st ((),()) (y5,(),())
def QZX:VS->Option (Bool×List (Bool×Exit×VS)):=mkL QkH (fun x y=>(decide (x.2.2.2.2.2.2.2.1=(y.2.2.2.2.1.length:Int)/\0<=x.2.2.2.2.2.2.2.2.1/\x.2.2.2.2.2.2.2.2.1<=x.2.2.2.2.2.2.2.1/\y.2.2.2.2.1.length<=16/\(y.2.2.1.length:Int)<=200+x.2.2.2.2.2.2.2.2.1)&&GX y.2.2.2.1 0)) (fun x y=>[(true,.exit 2,Qdm (x.2.2.2.2.1) (y.1) (y.2.1) (y.2.2.1++W6 y.2.2.2.1 x.2.2.2.2.1 (y.2.2.2.2.1.drop x.2.2.2.2.2.2.2.2.1.toNat)) (y.2.2.2.2.1))])
def QZY:VS->Option (Bool×List (Bool×Exit×VS)):=mkL Qdl (fun x y=>(decide (1<=x.2.2.2.2.1/\x.2.2.2.2.1<=5/\hiC y.1 y.2.1<=4/\(y.2.2.1.length:Int)<=16*x.2.2.2.2.1/\y.2.2.2.1.length<=16)&&YW y.2.1 (QI y.1))) (fun x y=>[(true,.exit 0,Qt9 (y.2.2.1++FS y.2.1 (QI y.1) y.2.2.2.1 x.2.2.2.2.1.toNat (hiC y.1 y.2.1+1-x.2.2.2.2.1).toNat))])
def Qdn:G:=gG 55 [(145,QJj),(146,QA6),(147,QHt),(148,Qtg)] (Ls [QZX,QZY])
def Qdo (x7 x39 x40:Int)(y2 y3:Ac)(y5:List Aa)(y8:An)(y18:List Int):OX:=Qu (Qx Qdn Qt6 QKL) (QKN x7 x39 x40 y2 y3 y5 y8 y18)
def Qdp (kk:Int->Int->Int->Ac->Ac->List Aa->An->List Int->OX)(x7 x39 x40:Int)(y2 y3:Ac)(y5:List Aa)(y8:An)(y18:List Int):OX:=
 let a1:=lgt tI y18 (Int.toNat x40)
 br (ilt x40 x39) (br (cIx y18 x40) (br (cLd y18 (Int.toNat x40)) (br (GX y8 a1) (br (FR y8 a1) (br (Qt y5 ([(x7,(a1,()))]) 16) (kk x7 x39 (Qi .i64 x40 1) y2 y3 (y5++([(x7,(a1,()))])) y8 y18) none) (kk x7 x39 (Qi .i64 x40 1) y2 y3 y5 y8 y18)) none) none) none) (some (.exit 2,Qdm x7 y2 y3 y5 y18))
def Qdq (x7 x39 x40:Int)(y2 y3:Ac)(y5:List Aa)(y8:An)(y18:List Int):OX:=some (.exit 2,Qdm (x7) (y2) (y3) (y5++W6 y8 x7 (y18.drop x40.toNat)) (y18))
theorem QKO (x7 x39 x40 y2 y3 y5 y8 y18):Qdo x7 x39 x40 y2 y3 y5 y8 y18=Qdp Qdo x7 x39 x40 y2 y3 y5 y8 y18:=lnT (x:=Qdp (fun x7 x39 x40 y2 y3 y5 y8 y18=>some (.normal,QKN x7 x39 x40 y2 y3 y5 y8 y18)) x7 x39 x40 y2 y3 y5 y8 y18) (by simp only [Qdp,nxA];rfl)
def QkI (x7:Int)(y2 y3:Ac)(y5:List Aa)(y18:List Int):OX:=Qu (Qx Qdn Qt7 QKM) (Qdm x7 y2 y3 y5 y18)
def VD (kk:Int->Ac->Ac->List Aa->List Int->OX)(x7:Int)(y2 y3:Ac)(y5:List Aa)(y18:List Int):OX:=
 let a1:=((y3.1,(y3.2.1,(y3.2.2.1,(y3.2.2.2.1,(y3.2.2.2.2.1,(y3.2.2.2.2.2.1,(y3.2.2.2.2.2.2.1,(y3.2.2.2.2.2.2.2.1,(y3.2.2.2.2.2.2.2.2.1,()))))))))),(x7,(y2.2.2.2.1,())))
 br (ile x7 (imn y2.2.2.1 y3.2.2.1)) (br (decide ((Qb y18)=(y18.length:Int)/\0<=(0:Int)/\(0:Int)<=(Qb y18)/\y18.length<=16/\(y5.length:Int)<=200+(0:Int))&&GX a1 0) (kk (Qi .i64 (x7) 1) (y2) (y3) (y5++W6 a1 x7 (y18.drop (0:Int).toNat)) (y18)) none) (some (.exit 0,Qt9 y5))
def Qdr (x7:Int)(y2 y3:Ac)(y5:List Aa)(y18:List Int):OX:=some (.exit 0,Qt9 (y5++FS y3 (QI y2) y18 x7.toNat (hiC y2 y3+1-x7).toNat))
theorem QKP (x7 y2 y3 y5 y18):QkI x7 y2 y3 y5 y18=VD QkI x7 y2 y3 y5 y18:=lnT (x:=VD (fun x7 y2 y3 y5 y18=>some (.normal,Qdm x7 y2 y3 y5 y18)) x7 y2 y3 y5 y18) (by simp only [VD,nxA];rfl)
def QKQ (p0 p1:Ac):OV:=
 let a1:=imx p0.2.1 p1.2.1
 br (WZ p0 p1) (br (!(Uw p0 p1)) (some (.t (.sl Qe) ([]:List Aa),[])) (br (WT p0.2.2.2.1) (br (decide (1<=a1/\a1<=5/\hiC p0 p1<=4/\(([]:List Aa).length:Int)<=16*a1/\(Oj p0.2.2.2.1).length<=16)&&YW p1 (QI p0)) (some (.t (.sl Qe) (([]:List Aa)++FS p1 (QI p0) (Oj p0.2.2.2.1) a1.toNat (hiC p0 p1+1-a1).toNat),[])) none) none)) none
theorem QZZ (x7 x39 x40:Int)(y2 y3:Ac)(y5:List Aa)(y8:An)(y18:List Int)(h:(decide (x39=(y18.length:Int)/\0<=x40/\x40<=x39/\y18.length<=16/\(y5.length:Int)<=200+x40)&&GX y8 0)=true):Qdo x7 x39 x40 y2 y3 y5 y8 y18=Qdq x7 x39 x40 y2 y3 y5 y8 y18:=by
 obtain ⟨h,hc⟩:=Bf.1 h
 obtain ⟨rfl,h1,h2,h3,h4⟩:=Bw h
 clear h
 obtain ⟨k,rfl⟩:=Bm h1
 have key: ∀ k,k<=y18.length→ ∀ y5:List Aa,y5.length<=200+k->Qdo x7 (y18.length:Int) (k:Int) y2 y3 y5 y8 y18=Qdq x7 (y18.length:Int) (k:Int) y2 y3 y5 y8 y18:=by
  refine QP y18 (fun k=> ∀ y5:List Aa,y5.length<=200+k->Qdo x7 (y18.length:Int) (k:Int) y2 y3 y5 y8 y18=Qdq x7 (y18.length:Int) (k:Int) y2 y3 y5 y8 y18) ?_ ?_
  ·intro y5 _
   rw [QKO]
   simp only [Qdp,Qdq,Qv,BK,BP,Qh,Bb,BF,W6,List.filter_nil,D1,BH]
  ·intro k hk ih y5 hy
   rw [QKO]
   have c1:cLd y18 k=true:=Bc (by omega)
   have c2: ∀ v,GX y8 v=true:=fun v=>hc
   have c3: ∀ v:Aa,Qt y5 [v] 16=true:=fun v=>QX (by omega) (by simp only [Bh];omega)
   simp only [Qdp,Qv,QM,hk,Bu,Qd,Bb,QO (k:=k),QN (y:=tI) hk,c1,c2,c3]
   rw [ih y5 (by omega),ih (y5++[(x7,(y18[k],()))]) (by simp only [Bj,Bh];omega)]
   simp only [Qdq,Bb,Bg hk,QZU]
   cases FR y8 y18[k] with
   |true=>simp only [Qd,if_true,BG,BD]
   |false=>simp only [Qh,BE,Dc]
 exact key k (by omega) y5 (by omega)
theorem QZ0 (x7:Int)(y2 y3:Ac)(y5:List Aa)(y18:List Int)(h:(decide (1<=x7/\x7<=5/\hiC y2 y3<=4/\(y5.length:Int)<=16*x7/\y18.length<=16)&&YW y3 (QI y2))=true):QkI x7 y2 y3 y5 y18=Qdr x7 y2 y3 y5 y18:=by
 obtain ⟨h,hc⟩:=Bf.1 h
 obtain ⟨h0,h1,h2,h3,h4⟩:=Bw h
 clear h
 obtain ⟨k,rfl⟩:=Bm (show 0<=x7 by omega)
 have key: ∀ (m k:Nat) (y5:List Aa),m=5-k->1<=k->k<=5->y5.length<=16*k->QkI (k:Int) y2 y3 y5 y18=Qdr (k:Int) y2 y3 y5 y18:=by
  intro m
  induction m with
  |zero=>
   intro k y5 hm h0 h1 h3
   have:k=5:=by omega
   subst this
   rw [QKP]
   have e:(hiC y2 y3+1-((5:Nat):Int)).toNat=0:=by omega
   simp only [VD,Qdr,show ile ((5:Nat):Int) (imn y2.2.2.1 y3.2.2.1)=false from Bn (by show ¬ _<=hiC y2 y3;omega),Qh,e,FS,List.range'_zero,List.flatMap_nil,BH]
  |succ m ih=>
   intro k y5 hm h0 h1 h3
   rw [QKP]
   by_cases hk:(k:Int)<=hiC y2 y3
   ·have e1:(hiC y2 y3+1-(k:Int)).toNat=(hiC y2 y3+1-((k+1:Nat):Int)).toNat+1:=by omega
    have c0:(decide (True/\(0:Int)<=0/\(0:Int)<=Qb y18/\y18.length<=16/\(y5.length:Int)<=200+0)&&GX (y3,((k:Int),(QI y2,()))) 0)=true:=Bf.2 ⟨Bc ⟨trivial,by simp only [Qb];omega⟩,hc⟩
    have hr:=QZV (y3,((k:Int),(QI y2,()))) (k:Int) y18
    have hi:=ih (k+1) (y5++W6 (y3,((k:Int),(QI y2,()))) (k:Int) y18) (by omega) (by omega) (by omega) (by simp only [Bj];omega)
    simp only [VD,show ile (k:Int) (imn y2.2.2.1 y3.2.2.1)=true from Bc hk,Qd,QO (k:=k),eEta]
    refine Eq.trans (congrArg (fun b=>br b _ _) c0) ?_
    rw [Qd]
    refine Eq.trans hi ?_
    simp only [Qdr,Bb,e1,FS,Dr,BV,BG]
   ·have e1:(hiC y2 y3+1-(k:Int)).toNat=0:=by omega
    simp only [VD,show ile (k:Int) (imn y2.2.2.1 y3.2.2.1)=false from Bn hk,Qh,Qdr,e1,FS,List.range'_zero,List.flatMap_nil,BH]
 exact key (5-k) k y5 rfl (by omega) (by omega) (by omega)
theorem QZ1:LO Qdn Qt6 QKL 0:=QC (s:=QkH) fun x y h _ q=>by simp only [QA,QB] at q;exact (QZZ x.2.2.2.2.1 x.2.2.2.2.2.2.2.1 x.2.2.2.2.2.2.2.2.1 y.1 y.2.1 y.2.2.1 y.2.2.2.1 y.2.2.2.2.1 h).trans q
theorem QZ2:LO Qdn Qt7 QKM 1:=QC (s:=Qdl) fun x y h _ q=>by simp only [QA,QB] at q;exact (QZ0 x.2.2.2.2.1 y.1 y.2.1 y.2.2.1 y.2.2.2.1 h).trans q
theorem s_f111 (c s)(h:WZ c s=true):QKQ c s=some (.t (.sl Qe) (Xo c s),[]):=by
 obtain ⟨hc,hs⟩:=Bf.1 h
 have hs':=Gc hs
 have hc':=Gc hc
 have c1:WT (QI c)=true:=Bc hc'.2.1
 simp only [QKQ,h,c1,Qd]
 unfold Xo
 cases hr:Uw c s with
 |false=>rfl
 |true=>
  obtain ⟨hv,hw⟩:=Bf.1 hr
  have v1:=FT hv
  have v2:=FT hw
  have hsu:=QX6 hv
  have b1:1<=loC c s/\loC c s<=4:=by simp only [loC,imx];omega
  have b2:hiC c s<=4:=by simp only [hiC,imn];omega
  have b3:(Oj (QI c)).length<=16:=by
   show (YS (QI c)).length<=16
   rw [show (YS (QI c)).length=(QI c).length from List.length_mergeSort _]
   exact QKf hsu
  have c0:(decide (1<=loC c s/\loC c s<=5/\hiC c s<=4/\(([]:List Aa).length:Int)<=16*loC c s/\(Oj (QI c)).length<=16)&&YW s (QI c))=true:=Bf.2 ⟨Bc ⟨b1.1,by omega,b2,by simp only [Bv];omega,b3⟩,Bc ⟨hs'.2.2.1,hs'.2.1,hc'.2.1⟩⟩
  rw [BA,Qh,BW]
  refine Eq.trans (congrArg (fun b=>br b _ _) c0) ?_
  rw [Qd, <- QZW hsu]
  rfl
def QKR:Ent:=Qm (.pr Qp (.pr Qp .nil)) (fun x=>(WZ x.1 x.2.1)) (fun x=>(.t (.sl Qe) (Xo x.1 x.2.1)))
theorem QZ3:EM 111 QKR:=mS (lk:=lkL (lkc QZ2 (lkc QZ1 lkn))) Qdn Qt8 [((.t 4),some (.sl Qe))] false (gB (gD QYU (gD QRM (gD QXH (gD QJf gN))))) fun m=>Qq m fun x hok=>kT (s_f111 x.1 x.2.1 hok)
theorem QM6 {d:Ab}{i s:ByteArray}{k:Aa}{id g:Int}{a:Bool}(hi:i.size<=1000)(hs:s.size<=1000):JR (UH d i s k id g a)=true:=by
 unfold UH XP
 cases Qqf (QeO d i s k id a) g with
 |true=>rfl
 |false=>
  rw [BW]
  have:JR (QeO d i s k id a)=true:=by
   refine QeP hi hs ?_ ?_
   ·unfold cNm
    cases done (cD5 d a) 3<;>simp
   ·intro t ht
    unfold cNm at ht
    cases hd:done (cD5 d a) 3 with
    |true=>
     rw [hd] at ht
     simp only [B6,BQ,B3,Dt] at ht
     rcases ht with rfl|rfl
     ·omega
     ·rw [QxG];show s.size+1<=_;omega
    |false=>
     rw [hd] at ht
     simp only [BW,BQ,B3,Dt] at ht
     subst ht
     omega
  exact this
theorem QM7: ∀ (m i:Nat) (u:Up),u.2.2.1.size<=1000->u.1.all JR=true->(GV m i u).1.all JR=true/\(GV m i u).2.2.1.size<=1000
 |0,_,u,h,h2=>⟨h2,h⟩
 |m+1,i,(ab,d,iss,g),h,h2=>by
  have hs:=Qsv i
  refine QM7 m (i+1) _ (show (WW.getD i ByteArray.empty).size<=1000 by omega) ?_
  rw [B2,QM6 h (by omega)]
  exact h2
theorem Q2K {d:Ab}{nm:ByteArray}{k:Aa}{id:Int}(hn:nm.size<=1000)(hd:dOk d=true):JN (E5 d nm k id)=true:=by
 have hu0:Wt ([],Qc (Qr d [1,0,2]) 2,GU,1+Qg (Qr d [1,0,2]) 2)=true:=Bf.2 ⟨Qz (n:=2) (JB (l:=[1,0,2]) hd),rfl⟩
 have hm:=X9 (d:=d) (l:=[1,0,2]) (by decide)
 simp only [BQ,B3,Dt] at hm
 obtain ⟨h1,h2⟩:=QM7 (dof d [1,0,2]).toNat 0 ([],Qc (Qr d [1,0,2]) 2,GU,1+Qg (Qr d [1,0,2]) 2) (show GU.size<=1000 by decide) rfl
 have hl:=(Qjp (dof d [1,0,2]).toNat 0 _ hu0).2
 simp only [Bv] at hl
 have hl2:(chU d).1.length<=3:=by
  unfold chU
  omega
 unfold E5
 simp only [JN,Bd,B2,Br,Ba]
 exact ⟨by omega,QM6 h2 hn,h1⟩
theorem id_len {d:Ab}{nm:ByteArray}(hn:nm.size<=1000)(hd:dOk d=true):Jn (idV d nm)=true:=by
 show JN (iCh d nm)=true
 unfold iCh
 cases !done (iD4 d) 9
 ·rfl
 ·exact Q2K hn (Qz (n:=9) (Qz (n:=20) (QJT hd)))
theorem QM8: ∀ (n:Nat) (nm:ByteArray) (d:Ab),nm.size<=1000->dOk d=true->(Xi n nm d).1.all Jn=true
 |0,_,_,_,_=>rfl
 |n+1,nm,d,hn,hd=>by
  simp only [Xi,B2,Bd]
  exact ⟨id_len hn hd,QM8 n nm _ hn (QtA hd)⟩
theorem Q2L {d:Ab}{nm:ByteArray}(hn:nm.size<=1000)(hd:dOk d=true):(XZ d nm).1.all Jn=true/\(XZ d nm).1.length<=3:=by
 have k4:=Qz (n:=2) (Qz (n:=2) (QvP (JB (l:=[1,1,2,3]) hd)))
 have k6:=Qz (n:=3) (Qz (n:=5-eL0 d) k4)
 have k7:dOk (eD7 d)=true:=by
  unfold eD7
  cases eB d
  ·exact k6
  ·exact JB (l:=[3,4,2]) k6
 have k8:=JB (l:=[1,2,1,3,0]) k7
 have m7:=X9 (d:=eD7 d) (l:=[1,2,1,3,0]) (by decide)
 simp only [BQ,B3,Dt] at m7
 refine ⟨QM8 _ _ _ hn k8, ?_⟩
 have:=(Qj4 (dof (eD7 d) [1,2,1,3,0]).toNat nm (eD8 d) k8).2
 unfold XZ
 omega
theorem QvN {l:List (List Int)}(h: ∀ x∈l,x.length<=4)(k:Nat):(lgt (.sl tI) l k).length<=4:=by
 show (l.getD k []).length<=4
 rw [Bp]
 cases hk:l[k]? with
 |none=>exact B0 _
 |some x=>exact h x (Ds hk)
theorem an_len (d:Ab)(nm:ByteArray):(Ji (epV d nm)).length<=4:=QvN (by simp) _
theorem hs_len (d:Ab)(nm:ByteArray):(Jk (epV d nm)).length<=4:=QvN (by simp) _
theorem Q2M {e:Ac}(h1:e.1.size<=1000)(h2:(QI e).length<=1000)(h3:(QF e).length<=1000)(h4:(Ji e).length<=1000)(h5:(Jk e).length<=1000)(h6:(QF e).all Jn=true):QY e=true:=by
 simp only [QY,Bd,Ba]
 exact ⟨⟨Bc (by omega),by omega,by omega,by omega,by omega⟩,h6⟩
theorem ep_ids {d:Ab}{nm:ByteArray}(hn:nm.size<=1000)(hd:dOk d=true):(QF (epV d nm)).all Jn=true/\(QF (epV d nm)).length<=3:=Q2L hn hd
theorem Q2N (d:Ab)(nm:ByteArray):(epV d nm).1=nm:=rfl
attribute [local irreducible] epV epN prZ
def XX:Option Int->List Ap->Bool
 |_,[]=>true
 |pv,x::r=>JJ x.1&&decide (0<=x.2.1/\x.2.1<=40000)&&(match pv with|none=>true|some d=>decide (d<x.2.1))&&XX (some x.2.1) r
theorem Qth (pv:Option Int)(x:Ap)(r:List Ap):XX pv (x::r)=(JJ x.1&&decide (0<=x.2.1/\x.2.1<=40000)&&(match pv with|none=>true|some d=>decide (d<x.2.1))&&XX (some x.2.1) r):=by cases pv<;>rfl
def Yg (l:List Ap)(k:Nat):Option Int:=if k=0 then none else (l[k-1]?).map fun x:Ap=>x.2.1
def Zx (i:Ag):Bool:=JF i.1&&decide (1<=i.2.1/\i.2.1<=2)&&decide (1<=i.2.2.1/\i.2.2.1<=4)&&decide (1<=i.2.2.2.1.length/\i.2.2.2.1.length<=8)&&XX none i.2.2.2.1&&decide ((i.2.2.2.1.headD ((0,(0,())),(0,()))).2.1<=i.2.2.2.2.1/\i.2.2.2.2.1<=40000)
def YX (i:Ag):Int:=if Zx i then 0 else 30
def YY (i:Ag):Bool:=Jc i.1
abbrev QjQ:Sh:=⟨[(1,.ptr 1 0),(45,.ty (.sl Zt)),(46,.ty tI),(47,.ty tI)],[(1,.box Jf)]⟩
abbrev Qti:Sh:=⟨[(2,.ty tI)],[]⟩
abbrev QJk:Sh:=⟨[(1,.ptr 1 0)],[(1,.box Jf)]⟩
def Qtj:Fg:=QjQ.f
def QJl:TC:=aF Tryz.f63 [(122,pL 0 Qtj),(1957,.fg QJk.f),(15666,pE [[5],[5],[],[],[],[5],[5],[],[],[],[5],[5],[],[],[],[],[],[],[1],[1],[],[],[],[],[],[5],[5],[],[],[]] (oN 30)),(62669,.fg Qti.f),(124,pE [[1],[1],[1],[1],[],[],[],[],[],[1],[1],[],[]] (oN 13))]
def QJm:TC:=lb 0 QJl
def QJn (x45:List Ap)(x46 x47:Int)(y1:Ag):VS:=QjQ.st ((),x45,x46,x47,()) (y1,())
def XY (x2:Int):VS:=Qti.st (x2,()) ()
def Qtk (y1:Ag):VS:=QJk.st ((),()) (y1,())
def QYV:VS->Option (Bool×List (Bool×Exit×VS)):=mkL QjQ (fun x y=>((x.2.1==y.1.2.2.2.1)&&Qw x.2.1 x.2.2.1 x.2.2.2.1)) (fun x y=>[((!(XX (Yg x.2.1 x.2.2.2.1.toNat) (x.2.1.drop x.2.2.2.1.toNat))),.ret,XY (30)),(true,.exit 0,Qtk (y.1))])
def Qtl:G:=gG 96 [(102,QbL),(103,IF)] (Ls [QYV])
def QjR (x45:List Ap)(x46 x47:Int)(y1:Ag):OX:=Qu (Qx Qtl Qtj QJm) (QJn x45 x46 x47 y1)
def QcX (kk:List Ap->Int->Int->Ag->OX)(x45:List Ap)(x46 x47:Int)(y1:Ag):OX:=
 let a1:=lgt Zt x45 (Int.toNat x47)
 br (ilt x47 x46) (br (cIx x45 x47) (br (!(JJ (a1.1))) (some (.ret,XY 30)) (br (ilt ((a1.2).1) 0) (some (.ret,XY 30)) (br (igt ((a1.2).1) 40000) (some (.ret,XY 30)) (br (igt x47 0) (br (cIx y1.2.2.2.1 (QQ .i64 x47 1)) (br (ige (((lgt Zt y1.2.2.2.1 (Int.toNat (QQ .i64 x47 1))).2).1) ((a1.2).1)) (some (.ret,XY 30)) (kk x45 x46 (Qi .i64 x47 1) y1)) none) (kk x45 x46 (Qi .i64 x47 1) y1))))) none) (some (.exit 0,Qtk y1))
def Vo (x45:List Ap)(x46 x47:Int)(y1:Ag):OX:=br (!(XX (Yg x45 x47.toNat) (x45.drop x47.toNat))) (some (.ret,XY (30)))<|some (.exit 0,Qtk (y1))
theorem QJo (x45 x46 x47 y1):QjR x45 x46 x47 y1=QcX QjR x45 x46 x47 y1:=lnT (x:=QcX (fun x45 x46 x47 y1=>some (.normal,QJn x45 x46 x47 y1)) x45 x46 x47 y1) (by simp only [QcX,nxA];rfl)
def QcY (p0:Ag):OV:=
 let a1:=((((p0).2).2).2)
 let a2:=Qb p0.2.2.2.1
 br (ilt p0.2.2.1 1) (some (.t tI 30,[])) (br (igt p0.2.2.1 4) (some (.t tI 30,[])) (br (ilt a2 1) (some (.t tI 30,[])) (br (igt a2 8) (some (.t tI 30,[])) (br ((p0.2.2.2.1==p0.2.2.2.1)&&Qw p0.2.2.2.1 a2 (0:Int)) (br (!(XX (Yg p0.2.2.2.1 (0:Int).toNat) (p0.2.2.2.1.drop (0:Int).toNat))) (some (.t tI (30),[])) (br (cIx (a1.1) 0) (br (ilt ((a1.2).1) (((lgt Zt (a1.1) (Int.toNat 0)).2).1)) (some (.t tI 30,[])) (br (igt ((a1.2).1) 40000) (some (.t tI 30,[])) (some (.t tI 0,[])))) none)) none))))
def r_f63 (p0:Ag):OV:=br (ieq p0.2.1 1) (br (Jc p0.1) (br (!(JF p0.1)) (some (.t tI 30,[])) (br (!true) (some (.t tI 30,[])) (QcY p0))) none) (br (Jc p0.1) (br (!(JF p0.1)) (some (.t tI 30,[])) (br (!(ieq p0.2.1 2)) (some (.t tI 30,[])) (QcY p0))) none)
theorem QYW (x45:List Ap)(x46 x47:Int)(y1:Ag)(h:((x45==y1.2.2.2.1)&&Qw x45 x46 x47)=true):QjR x45 x46 x47 y1=Vo x45 x46 x47 y1:=by
 simp only [Bd,Dh] at h
 obtain ⟨hx,h0⟩:=h
 obtain ⟨rfl,h3,k,rfl,hk⟩:=Jv h0
 clear h0
 refine QP x45 (fun k=>QjR x45 (x45.length:Int) (k:Int) y1=Vo x45 (x45.length:Int) (k:Int) y1) ?_ ?_ k hk
 ·rw [QJo]
  simp [QcX,Vo,Qv,Qh,XX]
 ·intro k hk ih
  rw [QJo]
  have el:Vo x45 (x45.length:Int) (k:Int) y1=br (!(JJ x45[k].1&&decide (0<=x45[k].2.1/\x45[k].2.1<=40000)&&(match Yg x45 k with|none=>true|some d=>decide (d<x45[k].2.1)))) (some (.ret,XY 30)) (Vo x45 (x45.length:Int) ((k+1:Nat):Int) y1):=by
   have e1:Yg x45 (k+1)=some x45[k].2.1:=by
    unfold Yg
    rw [if_neg (by omega),Nat.add_sub_cancel,Bl hk]
    rfl
   simp only [Vo,Bb,e1]
   rw [Bg hk,Qth]
   generalize (JJ x45[k].1&&decide (0<=x45[k].2.1/\x45[k].2.1<=40000)&&(match Yg x45 k with|none=>true|some d=>decide (d<x45[k].2.1)))=c
   cases c<;>rfl
  rw [el]
  simp only [QcX,Qv,QM,hk,Bu,Qd,Bb,QO (k:=k),QN (y:=Zt) hk,ih, <- hx]
  cases JJ x45[k].1 with
  |false=>rfl
  |true=>
   simp only [BA,Qh,By]
   by_cases c1:x45[k].2.1<0
   ·rw [show ilt x45[k].2.1 0=true from Bc c1,Qd,Bn (show ¬ (0<=x45[k].2.1/\x45[k].2.1<=40000) by omega)]
    rfl
   ·rw [show ilt x45[k].2.1 0=false from Bn c1,Qh]
    by_cases c2:40000<x45[k].2.1
    ·rw [show igt x45[k].2.1 40000=true from Bc (by omega),Qd,Bn (show ¬ (0<=x45[k].2.1/\x45[k].2.1<=40000) by omega)]
     rfl
    ·rw [show igt x45[k].2.1 40000=false from Bn (by omega),Qh,Bc (show 0<=x45[k].2.1/\x45[k].2.1<=40000 by omega)]
     simp only [By]
     by_cases hk0:k=0
     ·subst hk0
      rfl
     ·have hk1:k-1<x45.length:=by omega
      have e1:QQ .i64 (k:Int) 1=((k-1:Nat):Int):=by rw [Zv (by omega)];omega
      have e2:igt (k:Int) 0=true:=by simp only [igt,Ba];omega
      have e3:Yg x45 k=some x45[k-1].2.1:=by
       unfold Yg
       rw [if_neg hk0,Bl hk1]
       rfl
      rw [e1,e2,e3,Qd]
      simp only [QM,hk1,Bu,Qd,Bb,QN (y:=Zt) hk1]
      by_cases c3:x45[k-1].2.1<x45[k].2.1
      ·rw [show ige x45[k-1].2.1 x45[k].2.1=false from Bn (by omega),Qh,Bc c3]
       rfl
      ·rw [show ige x45[k-1].2.1 x45[k].2.1=true from Bc (by omega),Qd,Bn c3]
       rfl
theorem QYX:LO Qtl Qtj QJm 0:=QC (s:=QjQ) fun x y h _ q=>by simp only [QA,QB] at q;exact (QYW x.2.1 x.2.2.1 x.2.2.2.1 y.1 h).trans q
theorem ZN {i:Ag}:Zx i=true↔JF i.1=true/\(1<=i.2.1/\i.2.1<=2)/\(1<=i.2.2.1/\i.2.2.1<=4)/\(1<=i.2.2.2.1.length/\i.2.2.2.1.length<=8)/\XX none i.2.2.2.1=true/\(i.2.2.2.1.headD ((0,(0,())),(0,()))).2.1<=i.2.2.2.2.1/\i.2.2.2.2.1<=40000:=by
 unfold Zx
 simp only [Bd,Ba,and_assoc]
theorem s_f63 (i)(h:YY i=true):r_f63 i=some (.t tI (YX i),[]):=by
 have h:Jc i.1=true:=h
 have bad:(Zx i=true->False)->some (V.t tI 30,([]:List VO))=some (V.t tI (YX i),[]):=fun hq=>by
  cases hi:Zx i with
  |false=>simp [YX,hi]
  |true=>exact (hq hi).elim
 have tail:JF i.1=true->(1<=i.2.1/\i.2.1<=2)->QcY i=some (.t tI (YX i),[]):=fun k1 k2=>by
  simp only [QcY]
  refine Q1 (fun g=>bad fun hq=> ?_) (fun g1=>Q1 (fun g=>bad fun hq=> ?_) (fun g2=>Q1 (fun g=>bad fun hq=> ?_) (fun g3=>Q1 (fun g=>bad fun hq=> ?_) (fun g4=> ?_))))
  ·have:=ZN.1 hq;simp only [ilt,Ba] at g;omega
  ·have:=ZN.1 hq;simp only [igt,Ba] at g;omega
  ·have:=ZN.1 hq;simp only [ilt,Qb,Ba] at g;omega
  ·have:=ZN.1 hq;simp only [igt,Qb,Ba] at g;omega
  ·simp only [ilt,igt,Qb,Bo] at g1 g2 g3 g4
   rw [beq_self_eq_true,By,Jw (by omega),Qd]
   have e0:Yg i.2.2.2.1 (0:Int).toNat=none:=rfl
   rw [e0,Bt,Bx]
   refine Q1 (fun g=>bad fun hq=> ?_) (fun g5=> ?_)
   ·have:=ZN.1 hq
    rw [this.2.2.2.2.1] at g
    cases g
   ·have hl:0<i.2.2.2.1.length:=by omega
    have e1:cIx i.2.2.2.1 0=true:=by simp only [cIx,Ba];omega
    have e2:lgt Zt i.2.2.2.1 0=i.2.2.2.1.headD ((0,(0,())),(0,())):=by
     cases hq:i.2.2.2.1 with
     |nil=>rw [hq] at hl;simp at hl
     |cons a l=>rfl
    rw [e1,Qd,e2]
    refine Q1 (fun g=>bad fun hq=> ?_) (fun g6=>Q1 (fun g=>bad fun hq=> ?_) (fun g7=> ?_))
    ·have:=ZN.1 hq;simp only [ilt,Ba] at g;omega
    ·have:=ZN.1 hq;simp only [igt,Ba] at g;omega
    ·simp only [ilt,igt,Bo] at g6 g7
     have:Zx i=true:=ZN.2 ⟨k1,k2,by omega,by omega,by simpa using g5,by omega,by omega⟩
     simp [YX,this]
 simp only [r_f63,QcY] at tail ⊢
 rw [h]
 simp only [Qd]
 refine Q1 (fun g1=>Q1 (fun g=>bad fun hq=> ?_) (fun g2=> ?_)) (fun g1=>Q1 (fun g=>bad fun hq=> ?_) (fun g2=>Q1 (fun g=>bad fun hq=> ?_) (fun g3=> ?_)))
 ·rw [(ZN.1 hq).1] at g;cases g
 ·simp only [Fp,Ba] at g1
  exact tail (by simpa using g2) (by omega)
 ·rw [(ZN.1 hq).1] at g;cases g
 ·have:=ZN.1 hq
  simp only [Fp,Bo,BB,Ba] at g1 g
  omega
 ·simp only [Fp,Bo,Bool.not_eq_false',Ba] at g1 g3
  exact tail (by simpa using g2) (by omega)
def QJp:Ent:=Qm (.pr Jf .nil) (fun x=>(YY x.1)) (fun x=>(.t tI (YX x.1)))
theorem ms_f63:EM 63 QJp:=mS (lk:=lkL (lkc QYX lkn)) Qtl QJl [((.t 2),some tI)] false (gB (gD Qg8 (gD Qak gN))) fun m=>Qq m fun x hok=>kT (s_f63 x.1 hok)
abbrev QjS:Sh:=⟨[(1,.ptr 1 0),(3,.ty tI)],[(1,.box Jf)]⟩
abbrev QJq:Sh:=⟨[],[]⟩
def Qtm:Fg:=QjS.f
def QJr:TC:=aF Tryz.f72 [(12,pE [[1],[1],[],[],[],[1],[1],[],[],[1],[1],[],[],[],[],[1],[1],[],[],[],[1],[1],[],[],[],[1],[1],[],[],[],[],[1],[1],[],[],[],[],[1],[1],[],[],[],[1],[1],[1],[1],[],[],[],[],[]] (oN 51)),(58,pL 0 Qtm),(931,.fg QJq.f),(1864,pE [[1],[1],[],[],[],[],[],[],[],[1],[1],[],[],[],[],[],[],[],[1],[1],[],[],[],[],[],[],[],[],[],[],[1],[1],[],[],[],[],[],[1],[1],[],[],[],[],[],[],[]] (oN 46)),(7461,.fg Qti.f)]
def QJs:TC:=lb 0 QJr
def QJt (x3:Int)(y1:Ag):VS:=QjS.st ((),x3,()) (y1,())
def Qtn  : VS:=QJq.st () ()
def QYY:VS->Option (Bool×List (Bool×Exit×VS)):=mkL QjS (fun x y=>(decide (0<=x.2.1/\x.2.1<=y.1.2.2.2.1.length/\y.1.2.2.2.1.length<=8))) (fun x y=>[((!(XX (Yg y.1.2.2.2.1 x.2.1.toNat) (y.1.2.2.2.1.drop x.2.1.toNat))),.ret,XY (30)),(true,.exit 0,Qtn)])
def Qto:G:=gG 108 [(118,Qhc),(119,IG)] (Ls [QYY])
def QjT (x3:Int)(y1:Ag):OX:=Qu (Qx Qto Qtm QJs) (QJt x3 y1)
def QcZ (kk:Int->Ag->OX)(x3:Int)(y1:Ag):OX:=
 let a1:=lgt Zt y1.2.2.2.1 (Int.toNat x3)
 let a2:=cIx y1.2.2.2.1 x3
 br (ilt x3 (Qb y1.2.2.2.1)) (br a2 (br (!(JJ (a1.1))) (some (.ret,XY 30)) (br a2 (br (ilt ((a1.2).1) 0) (some (.ret,XY 30)) (br a2 (br (igt ((a1.2).1) 40000) (some (.ret,XY 30)) (br (igt x3 0) (br (cIx y1.2.2.2.1 (QQ .i64 x3 1)) (br a2 (br (ige (((lgt Zt y1.2.2.2.1 (Int.toNat (QQ .i64 x3 1))).2).1) ((a1.2).1)) (some (.ret,XY 30)) (kk (Qi .i64 x3 1) y1)) none) none) (kk (Qi .i64 x3 1) y1))) none)) none)) none) (some (.exit 0,Qtn))
def Vp (x3:Int)(y1:Ag):OX:=br (!(XX (Yg y1.2.2.2.1 x3.toNat) (y1.2.2.2.1.drop x3.toNat))) (some (.ret,XY (30)))<|some (.exit 0,Qtn)
theorem QJu (x3 y1):QjT x3 y1=QcZ QjT x3 y1:=lnT (x:=QcZ (fun x3 y1=>some (.normal,QJt x3 y1)) x3 y1) (by simp only [QcZ,nxA];rfl)
def QjU (p0:Ag):OV:=br (ilt p0.2.2.1 1) (some (.t tI 30,[])) (br (igt p0.2.2.1 4) (some (.t tI 30,[])) (br (ilt (Qb p0.2.2.2.1) 1) (some (.t tI 30,[])) (br (igt (Qb p0.2.2.2.1) 8) (some (.t tI 30,[])) (br (igt p0.2.2.2.2.1 40000) (some (.t tI 30,[])) (br (cIx p0.2.2.2.1 0) (br (ilt p0.2.2.2.2.1 (((lgt Zt p0.2.2.2.1 (Int.toNat 0)).2).1)) (some (.t tI 30,[])) (br (decide (0<=(0:Int)/\(0:Int)<=p0.2.2.2.1.length/\p0.2.2.2.1.length<=8)) (br (!(XX (Yg p0.2.2.2.1 (0:Int).toNat) (p0.2.2.2.1.drop (0:Int).toNat))) (some (.t tI (30),[])) (some (.t tI 0,[]))) none)) none)))))
def r_f72 (p0:Ag):OV:=br (Jc p0.1) (br (!(JF p0.1)) (some (.t tI 30,[])) (br (ine p0.2.1 1) (br (ine p0.2.1 2) (some (.t tI 30,[])) (QjU p0)) (QjU p0))) none
theorem QYZ (x3:Int)(y1:Ag)(h:(decide (0<=x3/\x3<=y1.2.2.2.1.length/\y1.2.2.2.1.length<=8))=true):QjT x3 y1=Vp x3 y1:=by
 simp only [Ba] at h
 obtain ⟨h1,h2,h3⟩:=h
 obtain ⟨k,rfl⟩:=Bm h1
 refine QP y1.2.2.2.1 (fun k=>QjT (k:Int) y1=Vp (k:Int) y1) ?_ ?_ k (by omega)
 ·rw [QJu]
  simp [QcZ,Vp,Qv,Qb,Qh,XX]
 ·intro k hk ih
  rw [QJu]
  have el:Vp (k:Int) y1=br (!(JJ y1.2.2.2.1[k].1&&decide (0<=y1.2.2.2.1[k].2.1/\y1.2.2.2.1[k].2.1<=40000)&&(match Yg y1.2.2.2.1 k with|none=>true|some d=>decide (d<y1.2.2.2.1[k].2.1)))) (some (.ret,XY 30)) (Vp ((k+1:Nat):Int) y1):=by
   have e1:Yg y1.2.2.2.1 (k+1)=some y1.2.2.2.1[k].2.1:=by
    unfold Yg
    rw [if_neg (by omega),Nat.add_sub_cancel,Bl hk]
    rfl
   simp only [Vp,Bb,e1]
   rw [Bg hk,Qth]
   generalize (JJ y1.2.2.2.1[k].1&&decide (0<=y1.2.2.2.1[k].2.1/\y1.2.2.2.1[k].2.1<=40000)&&(match Yg y1.2.2.2.1 k with|none=>true|some d=>decide (d<y1.2.2.2.1[k].2.1)))=c
   cases c<;>rfl
  rw [el]
  simp only [QcZ,Qv,Qb,QM,hk,Bu,Qd,Bb,QO (k:=k),QN (y:=Zt) hk,ih]
  cases JJ y1.2.2.2.1[k].1 with
  |false=>rfl
  |true=>
   simp only [BA,Qh,By]
   by_cases c1:y1.2.2.2.1[k].2.1<0
   ·rw [show ilt y1.2.2.2.1[k].2.1 0=true from Bc c1,Qd,Bn (show ¬ (0<=y1.2.2.2.1[k].2.1/\y1.2.2.2.1[k].2.1<=40000) by omega)]
    rfl
   ·rw [show ilt y1.2.2.2.1[k].2.1 0=false from Bn c1,Qh]
    by_cases c2:40000<y1.2.2.2.1[k].2.1
    ·rw [show igt y1.2.2.2.1[k].2.1 40000=true from Bc (by omega),Qd,Bn (show ¬ (0<=y1.2.2.2.1[k].2.1/\y1.2.2.2.1[k].2.1<=40000) by omega)]
     rfl
    ·rw [show igt y1.2.2.2.1[k].2.1 40000=false from Bn (by omega),Qh,Bc (show 0<=y1.2.2.2.1[k].2.1/\y1.2.2.2.1[k].2.1<=40000 by omega)]
     simp only [By]
     by_cases hk0:k=0
     ·subst hk0
      rfl
     ·have hk1:k-1<y1.2.2.2.1.length:=by omega
      have e1:QQ .i64 (k:Int) 1=((k-1:Nat):Int):=by rw [Zv (by omega)];omega
      have e2:igt (k:Int) 0=true:=by simp only [igt,Ba];omega
      have e3:Yg y1.2.2.2.1 k=some y1.2.2.2.1[k-1].2.1:=by
       unfold Yg
       rw [if_neg hk0,Bl hk1]
       rfl
      rw [e1,e2,e3,Qd]
      simp only [QM,hk1,Bu,Qd,Bb,QN (y:=Zt) hk1]
      by_cases c3:y1.2.2.2.1[k-1].2.1<y1.2.2.2.1[k].2.1
      ·rw [show ige y1.2.2.2.1[k-1].2.1 y1.2.2.2.1[k].2.1=false from Bn (by omega),Qh,Bc c3]
       rfl
      ·rw [show ige y1.2.2.2.1[k-1].2.1 y1.2.2.2.1[k].2.1=true from Bc (by omega),Qd,Bn c3]
       rfl
theorem QY0:LO Qto Qtm QJs 0:=QC (s:=QjS) fun x y h _ q=>by simp only [QA,QB] at q;exact (QYZ x.2.1 y.1 h).trans q
theorem s_f72 (i)(h:YY i=true):r_f72 i=some (.t tI (YX i),[]):=by
 have h:Jc i.1=true:=h
 have bad:(Zx i=true->False)->some (V.t tI 30,([]:List VO))=some (V.t tI (YX i),[]):=fun hq=>by
  cases hi:Zx i with
  |false=>simp [YX,hi]
  |true=>exact (hq hi).elim
 have tail:JF i.1=true->(1<=i.2.1/\i.2.1<=2)->QjU i=some (.t tI (YX i),[]):=fun k1 k2=>by
  simp only [QjU]
  refine Q1 (fun g=>bad fun hq=> ?_) (fun g1=>Q1 (fun g=>bad fun hq=> ?_) (fun g2=>Q1 (fun g=>bad fun hq=> ?_) (fun g3=>Q1 (fun g=>bad fun hq=> ?_) (fun g4=>Q1 (fun g=>bad fun hq=> ?_) (fun g5=> ?_)))))
  ·have:=ZN.1 hq;simp only [ilt,Ba] at g;omega
  ·have:=ZN.1 hq;simp only [igt,Ba] at g;omega
  ·have:=ZN.1 hq;simp only [ilt,Qb,Ba] at g;omega
  ·have:=ZN.1 hq;simp only [igt,Qb,Ba] at g;omega
  ·have:=ZN.1 hq;simp only [igt,Ba] at g;omega
  ·simp only [ilt,igt,Qb,Bo] at g1 g2 g3 g4 g5
   have hl:0<i.2.2.2.1.length:=by omega
   have e1:cIx i.2.2.2.1 0=true:=by simp only [cIx,Ba];omega
   have e2:lgt Zt i.2.2.2.1 (Int.toNat 0)=i.2.2.2.1.headD ((0,(0,())),(0,())):=by
    cases hq:i.2.2.2.1 with
    |nil=>rw [hq] at hl;simp at hl
    |cons a l=>rfl
   rw [e1,Qd,e2]
   refine Q1 (fun g=>bad fun hq=> ?_) (fun g6=> ?_)
   ·have:=ZN.1 hq;simp only [ilt,Ba] at g;omega
   ·simp only [ilt,Bo] at g6
    rw [GA ⟨BY 0,by omega,by omega⟩,Qd]
    have e0:Yg i.2.2.2.1 (0:Int).toNat=none:=rfl
    rw [e0,Bt,Bx]
    refine Q1 (fun g=>bad fun hq=> ?_) (fun g7=> ?_)
    ·have:=ZN.1 hq
     rw [this.2.2.2.2.1] at g
     cases g
    ·have:Zx i=true:=ZN.2 ⟨k1,k2,by omega,by omega,by simpa using g7,by omega,by omega⟩
     simp [YX,this]
 simp only [r_f72]
 rw [h]
 simp only [Qd]
 refine Q1 (fun g=>bad fun hq=> ?_) (fun g1=>Q1 (fun g2=>Q1 (fun g=>bad fun hq=> ?_) (fun g3=> ?_)) (fun g2=> ?_))
 ·rw [(ZN.1 hq).1] at g;cases g
 ·have:=ZN.1 hq
  simp only [ine,bne_iff_ne,ne_eq] at g g2
  omega
 ·simp only [ine,DM] at g3
  exact tail (by simpa using g1) (by omega)
 ·simp only [ine,DM] at g2
  exact tail (by simpa using g1) (by omega)
def QJv:Ent:=Qm (.pr Jf .nil) (fun x=>(YY x.1)) (fun x=>(.t tI (YX x.1)))
theorem ms_f72:EM 72 QJv:=mS (lk:=lkL (lkc QY0 lkn)) Qto QJr [((.t 2),some tI)] false (gB (gD Qp4 (gD Qao gN))) fun m=>Qq m fun x hok=>kT (s_f72 x.1 hok)
abbrev ZL (l:List Aa)(k:Nat):Aa:=l.getD k zK
def egLt (a b:Aa):Bool:= !igt a.1 b.1&& !(ieq a.1 b.1&&ige a.2.1 b.2.1)
def QiN (n:Int)(x:Aa):Bool:= !ilt x.1 0&&(!ige x.1 n&&(!ilt x.2.1 0&&(!ige x.2.1 n&& !ieq x.1 x.2.1)))
def Qcw (n:Int)(l:List Aa)(k:Nat):Bool:=QiN n (ZL l k)&&(decide (k=0)||egLt (ZL l (k-1)) (ZL l k))
def Yc (n:Int)(l:List Aa)(k:Nat):Bool:=(List.range' k (l.length-k)).all (Qcw n l)
theorem QGP (n:Int)(l:List Aa):Yc n l l.length=true:=by
 unfold Yc
 rw [D0]
 rfl
theorem QGQ {n:Int}{l:List Aa}{k:Nat}(hk:k<l.length):Yc n l k=(Qcw n l k&&Yc n l (k+1)):=by
 have:l.length-k=(l.length-(k+1))+1:=by omega
 unfold Yc
 rw [this,Dr,B2]
theorem QGR {M:Type}(c1 c2 c3 c4 c5 u:Bool)(R E:Option M):br c1 R (br c2 R (br c3 R (br c4 R (br c5 R (br (!u) R E)))))=br (!(((!c1&&(!c2&&(!c3&&(!c4&& !c5))))&&true)&&u)) R E:=by
 cases c1<;>cases c2<;>cases c3<;>cases c4<;>cases c5<;>rfl
theorem QGS {M:Type}(c1 c2 c3 c4 c5 a b c u:Bool)(R E:Option M):br c1 R (br c2 R (br c3 R (br c4 R (br c5 R (br a R (br b (br c R (br (!u) R E)) (br (!u) R E)))))))=br (!(((!c1&&(!c2&&(!c3&&(!c4&& !c5))))&&(!a&& !(b&&c)))&&u)) R E:=by
 cases c1<;>cases c2<;>cases c3<;>cases c4<;>cases c5<;>cases a<;>cases b<;>cases c<;>rfl
theorem Vf {k:Nat}(hk:k<100000)(h0:k≠0):QQ .i64 (k:Int) 1=((k-1:Nat):Int):=by
 rw [Zv (by omega)]
 omega
def Qcx (l:List Aa)(n:Int):Bool:=Yc n l 0&&ile (Qb l) 40
def QiO (l:List Aa)(_n:Int):Bool:=decide (l.length<=99999)
abbrev QiP:Sh:=⟨[(0,.ty (.sl Qe)),(1,.ty tI),(7,.ty (.sl Qe)),(8,.ty tI),(9,.ty tI)],[]⟩
abbrev Qr4:Sh:=⟨[(4,.ty .bool)],[]⟩
abbrev QGT:Sh:=⟨[(0,.ty (.sl Qe))],[]⟩
def Qr5:Fg:=QiP.f
def QGU:TC:=aF Tryz.f64 [(26,pL 0 Qr5),(421,.fg QGT.f),(27029,.fg Qr4.f),(6758,pE [[],[],[],[],[],[],[],[],[],[6],[6],[],[],[],[],[],[],[],[],[6],[6],[],[],[],[],[],[],[],[],[6],[6],[],[],[],[]] (oN 35)),(27037,.fg Qr4.f)]
def QGV:TC:=lb 0 QGU
def QGW (x0:List Aa)(x1:Int)(x7:List Aa)(x8 x9:Int):VS:=QiP.st (x0,x1,x7,x8,x9,()) ()
def GS (x4:Bool):VS:=Qr4.st (x4,()) ()
def Qr6 (x0:List Aa):VS:=QGT.st (x0,()) ()
def QXg:VS->Option (Bool×List (Bool×Exit×VS)):=mkL QiP (fun x y=>(x.2.2.1==x.1&&(Qw x.2.2.1 x.2.2.2.1 x.2.2.2.2.1&&decide (x.2.2.1.length<=99999)))) (fun x y=>[((!Yc x.2.1 x.2.2.1 x.2.2.2.2.1.toNat),.ret,GS (false)),(true,.exit 0,Qr6 (x.1))])
def Qr7:G:=gG 80 [] (Ls [QXg])
def QiQ (x0:List Aa)(x1:Int)(x7:List Aa)(x8 x9:Int):OX:=Qu (Qx Qr7 Qr5 QGV) (QGW x0 x1 x7 x8 x9)
def Qcy (kk:List Aa->Int->List Aa->Int->Int->OX)(x0:List Aa)(x1:Int)(x7:List Aa)(x8 x9:Int):OX:=
 let a1:=lgt Qe x7 (Int.toNat x9)
 let a2:=lgt Qe x0 (Int.toNat (QQ .i64 x9 1))
 let a3:=cIx x0 (QQ .i64 x9 1)
 let a4:=Qi .i64 x9 1
 br (ilt x9 x8) (br (cIx x7 x9) (br (ilt (a1.1) 0) (some (.ret,GS false)) (br (ige (a1.1) x1) (some (.ret,GS false)) (br (ilt ((a1.2).1) 0) (some (.ret,GS false)) (br (ige ((a1.2).1) x1) (some (.ret,GS false)) (br (ieq (a1.1) ((a1.2).1)) (some (.ret,GS false)) (br (igt x9 0) (br a3 (br (igt (a2.1) (a1.1)) (some (.ret,GS false)) (br a3 (br (ieq (a2.1) (a1.1)) (br a3 (br (ige ((a2.2).1) ((a1.2).1)) (some (.ret,GS false)) (kk x0 x1 x7 x8 a4)) none) (kk x0 x1 x7 x8 a4)) none)) none) (kk x0 x1 x7 x8 a4))))))) none) (some (.exit 0,Qr6 x0))
def QiR (x0:List Aa)(x1:Int)(x7:List Aa)(x8 x9:Int):OX:=br (!Yc x1 x7 x9.toNat) (some (.ret,GS (false)))<|some (.exit 0,Qr6 (x0))
theorem QGX (x0 x1 x7 x8 x9):QiQ x0 x1 x7 x8 x9=Qcy QiQ x0 x1 x7 x8 x9:=lnT (x:=Qcy (fun x0 x1 x7 x8 x9=>some (.normal,QGW x0 x1 x7 x8 x9)) x0 x1 x7 x8 x9) (by simp only [Qcy,nxA];rfl)
def r_f64 (p0:List Aa)(p1:Int):OV:=br (p0==p0&&(Qw p0 (Qb p0) (0:Int)&&decide (p0.length<=99999))) (br (!Yc p1 p0 (0:Int).toNat) (some (.t .bool (false),[])) (some (.t .bool (ile (Qb (p0)) 40),[]))) none
theorem QXh (x0:List Aa)(x1:Int)(x7:List Aa)(x8 x9:Int)(h:(x7==x0&&(Qw x7 x8 x9&&decide (x7.length<=99999)))=true):QiQ x0 x1 x7 x8 x9=QiR x0 x1 x7 x8 x9:=by
 simp only [Bd,Dh,Ba] at h
 obtain ⟨rfl,h0,hl⟩:=h
 obtain ⟨rfl,h3,k,rfl,hk⟩:=Jv h0
 clear h0
 refine QP x7 (fun k=>QiQ x7 x1 x7 (x7.length:Int) (k:Int)=QiR x7 x1 x7 (x7.length:Int) (k:Int)) ?_ ?_ k hk
 ·rw [QGX]
  simp only [Qcy,QiR,Qv,BK,BP,Qh,Bb,QGP,BA]
 ·intro k hk ih
  rw [QGX]
  simp only [Qcy,Qv,QM,hk,Bu,Qd,Bb,QO (k:=k),ih]
  simp only [QiR,Bb,QGQ hk]
  by_cases hk0:k=0
  ·subst hk0
   rw [show igt ((0:Nat):Int) 0=false from rfl]
   simp only [Qh]
   exact QGR ..
  ·rw [show igt (k:Int) 0=true from Bc (by omega),Vf (by omega) hk0]
   simp only [Qd,QM,show k-1<x7.length by omega,Bu,Bb]
   unfold Qcw
   rw [show decide (k=0)=false from Bn hk0,De]
   exact QGS ..
theorem QXi:LO Qr7 Qr5 QGV 0:=QC (s:=QiP) fun x y h _ q=>by simp only [QA,QB] at q;exact (QXh x.1 x.2.1 x.2.2.1 x.2.2.2.1 x.2.2.2.2.1 h).trans q
theorem s_f64 (l n)(h:QiO l n=true):r_f64 l n=some (.t .bool (Qcx l n),[]):=by
 have hl:l.length<=99999:=Bw h
 simp only [r_f64,beq_self_eq_true,By,Jw (show l.length<=100000 by omega),Bc hl,Qd,Bt]
 unfold Qcx
 cases Yc n l 0<;>rfl
def QGY:Ent:=Qm (.pr (.sl Qe) (.pr tI .nil)) (fun x=>(QiO x.1 x.2.1)) (fun x=>(.t .bool (Qcx x.1 x.2.1)))
theorem ms_f64:EM 64 QGY:=mS (lk:=lkL (lkc QXi lkn)) Qr7 QGU [((.t 4),some .bool)] false (gB gN) fun m=>Qq m fun x hok=>kT (s_f64 x.1 x.2.1 hok)
def Xv (i:Ag):Bool:=ine (YX i) 0
theorem QGZ (i:Ag):Xv i= !Zx i:=by
 unfold Xv YX
 cases Zx i<;>rfl
def tc_f62:TC:=aF Tryz.f62 []
def g_f62:G:=gG 6 [(63,QJp)] (fun _ _=>none)
def r_f62 (p0:Ag):OV:=br (YY p0) (some (.t .bool (ine (YX p0) 0),[])) none
theorem s_f62 (i)(h:YY i=true):r_f62 i=some (.t .bool (Xv i),[]):=by
 simp only [r_f62,h,Qd]
 rfl
def QG0:Ent:=Qm (.pr Jf .nil) (fun x=>(YY x.1)) (fun x=>(.t .bool (Xv x.1)))
theorem ms_f62:EM 62 QG0:=mS g_f62 tc_f62 [((.t 2),some .bool)] false (gB (gD ms_f63 gN)) fun m=>Qq m fun x hok=>kT (s_f62 x.1 hok)
def Yd (l:List Ag):Bool:=decide (l.length<=100000)&&l.all YY
theorem QXj {l:List Ag}(h:Yd l=true){k:Nat}(hk:k<l.length):YY l[k]=true:=by
 simp only [Yd,Bd,Bi] at h
 exact h.2 _ (BC hk)
theorem QG1 {l:List Ag}(h:Yd l=true):l.length<=100000:=by
 simp only [Yd,Bd,Ba] at h
 exact h.1
def Vg (l:List Ag):Int:=match QG Xv l with|some k=>(k:Int)|none=> -1
abbrev QiS:Sh:=⟨[(0,.ty (.sl Jf)),(1,.cf 62),(7,.ty tI),(8,.ty tI)],[]⟩
abbrev QG2:Sh:=⟨[(4,.ty tI)],[]⟩
abbrev QiT:Sh:=⟨[],[]⟩
def Qr8:Fg:=QiS.f
def QG3:TC:=aF Tryz.f101 [(26,pL 0 Qr8),(421,.fg QiT.f),(13517,.fg QG2.f)]
def QG4:TC:=lb 0 QG3
def QG5 (x0:List Ag)(x7 x8:Int):VS:=QiS.st (x0,(),x7,x8,()) ()
def Qr9 (x4:Int):VS:=QG2.st (x4,()) ()
def Qsa  : VS:=QiT.st () ()
def QXk:VS->Option (Bool×List (Bool×Exit×VS)):=mkL QiS (fun x y=>(Qw x.1 x.2.2.1 x.2.2.2.1&&Yd x.1)) (fun x y=>[(((QG Xv (x.1.drop x.2.2.2.1.toNat)).isSome),.ret,Qr9 (x.2.2.2.1+((QG Xv (x.1.drop x.2.2.2.1.toNat)).getD 0:Nat))),(true,.exit 0,Qsa)])
def Qsb:G:=gG 19 [(62,QG0)] (Ls [QXk])
def QiU (x0:List Ag)(x7 x8:Int):OX:=Qu (Qx Qsb Qr8 QG4) (QG5 x0 x7 x8)
def Qcz (kk:List Ag->Int->Int->OX)(x0:List Ag)(x7 x8:Int):OX:=
 let a1:=lgt Jf x0 (Int.toNat x8)
 br (ilt x8 x7) (br (cIx x0 x8) (br (YY a1) (br (Xv a1) (some (.ret,Qr9 x8)) (kk x0 x7 (Qi .i64 x8 1))) none) none) (some (.exit 0,Qsa))
def QiV (x0:List Ag)(x7 x8:Int):OX:=
 let a1:=QG Xv (x0.drop x8.toNat)
 br (a1.isSome) (some (.ret,Qr9 (x8+(a1.getD 0:Nat))))<|some (.exit 0,Qsa)
theorem QG6 (x0 x7 x8):QiU x0 x7 x8=Qcz QiU x0 x7 x8:=lnT (x:=Qcz (fun x0 x7 x8=>some (.normal,QG5 x0 x7 x8)) x0 x7 x8) (by simp only [Qcz,nxA];rfl)
def QG7 (p0:List Ag):OV:=
 let a1:=(QG Xv (p0.drop (0:Int).toNat))
 br (Qw p0 (Qb p0) (0:Int)&&Yd p0) (br (a1.isSome) (some (.t tI ((0:Int)+(a1.getD 0:Nat)),[])) (some (.t tI (-1),[]))) none
theorem QXl (x0:List Ag)(x7 x8:Int)(h:(Qw x0 x7 x8&&Yd x0)=true):QiU x0 x7 x8=QiV x0 x7 x8:=by
 simp only [Bd] at h
 obtain ⟨h0,hc⟩:=h
 obtain ⟨rfl,h3,k,rfl,hk⟩:=Jv h0
 clear h0
 refine QP x0 (fun k=>QiU x0 (x0.length:Int) (k:Int)=QiV x0 (x0.length:Int) (k:Int)) ?_ ?_ k hk
 ·rw [QG6]
  simp [Qcz,QiV,Qv,Qh,QG]
 ·intro k hk ih
  rw [QG6]
  have hx:=QXj hc hk
  simp only [Qcz,Qv,QM,hk,Bu,Qd,Bb,QO (k:=k),ih,QN (y:=Jf) hk,hx]
  simp only [QiV,Bb,Bg hk,QG]
  cases h:(Xv x0[k]) with
  |true=>simp [Qd]
  |false=>
   simp only [Qh,BE,Dc]
   cases hq:QG Xv (x0.drop (k+1)) with
   |none=>rfl
   |some j=>
    simp only [B4,Da,BU,Qd]
    congr 3
    omega
theorem QXm:LO Qsb Qr8 QG4 0:=QC (s:=QiS) fun x y h _ q=>by simp only [QA,QB] at q;exact (QXl x.1 x.2.2.1 x.2.2.2.1 h).trans q
theorem QXn (l:List Ag)(h:Yd l=true):QG7 l=some (.t tI (Vg l),[]):=by
 have hl:=QG1 h
 simp only [QG7,Jw hl,h,B1,Qd,Bt,Bx,Vg]
 cases QG Xv l<;>simp [Qd,Qh]
def QG8:Ent:=YA [.ty (.sl Jf),.cf 62] [] (fun x d=>(Yd x.1)) (fun x d=>(.t tI (Vg x.1)))
theorem QXo:EM 101 QG8:=mS (lk:=lkL (lkc QXm lkn)) Qsb QG3 [((.t 4),some tI)] false (gB (gD ms_f62 gN)) fun m=>Yn m fun x d hok=>kT (QXn x.1 hok)
def E1 (l:List Ag):Bool:=l.any Xv
def QXp:TC:=aF Tryz.f61 []
def QXq:G:=gG 9 [(101,QG8)] (fun _ _=>none)
def QG9 (p0:List Ag):OV:=br (Yd p0) (some (.t .bool (ige (Vg p0) 0),[])) none
theorem QXr (l:List Ag)(h:Yd l=true):QG9 l=some (.t .bool (E1 l),[]):=by
 simp only [QG9,h,Qd]
 have e:ige (Vg l) 0=E1 l:=by
  unfold Vg E1
  cases hq:QG Xv l with
  |none=>rw [OB.1 hq];rfl
  |some k=>
   rw [<-QbJ,hq]
   simp only [ige,Da,Ba]
   omega
 rw [e]
def QHa:Ent:=YA [.ty (.sl Jf),.cf 62] [] (fun x d=>(Yd x.1)) (fun x d=>(.t .bool (E1 x.1)))
theorem QXs:EM 61 QHa:=mS QXq QXp [((.t 4),some .bool)] false (gB (gD QXo gN)) fun m=>Yn m fun x d hok=>kT (QXr x.1 hok)
abbrev zEp:Ac:=Ty.zero Qp
abbrev Yr (l:List Ac)(k:Nat):Ac:=l.getD k zEp
def QiW (l m:List Ac)(k:Nat):Bool:=Jj (Yr l k)&&(decide (k=0)||slt (Yr m (k-1)).1 (Yr l k).1)
def XT (l m:List Ac)(k:Nat):Bool:=(List.range' k (l.length-k)).all (QiW l m)
abbrev E2 (l:List Ac)(k:Nat):Bool:=XT l l k
theorem QHb (l m:List Ac):XT l m l.length=true:=by
 unfold XT
 rw [D0]
 rfl
theorem QHc {l m:List Ac}{k:Nat}(hk:k<l.length):XT l m k=(QiW l m k&&XT l m (k+1)):=by
 have:l.length-k=(l.length-(k+1))+1:=by omega
 unfold XT
 rw [this,Dr,B2]
abbrev QT (e:Ad):List Ac:=e.1
abbrev J3 (e:Ad):List Aa:=e.2.1
abbrev Z4 (e:Ad):List Ag:=e.2.2.1
def JQ (e:Ad):Bool:=E2 (QT e) 0&&((Z4 e).all Zx&&(ile (Qb (QT e)) 16&&(ile (Qb (Z4 e)) 30&&(Yc (Qb (QT e)) (J3 e) 0&&ile (Qb (J3 e)) 40))))
def Ye (e:Ad):Int:=bif JQ e then 0 else 31
theorem FM (e:Ad):ine (Ye e) 0= !JQ e:=by
 unfold Ye
 cases JQ e<;>rfl
def Jh (e:Ad):Bool:=decide ((QT e).length<=99999/\(J3 e).length<=99999)&&((QT e).all QY&&Yd (Z4 e))
theorem QXt (l:List Ag):E1 l= !l.all Zx:=by
 unfold E1
 rw [List.not_all_eq_any_not]
 congr 1
 funext x
 exact QGZ x
theorem QcA (a b:Int):ile a b= !igt a b:=by
 simp only [ile,igt, <- decide_not,Int.not_lt]
theorem QHd {M:Type}(v s u:Bool)(R E:Option M):br (!v) R (br (!s) R (br (!u) R E))=br (!((v&&s)&&u)) R E:=by
 cases v<;>cases s<;>rfl
theorem QHe {M:Type}(v u:Bool)(R E:Option M):br (!v) R (br (!u) R E)=br (!((v&&true)&&u)) R E:=by
 cases v<;>rfl
abbrev QiX:Sh:=⟨[(1,.ptr 1 0),(7,.ty (.sl Qp)),(8,.ty tI),(9,.ty tI)],[(1,.box Qo)]⟩
abbrev Vh:Sh:=⟨[(2,.ty tI)],[]⟩
abbrev QiY:Sh:=⟨[(1,.ptr 1 0)],[(1,.box Qo)]⟩
def Qsc:Fg:=QiX.f
def QHf:TC:=aF Tryz.f35 [(26,pL 0 Qsc),(421,.fg QiY.f),(3378,pE [[4],[],[],[],[],[],[],[1],[1],[],[],[],[],[],[4],[4],[],[],[]] (oN 19)),(13517,.fg Vh.f)]
def QHg:TC:=lb 0 QHf
def QHh (x7:List Ac)(x8 x9:Int)(y1:Ad):VS:=QiX.st ((),x7,x8,x9,()) (y1,())
def Yf (x2:Int):VS:=Vh.st (x2,()) ()
def GT (y1:Ad):VS:=QiY.st ((),()) (y1,())
def QXu:VS->Option (Bool×List (Bool×Exit×VS)):=mkL QiX (fun x y=>(decide (x.2.1.length=y.1.1.length/\x.2.1.length<=99999)&&(Qw x.2.1 x.2.2.1 x.2.2.2.1&&x.2.1.all QY))) (fun x y=>[((!XT x.2.1 y.1.1 x.2.2.2.1.toNat),.ret,Yf (31)),(true,.exit 0,GT (y.1))])
def Qsd:G:=gG 59 [(60,Qkr),(61,QHa),(64,QGY)] (Ls [QXu])
def QiZ (x7:List Ac)(x8 x9:Int)(y1:Ad):OX:=Qu (Qx Qsd Qsc QHg) (QHh x7 x8 x9 y1)
def QcB (kk:List Ac->Int->Int->Ad->OX)(x7:List Ac)(x8 x9:Int)(y1:Ad):OX:=
 let a1:=lgt Qp x7 (Int.toNat x9)
 br (ilt x9 x8) (br (cIx x7 x9) (br (QY a1) (br (ine (Zy a1) 0) (some (.ret,Yf 31)) (br (igt x9 0) (br (cIx y1.1 (QQ .i64 x9 1)) (br (!slt ((lgt Qp y1.1 (Int.toNat (QQ .i64 x9 1))).1) (a1.1)) (some (.ret,Yf 31)) (kk x7 x8 (Qi .i64 x9 1) y1)) none) (kk x7 x8 (Qi .i64 x9 1) y1))) none) none) (some (.exit 0,GT y1))
def Qi0 (x7:List Ac)(x8 x9:Int)(y1:Ad):OX:=br (!XT x7 y1.1 x9.toNat) (some (.ret,Yf (31)))<|some (.exit 0,GT (y1))
theorem QHi (x7 x8 x9 y1):QiZ x7 x8 x9 y1=QcB QiZ x7 x8 x9 y1:=lnT (x:=QcB (fun x7 x8 x9 y1=>some (.normal,QHh x7 x8 x9 y1)) x7 x8 x9 y1) (by simp only [QcB,nxA];rfl)
def r_f35 (p0:Ad):OV:=
 let a1:=((((p0).2).2).1)
 let a2:=Qb ((p0).1)
 br (decide (p0.1.length=p0.1.length/\p0.1.length<=99999)&&(Qw p0.1 (Qb p0.1) (0:Int)&&p0.1.all QY)) (br (!XT p0.1 p0.1 (0:Int).toNat) (some (.t tI (31),[])) (br (Yd a1) (br (E1 a1) (some (.t tI 31,[])) (br (igt a2 16) (some (.t tI 31,[])) (br (igt (Qb a1) 30) (some (.t tI 31,[])) (br (QiO (((p0).2).1) a2) (br (!(Qcx (((p0).2).1) a2)) (some (.t tI 31,[])) (some (.t tI 0,[]))) none)))) none)) none
theorem QXv (x7:List Ac)(x8 x9:Int)(y1:Ad)(h:(decide (x7.length=y1.1.length/\x7.length<=99999)&&(Qw x7 x8 x9&&x7.all QY))=true):QiZ x7 x8 x9 y1=Qi0 x7 x8 x9 y1:=by
 simp only [Bd,Ba,Bi] at h
 obtain ⟨⟨hx,hl⟩,h0,ha⟩:=h
 obtain ⟨rfl,h3,k,rfl,hk⟩:=Jv h0
 clear h0
 refine QP x7 (fun k=>QiZ x7 (x7.length:Int) (k:Int) y1=Qi0 x7 (x7.length:Int) (k:Int) y1) ?_ ?_ k hk
 ·rw [QHi]
  simp only [QcB,Qi0,Qv,BK,BP,Qh,Bb,QHb,BA]
 ·intro k hk ih
  rw [QHi]
  have he:QY (lgt Qp x7 k)=true:=by rw [QN (y:=Qp) hk];exact ha _ (BC hk)
  simp only [QcB,Qv,QM,hk,Bu,Qd,Bb,QO (k:=k),ih,he,Qdb]
  simp only [Qi0,Bb,QHc hk]
  by_cases hk0:k=0
  ·subst hk0
   rw [show igt ((0:Nat):Int) 0=false from rfl]
   simp only [Qh]
   exact QHe ..
  ·rw [show igt (k:Int) 0=true from Bc (by omega),Vf (by omega) hk0]
   simp only [Qd,QM,show k-1<y1.1.length by omega,Bu,Bb]
   unfold QiW
   rw [show decide (k=0)=false from Bn hk0,De]
   exact QHd ..
theorem QXw:LO Qsd Qsc QHg 0:=QC (s:=QiX) fun x y h _ q=>by simp only [QA,QB] at q;exact (QXv x.2.1 x.2.2.1 x.2.2.2.1 y.1 h).trans q
theorem s_f35 (e)(h:Jh e=true):r_f35 e=some (.t tI (Ye e),[]):=by
 simp only [Jh,Bd,Ba] at h
 obtain ⟨⟨h1,h2⟩,h3,h4⟩:=h
 have h5:QiO (J3 e) (Qb (QT e))=true:=Bc h2
 simp only [QT,J3,Z4] at h1 h2 h3 h4 h5
 simp only [r_f35,Jw (show e.1.length<=100000 by omega),Bc h1,true_and,By,h3,h4,h5,Qd,Bt,QXt]
 unfold Ye JQ Qcx
 simp only [QT,J3,Z4,E2]
 rw [QcA (Qb e.1),QcA (Qb e.2.2.1)]
 cases XT e.1 e.1 0<;>cases e.2.2.1.all Zx<;>cases igt (Qb e.1) 16<;>cases igt (Qb e.2.2.1) 30<;>cases (Yc (Qb e.1) e.2.1 0&&ile (Qb e.2.1) 40)<;>rfl
def Qi1:Ent:=Qm (.pr Qo .nil) (fun x=>(Jh x.1)) (fun x=>(.t tI (Ye x.1)))
theorem Qse:EM 35 Qi1:=mS (lk:=lkL (lkc QXw lkn)) Qsd QHf [((.t 2),some tI)] false (gB (gD QtT (gD QXs (gD ms_f64 gN)))) fun m=>Qq m fun x hok=>kT (s_f35 x.1 hok)
abbrev Qi2:Sh:=⟨[(1,.ptr 1 0),(3,.ty tI)],[(1,.box Qo)]⟩
abbrev Qi3:Sh:=⟨[(1,.ptr 1 0),(4,.ty tI)],[(1,.box Qo)]⟩
abbrev Qi4:Sh:=⟨[(1,.ptr 1 0),(6,.ty tI)],[(1,.box Qo)]⟩
def Qsf:Fg:=Qi2.f
def Qsg:Fg:=Qi3.f
def Qsh:Fg:=Qi4.f
def Qi5:TC:=aF Tryz.f38 [(58,pL 0 Qsf),(931,.fg QiY.f),(1864,pE [[1],[1],[],[],[],[],[],[],[],[],[],[1],[1],[],[],[],[],[],[1],[1],[],[],[],[],[],[],[]] (oN 27)),(7461,.fg Vh.f),(122,pL 1 Qsg),(1955,.fg QiY.f),(62613,.fg Vh.f),(15654,pE [[],[],[],[1],[1],[],[],[],[],[],[5],[5],[],[],[1],[1],[],[],[],[],[],[5],[5],[],[],[1],[1],[],[],[],[],[],[5],[5],[],[],[],[]] (oN 38)),(62621,.fg Vh.f),(250,pL 2 Qsh),(4003,.fg QiT.f),(32037,.fg Vh.f)]
def QHj:TC:=lb 0 Qi5
def QHk:TC:=lb 1 Qi5
def QHl:TC:=lb 2 Qi5
def QHm (x3:Int)(y1:Ad):VS:=Qi2.st ((),x3,()) (y1,())
def QHn (x4:Int)(y1:Ad):VS:=Qi3.st ((),x4,()) (y1,())
def QHo (x6:Int)(y1:Ad):VS:=Qi4.st ((),x6,()) (y1,())
def Qsi  : VS:=QiT.st () ()
def QXx:VS->Option (Bool×List (Bool×Exit×VS)):=mkL Qi2 (fun x y=>(decide (0<=x.2.1/\x.2.1<=y.1.1.length/\y.1.1.length<=16)&&y.1.1.all QY)) (fun x y=>[((!E2 y.1.1 x.2.1.toNat),.ret,Yf (31)),(true,.exit 0,GT (y.1))])
def QXy:VS->Option (Bool×List (Bool×Exit×VS)):=mkL Qi3 (fun x y=>(decide (0<=x.2.1/\x.2.1<=y.1.2.1.length/\y.1.2.1.length<=40))) (fun x y=>[((!Yc (Qb y.1.1) y.1.2.1 x.2.1.toNat),.ret,Yf (31)),(true,.exit 2,GT (y.1))])
def QXz:VS->Option (Bool×List (Bool×Exit×VS)):=mkL Qi4 (fun x y=>(decide (0<=x.2.1/\x.2.1<=y.1.2.2.1.length/\y.1.2.2.1.length<=30)&&y.1.2.2.1.all YY)) (fun x y=>[((!((y.1.2.2.1.drop x.2.1.toNat).all Zx)),.ret,Yf (31)),(true,.exit 4,Qsi)])
def E3:G:=gG 152 [(71,VA),(72,QJv)] (Ls [QXx,QXy,QXz])
def Qi6 (x3:Int)(y1:Ad):OX:=Qu (Qx E3 Qsf QHj) (QHm x3 y1)
def QcC (kk:Int->Ad->OX)(x3:Int)(y1:Ad):OX:=
 let a1:=lgt Qp y1.1 (Int.toNat x3)
 br (ilt x3 (Qb y1.1)) (br (cIx y1.1 x3) (br (QY a1) (br (ine (Zy a1) 0) (some (.ret,Yf 31)) (br (igt x3 0) (br (cIx y1.1 (QQ .i64 x3 1)) (br (cIx y1.1 x3) (br (!slt ((lgt Qp y1.1 (Int.toNat (QQ .i64 x3 1))).1) (a1.1)) (some (.ret,Yf 31)) (kk (Qi .i64 x3 1) y1)) none) none) (kk (Qi .i64 x3 1) y1))) none) none) (some (.exit 0,GT y1))
def Qi7 (x3:Int)(y1:Ad):OX:=br (!E2 y1.1 x3.toNat) (some (.ret,Yf (31)))<|some (.exit 0,GT (y1))
theorem QHp (x3 y1):Qi6 x3 y1=QcC Qi6 x3 y1:=lnT (x:=QcC (fun x3 y1=>some (.normal,QHm x3 y1)) x3 y1) (by simp only [QcC,nxA];rfl)
def Qi8 (x4:Int)(y1:Ad):OX:=Qu (Qx E3 Qsg QHk) (QHn x4 y1)
def QcD (kk:Int->Ad->OX)(x4:Int)(y1:Ad):OX:=
 let a1:=lgt Qe y1.2.1 (Int.toNat x4)
 let a2:=lgt Qe y1.2.1 (Int.toNat (QQ .i64 x4 1))
 let a3:=cIx y1.2.1 (QQ .i64 x4 1)
 let a4:=Qi .i64 x4 1
 br (ilt x4 (Qb y1.2.1)) (br (cIx y1.2.1 x4) (br (ilt (a1.1) 0) (some (.ret,Yf 31)) (br (ige (a1.1) (Qb y1.1)) (some (.ret,Yf 31)) (br (ilt ((a1.2).1) 0) (some (.ret,Yf 31)) (br (ige ((a1.2).1) (Qb y1.1)) (some (.ret,Yf 31)) (br (ieq (a1.1) ((a1.2).1)) (some (.ret,Yf 31)) (br (igt x4 0) (br a3 (br (igt (a2.1) (a1.1)) (some (.ret,Yf 31)) (br a3 (br (ieq (a2.1) (a1.1)) (br a3 (br (ige ((a2.2).1) ((a1.2).1)) (some (.ret,Yf 31)) (kk a4 y1)) none) (kk a4 y1)) none)) none) (kk a4 y1))))))) none) (some (.exit 2,GT y1))
def Qi9 (x4:Int)(y1:Ad):OX:=br (!Yc (Qb y1.1) y1.2.1 x4.toNat) (some (.ret,Yf (31)))<|some (.exit 2,GT (y1))
theorem QHq (x4 y1):Qi8 x4 y1=QcD Qi8 x4 y1:=lnT (x:=QcD (fun x4 y1=>some (.normal,QHn x4 y1)) x4 y1) (by simp only [QcD,nxA];rfl)
def Qja (x6:Int)(y1:Ad):OX:=Qu (Qx E3 Qsh QHl) (QHo x6 y1)
def QcE (kk:Int->Ad->OX)(x6:Int)(y1:Ad):OX:=
 let a1:=lgt Jf y1.2.2.1 (Int.toNat x6)
 br (ilt x6 (Qb y1.2.2.1)) (br (cIx y1.2.2.1 x6) (br (YY a1) (br (ine (YX a1) 0) (some (.ret,Yf 31)) (kk (Qi .i64 x6 1) y1)) none) none) (some (.exit 4,Qsi))
def Qjb (x6:Int)(y1:Ad):OX:=br (!((y1.2.2.1.drop x6.toNat).all Zx)) (some (.ret,Yf (31)))<|some (.exit 4,Qsi)
theorem QHr (x6 y1):Qja x6 y1=QcE Qja x6 y1:=lnT (x:=QcE (fun x6 y1=>some (.normal,QHo x6 y1)) x6 y1) (by simp only [QcE,nxA];rfl)
def r_f38 (p0:Ad):OV:=br (igt (Qb p0.1) 16) (some (.t tI 31,[])) (br (igt (Qb p0.2.1) 40) (some (.t tI 31,[])) (br (igt (Qb p0.2.2.1) 30) (some (.t tI 31,[])) (br (decide (0<=(0:Int)/\(0:Int)<=p0.1.length/\p0.1.length<=16)&&p0.1.all QY) (br (!E2 p0.1 (0:Int).toNat) (some (.t tI (31),[])) (br (decide (0<=(0:Int)/\(0:Int)<=(p0).2.1.length/\(p0).2.1.length<=40)) (br (!Yc (Qb (p0).1) (p0).2.1 (0:Int).toNat) (some (.t tI (31),[])) (br (decide (0<=(0:Int)/\(0:Int)<=(p0).2.2.1.length/\(p0).2.2.1.length<=30)&&(p0).2.2.1.all YY) (br (!(((p0).2.2.1.drop (0:Int).toNat).all Zx)) (some (.t tI (31),[])) (some (.t tI 0,[]))) none)) none)) none)))
theorem QXA (x3:Int)(y1:Ad)(h:(decide (0<=x3/\x3<=y1.1.length/\y1.1.length<=16)&&y1.1.all QY)=true):Qi6 x3 y1=Qi7 x3 y1:=by
 simp only [Bd,Ba,Bi] at h
 obtain ⟨⟨h0,h1,h2⟩,ha⟩:=h
 obtain ⟨k,rfl⟩:=Bm h0
 refine QP y1.1 (fun k=>Qi6 (k:Int) y1=Qi7 (k:Int) y1) ?_ ?_ k (by omega)
 ·rw [QHp]
  simp only [QcC,Qi7,Qb,Qv,BK,BP,Qh,Bb,QHb,BA]
 ·intro k hk ih
  rw [QHp]
  have he:QY (lgt Qp y1.1 k)=true:=by rw [QN (y:=Qp) hk];exact ha _ (BC hk)
  simp only [QcC,Qb,Qv,QM,hk,Bu,Qd,Bb,QO (k:=k),ih,he,Qdb]
  simp only [Qi7,Bb,QHc hk]
  by_cases hk0:k=0
  ·subst hk0
   rw [show igt ((0:Nat):Int) 0=false from rfl]
   simp only [Qh]
   exact QHe ..
  ·rw [show igt (k:Int) 0=true from Bc (by omega),Vf (by omega) hk0]
   simp only [Qd,QM,show k-1<y1.1.length by omega,Bu,Bb]
   unfold QiW
   rw [show decide (k=0)=false from Bn hk0,De]
   exact QHd ..
theorem QXB (x4:Int)(y1:Ad)(h:(decide (0<=x4/\x4<=y1.2.1.length/\y1.2.1.length<=40))=true):Qi8 x4 y1=Qi9 x4 y1:=by
 obtain ⟨h0,h1,h2⟩:=Bw h
 obtain ⟨k,rfl⟩:=Bm h0
 refine QP y1.2.1 (fun k=>Qi8 (k:Int) y1=Qi9 (k:Int) y1) ?_ ?_ k (by omega)
 ·rw [QHq]
  simp only [QcD,Qi9,show Qb y1.2.1=(y1.2.1.length:Int) from rfl,Qv,BK,BP,Qh,Bb,QGP,BA]
 ·intro k hk ih
  rw [QHq]
  simp only [QcD,show Qb y1.2.1=(y1.2.1.length:Int) from rfl,Qv,QM,hk,Bu,Qd,Bb,QO (k:=k),ih]
  simp only [Qi9,Bb,QGQ hk]
  by_cases hk0:k=0
  ·subst hk0
   rw [show igt ((0:Nat):Int) 0=false from rfl]
   simp only [Qh]
   exact QGR ..
  ·rw [show igt (k:Int) 0=true from Bc (by omega),Vf (by omega) hk0]
   simp only [Qd,QM,show k-1<y1.2.1.length by omega,Bu,Bb]
   unfold Qcw
   rw [show decide (k=0)=false from Bn hk0,De]
   exact QGS ..
theorem QXC (x6:Int)(y1:Ad)(h:(decide (0<=x6/\x6<=y1.2.2.1.length/\y1.2.2.1.length<=30)&&y1.2.2.1.all YY)=true):Qja x6 y1=Qjb x6 y1:=by
 simp only [Bd,Ba,Bi] at h
 obtain ⟨⟨h0,h1,h2⟩,ha⟩:=h
 obtain ⟨k,rfl⟩:=Bm h0
 refine QP y1.2.2.1 (fun k=>Qja (k:Int) y1=Qjb (k:Int) y1) ?_ ?_ k (by omega)
 ·rw [QHr]
  simp only [QcE,Qjb,Qb,Qv,BK,BP,Qh,Bb,BF,DC,BA]
 ·intro k hk ih
  rw [QHr]
  have he:YY y1.2.2.1[k]=true:=ha _ (BC hk)
  have hb:ine (YX y1.2.2.1[k]) 0= !Zx y1.2.2.1[k]:=QGZ _
  simp only [QcE,Qb,Qv,QM,hk,Bu,Qd,Bb,QO (k:=k),ih,QN (y:=Jf) hk,he,hb]
  simp only [Qjb,Bb,Bg hk,B2]
  cases Zx y1.2.2.1[k]<;>rfl
theorem QXD:LO E3 Qsf QHj 0:=QC (s:=Qi2) fun x y h _ q=>by simp only [QA,QB] at q;exact (QXA x.2.1 y.1 h).trans q
theorem QXE:LO E3 Qsg QHk 1:=QC (s:=Qi3) fun x y h _ q=>by simp only [QA,QB] at q;exact (QXB x.2.1 y.1 h).trans q
theorem QXF:LO E3 Qsh QHl 2:=QC (s:=Qi4) fun x y h _ q=>by simp only [QA,QB] at q;exact (QXC x.2.1 y.1 h).trans q
theorem s_f38 (e)(h:Jh e=true):r_f38 e=some (.t tI (Ye e),[]):=by
 simp only [Jh,Bd,Ba] at h
 obtain ⟨⟨h1,h2⟩,h3,h4⟩:=h
 have h6:(Z4 e).all YY=true:=by
  simp only [Yd,Bd] at h4
  exact h4.2
 simp only [QT,J3,Z4] at h1 h2 h3 h6
 simp only [r_f38,h3,h6,Db,Bt,Bx]
 unfold Ye JQ
 simp only [QT,J3,Z4,E2]
 rw [QcA (Qb e.1),QcA (Qb e.2.2.1),QcA (Qb e.2.1)]
 cases g1:igt (Qb e.1) 16 with
 |true=>cases XT e.1 e.1 0<;>cases e.2.2.1.all Zx<;>rfl
 |false=>
  cases g2:igt (Qb e.2.1) 40 with
  |true=>cases XT e.1 e.1 0<;>cases e.2.2.1.all Zx<;>cases igt (Qb e.2.2.1) 30<;>cases Yc (Qb e.1) e.2.1 0<;>rfl
  |false=>
   cases g3:igt (Qb e.2.2.1) 30 with
   |true=>cases XT e.1 e.1 0<;>cases e.2.2.1.all Zx<;>rfl
   |false=>
    simp only [igt,Qb,Bo] at g1 g2 g3
    rw [Bc (show (0:Int)<=0/\(0:Int)<=e.1.length/\e.1.length<=16 by omega),Bc (show (0:Int)<=0/\(0:Int)<=e.2.1.length/\e.2.1.length<=40 by omega),Bc (show (0:Int)<=0/\(0:Int)<=e.2.2.1.length/\e.2.2.1.length<=30 by omega)]
    cases XT e.1 e.1 0<;>cases e.2.2.1.all Zx<;>cases Yc (Qb e.1) e.2.1 0<;>rfl
def QcF:Ent:=Qm (.pr Qo .nil) (fun x=>(Jh x.1)) (fun x=>(.t tI (Ye x.1)))
theorem Qjc:EM 38 QcF:=mS (lk:=lkL (lkc QXD (lkc QXE (lkc QXF lkn)))) E3 Qi5 [((.t 2),some tI)] false (gB (gD Qdj (gD ms_f72 gN))) fun m=>Qq m fun x hok=>kT (s_f38 x.1 hok)
theorem brY {M:Type}{c:Bool}{a b r:Option M}(h:c=true)(k:a=r):br c a b=r:=by
 subst h
 exact k
def We (e:Ad)(i:Int):Ac×Ac:=(Yr (QT e) (ZL (J3 e) i.toNat).1.toNat,Yr (QT e) (ZL (J3 e) i.toNat).2.1.toNat)
def Fe (e:Ad)(i:Int):Bool:=cIx (J3 e) i&&(cIx (QT e) (ZL (J3 e) i.toNat).1&&cIx (QT e) (ZL (J3 e) i.toNat).2.1)
theorem eg_all {n:Int}{l:List Aa}(h:Yc n l 0=true){k:Nat}(hk:k<l.length):QiN n (ZL l k)=true:=by
 unfold Yc at h
 rw [Bi] at h
 have:=h k (by rw [List.mem_range'];exact ⟨k,by omega,by omega⟩)
 unfold Qcw at this
 exact (Bf.1 this).1
theorem eg_in {n:Int}{x:Aa}(h:QiN n x=true):(0<=x.1/\x.1<n)/\(0<=x.2.1/\x.2.1<n)/\x.1≠x.2.1:=by
 simp only [QiN,ilt,ige,Fp,Bd,BB,Bo] at h
 refine ⟨⟨by omega,by omega⟩,⟨by omega,by omega⟩,h.2.2.2.2⟩
theorem WG {e:Ad}(h:JQ e=true):E2 (QT e) 0=true/\(Z4 e).all Zx=true/\(QT e).length<=16/\(Z4 e).length<=30/\Yc (Qb (QT e)) (J3 e) 0=true/\(J3 e).length<=40:=by
 simp only [JQ,ile,Qb,Bd,Ba] at h
 exact ⟨h.1,h.2.1,by omega,by omega,h.2.2.2.2.1,by omega⟩
theorem QPT {e:Ad}(h:JQ e=true){k:Nat}(hk:k<(J3 e).length):(0<=(ZL (J3 e) k).1/\(ZL (J3 e) k).1<(QT e).length)/\(0<=(ZL (J3 e) k).2.1/\(ZL (J3 e) k).2.1<(QT e).length)/\(ZL (J3 e) k).1≠(ZL (J3 e) k).2.1:=
 eg_in (eg_all (WG h).2.2.2.2.1 hk)
theorem Qy4 {e:Ad}{i:Int}(h:JQ e=true)(h0:0<=i)(h1:i<(J3 e).length):Fe e i=true:=by
 obtain ⟨k,rfl⟩:=Bm h0
 have:=QPT h (k:=k) (by omega)
 simp only [Fe,cIx,Bb,Bd,Ba]
 exact ⟨⟨by omega,by omega⟩,⟨this.1.1,this.1.2⟩,this.2.1.1,this.2.1.2⟩
theorem Qy5 {e:Ad}(h:Jh e=true):(QT e).all QY=true:=by
 simp only [Jh,Bd] at h
 exact h.2.1
theorem Qy6 {l:List Ac}(h:l.all QY=true){c:Int}(hc:cIx l c=true):QY (Yr l c.toNat)=true:=by
 simp only [cIx,Ba] at hc
 obtain ⟨k,rfl⟩:=Bm hc.1
 have hk:k<l.length:=by omega
 rw [Bb,show Yr l k=l[k] by simp only [Yr,Bp,Bl hk,BU]]
 exact Bi.1 h _ (BC hk)
theorem QPU {e:Ad}{i:Int}(h:Jh e=true)(hi:Fe e i=true):WZ (We e i).1 (We e i).2=true:=by
 simp only [Fe,Bd] at hi
 exact Bf.2 ⟨Qy6 (Qy5 h) hi.2.1,Qy6 (Qy5 h) hi.2.2⟩
theorem Qve {x:Int}(h:ine x 0=false):x=0:=by
 simpa [ine] using h
theorem Q1L (s:Ac)(o:List Int): ∀ (n v:Nat),(XM s o v n).length<=16*n:=by
 intro n
 induction n with
 |zero=>intro v;simp [XM]
 |succ n ih=>
  intro v
  have h1:(YQ s o (v:Int) 1).length<=16:=by
   unfold YQ
   rw [BT]
   exact B5 (DG _ _) (by rw [List.length_range'];omega)
  have h2:=ih (v+1)
  unfold XM at h2 ⊢
  rw [Dr,BV,Bj]
  omega
theorem F3 {c s:Ac}:(Xo c s).length<=64:=by
 unfold Xo
 cases h:Uw c s with
 |false=>exact B0 _
 |true=>
  obtain ⟨hv,hw⟩:=Bf.1 h
  have v1:=FT hv
  have v2:=FT hw
  refine B5 (Q1L _ _ _ _) ?_
  simp only [hiC,loC,imn,imx]
  split<;>split<;>omega
end K
namespace K
open Go.RowKit Go.Shelf
def Gk:List Aa:=[(2,(0,())),(1,(0,())),(5,(2048,())),(16,(128,())),(3,(0,())),(15,(168,()))]
def YL:Nat->Int->Ab->List Ap×Ab
 |0,_,d=>([],d)
 |n+1,day,d=>((lgt Qe Gk (Qg d 6).toNat,(day,()))::(YL n (Qi .i64 (Qi .i64 day 1) (dof (Qc d 6) [5,30,0,100])) (Qr (Qc d 6) [5,30,0,100])).1,(YL n (Qi .i64 (Qi .i64 day 1) (dof (Qc d 6) [5,30,0,100])) (Qr (Qc d 6) [5,30,0,100])).2)
def V3 (d:Ab):Ab:=Qc (Qc (Qc (Qc d 2) 4) 20) 3
def JW (d:Ab):List Ap×Ab:=YL (Qi .i64 1 (Qg (Qc (Qc (Qc d 2) 4) 20) 3)).toNat (Qg (Qc (Qc d 2) 4) 20) (V3 d)
def It (d:Ab)(s:ByteArray):Ag:=(s,(Qi .i64 1 (Qg d 2),(Qi .i64 1 (Qg (Qc d 2) 4),((JW d).1,(Qi .i64 (lgt Zt (JW d).1 0).2.1 (dof (JW d).2 [50,300,0,3000]),())))))
def G8 (d:Ab)(_s:ByteArray):Ab:=Qr (JW d).2 [50,300,0,3000]
def Iu (d:Ab)(_s:ByteArray):Bool:=dOk d
theorem QNh {n:Nat}: ∀ {day:Int} {d:Ab},dOk d=true->dOk (YL n day d).2=true:=by
 induction n with
 |zero=>exact fun h=>h
 |succ n ih=>exact fun h=>ih (JB (l:=[5,30,0,100]) (Qz h))
theorem QvT {d:Ab}(h:dOk d=true):dOk (JW d).2=true:=QNh (Qz (Qz (Qz (Qz h))))
theorem Qd4 {d:Ab}{s:ByteArray}(h:dOk d=true):dOk (G8 d s)=true:=JB (QvT h)
theorem QlY: ∀ (n:Nat) (day:Int) (d:Ab),(YL n day d).1.length=n
 |0,_,_=>rfl
 |n+1,day,d=>by simp only [YL,Br,QlY n]
theorem QNi:Gk.all JJ=true:=by kernel_rfl
theorem QNj {y:Ty}{l:List y.T}{i:Nat}(h:i<l.length):lgt y l i∈l:=by
 rw [QN (y:=y) h]
 exact BC h
theorem QNk {e:Ab}:0<=dof e [5,30,0,100]/\dof e [5,30,0,100]<=100:=by
 have h:=X9 (d:=e) (l:=[5,30,0,100]) (by decide)
 simp only [BQ,B3,Dt] at h
 omega
theorem QvU: ∀ (n:Nat) (day:Int) (d:Ab) (pv:Option Int),n<=3->0<=day->day+101*n<=1000->(∀ e,pv=some e->e<day)->XX pv (YL n day d).1=true
 |0,_,_,pv,_,_,_,_=>by cases pv<;>rfl
 |n+1,day,d,pv,h1,h2,h3,h4=>by
  have hv:=Q8 (d:=d) (n:=6) (by omega)
  have hs:=QNk (e:=Qc d 6)
  have e1:Qi .i64 (Qi .i64 day 1) (dof (Qc d 6) [5,30,0,100])=day+1+dof (Qc d 6) [5,30,0,100]:=by rw [Ja (a:=day) (b:=1) (by omega),Ja (by omega)]
  unfold YL
  rw [Qth,e1]
  have hu:JJ (lgt Qe Gk (Qg d 6).toNat)=true:=Bi.1 QNi _ (QNj (y:=Qe) (by have:Gk.length=6:=rfl;omega))
  have hr:=QvU n (day+1+dof (Qc d 6) [5,30,0,100]) (Qr (Qc d 6) [5,30,0,100]) (some day) (by omega) (by omega) (by omega) (fun e he=>by injection he;omega)
  simp only [hu,hr,Bc (show 0<=day/\day<=40000 by omega),By,Db]
  cases pv with
  |none=>rfl
  |some e=>exact Bc (h4 e rfl)
theorem QNl: ∀ (n:Nat) (day:Int) (d:Ab),0<n->((YL n day d).1.headD ((0,(0,())),(0,()))).2.1=day
 |0,_,_,h=>by omega
 |n+1,day,d,_=>rfl
theorem QNm (d:Ab):1<=(JW d).1.length/\(JW d).1.length<=3:=by
 have b3:=Q8 (d:=Qc (Qc (Qc d 2) 4) 20) (n:=3) (by omega)
 have e3:Qi .i64 1 (Qg (Qc (Qc (Qc d 2) 4) 20) 3)=1+Qg (Qc (Qc (Qc d 2) 4) 20) 3:=Ja (by omega)
 unfold JW
 rw [QlY,e3]
 omega
theorem QNn (d:Ab){s:ByteArray}(hs:JF s=true):Zx (It d s)=true:=by
 have b2:=Q8 (d:=d) (n:=2) (by omega)
 have b4:=Q8 (d:=Qc d 2) (n:=4) (by omega)
 have b20:=Q8 (d:=Qc (Qc d 2) 4) (n:=20) (by omega)
 have b3:=Q8 (d:=Qc (Qc (Qc d 2) 4) 20) (n:=3) (by omega)
 have e2:Qi .i64 1 (Qg d 2)=1+Qg d 2:=Ja (by omega)
 have e4:Qi .i64 1 (Qg (Qc d 2) 4)=1+Qg (Qc d 2) 4:=Ja (by omega)
 have e3:Qi .i64 1 (Qg (Qc (Qc (Qc d 2) 4) 20) 3)=1+Qg (Qc (Qc (Qc d 2) 4) 20) 3:=Ja (by omega)
 have hl:=QNm d
 have hh:((JW d).1.headD ((0,(0,())),(0,()))).2.1=Qg (Qc (Qc d 2) 4) 20:=QNl _ _ _ (by rw [e3];omega)
 have e0:lgt Zt (JW d).1 0=(JW d).1.headD ((0,(0,())),(0,())):=by
  cases hq:(JW d).1 with
  |nil=>rw [hq] at hl;simp at hl
  |cons a l=>rfl
 have hu:0<=dof (JW d).2 [50,300,0,3000]/\dof (JW d).2 [50,300,0,3000]<=3000:=by
  have h:=X9 (d:=(JW d).2) (l:=[50,300,0,3000]) (by decide)
  simp only [BQ,B3,Dt] at h
  omega
 have eu:Qi .i64 (lgt Zt (JW d).1 0).2.1 (dof (JW d).2 [50,300,0,3000])=(lgt Zt (JW d).1 0).2.1+dof (JW d).2 [50,300,0,3000]:=Ja (by rw [e0,hh];omega)
 refine ZN.2 ⟨hs, ?_, ?_, ?_, ?_, ?_⟩
 ·show 1<=Qi .i64 1 (Qg d 2)/\Qi .i64 1 (Qg d 2)<=2
  omega
 ·show 1<=Qi .i64 1 (Qg (Qc d 2) 4)/\Qi .i64 1 (Qg (Qc d 2) 4)<=4
  omega
 ·show 1<=(JW d).1.length/\(JW d).1.length<=8
  omega
 ·exact QvU _ _ _ none (by rw [e3];omega) (by omega) (by omega) (fun e he=>by cases he)
 ·show ((JW d).1.headD ((0,(0,())),(0,()))).2.1<=Qi .i64 (lgt Zt (JW d).1 0).2.1 (dof (JW d).2 [50,300,0,3000])/\Qi .i64 (lgt Zt (JW d).1 0).2.1 (dof (JW d).2 [50,300,0,3000])<=40000
  rw [eu,e0,hh]
  omega
abbrev Qd5:Sh:=⟨[(0,.ptr 50000 0),(4,.ptr 4 0),(5,.ptr 5 0),(6,.ty tI),(7,.ty tI)],[(4,.box Jf),(5,.bag [.ty .str,.ty tI,.ty tI,.ms 20503,.ty tI]),(43,.no),(20503,.arr 122 Zt),(50000,.box Qn)]⟩
abbrev QNo:Sh:=⟨[(0,.ptr 50000 0),(4,.ptr 4 0),(5,.ptr 5 0)],[(4,.box Jf),(5,.bag [.ty .str,.ty tI,.ty tI,.ms 20503,.ty tI]),(43,.no),(20503,.arr 122 Zt),(50000,.box Qn)]⟩
def QlZ:Fg:=Qd5.f
def QvV:TC:=aF Tryz.f31 [(122,.nf 5 3 122 20503),(122,pL 0 QlZ),(1955,.fg ⟨[(0,none),(4,none),(5,none)],[(4,some Jf),(5,some Jf),(43,none),(20503,none),(50000,some Qn)]⟩),(62,pE [[5,43,20503],[5,43,20503],[43,20503],[43,20503],[43,20503],[50000],[],[58,5058,10058,15058,50000],[],[5,43,20503],[4,5,43,20503]] (oN 11))]
def QvW:TC:=lb 0 QvV
def QvX (x6 x7:Int)(y4:Ag)(y5_0:ByteArray)(y5_1 y5_2 y5_4:Int)(ZF:List Ap)(Qa:Ab):VS:=Qd5.st ((),(),(),x6,x7,()) (y4,(y5_0,y5_1,y5_2,(),y5_4,()),(),ZF,Qa,())
def Ql0 (y4:Ag)(y5_0:ByteArray)(y5_1 y5_2 y5_4:Int)(ZF:List Ap)(Qa:Ab):VS:=QNo.st ((),(),(),()) (y4,(y5_0,y5_1,y5_2,(),y5_4,()),(),ZF,Qa,())
def QNp:VS->Option (Bool×List (Bool×Exit×VS)):=mkL Qd5 (fun x y=>(dOk y.2.2.2.2.1&&decide (0<=x.2.2.2.2.1/\x.2.2.2.2.1<=100/\y.2.2.2.1.length+x.2.2.2.2.1.toNat<=1000))) (fun x y=>[(true,.exit 0,Ql0 (y.1) (y.2.1.1) (y.2.1.2.1) (y.2.1.2.2.1) (y.2.1.2.2.2.2.1) (y.2.2.2.1++(YL x.2.2.2.2.1.toNat x.2.2.2.1 y.2.2.2.2.1).1) ((YL x.2.2.2.2.1.toNat x.2.2.2.1 y.2.2.2.2.1).2))])
def Ql1:G:=gG 62 [(10,Y9),(33,Ug)] (Ls [QNp])
def Ql2 (x6 x7:Int)(y4:Ag)(y5_0:ByteArray)(y5_1 y5_2 y5_4:Int)(ZF:List Ap)(Qa:Ab):OX:=Qu (Qx Ql1 QlZ QvW) (QvX x6 x7 y4 y5_0 y5_1 y5_2 y5_4 ZF Qa)
def V4 (kk:Int->Int->Ag->ByteArray->Int->Int->Int->List Ap->Ab->OX)(x6 x7:Int)(y4:Ag)(y5_0:ByteArray)(y5_1 y5_2 y5_4:Int)(ZF:List Ap)(Qa:Ab):OX:=
 let a1:=(lgt Qe ([(2,(0,())),(1,(0,())),(5,(2048,())),(16,(128,())),(3,(0,())),(15,(168,()))]) (Int.toNat (Qg Qa 6)))
 let a2:=((a1.1,((a1.2).1,())),(x6,()))
 let a3:=Qc Qa 6
 br (igt x7 0) (br (QE Qa 6) (br (cIx ([(2,(0,())),(1,(0,())),(5,(2048,())),(16,(128,())),(3,(0,())),(15,(168,()))]) (Qg Qa 6)) (br (Qt ZF ([a2]) 24) (br (QR a3 ([5,30,0,100])) (kk (Qi .i64 (Qi .i64 x6 1) (dof a3 ([5,30,0,100]))) (QQ .i64 x7 1) y4 y5_0 y5_1 y5_2 y5_4 (ZF++([a2])) (Qr a3 ([5,30,0,100]))) none) none) none) none) (some (.exit 0,Ql0 y4 y5_0 y5_1 y5_2 y5_4 ZF Qa))
def V5 (x6 x7:Int)(y4:Ag)(y5_0:ByteArray)(y5_1 y5_2 y5_4:Int)(ZF:List Ap)(Qa:Ab):OX:=
 let a1:=YL x7.toNat x6 Qa
 some (.exit 0,Ql0 (y4) (y5_0) (y5_1) (y5_2) (y5_4) (ZF++a1.1) (a1.2))
theorem QvY (x6 x7 y4 y5_0 y5_1 y5_2 y5_4 ZF Qa):Ql2 x6 x7 y4 y5_0 y5_1 y5_2 y5_4 ZF Qa=V4 Ql2 x6 x7 y4 y5_0 y5_1 y5_2 y5_4 ZF Qa:=lnT (x:=V4 (fun x6 x7 y4 y5_0 y5_1 y5_2 y5_4 ZF Qa=>some (.normal,QvX x6 x7 y4 y5_0 y5_1 y5_2 y5_4 ZF Qa)) x6 x7 y4 y5_0 y5_1 y5_2 y5_4 ZF Qa) (by simp only [V4,nxA];rfl)
def r_f31 (d0:Ab)(p1:ByteArray):OV:=
 let a2:=Qc (Qc (Qc d0 2) 4) 20
 let a3:=Qi .i64 1 (Qg a2 3)
 let a1:=YL a3.toNat (Qg (Qc (Qc d0 2) 4) 20) (Qc a2 3)
 br (QE d0 2) (br (QE (Qc d0 2) 4) (br (QE (Qc (Qc d0 2) 4) 20) (br (QE a2 3) (br (dOk (Qc a2 3)&&decide (0<=a3/\a3<=100/\([]:List Ap).length+a3.toNat<=1000)) (br (cIx (([]:List Ap)++a1.1) 0) (br (cLd (([]:List Ap)++a1.1) (Int.toNat 0)) (br (QR (a1.2) ([50,300,0,3000])) (some (.t Jf ((p1),((Qi .i64 1 (Qg d0 2)),((Qi .i64 1 (Qg (Qc d0 2) 4)),((([]:List Ap)++a1.1),((Qi .i64 (((lgt Zt (([]:List Ap)++a1.1) (Int.toNat 0)).2).1) (dof (a1.2) ([50,300,0,3000]))),()))))),[.box (.t Qn (Qr (a1.2) ([50,300,0,3000])))])) none) none) none) none) none) none) none) none
theorem QNq (x6 x7:Int)(y4:Ag)(y5_0:ByteArray)(y5_1 y5_2 y5_4:Int)(ZF:List Ap)(Qa:Ab)(h:(dOk Qa&&decide (0<=x7/\x7<=100/\ZF.length+x7.toNat<=1000))=true):Ql2 x6 x7 y4 y5_0 y5_1 y5_2 y5_4 ZF Qa=V5 x6 x7 y4 y5_0 y5_1 y5_2 y5_4 ZF Qa:=by
 simp only [Bd,Ba] at h
 obtain ⟨hd,h1,h2q,h3⟩:=h
 obtain ⟨k,rfl⟩:=Bm h1
 rw [Bb] at h3
 have h2:k<=100:=by omega
 clear h1 h2q
 induction k generalizing ZF Qa x6 with
 |zero=>
  rw [QvY]
  have e1:igt ((0:Nat):Int) 0=false:=rfl
  simp only [V4,e1,Qh,V5,Bb,YL,BH]
 |succ k ih=>
  rw [QvY]
  have e1:igt ((k+1:Nat):Int) 0=true:=by simp only [igt,Ba];omega
  have e2:QQ .i64 ((k+1:Nat):Int) 1=(k:Int):=by rw [Zv (by omega)];omega
  have hv:=Q8 (d:=Qa) (n:=6) (by omega)
  have hc:cIx Gk (Qg Qa 6)=true:=by
   have:Gk.length=6:=rfl
   simp only [cIx,Ba]
   omega
  have hla:V5 x6 ((k+1:Nat):Int) y4 y5_0 y5_1 y5_2 y5_4 ZF Qa=V5 (Qi .i64 (Qi .i64 x6 1) (dof (Qc Qa 6) [5,30,0,100])) (k:Int) y4 y5_0 y5_1 y5_2 y5_4 (ZF++[(lgt Qe Gk (Qg Qa 6).toNat,(x6,()))]) (Qr (Qc Qa 6) [5,30,0,100]):=by
   simp only [V5,Bb,YL,BG]
   rfl
  rw [hla, <- ih _ _ _ (JB (Qz hd)) (by simp;omega) (by omega)]
  have n6:QE Qa 6=true:=by simp [QE,hd]
  have f1:QR (Qc Qa 6) [5,30,0,100]=true:=by simp [QR,Qz hd]
  simp only [V4,e1,e2,n6,f1,Qd,show ([(2,(0,())),(1,(0,())),(5,(2048,())),(16,(128,())),(3,(0,())),(15,(168,()))]:List Aa)=Gk from rfl,hc]
  rw [QpP (by simp;omega) (by omega),Qd]
  show br (cIx Gk (Qg Qa 6)) _ _=_
  rw [hc,Qd]
theorem QNr:LO Ql1 QlZ QvW 0:=QC (s:=Qd5) fun x y h _ q=>by simp only [QA,QB] at q;exact (QNq x.2.2.2.1 x.2.2.2.2.1 y.1 y.2.1.1 y.2.1.2.1 y.2.1.2.2.1 y.2.1.2.2.2.2.1 y.2.2.2.1 y.2.2.2.2.1 h).trans q
theorem s_f31 (d s)(h:Iu d s=true):r_f31 d s=some (.t Jf (It d s),[.box (.t Qn (G8 d s))]):=by
 have h:dOk d=true:=h
 have n2:QE d 2=true:=by simp [QE,h]
 have n4:QE (Qc d 2) 4=true:=by simp [QE,Qz h]
 have n20:QE (Qc (Qc d 2) 4) 20=true:=by simp [QE,Qz (Qz h)]
 have n3:QE (Qc (Qc (Qc d 2) 4) 20) 3=true:=by simp [QE,Qz (Qz (Qz h))]
 have b3:=Q8 (d:=Qc (Qc (Qc d 2) 4) 20) (n:=3) (by omega)
 have e3:Qi .i64 1 (Qg (Qc (Qc (Qc d 2) 4) 20) 3)=1+Qg (Qc (Qc (Qc d 2) 4) 20) 3:=Ja (by omega)
 have hl:=QlY (Qi .i64 1 (Qg (Qc (Qc (Qc d 2) 4) 20) 3)).toNat (Qg (Qc (Qc d 2) 4) 20) (V3 d)
 have hd3:dOk (V3 d)=true:=Qz (Qz (Qz (Qz h)))
 have hL:dOk (JW d).2=true:=QvT h
 have f5:QR (JW d).2 [50,300,0,3000]=true:=by simp [QR,hL]
 have hlen:0<(JW d).1.length:=by
  show 0<(YL _ _ _).1.length
  rw [hl]
  omega
 have c1:cIx (JW d).1 0=true:=by simp only [cIx,Ba];omega
 have c2:cLd (JW d).1 (Int.toNat 0)=true:=by simp only [cLd,Ba];exact hlen
 simp only [r_f31,n2,n4,n20,n3,Qd,BM,show Qc (Qc (Qc (Qc d 2) 4) 20) 3=V3 d from rfl,hd3,By]
 rw [GA ⟨by omega,by omega,by simp;omega⟩,Qd]
 simp only [show YL (Qi .i64 1 (Qg (Qc (Qc (Qc d 2) 4) 20) 3)).toNat (Qg (Qc (Qc d 2) 4) 20) (V3 d)=JW d from rfl,c1,c2,f5,Qd]
 rfl
def Ql3:Ent:=Yz Qn (.pr .str .nil) (fun d x=>(Iu d x.1)) (fun d x=>(.t Jf (It d x.1))) (fun d x=>(G8 d x.1))
theorem QvZ:EM 31 Ql3:=mS (lk:=lkL (lkc QNr lkn)) Ql1 QvV [((.c 4 true 5),some Jf)] false (gB (gD Xq (gD UY gN))) fun m=>Y7 m rfl fun d x hok=>kT (s_f31 d x.1 hok)
abbrev Qd6:Sh:=⟨[(0,.ty (.sl Qe)),(1,.ty (.sl Qe)),(12,.ty tI),(13,.ty tI)],[]⟩
abbrev Ql4:Sh:=⟨[(4,.ty .bool)],[]⟩
abbrev Qd7:Sh:=⟨[],[]⟩
def Ql5:Fg:=Qd6.f
def Qv0:TC:=aF Tryz.f17 [(58,pL 0 Ql5),(933,.fg Qd7.f),(7474,pE [[],[],[],[],[],[],[],[],[]] (oN 9)),(29901,.fg Ql4.f)]
def Qv1:TC:=lb 0 Qv0
def Qv2 (x0 x1:List Aa)(x12 x13:Int):VS:=Qd6.st (x0,x1,x12,x13,()) ()
def Iv (x4:Bool):VS:=Ql4.st (x4,()) ()
def Ql6  : VS:=Qd7.st () ()
def QNs:VS->Option (Bool×List (Bool×Exit×VS)):=mkL Qd6 (fun x y=>(decide (0<=x.2.2.2.1/\x.2.2.2.1<=x.1.length/\x.1.length=x.2.1.length/\x.2.2.1=x.1.length/\x.1.length<=100000))) (fun x y=>[((!(x.1.drop x.2.2.2.1.toNat==x.2.1.drop x.2.2.2.1.toNat)),.ret,Iv (false)),(true,.exit 0,Ql6)])
def Ql7:G:=gG 26 [] (Ls [QNs])
def Qd8 (x0 x1:List Aa)(x12 x13:Int):OX:=Qu (Qx Ql7 Ql5 Qv1) (Qv2 x0 x1 x12 x13)
def V6 (kk:List Aa->List Aa->Int->Int->OX)(x0 x1:List Aa)(x12 x13:Int):OX:=
 let a1:=Int.toNat x13
 br (ilt x13 x12) (br (cIx x0 x13) (br (cIx x1 x13) (br (!(and (ieq ((lgt Qe x0 a1).1) ((lgt Qe x1 a1).1)) (and (ieq (((lgt Qe x0 a1).2).1) (((lgt Qe x1 a1).2).1)) true))) (some (.ret,Iv false)) (kk x0 x1 x12 (Qi .i64 x13 1))) none) none) (some (.exit 0,Ql6))
def Qd9 (x0 x1:List Aa)(x12 x13:Int):OX:=br (!(x0.drop x13.toNat==x1.drop x13.toNat)) (some (.ret,Iv (false)))<|some (.exit 0,Ql6)
theorem Qv3 (x0 x1 x12 x13):Qd8 x0 x1 x12 x13=V6 Qd8 x0 x1 x12 x13:=lnT (x:=V6 (fun x0 x1 x12 x13=>some (.normal,Qv2 x0 x1 x12 x13)) x0 x1 x12 x13) (by simp only [V6,nxA];rfl)
def Ql8 (p0 p1:List Aa):OV:=br (ine (Qb p0) (Qb p1)) (some (.t .bool false,[])) (br (decide (0<=(0:Int)/\(0:Int)<=p0.length/\p0.length=p1.length/\(Qb p0)=p0.length/\p0.length<=100000)) (br (!(p0.drop (0:Int).toNat==p1.drop (0:Int).toNat)) (some (.t .bool (false),[])) (some (.t .bool true,[]))) none)
theorem QNt (x0 x1:List Aa)(x12 x13:Int)(h:(decide (0<=x13/\x13<=x0.length/\x0.length=x1.length/\x12=x0.length/\x0.length<=100000))=true):Qd8 x0 x1 x12 x13=Qd9 x0 x1 x12 x13:=by
 simp only [Ba] at h
 obtain ⟨h0,h1,h2,rfl,h3⟩:=h
 obtain ⟨k,rfl⟩:=Bm h0
 refine QP x0 (fun k=>Qd8 x0 x1 (x0.length:Int) (k:Int)=Qd9 x0 x1 (x0.length:Int) (k:Int)) ?_ ?_ k (by omega)
 ·rw [Qv3]
  simp only [V6,Qd9,Qv,BK,BP,Qh,Bb,BF]
  rw [h2,BF]
  rfl
 ·intro k hk ih
  rw [Qv3]
  have hk2:k<x1.length:=by omega
  have hq:(and (ieq x0[k].1 x1[k].1) (and (ieq x0[k].2.1 x1[k].2.1) true))=(x0[k]==x1[k]):=rfl
  simp only [V6,Qv,QM,hk,hk2,Bu,Qd,Bb,QO (k:=k),QN (y:=Qe) hk,QN (y:=Qe) hk2,ih]
  rw [hq]
  simp only [Qd9,Bb,Bg hk,Bg hk2,List.cons_beq_cons]
  cases x0[k]==x1[k]<;>rfl
theorem QNu:LO Ql7 Ql5 Qv1 0:=QC (s:=Qd6) fun x y h _ q=>by simp only [QA,QB] at q;exact (QNt x.1 x.2.1 x.2.2.1 x.2.2.2.1 h).trans q
theorem s_f17 (a b)(h:Gr a b=true):Ql8 a b=some (.t .bool (El a b),[]):=by
 simp only [Gr,Ba] at h
 unfold El
 by_cases hl:a.length=b.length
 ·simp only [Ql8,show ine (Qb a) (Qb b)=false by simp only [ine,Qb,hl];simp,Qh,Bt,Bx]
  refine brY (Bc ⟨by omega,by omega,hl,trivial,h.1⟩) ?_
  cases a==b<;>rfl
 ·have:(a==b)=false:=Dv.2 fun e=>hl (by rw [e])
  simp only [Ql8,show ine (Qb a) (Qb b)=true by simp only [ine,Qb,bne_iff_ne];omega,Qd,this]
def Qv4:Ent:=Qm (.pr (.sl Qe) (.pr (.sl Qe) .nil)) (fun x=>(Gr x.1 x.2.1)) (fun x=>(.t .bool (El x.1 x.2.1)))
theorem ms_f17:EM 17 Qv4:=mS (lk:=lkL (lkc QNu lkn)) Ql7 Qv0 [((.t 4),some .bool)] false (gB gN) fun m=>Qq m fun x hok=>kT (s_f17 x.1 x.2.1 hok)
def F8 (a b:List Int):Bool:=a==b
def Gl (a b:List Int):Bool:=decide (a.length<=100000/\b.length<=100000)
abbrev Qea:Sh:=⟨[(0,.ty (.sl tI)),(1,.ty (.sl tI)),(12,.ty tI),(13,.ty tI)],[]⟩
def Ql9:Fg:=Qea.f
def Qv5:TC:=aF Tryz.f26 [(58,pL 0 Ql9),(933,.fg Qd7.f),(7474,pE [[],[],[],[],[],[],[],[],[]] (oN 9)),(29901,.fg Ql4.f)]
def Qv6:TC:=lb 0 Qv5
def Qv7 (x0 x1:List Int)(x12 x13:Int):VS:=Qea.st (x0,x1,x12,x13,()) ()
def Qma  : VS:=Qd7.st () ()
def QNv:VS->Option (Bool×List (Bool×Exit×VS)):=mkL Qea (fun x y=>(decide (0<=x.2.2.2.1/\x.2.2.2.1<=x.1.length/\x.1.length=x.2.1.length/\x.2.2.1=x.1.length/\x.1.length<=100000))) (fun x y=>[((!(x.1.drop x.2.2.2.1.toNat==x.2.1.drop x.2.2.2.1.toNat)),.ret,Iv (false)),(true,.exit 0,Qma)])
def Qmb:G:=gG 26 [] (Ls [QNv])
def Qeb (x0 x1:List Int)(x12 x13:Int):OX:=Qu (Qx Qmb Ql9 Qv6) (Qv7 x0 x1 x12 x13)
def V7 (kk:List Int->List Int->Int->Int->OX)(x0 x1:List Int)(x12 x13:Int):OX:=br (ilt x13 x12) (br (cIx x0 x13) (br (cIx x1 x13) (br (ine (lgt tI x0 (Int.toNat x13)) (lgt tI x1 (Int.toNat x13))) (some (.ret,Iv false)) (kk x0 x1 x12 (Qi .i64 x13 1))) none) none) (some (.exit 0,Qma))
def Qec (x0 x1:List Int)(x12 x13:Int):OX:=br (!(x0.drop x13.toNat==x1.drop x13.toNat)) (some (.ret,Iv (false)))<|some (.exit 0,Qma)
theorem Qv8 (x0 x1 x12 x13):Qeb x0 x1 x12 x13=V7 Qeb x0 x1 x12 x13:=lnT (x:=V7 (fun x0 x1 x12 x13=>some (.normal,Qv7 x0 x1 x12 x13)) x0 x1 x12 x13) (by simp only [V7,nxA];rfl)
def Qmc (p0 p1:List Int):OV:=br (ine (Qb p0) (Qb p1)) (some (.t .bool false,[])) (br (decide (0<=(0:Int)/\(0:Int)<=p0.length/\p0.length=p1.length/\(Qb p0)=p0.length/\p0.length<=100000)) (br (!(p0.drop (0:Int).toNat==p1.drop (0:Int).toNat)) (some (.t .bool (false),[])) (some (.t .bool true,[]))) none)
theorem QNw (x0 x1:List Int)(x12 x13:Int)(h:(decide (0<=x13/\x13<=x0.length/\x0.length=x1.length/\x12=x0.length/\x0.length<=100000))=true):Qeb x0 x1 x12 x13=Qec x0 x1 x12 x13:=by
 simp only [Ba] at h
 obtain ⟨h0,h1,h2,rfl,h3⟩:=h
 obtain ⟨k,rfl⟩:=Bm h0
 refine QP x0 (fun k=>Qeb x0 x1 (x0.length:Int) (k:Int)=Qec x0 x1 (x0.length:Int) (k:Int)) ?_ ?_ k (by omega)
 ·rw [Qv8]
  simp only [V7,Qec,Qv,BK,BP,Qh,Bb,BF]
  rw [h2,BF]
  rfl
 ·intro k hk ih
  rw [Qv8]
  have hk2:k<x1.length:=by omega
  have hq:ine x0[k] x1[k]= !(x0[k]==x1[k]):=rfl
  simp only [V7,Qv,QM,hk,hk2,Bu,Qd,Bb,QO (k:=k),QN (y:=tI) hk,QN (y:=tI) hk2,ih]
  rw [hq]
  simp only [Qec,Bb,Bg hk,Bg hk2,List.cons_beq_cons]
  cases x0[k]==x1[k]<;>rfl
theorem QNx:LO Qmb Ql9 Qv6 0:=QC (s:=Qea) fun x y h _ q=>by simp only [QA,QB] at q;exact (QNw x.1 x.2.1 x.2.2.1 x.2.2.2.1 h).trans q
theorem s_f26 (a b)(h:Gl a b=true):Qmc a b=some (.t .bool (F8 a b),[]):=by
 simp only [Gl,Ba] at h
 unfold F8
 by_cases hl:a.length=b.length
 ·simp only [Qmc,show ine (Qb a) (Qb b)=false by simp only [ine,Qb,hl];simp,Qh,Bt,Bx]
  refine brY (Bc ⟨by omega,by omega,hl,trivial,h.1⟩) ?_
  cases a==b<;>rfl
 ·have:(a==b)=false:=Dv.2 fun e=>hl (by rw [e])
  simp only [Qmc,show ine (Qb a) (Qb b)=true by simp only [ine,Qb,bne_iff_ne];omega,Qd,this]
def Qv9:Ent:=Qm (.pr (.sl tI) (.pr (.sl tI) .nil)) (fun x=>(Gl x.1 x.2.1)) (fun x=>(.t .bool (F8 x.1 x.2.1)))
theorem ms_f26:EM 26 Qv9:=mS (lk:=lkL (lkc QNx lkn)) Qmb Qv5 [((.t 4),some .bool)] false (gB gN) fun m=>Qq m fun x hok=>kT (s_f26 x.1 x.2.1 hok)
def Zo:Aa:=(5,(2048,()))
def Qwa:TC:=aF Tryz.f51 []
def Qwb:List (RV×Option Ty):=[((.c 0 true 2),some Qe)]
def g_f51:G:=gG 2 [] (fun _ _=>none)
def r_f51  : OV:=some (.t Qe (5,(2048,())),[])
theorem e_f51  : JL g_f51 Qwa Qwb false [] []=r_f51  :=by kernel_rfl
theorem s_f51:r_f51=some (.t Qe Zo,[]):=rfl
def Qmd:Ent:=Qm .nil (fun x=>true) (fun x=>(.t Qe Zo))
theorem Qwc:EM 51 Qmd:=mS g_f51 Qwa Qwb false (gB gN) fun m=>Qq m fun x _=>(e_f51 ).trans (s_f51)
def leafC (nm:ByteArray)(k:Aa)(id to:Int):Af:=(id,(GU,(nm,(k,(id,((3,(0,())),(0,(to,(false,(0,([nm],((0,(0,())),()))))))))))))
def YM (nm:ByteArray)(k:Aa)(id a to:Int):Aj:=(k,(id,([(XP (leafC nm k id to) a).1],())))
def Iw (nm:ByteArray)(_k:Aa)(_id _a _to:Int):Bool:=decide (nm.size<=1000)
def tc_f50:TC:=aF Tryz.f50 []
def g_f50:G:=gG 32 [(82,Qqg)] (fun _ _=>none)
def r_f50 (p0:ByteArray)(p1:Aa)(p2 p3 p4:Int):OV:=
 let a1:=((XP (p2,((ByteArray.mk #[114,111,111,116]),(p0,((p1.1,(p1.2.1,())),(p2,((3,(0,())),(0,(p4,(false,(0,([p0],((0,(0,())),())))))))))))) p3).1)
 let a4:=(((a1.2).2).2)
 let a2:=((a4.2).2)
 let a3:=((((a2.2).2).2).2)
 br (GE (p2,((ByteArray.mk #[114,111,111,116]),(p0,((p1.1,(p1.2.1,())),(p2,((3,(0,())),(0,(p4,(false,(0,([p0],((0,(0,())),())))))))))))) p3) (some (.t Q2 ((p1.1,(p1.2.1,())),(p2,([(a1.1,((a1.2).1,(((a1.2).2).1,(((a4.1).1,(((a4.1).2).1,())),((a4.2).1,(((a2.1).1,(((a2.1).2).1,())),((a2.2).1,(((a2.2).2).1,((((a2.2).2).2).1,(a3.1,((a3.2).1,(((((a3.2).2).1).1,(((((a3.2).2).1).2).1,())),()))))))))))))],()))),[])) none
theorem s_f50 (nm k id a to)(h:Iw nm k id a to=true):r_f50 nm k id a to=some (.t Q2 (YM nm k id a to),[]):=by
 have hs:nm.size<=1000:=Bw h
 unfold r_f50
 exact brY (QeP (by decide) hs (l:=[nm]) (Nat.le_succ 1) (fun t ht=>by rw [Dz.1 ht];omega)) rfl
def Qme:Ent:=Qm (.pr .str (.pr Qe (.pr tI (.pr tI (.pr tI .nil))))) (fun x=>(Iw x.1 x.2.1 x.2.2.1 x.2.2.2.1 x.2.2.2.2.1)) (fun x=>(.t Q2 (YM x.1 x.2.1 x.2.2.1 x.2.2.2.1 x.2.2.2.2.1)))
theorem Qwd:EM 50 Qme:=mS g_f50 tc_f50 [((.c 10 true 4),some Q2)] false (gB (gD QDD gN)) fun m=>Qq m fun x hok=>kT (s_f50 x.1 x.2.1 x.2.2.1 x.2.2.2.1 x.2.2.2.2.1 hok)
end K
end Go.Proofs.YtkmobehaikjdjaaGreat
