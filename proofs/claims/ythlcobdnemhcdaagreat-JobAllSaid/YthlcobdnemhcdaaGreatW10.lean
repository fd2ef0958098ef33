import Derived.Test.YthlcobdnemhcdaaGreatW9
import Derived.Test.YthlcobdnemhcdaaGreatW8
import Derived.Test.YthlcobdnemhcdaaGreatW4
set_option linter.unusedSimpArgs false
set_option linter.unusedVariables false
noncomputable section
namespace Go.Proofs.YthlcobdnemhcdaaGreat.K
open Go.RowKit
def orO {α:Type}(a b:Option α):Option α:=match a with
 |some x=>some x
 |none=>b
theorem Qk4 {RA RB RE:Fun}{a:List V}{o:List VO}{rA rB rE x:OV}(hA:RA a o=rA)(hB:RB a o=rB)(hE:RE a o=rE)(h:orO rA (orO rB rE)=x):orF RA (orF RB RE) a o=x:=by
 unfold orF
 rw [hA,hB,hE]
 cases rA<;>cases rB<;>exact h
def Ju (y:Policy)(i:Item):Bool:=Q5 y&&QGV i.1
theorem Qk5 {y:Policy}{i:Item}(h:Ju y i=true):(WQ y i=true/\i.2.1=1/\Jj y i=true)∨(WQ y i=false/\U4 y i=true/\i.2.1=2/\Jj y i=true)∨(WQ y i=false/\U4 y i=false/\FR y i=true/\Jj y i=false):=by
 cases hf:Jj y i with
 |false=>exact .inr (.inr ⟨by simp [WQ,hf],by simp [U4,hf],by rw [FR,hf];simpa [Ju] using h,rfl⟩)
 |true=>
  have hf2:=hf
  simp only [Jj,Bc] at hf2
  have hk:=(JK.1 hf2.2).2.1
  by_cases h1:i.2.1=1
  ·exact .inl ⟨by simp [WQ,hf,h1,ieq],h1,rfl⟩
  ·have h2:i.2.1=2:=by omega
   exact .inr (.inl ⟨by simp [WQ,h2,ieq],by simp [U4,hf,h2,ieq],h2,rfl⟩)
theorem Iy (y:Policy)(i:Item):ine (ofE y i) 0=true:=by
 unfold ofE
 split<;>rfl
theorem VM {y:Policy}{i:Item}(h:Jj y i=true):Q8 (QR y i)=true/\E7 (QR y i)=true/\cIx i.2.2.2.1 0=true/\Qw .i64 (Qc i.2.2.2.1) 1=((i.2.2.2.1.length-1:Nat):Int)/\cIx i.2.2.2.1 ((i.2.2.2.1.length-1:Nat):Int)=true:=by
 simp only [Jj,Bc] at h
 have hi:=(JK.1 h.2).2.2.2.1
 have hl:(QR y i).length=i.2.2.2.1.length:=by simp [QR]
 have h5:Q8 (QR y i)=true:=Be (by omega)
 refine ⟨h5, ?_,by simp only [cIx,Ba];omega, ?_,by simp only [cIx,Ba];omega⟩
 ·rw [E7,h5,Bu]
  cases hq:QR y i with
  |nil=>rw [hq] at hl;simp at hl;omega
  |cons a l=>rfl
 ·rw [JO (by unfold Qc;omega)]
  unfold Qc
  omega
def ZM (y:Policy)(i:Item):Int×Int:=if Jj y i then (if ieq i.2.1 1 then Qi6 (QR y i) else Zi (QR y i),0) else (0,ofE y i)
def Xq (y:Policy)(i:Item):Int×Bool:=if ieq i.2.1 1 then Ge (QR y i) else ZL (QR y i)
def J5 (y:Policy)(i:Item):Int×Bool×Int:=if Jj y i then ((Xq y i).1,(Xq y i).2,0) else (0,false,ofE y i)
def Qk6:TC:=(.sq (.reg (rT Tryz.f111 0)) (.sq (.reg (rT Tryz.f111 1)) (.sq (.sq (.reg (rT Tryz.f111 2)) (.cd (.t 18) (.sq (.reg (rT Tryz.f111 3)) .rt) .sk)) (.sq (.reg (rT Tryz.f111 4)) (.sq (.reg (rT Tryz.f111 5)) .rt)))))
def Qvv:List (RV×Option Ty):=[((.t 4),some tI),((.t 5),some .bool),((.t 6),some tI)]
def QdA:G:=gG 27 [(91,QhX),(1000031,Qsl)] (fun _ _=>none)
def VN (p0:Policy)(p1:Item):OV:=
 let a1:=((ofA p0 p1).1)
 br (WQ p0 p1) (br (ine ((ofA p0 p1).2) 0) (some (.tu [(.t tI 0),(.t .bool false),(.t tI ((ofA p0 p1).2))],[])) (br (Q8 a1) (some (.tu [(.t tI ((Ge a1).1)),(.t .bool ((Ge a1).2)),(.t tI 0)],[])) none)) none
theorem QJ3 (p0:Policy)(p1:Item):QS QdA Qk6 Qvv false [.t QE p0,.t Qp p1] []=VN p0 p1:=by kernel_rfl
theorem QJ4:GOk Tryz.prog QdA:=Jp _ (gA (gC QqN QqO (gC QHk QHl gN)))
theorem QJ5:Qk6.lok QdA:=by repeat (first|exact trivial|refine ⟨?_, ?_⟩)
theorem QJ6:Qu Tryz.prog 111 (QS QdA Qk6 Qvv false):=mG Tryz.func111 (by kernel_rfl) Tryz.ntmps111 (by kernel_rfl) QJ4 QJ5
def Qk7:TC:=(.sq (.reg (rT Tryz.f111 0)) (.sq (.reg (rT Tryz.f111 1)) (.sq (.sq (.reg (rT Tryz.f111 2)) (.cd (.t 18) (.sq (.reg (rT Tryz.f111 3)) .rt) .sk)) (.sq (.reg (rT Tryz.f111 4)) (.sq (.reg (rT Tryz.f111 5)) .rt)))))
def Qvw:List (RV×Option Ty):=[((.t 4),some tI),((.t 5),some .bool),((.t 6),some tI)]
def QdB:G:=gG 27 [(91,QhY),(1000031,Qsm)] (fun _ _=>none)
def QdC (p0:Policy)(p1:Item):OV:=
 let a1:=((ofA p0 p1).1)
 br (U4 p0 p1) (br (ine ((ofA p0 p1).2) 0) (some (.tu [(.t tI 0),(.t .bool false),(.t tI ((ofA p0 p1).2))],[])) (br (E7 a1) (some (.tu [(.t tI ((ZL a1).1)),(.t .bool ((ZL a1).2)),(.t tI 0)],[])) none)) none
theorem QJ7 (p0:Policy)(p1:Item):QS QdB Qk7 Qvw false [.t QE p0,.t Qp p1] []=QdC p0 p1:=by kernel_rfl
theorem QJ8:GOk Tryz.prog QdB:=Jp _ (gA (gC QqP QqQ (gC QHn QHo gN)))
theorem QJ9:Qk7.lok QdB:=by repeat (first|exact trivial|refine ⟨?_, ?_⟩)
theorem QKa:Qu Tryz.prog 111 (QS QdB Qk7 Qvw false):=mG Tryz.func111 (by kernel_rfl) Tryz.ntmps111 (by kernel_rfl) QJ8 QJ9
def Qk8:TC:=(.sq (.reg (rT Tryz.f111 0)) (.sq (.reg (rT Tryz.f111 1)) (.sq (.sq (.reg (rT Tryz.f111 2)) (.cd (.t 18) (.sq (.reg (rT Tryz.f111 3)) .rt) .sk)) (.sq (.reg (rT Tryz.f111 4)) (.sq (.reg (rT Tryz.f111 5)) .rt)))))
def Qvx:List (RV×Option Ty):=[((.t 4),some tI),((.t 5),some .bool),((.t 6),some tI)]
def QdD:G:=gG 27 [(91,QhZ)] (fun _ _=>none)
def Qk9 (p0:Policy)(p1:Item):OV:=br (FR p0 p1) (br (ine (ofE p0 p1) 0) (some (.tu [(.t tI 0),(.t .bool false),(.t tI (ofE p0 p1))],[])) none) none
theorem QKb (p0:Policy)(p1:Item):QS QdD Qk8 Qvx false [.t QE p0,.t Qp p1] []=Qk9 p0 p1:=by kernel_rfl
theorem QKc:GOk Tryz.prog QdD:=Jp _ (gA (gC QqR QqS gN))
theorem QKd:Qk8.lok QdD:=by repeat (first|exact trivial|refine ⟨?_, ?_⟩)
theorem QKe:Qu Tryz.prog 111 (QS QdD Qk8 Qvx false):=mG Tryz.func111 (by kernel_rfl) Tryz.ntmps111 (by kernel_rfl) QKc QKd
theorem s_f111 (y:Policy)(i:Item)(h:Ju y i=true):orO (VN y i) (orO (QdC y i) (Qk9 y i))=some (.tu [.t tI (J5 y i).1,.t .bool (J5 y i).2.1,.t tI (J5 y i).2.2],[]):=by
 rcases Qk5 h with ⟨a1,a2,a3⟩|⟨a0,a1,a2,a3⟩|⟨a0,b0,a1,a3⟩
 ·obtain ⟨a4,_,a5,_,_⟩:=VM a3
  simp only [VN,a1,Qf,ofA,show ine 0 0=false from rfl,Qi,J5,Xq,a3,if_true,ZS,a2,Bo,a4,orO]
 ·obtain ⟨a4,a6,a5,e7,e8⟩:=VM a3
  simp only [VN,QdC,a0,a1,Qf,ofA,show ine 0 0=false from rfl,Qi,J5,Xq,a3,if_true,ZS,a2,a4,a6,orO]
  rfl
 ·have a2:=Iy y i
  simp only [VN,QdC,Qk9,a0,b0,a1,Qf,Qi,a2,J5,a3,BK,Dc,orO]
def Qvy:Ent:=Qo (.pr QE (.pr Qp .nil)) (fun x=>(Ju x.1 x.2.1)) (fun x=>(.tu [(.t tI ((J5 x.1 x.2.1).1)),(.t .bool (((J5 x.1 x.2.1).2).1)),(.t tI (((J5 x.1 x.2.1).2).2))]))
theorem QKf:Ja Tryz.prog 111:= .inr ⟨by decide,_,Tryz.func111,by kernel_rfl,by kernel_rfl⟩
theorem QKg:Qu Tryz.prog 111 (Qv Qvy):=Qs (I1 QJ6 (I1 QKa QKe)) fun x hok=>Qk4 (QJ3 x.1 x.2.1) (QJ7 x.1 x.2.1) (QKb x.1 x.2.1) (s_f111 x.1 x.2.1 hok)
def XP (y:Policy)(i:Item):Int:=if (ZL (QR y i)).2 then Qw .i64 (ZL (QR y i)).1 1 else 40000
def XQ (i:Item):Int:=(lgt Q2 i.2.2.2.1 (i.2.2.2.1.length-1)).2.1
def ZE (y:Policy)(i:Item):Int×Bool×Int:=if Jj y i then (if ieq i.2.1 1 then (0,false,0) else if Gg (QR y i) then (if ile (XP y i) (XQ i) then (0,false,0) else (XP y i,true,0)) else (0,false,0)) else (0,false,ofE y i)
def Qla:TC:=(.sq (.reg (rT Tryz.f112 0)) (.sq (.reg (rT Tryz.f112 1)) (.sq (.sq (.reg (rT Tryz.f112 2)) (.cd (.t 24) (.sq (.reg (rT Tryz.f112 3)) .rt) .sk)) (.sq (.reg (rT Tryz.f112 4)) (.sq (.sq (.reg (rT Tryz.f112 5)) (.sq (.reg (rT Tryz.f112 6)) (.cd (.t 31) (.reg (rT Tryz.f112 7)) .sk))) (.sq (.sq (.reg (rT Tryz.f112 8)) (.cd (.t 44) (.sq (.reg (rT Tryz.f112 9)) .rt) .sk)) (.sq (.reg (rT Tryz.f112 10)) .rt)))))))
def Qvz:List (RV×Option Ty):=[((.t 4),some tI),((.t 5),some .bool),((.t 6),some tI)]
def QdE:G:=gG 46 [(91,QhX),(1000031,Qsl),(1000047,QHm)] (fun _ _=>none)
def VP (p0:Policy)(p1:Item):OV:=
 let a1:=Qw .i64 (Qc p1.2.2.2.1) 1
 let a2:=((ofA p0 p1).1)
 let a3:=(((lgt Q2 p1.2.2.2.1 (Int.toNat a1)).2).1)
 let a4:=Qw .i64 ((Ge a2).1) 1
 let a5:=((ofA p0 p1).2)
 br (WQ p0 p1) (br (ine a5 0) (some (.tu [(.t tI 0),(.t .bool false),(.t tI a5)],[])) (br (!(Qja a2)) (some (.tu [(.t tI 0),(.t .bool false),(.t tI a5)],[])) (br (Q8 a2) (br ((Ge a2).2) (br (cIx p1.2.2.2.1 a1) (br (ile a4 a3) (some (.tu [(.t tI 0),(.t .bool false),(.t tI 0)],[])) (some (.tu [(.t tI a4),(.t .bool true),(.t tI 0)],[]))) none) (br (cIx p1.2.2.2.1 a1) (br (ile 40000 a3) (some (.tu [(.t tI 0),(.t .bool false),(.t tI 0)],[])) (some (.tu [(.t tI 40000),(.t .bool true),(.t tI 0)],[]))) none)) none))) none
theorem QKh (p0:Policy)(p1:Item):QS QdE Qla Qvz false [.t QE p0,.t Qp p1] []=VP p0 p1:=by kernel_rfl
theorem QKi:GOk Tryz.prog QdE:=Jp _ (gA (gC QqN QqO (gC QHk QHl (gC QVC QVD gN))))
theorem QKj:Qla.lok QdE:=by repeat (first|exact trivial|refine ⟨?_, ?_⟩)
theorem QKk:Qu Tryz.prog 112 (QS QdE Qla Qvz false):=mG Tryz.func112 (by kernel_rfl) Tryz.ntmps112 (by kernel_rfl) QKi QKj
def Qlb:TC:=(.sq (.reg (rT Tryz.f112 0)) (.sq (.reg (rT Tryz.f112 1)) (.sq (.sq (.reg (rT Tryz.f112 2)) (.cd (.t 24) (.sq (.reg (rT Tryz.f112 3)) .rt) .sk)) (.sq (.reg (rT Tryz.f112 4)) (.sq (.sq (.reg (rT Tryz.f112 5)) (.sq (.reg (rT Tryz.f112 6)) (.cd (.t 31) (.reg (rT Tryz.f112 7)) .sk))) (.sq (.sq (.reg (rT Tryz.f112 8)) (.cd (.t 44) (.sq (.reg (rT Tryz.f112 9)) .rt) .sk)) (.sq (.reg (rT Tryz.f112 10)) .rt)))))))
def QvA:List (RV×Option Ty):=[((.t 4),some tI),((.t 5),some .bool),((.t 6),some tI)]
def QdF:G:=gG 46 [(91,QhY),(1000031,Qsm),(1000047,QHp)] (fun _ _=>none)
def QdG (p0:Policy)(p1:Item):OV:=
 let a1:=Qw .i64 (Qc p1.2.2.2.1) 1
 let a2:=((ofA p0 p1).1)
 let a3:=(((lgt Q2 p1.2.2.2.1 (Int.toNat a1)).2).1)
 let a4:=Qw .i64 ((ZL a2).1) 1
 let a5:=((ofA p0 p1).2)
 br (U4 p0 p1) (br (ine a5 0) (some (.tu [(.t tI 0),(.t .bool false),(.t tI a5)],[])) (br (Q8 a2) (br (!(Gg a2)) (some (.tu [(.t tI 0),(.t .bool false),(.t tI a5)],[])) (br (E7 a2) (br ((ZL a2).2) (br (cIx p1.2.2.2.1 a1) (br (ile a4 a3) (some (.tu [(.t tI 0),(.t .bool false),(.t tI 0)],[])) (some (.tu [(.t tI a4),(.t .bool true),(.t tI 0)],[]))) none) (br (cIx p1.2.2.2.1 a1) (br (ile 40000 a3) (some (.tu [(.t tI 0),(.t .bool false),(.t tI 0)],[])) (some (.tu [(.t tI 40000),(.t .bool true),(.t tI 0)],[]))) none)) none)) none)) none
theorem QKl (p0:Policy)(p1:Item):QS QdF Qlb QvA false [.t QE p0,.t Qp p1] []=QdG p0 p1:=by kernel_rfl
theorem QKm:GOk Tryz.prog QdF:=Jp _ (gA (gC QqP QqQ (gC QHn QHo (gC QVE QVF gN))))
theorem QKn:Qlb.lok QdF:=by repeat (first|exact trivial|refine ⟨?_, ?_⟩)
theorem QKo:Qu Tryz.prog 112 (QS QdF Qlb QvA false):=mG Tryz.func112 (by kernel_rfl) Tryz.ntmps112 (by kernel_rfl) QKm QKn
def Qlc:TC:=(.sq (.reg (rT Tryz.f112 0)) (.sq (.reg (rT Tryz.f112 1)) (.sq (.sq (.reg (rT Tryz.f112 2)) (.cd (.t 24) (.sq (.reg (rT Tryz.f112 3)) .rt) .sk)) (.sq (.reg (rT Tryz.f112 4)) (.sq (.sq (.reg (rT Tryz.f112 5)) (.sq (.reg (rT Tryz.f112 6)) (.cd (.t 31) (.reg (rT Tryz.f112 7)) .sk))) (.sq (.sq (.reg (rT Tryz.f112 8)) (.cd (.t 44) (.sq (.reg (rT Tryz.f112 9)) .rt) .sk)) (.sq (.reg (rT Tryz.f112 10)) .rt)))))))
def QvB:List (RV×Option Ty):=[((.t 4),some tI),((.t 5),some .bool),((.t 6),some tI)]
def QdH:G:=gG 46 [(91,QhZ)] (fun _ _=>none)
def Qld (p0:Policy)(p1:Item):OV:=br (FR p0 p1) (br (ine (ofE p0 p1) 0) (some (.tu [(.t tI 0),(.t .bool false),(.t tI (ofE p0 p1))],[])) none) none
theorem QKp (p0:Policy)(p1:Item):QS QdH Qlc QvB false [.t QE p0,.t Qp p1] []=Qld p0 p1:=by kernel_rfl
theorem QKq:GOk Tryz.prog QdH:=Jp _ (gA (gC QqR QqS gN))
theorem QKr:Qlc.lok QdH:=by repeat (first|exact trivial|refine ⟨?_, ?_⟩)
theorem QKs:Qu Tryz.prog 112 (QS QdH Qlc QvB false):=mG Tryz.func112 (by kernel_rfl) Tryz.ntmps112 (by kernel_rfl) QKq QKr
theorem s_f112 (y:Policy)(i:Item)(h:Ju y i=true):orO (VP y i) (orO (QdG y i) (Qld y i))=some (.tu [.t tI (ZE y i).1,.t .bool (ZE y i).2.1,.t tI (ZE y i).2.2],[]):=by
 rcases Qk5 h with ⟨a1,a2,a3⟩|⟨a0,a1,a2,a3⟩|⟨a0,b0,a1,a3⟩
 ·obtain ⟨a4,_,a5,_,_⟩:=VM a3
  simp only [VP,a1,Qf,ofA,show ine 0 0=false from rfl,Qi,ZE,a3,if_true,ZS,a2,Bo,orO,Qja,DB]
 ·obtain ⟨a4,a6,a5,e7,e8⟩:=VM a3
  simp only [VP,QdG,a0,a1,Qf,ofA,show ine 0 0=false from rfl,Qi,ZE,a3,if_true,ZS,a2,a4,a6,e7,e8,Bb,orO]
  simp only [show decide ((2:Int)=1)=false from rfl,BK,Dc]
  have hd:(lgt Q2 i.2.2.2.1 (i.2.2.2.1.length-1)).2.1=XQ i:=rfl
  rw [hd]
  by_cases q1:Gg (QR y i)=true
  ·rw [if_pos q1,q1,BF,Qi]
   by_cases q2:(ZL (QR y i)).2=true
   ·have e9:XP y i=Qw .i64 (ZL (QR y i)).1 1:=by unfold XP;rw [if_pos q2]
    rw [q2,Qf,e9]
    by_cases q3:ile (Qw .i64 (ZL (QR y i)).1 1) (XQ i)=true
    ·rw [if_pos q3,q3]
     rfl
    ·rw [if_neg q3,show ile (Qw .i64 (ZL (QR y i)).1 1) (XQ i)=false by simpa using q3]
     rfl
   ·have e9:XP y i=40000:=by unfold XP;rw [if_neg q2]
    rw [show (ZL (QR y i)).2=false by simpa using q2,Qi,e9]
    by_cases q3:ile 40000 (XQ i)=true
    ·rw [if_pos q3,q3]
     rfl
    ·rw [if_neg q3,show ile 40000 (XQ i)=false by simpa using q3]
     rfl
  ·rw [if_neg q1,show Gg (QR y i)=false by simpa using q1]
   rfl
 ·have a2:=Iy y i
  simp only [VP,QdG,Qld,a0,b0,a1,Qf,Qi,a2,ZE,a3,BK,Dc,orO]
def QvC:Ent:=Qo (.pr QE (.pr Qp .nil)) (fun x=>(Ju x.1 x.2.1)) (fun x=>(.tu [(.t tI ((ZE x.1 x.2.1).1)),(.t .bool (((ZE x.1 x.2.1).2).1)),(.t tI (((ZE x.1 x.2.1).2).2))]))
theorem QKt:Ja Tryz.prog 112:= .inr ⟨by decide,_,Tryz.func112,by kernel_rfl,by kernel_rfl⟩
theorem QKu:Qu Tryz.prog 112 (Qv QvC):=Qs (I1 QKk (I1 QKo QKs)) fun x hok=>Qk4 (QKh x.1 x.2.1) (QKl x.1 x.2.1) (QKp x.1 x.2.1) (s_f112 x.1 x.2.1 hok)
end Go.Proofs.YthlcobdnemhcdaaGreat.K
noncomputable section
namespace Go.Proofs.YthlcobdnemhcdaaGreat.K
open Go.RowKit
def cnd (a x:LinkX):Bool:= !a.2.2.1||ilt x.1 a.2.1
end Go.Proofs.YthlcobdnemhcdaaGreat.K
noncomputable section
namespace Go.Proofs.YthlcobdnemhcdaaGreat.K
open Go.RowKit
end Go.Proofs.YthlcobdnemhcdaaGreat.K
noncomputable section
namespace Go.Proofs.YthlcobdnemhcdaaGreat.K
open Go.RowKit
def Ul (l:List Link):List Link:=l
def QfA:Ent:=XW (.pr (.sl Q2) .nil) (fun x=>(Q8 x.1)) (fun x=>(.ms 50000)) (fun x=>[.arr 45 Q2 (Ul x.1)])
theorem Qot:Ja Tryz.prog 93:= .inr ⟨by decide,_,Tryz.func93,by kernel_rfl,by kernel_rfl⟩
theorem QOe:ElemOk Tryz.prog 60 45 3 24:=ElemOk.of (.agg #[.int .i64 0,.int .i64 0,.int .i64 0]) (by kernel_rfl) (by kernel_rfl) (by kernel_rfl) (by decide)
theorem QOf {P:Program}(w:World)(t e:TypeId)(a:Option Addr)(l c:Nat)(h:P.underlying t=some (.slice e)):(binOp .eql t (.slice a l c) (.slice none 0 0)).run P w= .ok (.bool a.isNone) w:=by
 simp [binOp,run_equal_slice_nil w t e a l c h]
set_option maxHeartbeats 400000 in
theorem QOg (A:Option Addr)(c n:Nat)(cells:List Value)(w:World)(h:Sl w (.slice A n c) 3 n cells)(h1: ∀ u∈cells,u.oneCell'=true)(hn:n<=100000):
  Calls Tryz.prog 93 #[.slice A n c] w fun r w'=> ∃ sv,r= .returned sv/\w'.ownsRow w.heap.size 45 3 sv n cells/\Below w.heap.size w w':=by
 have he:=QOf (P:=Tryz.prog) w 60 45 A n c (by kernel_rfl)
 rcases A with _|ad
 ·have hnil:n=0:=Dy fun h0=>by
   obtain ⟨_,A',c',hv,_,_,h3⟩:=h
   obtain ⟨b,off,e,_⟩:=h3 (by omega)
   rw [e] at hv
   simp at hv
  subst hnil
  have hc:cells=[]:=BC (by rw [h.1,DN])
  subst hc
  clear h
  simp only [D1] at he
  go_enter Tryz.func93,Tryz.ntmps93
  go_wp2_with fail
  go_ret
  exact ⟨_,rfl,World.ownsRow_nil _ _ _ _,Below.refl _ _⟩
 ·simp only [D2] at he
  have hown:=World.ownsRow_made w #[] (size:=3) (e:=45) 0 (BB _) (Da _) rfl
  have hsrc:=h.alloc (.cells #[] 45)
  have HSRC:=Lib.hid hsrc
  clear h hsrc
  go_enter Tryz.func93,Tryz.ntmps93
  go_wp2_with (at_builtin;refine OB QOe rfl _ _ rfl w.heap.size (.slice (some ⟨w.heap.size,0,none⟩) 0 0) 0 [] rfl hown (some ad) n c cells rfl HSRC.out h1 (by omega) (by omega) (by simp) ?_;intro v' w4 hown4 hg4 hat4)
  go_ret
  refine ⟨v',rfl,by simpa using hown4, ?_⟩
  have hal:=(Below.refl w.heap.size w).alloc (BB _) (.cells #[] 45)
  exact FN hal hg4 (BB _) hal.size
theorem Qou:Qu Tryz.prog 93 (Qv QfA):=
 QgW (e:=45) (y:=Q2) (by decide) (fun x hx=>BD hx) fun A c n cells w h h1 hn=>QOg A c n cells w h h1 hn
end Go.Proofs.YthlcobdnemhcdaaGreat.K
noncomputable section
namespace Go.Proofs.YthlcobdnemhcdaaGreat.K
open Go.RowKit
def GY:Item:=(ByteArray.mk #[],(0,(0,(([]:List Link),(0,())))))
def ZO (y:Policy)(i:Item)(u:Keep)(day:Int):Int:=if Jj y i=false then ofE y i else if Jf u=false then 7 else if day<=XQ i∨40000<day then 13 else if i.2.2.2.1.length=8 then 3 else 0
def Oz (i:Item)(u:Keep)(day:Int):Item:=(i.1,(i.2.1,(i.2.2.1,(i.2.2.2.1++[(u,(day,()))],(i.2.2.2.2.1,())))))
def Zz (y:Policy)(i:Item)(u:Keep)(day:Int):Item×Int:=if ZO y i u day=0 then (Oz i u day,0) else (GY,ZO y i u day)
def FM (y:Policy)(i:Item)(_u:Keep)(_day:Int):Bool:=Ju y i
def QQI:List DO:=dT Tryz.f54 10
def QpD:TC:=(.sq (.reg (rT Tryz.f54 0)) (.sq (.reg (rT Tryz.f54 1)) (.sq (.bk 0 (.sq (.reg (rT Tryz.f54 2)) (.cd (.t 18) (.sq (.reg (rT Tryz.f54 3)) .rt) (.sq (.reg (rT Tryz.f54 4)) (.cd (.t 23) (.sq (.reg (rT Tryz.f54 5)) .rt) (.sq (.reg (rT Tryz.f54 6)) (.cd (.t 28) (.sq (.reg (rT Tryz.f54 7)) .rt) (.sq (.reg (rT Tryz.f54 8)) (.cd (.t 45) (.sq (.reg (rT Tryz.f54 9)) .rt) .sk))))))))) (.sq (.dr QQI [(0,[5,53,58,5053,10053,15053]),(1,[5,53,58,5053,10053,15053]),(2,[5,8,53,58,5053,10053,15053]),(3,[6]),(4,[]),(5,[]),(6,[]),(7,[5,8,53,58,5053,5058,10053,10058,15053,15058]),(8,[5,53,58,5053,10053,15053]),(9,[5,8,53,58,5053,10053,15053])] (.of [0,1,3,4,5,6,2,7,8,9])) (.sq (.reg (rT Tryz.f54 11)) .rt)))))
def QCO:List (RV×Option Ty):=[((.c 8 true 5),some Qp),((.t 9),some tI)]
def QgX:G:=gG 61 [(91,QhX),(92,FA),(93,QfA)] (fun _ _=>none)
def Qbw (p0:Policy)(p1:Item)(p2:Keep)(p3:Int):OV:=
 let a1:=ByteArray.mk #[]
 let a2:=((p2.1,(p2.2.1,())),(p3,()))
 let a3:=Qc p1.2.2.2.1
 br (WQ p0 p1) (br (ine ((ofA p0 p1).2) 0) (some (.tu [(.t Qp (a1,(0,(0,(([]:List Link),(0,())))))),(.t tI ((ofA p0 p1).2))],[])) (br (!(Jf p2)) (some (.tu [(.t Qp (a1,(0,(0,(([]:List Link),(0,())))))),(.t tI 7)],[])) (br (cIx p1.2.2.2.1 (Qw .i64 a3 1)) (br (ile p3 (((lgt Q2 p1.2.2.2.1 (Int.toNat (Qw .i64 a3 1))).2).1)) (some (.tu [(.t Qp (a1,(0,(0,(([]:List Link),(0,())))))),(.t tI 13)],[])) (br (igt p3 40000) (some (.tu [(.t Qp (a1,(0,(0,(([]:List Link),(0,())))))),(.t tI 13)],[])) (br (ieq a3 8) (some (.tu [(.t Qp (a1,(0,(0,(([]:List Link),(0,())))))),(.t tI 3)],[])) (br (Q8 p1.2.2.2.1) (br (Qq (Ul p1.2.2.2.1) ([a2]) 24) (some (.tu [(.t Qp (p1.1,(p1.2.1,(p1.2.2.1,(((Ul p1.2.2.2.1)++([a2])),(p1.2.2.2.2.1,())))))),(.t tI 0)],[])) none) none)))) none))) none
theorem e_f54A (p0:Policy)(p1:Item)(p2:Keep)(p3:Int):QS QgX QpD QCO false [.t QE p0,.t Qp p1,.t Qk p2,.t tI p3] []=Qbw p0 p1 p2 p3:=by kernel_rfl
theorem QQJ:GOk Tryz.prog QgX:=Jp _ (gA (gC QqN QqO (gD Eu (gC Qot Qou gN))))
theorem QQK:QpD.lok QgX:=by repeat (first|exact trivial|refine ⟨?_, ?_⟩)
theorem QQL:Qu Tryz.prog 54 (QS QgX QpD QCO false):=mG Tryz.func54 (by kernel_rfl) Tryz.ntmps54 (by kernel_rfl) QQJ QQK
def QQM:List DO:=dT Tryz.f54 10
def QpE:TC:=(.sq (.reg (rT Tryz.f54 0)) (.sq (.reg (rT Tryz.f54 1)) (.sq (.bk 0 (.sq (.reg (rT Tryz.f54 2)) (.cd (.t 18) (.sq (.reg (rT Tryz.f54 3)) .rt) (.sq (.reg (rT Tryz.f54 4)) (.cd (.t 23) (.sq (.reg (rT Tryz.f54 5)) .rt) (.sq (.reg (rT Tryz.f54 6)) (.cd (.t 28) (.sq (.reg (rT Tryz.f54 7)) .rt) (.sq (.reg (rT Tryz.f54 8)) (.cd (.t 45) (.sq (.reg (rT Tryz.f54 9)) .rt) .sk))))))))) (.sq (.dr QQM [(0,[5,53,58,5053,10053,15053]),(1,[5,53,58,5053,10053,15053]),(2,[5,8,53,58,5053,10053,15053]),(3,[6]),(4,[]),(5,[]),(6,[]),(7,[5,8,53,58,5053,5058,10053,10058,15053,15058]),(8,[5,53,58,5053,10053,15053]),(9,[5,8,53,58,5053,10053,15053])] (.of [0,1,3,4,5,6,2,7,8,9])) (.sq (.reg (rT Tryz.f54 11)) .rt)))))
def QCP:List (RV×Option Ty):=[((.c 8 true 5),some Qp),((.t 9),some tI)]
def QgY:G:=gG 61 [(91,QhY),(92,FA),(93,QfA)] (fun _ _=>none)
def QgZ (p0:Policy)(p1:Item)(p2:Keep)(p3:Int):OV:=
 let a1:=ByteArray.mk #[]
 let a2:=((p2.1,(p2.2.1,())),(p3,()))
 let a3:=Qc p1.2.2.2.1
 br (U4 p0 p1) (br (ine ((ofA p0 p1).2) 0) (some (.tu [(.t Qp (a1,(0,(0,(([]:List Link),(0,())))))),(.t tI ((ofA p0 p1).2))],[])) (br (!(Jf p2)) (some (.tu [(.t Qp (a1,(0,(0,(([]:List Link),(0,())))))),(.t tI 7)],[])) (br (cIx p1.2.2.2.1 (Qw .i64 a3 1)) (br (ile p3 (((lgt Q2 p1.2.2.2.1 (Int.toNat (Qw .i64 a3 1))).2).1)) (some (.tu [(.t Qp (a1,(0,(0,(([]:List Link),(0,())))))),(.t tI 13)],[])) (br (igt p3 40000) (some (.tu [(.t Qp (a1,(0,(0,(([]:List Link),(0,())))))),(.t tI 13)],[])) (br (ieq a3 8) (some (.tu [(.t Qp (a1,(0,(0,(([]:List Link),(0,())))))),(.t tI 3)],[])) (br (Q8 p1.2.2.2.1) (br (Qq (Ul p1.2.2.2.1) ([a2]) 24) (some (.tu [(.t Qp (p1.1,(p1.2.1,(p1.2.2.1,(((Ul p1.2.2.2.1)++([a2])),(p1.2.2.2.2.1,())))))),(.t tI 0)],[])) none) none)))) none))) none
theorem e_f54B (p0:Policy)(p1:Item)(p2:Keep)(p3:Int):QS QgY QpE QCP false [.t QE p0,.t Qp p1,.t Qk p2,.t tI p3] []=QgZ p0 p1 p2 p3:=by kernel_rfl
theorem QQN:GOk Tryz.prog QgY:=Jp _ (gA (gC QqP QqQ (gD Eu (gC Qot Qou gN))))
theorem QQO:QpE.lok QgY:=by repeat (first|exact trivial|refine ⟨?_, ?_⟩)
theorem QQP:Qu Tryz.prog 54 (QS QgY QpE QCP false):=mG Tryz.func54 (by kernel_rfl) Tryz.ntmps54 (by kernel_rfl) QQN QQO
def QQQ:List DO:=dT Tryz.f54 10
def QpF:TC:=(.sq (.reg (rT Tryz.f54 0)) (.sq (.reg (rT Tryz.f54 1)) (.sq (.bk 0 (.sq (.reg (rT Tryz.f54 2)) (.cd (.t 18) (.sq (.reg (rT Tryz.f54 3)) .rt) (.sq (.reg (rT Tryz.f54 4)) (.cd (.t 23) (.sq (.reg (rT Tryz.f54 5)) .rt) (.sq (.reg (rT Tryz.f54 6)) (.cd (.t 28) (.sq (.reg (rT Tryz.f54 7)) .rt) (.sq (.reg (rT Tryz.f54 8)) (.cd (.t 45) (.sq (.reg (rT Tryz.f54 9)) .rt) .sk))))))))) (.sq (.dr QQQ [(0,[5,53,58,5053,10053,15053]),(1,[5,53,58,5053,10053,15053]),(2,[5,8,53,58,5053,10053,15053]),(3,[6]),(4,[]),(5,[]),(6,[]),(7,[5,8,53,58,5053,5058,10053,10058,15053,15058]),(8,[5,53,58,5053,10053,15053]),(9,[5,8,53,58,5053,10053,15053])] (.of [0,1,3,4,5,6,2,7,8,9])) (.sq (.reg (rT Tryz.f54 11)) .rt)))))
def QCQ:List (RV×Option Ty):=[((.c 8 true 5),some Qp),((.t 9),some tI)]
def Qg0:G:=gG 61 [(91,QhZ),(92,FA),(93,QfA)] (fun _ _=>none)
def QpG (p0:Policy)(p1:Item)(p2:Keep)(p3:Int):OV:=
 let a1:=ByteArray.mk #[]
 let a2:=((p2.1,(p2.2.1,())),(p3,()))
 let a3:=Qc p1.2.2.2.1
 br (FR p0 p1) (br (ine (ofE p0 p1) 0) (some (.tu [(.t Qp (a1,(0,(0,(([]:List Link),(0,())))))),(.t tI (ofE p0 p1))],[])) (br (!(Jf p2)) (some (.tu [(.t Qp (a1,(0,(0,(([]:List Link),(0,())))))),(.t tI 7)],[])) (br (cIx p1.2.2.2.1 (Qw .i64 a3 1)) (br (ile p3 (((lgt Q2 p1.2.2.2.1 (Int.toNat (Qw .i64 a3 1))).2).1)) (some (.tu [(.t Qp (a1,(0,(0,(([]:List Link),(0,())))))),(.t tI 13)],[])) (br (igt p3 40000) (some (.tu [(.t Qp (a1,(0,(0,(([]:List Link),(0,())))))),(.t tI 13)],[])) (br (ieq a3 8) (some (.tu [(.t Qp (a1,(0,(0,(([]:List Link),(0,())))))),(.t tI 3)],[])) (br (Q8 p1.2.2.2.1) (br (Qq (Ul p1.2.2.2.1) ([a2]) 24) (some (.tu [(.t Qp (p1.1,(p1.2.1,(p1.2.2.1,(((Ul p1.2.2.2.1)++([a2])),(p1.2.2.2.2.1,())))))),(.t tI 0)],[])) none) none)))) none))) none
theorem e_f54E (p0:Policy)(p1:Item)(p2:Keep)(p3:Int):QS Qg0 QpF QCQ false [.t QE p0,.t Qp p1,.t Qk p2,.t tI p3] []=QpG p0 p1 p2 p3:=by kernel_rfl
theorem QQR:GOk Tryz.prog Qg0:=Jp _ (gA (gC QqR QqS (gD Eu (gC Qot Qou gN))))
theorem QQS:QpF.lok Qg0:=by repeat (first|exact trivial|refine ⟨?_, ?_⟩)
theorem QQT:Qu Tryz.prog 54 (QS Qg0 QpF QCQ false):=mG Tryz.func54 (by kernel_rfl) Tryz.ntmps54 (by kernel_rfl) QQR QQS
theorem QpH {y:Policy}{i:Item}{u:Keep}{day:Int}(h:Jj y i=true)(a5:ofE y i=ofE y i):
  br (!(Jf u)) (some (V.tu [(.t Qp GY),(.t tI 7)],[])) (br (cIx i.2.2.2.1 (Qw .i64 (Qc i.2.2.2.1) 1)) (br (ile day (lgt Q2 i.2.2.2.1 (Int.toNat (Qw .i64 (Qc i.2.2.2.1) 1))).2.1) (some (.tu [(.t Qp GY),(.t tI 13)],([]:List VO))) (br (igt day 40000) (some (.tu [(.t Qp GY),(.t tI 13)],[])) (br (ieq (Qc i.2.2.2.1) 8) (some (.tu [(.t Qp GY),(.t tI 3)],[])) (br (Q8 i.2.2.2.1) (br (Qq (Ul i.2.2.2.1) ([((u.1,(u.2.1,())),(day,()))]) 24) (some (.tu [(.t Qp (i.1,(i.2.1,(i.2.2.1,(((Ul i.2.2.2.1)++([((u.1,(u.2.1,())),(day,()))])),(i.2.2.2.2.1,())))))),(.t tI 0)],[])) none) none)))) none)=some (.tu [.t Qp (Zz y i u day).1,.t tI (Zz y i u day).2],[]):=by
 obtain ⟨_,_,_,e7,e8⟩:=VM h
 have hf:=h
 simp only [Jj,Bc] at hf
 have hl:=(JK.1 hf.2).2.2.2.1
 have c1:Q8 i.2.2.2.1=true:=Be (by omega)
 have c2:Qq (Ul i.2.2.2.1) ([((u.1,(u.2.1,())),(day,()))]) 24=true:=WY (by simp [Ul];omega) (by omega)
 rw [e7,e8,c1,c2]
 simp only [Qf,Bb]
 have hd:(lgt Q2 i.2.2.2.1 (i.2.2.2.1.length-1)).2.1=XQ i:=rfl
 rw [hd]
 have e0:ZO y i u day=if Jf u=false then 7 else if day<=XQ i∨40000<day then 13 else if i.2.2.2.1.length=8 then 3 else 0:=by
  unfold ZO
  rw [if_neg (show ¬ Jj y i=false by rw [h];simp)]
 have fin: ∀ n, ¬ n=0->ZO y i u day=n->some (V.tu [(.t Qp GY),(.t tI n)],([]:List VO))=some (.tu [.t Qp (Zz y i u day).1,.t tI (Zz y i u day).2],[]):=fun n hn e=>by
  unfold Zz
  rw [e,if_neg hn]
 cases hv:Jf u with
 |false=>
  rw [hv,if_pos rfl] at e0
  exact fin 7 (by omega) e0
 |true=>
  rw [hv,if_neg (show ¬ true=false by simp)] at e0
  rw [BF,Qi]
  refine QY (fun g=> ?_) (fun g1=>QY (fun g=> ?_) (fun g2=>QY (fun g=> ?_) (fun g3=> ?_)))
  ·rw [if_pos (.inl (BD g))] at e0
   exact fin 13 (by omega) e0
  ·rw [if_pos (.inr (BD g))] at e0
   exact fin 13 (by omega) e0
  ·have g1:=Df g1
   have g2:=Df g2
   simp only [ZS,Qc,Ba] at g
   rw [if_neg (by omega),if_pos (by omega)] at e0
   exact fin 3 (by omega) e0
  ·have g1:=Df g1
   have g2:=Df g2
   simp only [ZS,Qc,Bn] at g3
   rw [if_neg (by omega),if_neg (by omega)] at e0
   unfold Zz
   rw [if_pos e0]
   rfl
theorem s_f54 (y:Policy)(i:Item)(u:Keep)(day:Int)(h:FM y i u day=true):orO (Qbw y i u day) (orO (QgZ y i u day) (QpG y i u day))=some (.tu [.t Qp (Zz y i u day).1,.t tI (Zz y i u day).2],[]):=by
 rcases Qk5 (show Ju y i=true from h) with ⟨a1,a2,a3⟩|⟨a0,a1,a2,a3⟩|⟨a0,b0,a1,a3⟩
 ·unfold Qbw
  rw [a1,Qf,show ine (ofA y i).2 0=false from rfl,Qi]
  have:=QpH (u:=u) (day:=day) a3 rfl
  unfold GY at this
  rw [this]
  rfl
 ·unfold Qbw QgZ
  rw [a0,a1,Qf,Qi,show ine (ofA y i).2 0=false from rfl,Qi]
  have:=QpH (u:=u) (day:=day) a3 rfl
  unfold GY at this
  rw [this]
  rfl
 ·have a2:=Iy y i
  have a4:ZO y i u day=ofE y i:=by unfold ZO;rw [if_pos a3]
  have a5: ¬ ofE y i=0:=by simpa [ine] using a2
  unfold Qbw QgZ QpG
  rw [a0,b0,a1,Qf,Qi,a2,Qf]
  unfold Zz
  rw [a4,if_neg a5]
  rfl
def QCR:Ent:=Qo (.pr QE (.pr Qp (.pr Qk (.pr tI .nil)))) (fun x=>(FM x.1 x.2.1 x.2.2.1 x.2.2.2.1)) (fun x=>(.tu [(.t Qp ((Zz x.1 x.2.1 x.2.2.1 x.2.2.2.1).1)),(.t tI ((Zz x.1 x.2.1 x.2.2.1 x.2.2.2.1).2))]))
theorem en_f54:Ja Tryz.prog 54:= .inr ⟨by decide,_,Tryz.func54,by kernel_rfl,by kernel_rfl⟩
theorem ms_f54:Qu Tryz.prog 54 (Qv QCR):=Qs (I1 QQL (I1 QQP QQT)) fun x hok=>Qk4 (e_f54A x.1 x.2.1 x.2.2.1 x.2.2.2.1) (e_f54B x.1 x.2.1 x.2.2.1 x.2.2.2.1) (e_f54E x.1 x.2.1 x.2.2.1 x.2.2.2.1) (s_f54 x.1 x.2.1 x.2.2.1 x.2.2.2.1 hok)
end Go.Proofs.YthlcobdnemhcdaaGreat.K
noncomputable section
namespace Go.Proofs.YthlcobdnemhcdaaGreat.K
open Go.RowKit
end Go.Proofs.YthlcobdnemhcdaaGreat.K
noncomputable section
namespace Go.Proofs.YthlcobdnemhcdaaGreat.K
open Go.RowKit
end Go.Proofs.YthlcobdnemhcdaaGreat.K
noncomputable section
namespace Go.Proofs.YthlcobdnemhcdaaGreat.K
open Go.RowKit
abbrev Qay:Sh:=⟨[(2,.ty tI),(3,.ptr 3 0),(4,.ptr 4 0),(9,.ty (.sl tI)),(10,.ms 10),(11,.ty tI)],[(3,.box QE),(4,.box Qk),(10,.arr 70 Qk),(77,.no)]⟩
abbrev Qyl:Sh:=⟨[(10,.ms 10)],[(10,.arr 70 Qk),(77,.no)]⟩
def Qnd:Fg:=Qay.f
def Qym:TC:=aF Tryz.f114 [(250,.nw 10 70),(250,pL 0 Qnd),(4003,.fg Qyl.f),(16016,pD [(0,[3]),(1,[4]),(2,[]),(3,[]),(4,[]),(5,[]),(6,[]),(7,[]),(8,[])] (.of [0,1,2,3,4,5,6,7,8])),(32034,.fg Qay.f),(32038,pD [(0,[]),(1,[]),(2,[]),(3,[10,77]),(4,[]),(5,[]),(6,[10,77]),(7,[10,77]),(8,[10,77]),(9,[]),(10,[]),(11,[]),(12,[]),(13,[]),(14,[])] (.of [0,1,2,3,4,5,6,7,8,9,10,11,12,13,14])),(64079,pD [(0,[10,77]),(1,[]),(2,[]),(3,[]),(4,[]),(5,[]),(6,[]),(7,[]),(8,[]),(9,[]),(10,[]),(11,[]),(12,[10,77,5077,10077,15077]),(13,[10,77])] (.of [0,1,2,3,4,5,6,7,8,9,10,11,12,13]))]
def Qyn:TC:=lb 0 Qym
def Qyo (x2:Int)(x9:List Int)(x11:Int)(y3:Policy)(y4:Keep)(y10:List Keep):VS:=Qay.st (x2,(),(),x9,(),x11,()) (y3,y4,y10,(),())
def Qne (y10:List Keep):VS:=Qyl.st ((),()) (y10,(),())
def QMS:VS->Option (Bool×List (Bool×Exit×VS)):=mkL Qay (fun x y=>(decide (0<=x.2.2.2.2.2.1/\x.2.2.2.2.2.1+1<=x.2.2.2.1.length/\x.2.2.2.1.length<=500000/\y.1.1.length<=100000/\(y.2.2.1.length:Int)<=x.2.2.2.2.2.1))) (fun x y=>[(true,.exit 0,Qne (UC y.1 y.2.1 x.1 (x.2.2.2.1.drop x.2.2.2.2.2.1.toNat) y.2.2.1))])
def Qnf:G:=gG 79 [(106,QjW),(107,QjV),(162,Qts)] (Ls [QMS])
def Qaz (x2:Int)(x9:List Int)(x11:Int)(y3:Policy)(y4:Keep)(y10:List Keep):OX:=Qx (QA Qnf Qnd Qyn) (Qyo x2 x9 x11 y3 y4 y10)
def QeR (kk:Int->List Int->Int->Policy->Keep->List Keep->OX)(x2:Int)(x9:List Int)(x11:Int)(y3:Policy)(y4:Keep)(y10:List Keep):OX:=
 let a1:=((lgt tI x9 (Int.toNat x11)),((lgt tI x9 (Int.toNat (Qj .i64 x11 1))),()))
 br (cIx x9 x11) (br (cIx x9 (Qj .i64 x11 1)) (br (Qq y10 ([a1]) 16) (kk x2 x9 (Qj .i64 x11 1) y3 y4 (y10++([a1]))) none) none) none
def QaA (kk:Int->List Int->Int->Policy->Keep->List Keep->OX)(x2:Int)(x9:List Int)(x11:Int)(y3:Policy)(y4:Keep)(y10:List Keep):OX:=
 let a1:=Int.toNat (Qw .i64 (Qc y10) 1)
 let a2:=Qj .i64 x11 1
 let a3:=lgt tI x9 (Int.toNat x11)
 let a4:=lgt Qk y10 a1
 let a5:=cIx y10 (Qw .i64 (Qc y10) 1)
 br (ilt a2 (Qc x9)) (br (cIx x9 x11) (br (W9 y3 y4 x2 a3) (br (!(Yp y3 y4 x2 a3)) (kk x2 x9 a2 y3 y4 y10) (br (igt (Qc y10) 0) (br a5 (br (cLd y10 a1) (br (cIx x9 x11) (br (ieq ((a4.2).1) a3) (br (cIx x9 a2) (br a5 (br (cLd y10 a1) (kk x2 x9 a2 y3 y4 (List.set y10 a1 (a4.1,((lgt tI x9 (Int.toNat a2)),(a4.2).2)))) none) none) none) (QeR kk x2 x9 x11 y3 y4 y10)) none) none) none) (QeR kk x2 x9 x11 y3 y4 y10))) none) none) (some (.exit 0,Qne y10))
def I4 (x2:Int)(x9:List Int)(x11:Int)(y3:Policy)(y4:Keep)(y10:List Keep):OX:=some (.exit 0,Qne (UC y3 y4 x2 (x9.drop x11.toNat) y10))
theorem Qyp (x2:Int)(x9:List Int)(x11:Int)(y3:Policy)(y4:Keep)(y10:List Keep):Qaz x2 x9 x11 y3 y4 y10=QaA Qaz x2 x9 x11 y3 y4 y10:=lnT (x:=QaA (fun x2 x9 x11 y3 y4 y10=>some (.normal,Qyo x2 x9 x11 y3 y4 y10)) x2 x9 x11 y3 y4 y10) (by simp only [QaA,QeR,nxA];rfl)
def Qyq (p0:Policy)(p1:Keep)(p2:Int):OV:=br (ZZ p0 p1 p2) (br (ine (Gi p0 p1 p2) 0) (some (.tu [(.t (.sl Qk) ([]:List Keep)),(.t tI (Gi p0 p1 p2))],[])) (br (Q5 p0) (br (decide (0<=(0:Int)/\(0:Int)+1<=(Yt p0).length/\(Yt p0).length<=500000/\p0.1.length<=100000/\(([]:List Keep).length:Int)<=(0:Int))) (some (.tu [(.t (.sl Qk) (UC p0 p1 p2 ((Yt p0).drop (0:Int).toNat) ([]:List Keep))),(.t tI 0)],[])) none) none)) none
theorem QMT (x2:Int)(x9:List Int)(x11:Int)(y3:Policy)(y4:Keep)(y10:List Keep)(h:(decide (0<=x11/\x11+1<=x9.length/\x9.length<=500000/\y3.1.length<=100000/\(y10.length:Int)<=x11))=true):Qaz x2 x9 x11 y3 y4 y10=I4 x2 x9 x11 y3 y4 y10:=by
 simp only [Ba] at h
 obtain ⟨h1,h2,h3,h5,h4⟩:=h
 obtain ⟨k,rfl⟩:=Bl h1
 revert y10
 refine Qcs (x9.length-1) (fun k=> ∀ y10:List Keep,(y10.length:Int)<=(k:Int)->Qaz x2 x9 (k:Int) y3 y4 y10=I4 x2 x9 (k:Int) y3 y4 y10) ?_ ?_ k (by omega)
 ·intro y7 _
  rw [Qyp]
  have e0:Qj .i64 ((x9.length-1:Nat):Int) 1=((x9.length-1+1:Nat):Int):=QO (by omega)
  have e1:ilt (Qj .i64 ((x9.length-1:Nat):Int) 1) (Qc x9)=false:=by rw [e0];simp only [ilt,Qc,Bn];omega
  have e2:x9.drop (x9.length-1)=[x9[x9.length-1]'(by omega)]:=by
   rw [Bg (by omega)]
   congr 1
   exact Dn (by omega)
  simp only [QaA,e1,Qi,I4,Bb,e2,UC,Ug]
 ·intro k hk ih y7 hy
  rw [Qyp]
  have hk1:k<x9.length:=by omega
  have hk2:k+1<x9.length:=by omega
  have ea:Qj .i64 (k:Int) 1=((k+1:Nat):Int):=QO (by omega)
  have ep: ∀ d,W9 y3 y4 x2 d=true:=fun d=>by simp only [W9,Q8,Ba];exact h5
  simp only [QaA,QeR,ea,Qc,Qy,Qf,QK,hk1,hk2,Bo,Bb,QL (y:=tI) hk1,QL (y:=tI) hk2,ep]
  have hs:=Qtz (f:=fun z=>Qaz x2 x9 ((k+1:Nat):Int) y3 y4 z) y7 x9[k] x9[k+1] (by omega)
  simp only [Qc] at hs
  rw [hs]
  have el:I4 x2 x9 (k:Int) y3 y4 y7=I4 x2 x9 ((k+1:Nat):Int) y3 y4 (if Yp y3 y4 x2 x9[k] then WD y7 x9[k] x9[k+1] else y7):=by
   simp only [I4,UC,Bb]
   rw [Bg hk1,Bg hk2]
   rfl
  rw [el]
  have hp:=Qj7 y7 x9[k] x9[k+1]
  cases hc:Yp y3 y4 x2 x9[k] with
  |true=>
   simp only [BF,Qi,if_true]
   exact ih _ (by omega)
  |false=>
   simp only [DB,Qf,BK,Dc]
   exact ih _ (by omega)
theorem QMU:LO Qnf Qnd Qyn 0:=QI (s:=Qay) fun x y h _ q=>by simp only [QG,QH] at q;exact (QMT x.1 x.2.2.2.1 x.2.2.2.2.2.1 y.1 y.2.1 y.2.2.1 h).trans q
theorem s_f114 (y:Policy)(u:Keep)(p:Int)(h:ZZ y u p=true):Qyq y u p=some (.tu [.t (.sl Qk) (F9 y u p).1,.t tI (F9 y u p).2],[]):=by
 have h':Q5 y=true:=h
 have h2:=h'
 simp only [Q5,Q8,Bc,Ba] at h2
 have hl:2<=(Yt y).length/\(Yt y).length<=2*y.1.length+2:=Qj8 y.1
 simp only [Qyq,h,h',Qf,F9,Qct,Gi,By,BG]
 by_cases h0:Zh y u p 0=0
 ·simp only [h0,ne_eq,not_true_eq_false,BM,Qi,if_true]
  rw [Yv ⟨B1 0,by omega,by omega,h2.1,by simp⟩,Qf]
  rfl
 ·simp [h0,Qf]
def Qyr:Ent:=Qo (.pr QE (.pr Qk (.pr tI .nil))) (fun x=>(ZZ x.1 x.2.1 x.2.2.1)) (fun x=>(.tu [(.t (.sl Qk) ((F9 x.1 x.2.1 x.2.2.1).1)),(.t tI ((F9 x.1 x.2.1 x.2.2.1).2))]))
theorem QMV:EM 114 Qyr:=mS (lk:=lkL (lkc QMU lkn)) Qnf Qym [((.t 6),some (.sl Qk)),((.t 7),some tI)] false (gB (gD Qte (gD Qtc (gD QIp gN)))) fun m=>Qs m fun x hok=>kT (s_f114 x.1 x.2.1 x.2.2.1 hok)
def tc_f68:TC:=aF Tryz.f68 []
def g_f68:G:=gG 35 [(114,Qyr)] (fun _ _=>none)
def r_f68 (p0:Policy)(p1:Keep)(p2:Int):OV:=
 let a1:=F9 p0 p1 p2
 let a2:=(((lgt Qk (a1.1) (Int.toNat (Qw .i64 (Qc (a1.1)) 1))).2).1)
 br (ZZ p0 p1 p2) (br (ine (a1.2) 0) (some (.tu [(.t tI 0),(.t .bool false),(.t tI (a1.2))],[])) (br (ieq (Qc (a1.1)) 0) (some (.tu [(.t tI 0),(.t .bool true),(.t tI 0)],[])) (br (cIx (a1.1) (Qw .i64 (Qc (a1.1)) 1)) (br (ile a2 40000) (some (.tu [(.t tI a2),(.t .bool true),(.t tI 0)],[])) (some (.tu [(.t tI 0),(.t .bool false),(.t tI 0)],[]))) none))) none
theorem QMW {y:Policy}{u:Keep}{p d:Int}(h:Zh y u p d=0):Zs y=true/\Jf u=true/\1<=p/\p<=4/\0<=d/\d<=40000:=by
 unfold Zh at h
 split at h
 ·cases h
 ·split at h
  ·cases h
  ·split at h
   ·cases h
   ·rename_i h1 h2 h3
    refine ⟨by simpa using h1,by simpa using h2, ?_⟩
    omega
theorem s_f68 (y:Policy)(u:Keep)(p:Int)(h:ZZ y u p=true):r_f68 y u p=some (.tu [.t tI (Z1 y u p).1,.t .bool (Z1 y u p).2.1,.t tI (Z1 y u p).2.2],[]):=by
 have h5:Q5 y=true:=h
 simp only [Q5,Q8,Bc,Ba] at h5
 have hl:=QtD y u p
 simp only [r_f68,h,Qf,Z1,F9,Qct]
 by_cases h0:Zh y u p 0=0
 ·simp only [h0,ne_eq,not_true_eq_false,BM,Qi,if_true]
  rcases QLT (u:=u) (p:=p) (QMW h0).1 with ⟨e,ef⟩|⟨l,s,e,g1,g2,g3,_,ef⟩
  ·rw [ef,e]
   rfl
  ·rw [ef]
   rw [e] at hl ⊢
   have e1:Qw .i64 (Qc (l++[s])) 1=(l.length:Int):=by
    have:Qc (l++[s])=(l.length:Int)+1:=by simp [Qc]
    rw [this,JO (by rw [Bm,Bh] at hl;omega)]
    omega
   have h2:l.length<(l++[s]).length:=by simp
   have e2:ieq (Qc (l++[s])) 0=false:=by simp only [ZS,Qc,Bm,Bh,Bn];omega
   have e4:lgt Qk (l++[s]) l.length=s:=by rw [QL (y:=Qk) h2];simp
   rw [e1,e2]
   simp only [Qi,QK,h2,Bo,Qf,Bb,e4,ile]
   by_cases hs:s.2.1<=40000<;>simp [hs,Qf,Qi]
 ·simp [h0,Qf]
def Qng:Ent:=Qo (.pr QE (.pr Qk (.pr tI .nil))) (fun x=>(ZZ x.1 x.2.1 x.2.2.1)) (fun x=>(.tu [(.t tI ((Z1 x.1 x.2.1 x.2.2.1).1)),(.t .bool (((Z1 x.1 x.2.1 x.2.2.1).2).1)),(.t tI (((Z1 x.1 x.2.1 x.2.2.1).2).2))]))
theorem Qys:EM 68 Qng:=mS g_f68 tc_f68 [((.t 6),some tI),((.t 7),some .bool),((.t 8),some tI)] false (gB (gD QMV gN)) fun m=>Qs m fun x hok=>kT (s_f68 x.1 x.2.1 x.2.2.1 hok)
end Go.Proofs.YthlcobdnemhcdaaGreat.K
noncomputable section
namespace Go.Proofs.YthlcobdnemhcdaaGreat.K
open Go.RowKit
noncomputable section
def U0 (y:Policy)(i:Item):Int:=if Jj y i then 0 else ofE y i
def QSm:TC:=aF Tryz.f104 []
def g_f104:G:=gG 13 [(103,QgU),(130,QmG)] (fun _ _=>none)
def QDH (p0:Policy)(p1:Item):OV:=br (Q5 p0) (br (ine (Zt p0) 0) (some (.t tI (Zt p0),[])) (br (Zx p1) (some (.t tI (ZG p1),[])) none)) none
theorem s_f104 (y:Policy)(i:Item)(h:Ju y i=true):QDH y i=some (.t tI (U0 y i),[]):=by
 simp only [Ju,Bc] at h
 have h2:Zx i=true:=h.2
 simp only [QDH,h.1,h2,Qf]
 unfold U0 Jj ofE Zt ZG
 generalize Zs y=a
 generalize J7 i=b
 cases a<;>cases b<;>rfl
def Qp4:Ent:=Qo (.pr QE (.pr Qp .nil)) (fun x=>(Ju x.1 x.2.1)) (fun x=>(.t tI (U0 x.1 x.2.1)))
theorem QDI:EM 104 Qp4:=mS g_f104 QSm [((.t 4),some tI)] false (gB (gD QpA (gD Qxu gN))) fun m=>Qs m fun x hok=>kT (s_f104 x.1 x.2.1 hok)
theorem QDJ {y:Policy}{i:Item}:(Jj y i=true/\U0 y i=0)∨(Jj y i=false/\U0 y i=ofE y i/\ine (ofE y i) 0=true):=by
 unfold U0
 cases hf:Jj y i with
 |true=>exact .inl ⟨rfl,rfl⟩
 |false=>exact .inr ⟨rfl,rfl,Iy y i⟩
abbrev Qhv:Sh:=⟨[(2,.ptr 2 0),(3,.ptr 3 0),(7,.ty tI)],[(2,.box QE),(3,.box Qp)]⟩
abbrev Qp5:Sh:=⟨[(7,.ty tI)],[]⟩
def Qp6:Fg:=Qhv.f
def QDK:TC:=aF Tryz.f67 [(124,pL 0 Qp6),(1987,.fg Qp5.f),(1988,pD [(0,[2]),(1,[3]),(2,[3]),(3,[]),(4,[]),(5,[]),(6,[]),(7,[]),(8,[3]),(9,[3]),(10,[]),(11,[]),(12,[]),(13,[]),(14,[]),(15,[]),(16,[]),(17,[])] (.of [0,1,2,3,4,5,6,7,8,9,10,11,12,13,14,15,16,17])),(15914,.fg Qp5.f)]
def QDL:TC:=lb 0 QDK
def QDM (x7:Int)(y2:Policy)(y3:Item):VS:=Qhv.st ((),(),x7,()) (y2,y3,())
def QbK (x7:Int):VS:=Qp5.st (x7,()) ()
def QSn:VS->Option (Bool×List (Bool×Exit×VS)):=mkL Qhv (fun x y=>(Jj y.1 y.2.1&&decide (1<=x.2.2.1/\x.2.2.1<=y.2.1.2.2.2.1.length))) (fun x y=>[(true,.exit 0,QbK (x.2.2.1+(Ws ((QR y.1 y.2.1).drop (x.2.2.1-1).toNat):Int)))])
def Qp7:G:=gG 57 [(68,Qng),(104,Qp4)] (Ls [QSn])
def Qp8 (x7:Int)(y2:Policy)(y3:Item):OX:=Qx (QA Qp7 Qp6 QDL) (QDM x7 y2 y3)
def QbL (kk:Int->Policy->Item->OX)(x7:Int)(y2:Policy)(y3:Item):OX:=
 let a1:=((lgt Q2 y3.2.2.2.1 (Int.toNat (Qw .i64 x7 1))).1)
 let a2:=Z1 y2 a1 y3.2.2.1
 br (ilt x7 (Qc y3.2.2.2.1)) (br (cIx y3.2.2.2.1 (Qw .i64 x7 1)) (br (ZZ y2 a1 y3.2.2.1) (br ((a2.2).1) (br (cIx y3.2.2.2.1 x7) (br (ige (((lgt Q2 y3.2.2.2.1 (Int.toNat x7)).2).1) (a2.1)) (some (.exit 0,QbK x7)) (kk (Qj .i64 x7 1) y2 y3)) none) (kk (Qj .i64 x7 1) y2 y3)) none) none) (some (.exit 0,QbK x7))
def QbM (x7:Int)(y2:Policy)(y3:Item):OX:=some (.exit 0,QbK (x7+(Ws ((QR y2 y3).drop (x7-1).toNat):Int)))
theorem QDN (x7:Int)(y2:Policy)(y3:Item):Qp8 x7 y2 y3=QbL Qp8 x7 y2 y3:=lnT (x:=QbL (fun x7 y2 y3=>some (.normal,QDM x7 y2 y3)) x7 y2 y3) (by simp only [QbL,nxA];rfl)
def r_f67 (p0:Policy)(p1:Item):OV:=br (Ju p0 p1) (br (ine (U0 p0 p1) 0) (some (.tu [(.t tI 0),(.t tI (U0 p0 p1))],[])) (br (ieq p1.2.1 1) (some (.tu [(.t tI (Qc p1.2.2.2.1)),(.t tI 0)],[])) (br (Jj p0 p1&&decide (1<=(1:Int)/\(1:Int)<=p1.2.2.2.1.length)) (some (.tu [(.t tI ((1:Int)+(Ws ((QR p0 p1).drop ((1:Int)-1).toNat):Int))),(.t tI 0)],[])) none))) none
theorem QSo (x7:Int)(y2:Policy)(y3:Item)(h:(Jj y2 y3&&decide (1<=x7/\x7<=y3.2.2.2.1.length))=true):Qp8 x7 y2 y3=QbM x7 y2 y3:=by
 simp only [Bc,Ba] at h
 obtain ⟨hf,h1,h2⟩:=h
 have hf2:=hf
 simp only [Jj,Bc] at hf2
 have hi:=JK.1 hf2.2
 have hpl: ∀ u q,ZZ y2 u q=true:=fun u q=>(Qe4 hf2.1).1
 obtain ⟨k,hk⟩: ∃ k:Nat,x7=((k+1:Nat):Int):=⟨(x7-1).toNat,by omega⟩
 subst hk
 obtain ⟨m,hm⟩: ∃ m,m=y3.2.2.2.1.length-(k+1):=⟨_,rfl⟩
 have hlk:(QR y2 y3).length=y3.2.2.2.1.length:=by simp [QR]
 induction m generalizing k with
 |zero=>
  rw [QDN]
  have e1:ilt ((k+1:Nat):Int) (Qc y3.2.2.2.1)=false:=by simp only [ilt,Qc,Bn];omega
  have hk0:k<(QR y2 y3).length:=by omega
  have e7:(QR y2 y3).drop (k+1)=[]:=Dn (by omega)
  have e2:(((k+1:Nat):Int)-1).toNat=k:=by omega
  simp only [QbL,e1,Qi,QbM,e2,Bg hk0,e7,Ws,Gf]
  simp
 |succ m ih=>
  rw [QDN]
  have hk1:k+1<y3.2.2.2.1.length:=by omega
  have hk0:k<y3.2.2.2.1.length:=by omega
  have e1:ilt ((k+1:Nat):Int) (Qc y3.2.2.2.1)=true:=by simp only [ilt,Qc,Ba];omega
  have e3:Qw .i64 ((k+1:Nat):Int) 1=(k:Int):=by rw [JO (by omega)];omega
  have hv:=QhS hi.2.2.2.2.1 y3.2.2.2.1[k] (Bw hk0)
  have ef:=QqG (u:=y3.2.2.2.1[k].1) (p:=y3.2.2.1) hf2.1 hv.1 hi.2.2.1.1 hi.2.2.1.2
  have ih:=ih (k+1) (by omega) (by omega) (by omega)
  have e2:(((k+1:Nat):Int)-1).toNat=k:=by omega
  have e5:(((k+1+1:Nat):Int)-1).toNat=k+1:=by omega
  have hd0:k<(QR y2 y3).length:=by omega
  have hd1:k+1<(QR y2 y3).length:=by omega
  have g0:(QR y2 y3)[k]=lkF y2 y3.2.2.1 y3.2.2.2.1[k]:=by simp [QR]
  have g1:(QR y2 y3)[k+1]=lkF y2 y3.2.2.1 y3.2.2.2.1[k+1]:=by simp [QR]
  have el:QbM ((k+1:Nat):Int) y2 y3=br (cnd (lkF y2 y3.2.2.1 y3.2.2.2.1[k]) (lkF y2 y3.2.2.1 y3.2.2.2.1[k+1])) (QbM ((k+1+1:Nat):Int) y2 y3) (some (.exit 0,QbK ((k+1:Nat):Int))):=by
   simp only [QbM,e2,e5,Bg hd0,Bg hd1,Ws,g0,g1]
   have e9: ∀ (a b:LinkX) (r:List LinkX),Gf a (b::r)=if cnd a b then Gf b r+1 else 0:=fun _ _ _=>rfl
   rw [e9]
   cases hcn:cnd (lkF y2 y3.2.2.1 y3.2.2.2.1[k]) (lkF y2 y3.2.2.1 y3.2.2.2.1[k+1]) with
   |true=>
    rw [if_pos rfl,Qf]
    congr 3
    omega
   |false=>
    rw [if_neg (by simp),Qi]
    simp
  rw [el]
  simp only [QbL,e1,e3,Qf,QK,hk1,hk0,Bo,Bb,QL (y:=Q2) hk1,QL (y:=Q2) hk0,hpl,ef,QO (show k+1<4611686018427387904 by omega),ih]
  simp only [cnd,lkF]
  by_cases c1:(ZT (J2 y2 y3.2.2.2.1[k].1 y3.2.2.1)).2=true
  ·rw [c1,Qf]
   by_cases c2:y3.2.2.2.1[k+1].2.1<(ZT (J2 y2 y3.2.2.2.1[k].1 y3.2.2.1)).1
   ·rw [show ige y3.2.2.2.1[k+1].2.1 (ZT (J2 y2 y3.2.2.2.1[k].1 y3.2.2.1)).1=false from Bq (by omega),Qi,show ilt y3.2.2.2.1[k+1].2.1 (ZT (J2 y2 y3.2.2.2.1[k].1 y3.2.2.1)).1=true from Be c2]
    rfl
   ·rw [show ige y3.2.2.2.1[k+1].2.1 (ZT (J2 y2 y3.2.2.2.1[k].1 y3.2.2.1)).1=true from Be (by omega),Qf,show ilt y3.2.2.2.1[k+1].2.1 (ZT (J2 y2 y3.2.2.2.1[k].1 y3.2.2.1)).1=false from Bq c2]
    rfl
  ·rw [show (ZT (J2 y2 y3.2.2.2.1[k].1 y3.2.2.1)).2=false by simpa using c1]
   rfl
theorem QSp:LO Qp7 Qp6 QDL 0:=QI (s:=Qhv) fun x y h _ q=>by simp only [QG,QH] at q;exact (QSo x.2.2.1 y.1 y.2.1 h).trans q
theorem s_f67 (y:Policy)(i:Item)(h:Ju y i=true):r_f67 y i=some (.tu [.t tI (ZM y i).1,.t tI (ZM y i).2],[]):=by
 simp only [r_f67,h,Qf]
 rcases QDJ (y:=y) (i:=i) with ⟨q1,q2⟩|⟨q1,q2,q3⟩
 ·rw [q2,q1,show ine 0 0=false from rfl,Qi,Bu]
  have hf2:=q1
  simp only [Jj,Bc] at hf2
  have hi:=JK.1 hf2.2
  rw [Yv ⟨B1 1,by omega⟩,Qf]
  unfold ZM
  rw [q1,if_pos rfl]
  have e0:(1-1:Int).toNat=0:=rfl
  rw [e0,BG]
  cases hk:ieq i.2.1 1 with
  |true=>
   simp only [Qf,if_true,Qi6,QR,BT]
  |false=>rfl
 ·rw [q2,q3,Qf]
  unfold ZM
  rw [q1,if_neg (by simp)]
def Qp9:Ent:=Qo (.pr QE (.pr Qp .nil)) (fun x=>(Ju x.1 x.2.1)) (fun x=>(.tu [(.t tI ((ZM x.1 x.2.1).1)),(.t tI ((ZM x.1 x.2.1).2))]))
theorem QDO:EM 67 Qp9:=mS (lk:=lkL (lkc QSp lkn)) Qp7 QDK [((.t 4),some tI),((.t 5),some tI)] false (gB (gD Qys (gD QDI gN))) fun m=>Qs m fun x hok=>kT (s_f67 x.1 x.2.1 hok)
end
end Go.Proofs.YthlcobdnemhcdaaGreat.K
noncomputable section
namespace Go.Proofs.YthlcobdnemhcdaaGreat.K
open Go.RowKit
noncomputable section
theorem QNg (a b:Int):imx a b=imx b a:=by
 unfold imx
 split<;>split<;>omega
abbrev Qe7:Sh:=⟨[(2,.ptr 2 0),(3,.ptr 3 0),(7,.ty tI),(10,.ty tI),(11,.ty .bool),(12,.ty tI)],[(2,.box QE),(3,.box Qp)]⟩
abbrev Qy6:Sh:=⟨[(10,.ty tI),(11,.ty .bool)],[]⟩
def QnH:Fg:=Qe7.f
def Qy7:TC:=aF Tryz.f26 [(1018,pL 0 QnH),(16291,.fg Qy6.f),(32584,pD [(0,[2]),(1,[3]),(2,[3]),(3,[]),(4,[]),(5,[]),(6,[]),(7,[3]),(8,[3]),(9,[]),(10,[]),(11,[]),(12,[]),(13,[]),(14,[]),(15,[]),(16,[])] (.of [0,1,2,3,4,5,6,7,8,9,10,11,12,13,14,15,16]))]
def Qy8:TC:=lb 0 Qy7
def Qy9 (x7 x10:Int)(x11:Bool)(x12:Int)(y2:Policy)(y3:Item):VS:=Qe7.st ((),(),x7,x10,x11,x12,()) (y2,y3,())
def QnI (x10:Int)(x11:Bool):VS:=Qy6.st (x10,x11,()) ()
def QNh:VS->Option (Bool×List (Bool×Exit×VS)):=mkL Qe7 (fun x y=>(Jj y.1 y.2.1&&decide (0<=x.2.2.2.2.2.1/\x.2.2.2.2.2.1<=x.2.2.1/\x.2.2.1<=y.2.1.2.2.2.1.length))) (fun x y=>[(true,.exit 0,QnI (((((QR y.1 y.2.1).take x.2.2.1.toNat).drop x.2.2.2.2.2.1.toNat).foldl Yw (x.2.2.2.1,x.2.2.2.2.1)).1) (((((QR y.1 y.2.1).take x.2.2.1.toNat).drop x.2.2.2.2.2.1.toNat).foldl Yw (x.2.2.2.1,x.2.2.2.2.1)).2))])
def QnJ:G:=gG 71 [(67,Qp9),(68,Qng)] (Ls [QNh])
def Qe8 (x7 x10:Int)(x11:Bool)(x12:Int)(y2:Policy)(y3:Item):OX:=Qx (QA QnJ QnH Qy8) (Qy9 x7 x10 x11 x12 y2 y3)
def QaJ (kk:Int->Int->Bool->Int->Policy->Item->OX)(x7 x10:Int)(x11:Bool)(x12:Int)(y2:Policy)(y3:Item):OX:=
 let a1:=lgt Q2 y3.2.2.2.1 (Int.toNat x12)
 let a2:=imx ((Z1 y2 (a1.1) y3.2.2.1).1) ((a1.2).1)
 let a3:=Qj .i64 x12 1
 br (ilt x12 x7) (br (cIx y3.2.2.2.1 x12) (br (ZZ y2 (a1.1) y3.2.2.1) (br (cIx y3.2.2.2.1 x12) (br (((Z1 y2 (a1.1) y3.2.2.1).2).1) (br (!x11) (kk x7 a2 true a3 y2 y3) (br (ilt a2 x10) (kk x7 a2 true a3 y2 y3) (kk x7 x10 x11 a3 y2 y3))) (kk x7 x10 x11 a3 y2 y3)) none) none) none) (some (.exit 0,QnI x10 x11))
def I7 (x7 x10:Int)(x11:Bool)(x12:Int)(y2:Policy)(y3:Item):OX:=
 let a1:=((((QR y2 y3).take x7.toNat).drop x12.toNat).foldl Yw (x10,x11))
 some (.exit 0,QnI (a1.1) (a1.2))
theorem Qza (x7 x10:Int)(x11:Bool)(x12:Int)(y2:Policy)(y3:Item):Qe8 x7 x10 x11 x12 y2 y3=QaJ Qe8 x7 x10 x11 x12 y2 y3:=lnT (x:=QaJ (fun x7 x10 x11 x12 y2 y3=>some (.normal,Qy9 x7 x10 x11 x12 y2 y3)) x7 x10 x11 x12 y2 y3) (by simp only [QaJ,nxA];rfl)
def r_f26 (p0:Policy)(p1:Item):OV:=
 let a1:=((ZM p0 p1).1)
 let a2:=((((QR p0 p1).take a1.toNat).drop (Qw .i64 a1 1).toNat).foldl Yw ((0:Int),false))
 let a3:=((((QR p0 p1).take a1.toNat).drop (0:Int).toNat).foldl Yw ((0:Int),false))
 br (Ju p0 p1) (br (ine ((ZM p0 p1).2) 0) (some (.tu [(.t tI 0),(.t .bool false),(.t tI ((ZM p0 p1).2))],[])) (br (ieq p1.2.1 2) (br (Jj p0 p1&&decide (0<=(Qw .i64 a1 1)/\(Qw .i64 a1 1)<=a1/\a1<=p1.2.2.2.1.length)) (some (.tu [(.t tI (a2.1)),(.t .bool (a2.2)),(.t tI 0)],[])) none) (br (Jj p0 p1&&decide (0<=(0:Int)/\(0:Int)<=a1/\a1<=p1.2.2.2.1.length)) (some (.tu [(.t tI (a3.1)),(.t .bool (a3.2)),(.t tI 0)],[])) none))) none
theorem QNi (x7 x10:Int)(x11:Bool)(x12:Int)(y2:Policy)(y3:Item)(h:(Jj y2 y3&&decide (0<=x12/\x12<=x7/\x7<=y3.2.2.2.1.length))=true):Qe8 x7 x10 x11 x12 y2 y3=I7 x7 x10 x11 x12 y2 y3:=by
 simp only [Bc,Ba] at h
 obtain ⟨hf,h1,h2,h3⟩:=h
 have hf2:=hf
 simp only [Jj,Bc] at hf2
 have hi:=JK.1 hf2.2
 have hpl: ∀ u q,ZZ y2 u q=true:=fun u q=>(Qe4 hf2.1).1
 obtain ⟨k,rfl⟩:=Bl h1
 obtain ⟨n,rfl⟩:=Bl (show 0<=x7 by omega)
 have hlk:(QR y2 y3).length=y3.2.2.2.1.length:=by simp [QR]
 have hn:((QR y2 y3).take n).length=n:=by rw [B4,hlk];omega
 revert x10 x11
 refine QQ ((QR y2 y3).take n) (fun k=> ∀ (x10:Int) (x11:Bool),Qe8 (n:Int) x10 x11 (k:Int) y2 y3=I7 (n:Int) x10 x11 (k:Int) y2 y3) ?_ ?_ k (by rw [hn];omega)
 ·intro x10 x11
  rw [Qza,hn]
  simp [QaJ,I7,Qy,Qi]
 ·intro k hk ih x10 x11
  have hkn:k<n:=by rw [hn] at hk;exact hk
  have hk0:k<y3.2.2.2.1.length:=by omega
  rw [Qza]
  have hv:=QhS hi.2.2.2.2.1 y3.2.2.2.1[k] (Bw hk0)
  have ef:=QqG (u:=y3.2.2.2.1[k].1) (p:=y3.2.2.1) hf2.1 hv.1 hi.2.2.1.1 hi.2.2.1.2
  have g0:((QR y2 y3).take n)[k]=lkF y2 y3.2.2.1 y3.2.2.2.1[k]:=by simp [QR]
  have el:I7 (n:Int) x10 x11 (k:Int) y2 y3=I7 (n:Int) (Yw (x10,x11) (lkF y2 y3.2.2.1 y3.2.2.2.1[k])).1 (Yw (x10,x11) (lkF y2 y3.2.2.1 y3.2.2.2.1[k])).2 ((k+1:Nat):Int) y2 y3:=by
   simp only [I7,Bb,Bg hk,Dp,g0]
  have eg:(Yc (lkF y2 y3.2.2.1 y3.2.2.2.1[k])).1=imx (ZT (J2 y2 y3.2.2.2.1[k].1 y3.2.2.1)).1 y3.2.2.2.1[k].2.1:=QNg _ _
  have eh:(Yc (lkF y2 y3.2.2.1 y3.2.2.2.1[k])).2=(ZT (J2 y2 y3.2.2.2.1[k].1 y3.2.2.1)).2:=rfl
  rw [el]
  simp only [QaJ,Qy,hkn,Bo,Qf,QK,hk0,Bb,QL (y:=Q2) hk0,hpl,ef,QO (show k<4611686018427387904 by omega),ih]
  unfold Yw
  rw [eg,eh]
  generalize imx (ZT (J2 y2 y3.2.2.2.1[k].1 y3.2.2.1)).1 y3.2.2.2.1[k].2.1=g
  cases (ZT (J2 y2 y3.2.2.2.1[k].1 y3.2.2.1)).2<;>cases x11<;>cases ilt g x10<;>rfl
theorem QNj:LO QnJ QnH Qy8 0:=QI (s:=Qe7) fun x y h _ q=>by simp only [QG,QH] at q;exact (QNi x.2.2.1 x.2.2.2.1 x.2.2.2.2.1 x.2.2.2.2.2.1 y.1 y.2.1 h).trans q
theorem QNk {l:List LinkX}(h:l≠[]):((l.take (Zi l).toNat).drop ((Zi l).toNat-1)).foldl Yw (0,false)=ZL l:=by
 have hc:=Qje h
 obtain ⟨n,hn⟩: ∃ n:Nat,Zi l=((n+1:Nat):Int):=⟨(Zi l).toNat-1,by omega⟩
 have hl:n<l.length:=by omega
 have e1:(Zi l).toNat=n+1:=by omega
 have e2:(l.take (n+1)).drop n=[l[n]]:=by
  have hk:n<(l.take (n+1)).length:=by rw [B4];omega
  rw [Bg hk,Dn (by rw [B4];omega)]
  simp
 have e3:F6 l=l[n]:=by
  unfold F6
  rw [hn,show (((n+1:Nat):Int)-1).toNat=n by omega,Bt,Bk hl]
  rfl
 rw [e1,DZ,e2,ZL,e3,Dp,List.foldl_nil]
 unfold Yw
 cases (Yc l[n]).2<;>rfl
theorem s_f26 (y:Policy)(i:Item)(h:Ju y i=true):r_f26 y i=some (.tu [.t tI (J5 y i).1,.t .bool (J5 y i).2.1,.t tI (J5 y i).2.2],[]):=by
 simp only [r_f26,h,Qf]
 cases hf:Jj y i with
 |false=>
  have e:ZM y i=(0,ofE y i):=by unfold ZM;rw [hf];rfl
  rw [e,Iy,Qf]
  unfold J5
  rw [hf]
  rfl
 |true=>
  have hf2:=hf
  simp only [Jj,Bc] at hf2
  have hi:=JK.1 hf2.2
  have hlk:(QR y i).length=i.2.2.2.1.length:=by simp [QR]
  have hne:QR y i≠[]:=fun e=>by rw [e] at hlk;simp at hlk;omega
  have hc:=Qje hne
  have eF:J5 y i=((Xq y i).1,(Xq y i).2,0):=by unfold J5;rw [hf];rfl
  have hk:=hi.2.1
  by_cases k1:i.2.1=1
  ·have e:ZM y i=((i.2.2.2.1.length:Int),0):=by unfold ZM;rw [hf,k1];simp [ieq,Qi6,hlk]
   have ef:Xq y i=Ge (QR y i):=by unfold Xq;rw [k1];rfl
   rw [e,k1,show ine 0 0=false from rfl,Qi,show ieq 1 2=false from rfl,Qi,Bu,Yv ⟨B1 0,by omega,by omega⟩,Qf,eF,ef]
   have e2:((QR y i).take (Int.toNat (i.2.2.2.1.length:Int))).drop (Int.toNat 0)=QR y i:=by
    rw [Bb,By,BG, ← hlk,List.take_length]
   rw [e2]
   rfl
  ·have k2:i.2.1=2:=by omega
   have e:ZM y i=(Zi (QR y i),0):=by unfold ZM;rw [hf,k2];rfl
   have ef:Xq y i=ZL (QR y i):=by unfold Xq;rw [k2];rfl
   have es:Qw .i64 (Zi (QR y i)) 1=Zi (QR y i)-1:=JO (by omega)
   have e5:(Zi (QR y i)-1).toNat=(Zi (QR y i)).toNat-1:=by omega
   rw [e,k2,show ine 0 0=false from rfl,Qi,show ieq 2 2=true from rfl,Qf]
   simp only [es]
   rw [Bu,Yv ⟨by omega,by omega,by omega⟩,Qf,eF,ef,e5,QNk hne]
def QnK:Ent:=Qo (.pr QE (.pr Qp .nil)) (fun x=>(Ju x.1 x.2.1)) (fun x=>(.tu [(.t tI ((J5 x.1 x.2.1).1)),(.t .bool (((J5 x.1 x.2.1).2).1)),(.t tI (((J5 x.1 x.2.1).2).2))]))
theorem Qzb:EM 26 QnK:=mS (lk:=lkL (lkc QNj lkn)) QnJ Qy7 [((.t 4),some tI),((.t 5),some .bool),((.t 6),some tI)] false (gB (gD QDO (gD Qys gN))) fun m=>Qs m fun x hok=>kT (s_f26 x.1 x.2.1 hok)
def QNl:TC:=aF Tryz.f113 []
def g_f113:G:=gG 52 [(26,QnK),(67,Qp9)] (fun _ _=>none)
def Qzc (p0:Policy)(p1:Item):OV:=
 let a4:=ZM p0 p1
 let a1:=Qw .i64 (a4.1) 1
 let a2:=(((lgt Q2 p1.2.2.2.1 (Int.toNat a1)).2).1)
 let a3:=Qw .i64 ((J5 p0 p1).1) 1
 br (Ju p0 p1) (br (ine (a4.2) 0) (some (.tu [(.t tI 0),(.t .bool false),(.t tI (a4.2))],[])) (br (ieq p1.2.1 1) (some (.tu [(.t tI 0),(.t .bool false),(.t tI 0)],[])) (br (ilt (a4.1) (Qc p1.2.2.2.1)) (some (.tu [(.t tI 0),(.t .bool false),(.t tI 0)],[])) (br (Ju p0 p1) (br (((J5 p0 p1).2).1) (br (cIx p1.2.2.2.1 a1) (br (ile a3 a2) (some (.tu [(.t tI 0),(.t .bool false),(.t tI 0)],[])) (some (.tu [(.t tI a3),(.t .bool true),(.t tI 0)],[]))) none) (br (cIx p1.2.2.2.1 a1) (br (ile 40000 a2) (some (.tu [(.t tI 0),(.t .bool false),(.t tI 0)],[])) (some (.tu [(.t tI 40000),(.t .bool true),(.t tI 0)],[]))) none)) none)))) none
theorem s_f113 (y:Policy)(i:Item)(h:Ju y i=true):Qzc y i=some (.tu [.t tI (ZE y i).1,.t .bool (ZE y i).2.1,.t tI (ZE y i).2.2],[]):=by
 simp only [Qzc,h,Qf]
 cases hf:Jj y i with
 |false=>
  have e:ZM y i=(0,ofE y i):=by unfold ZM;rw [hf];rfl
  rw [e,Iy,Qf]
  unfold ZE
  rw [hf]
  rfl
 |true=>
  have hf2:=hf
  simp only [Jj,Bc] at hf2
  have hi:=JK.1 hf2.2
  have hlk:(QR y i).length=i.2.2.2.1.length:=by simp [QR]
  have hne:QR y i≠[]:=fun e=>by rw [e] at hlk;simp at hlk;omega
  have hc:=Qje hne
  have eF:J5 y i=((Xq y i).1,(Xq y i).2,0):=by unfold J5;rw [hf];rfl
  have hk:=hi.2.1
  by_cases k1:i.2.1=1
  ·have e:ZM y i=((i.2.2.2.1.length:Int),0):=by unfold ZM;rw [hf,k1];simp [ieq,Qi6,hlk]
   rw [e,k1,show ine 0 0=false from rfl,Qi,show ieq 1 1=true from rfl,Qf]
   unfold ZE
   rw [hf,k1]
   rfl
  ·have k2:i.2.1=2:=by omega
   have e:ZM y i=(Zi (QR y i),0):=by unfold ZM;rw [hf,k2];rfl
   have ef:Xq y i=ZL (QR y i):=by unfold Xq;rw [k2];rfl
   have eL:ZE y i=if Gg (QR y i) then (if ile (XP y i) (XQ i) then (0,false,0) else (XP y i,true,0)) else (0,false,0):=by
    unfold ZE
    rw [hf,k2]
    rfl
   rw [e,k2,show ine 0 0=false from rfl,Qi,show ieq 2 1=false from rfl,Qi,eF,ef,eL]
   have eo:Gg (QR y i)= !(ilt (Zi (QR y i)) (Qc i.2.2.2.1)):=by
    rw [DC]
    simp only [Gg,ZS,Qc,hlk,ilt,Bx,Bn,Ba]
    omega
   rw [eo]
   refine QY (fun g=> ?_) (fun g=> ?_)
   ·rw [g]
    rfl
   ·rw [g]
    simp only [ilt,Qc,Bn] at g
    have ec:Zi (QR y i)=(i.2.2.2.1.length:Int):=by omega
    have es:Qw .i64 (Zi (QR y i)) 1=((i.2.2.2.1.length-1:Nat):Int):=by rw [ec,JO (by omega)];omega
    have hl1:i.2.2.2.1.length-1<i.2.2.2.1.length:=by omega
    have hd:(lgt Q2 i.2.2.2.1 (i.2.2.2.1.length-1)).2.1=XQ i:=rfl
    simp only [es,QK,hl1,Bo,Qf,Bb,hd,DB,if_true]
    cases hs:(ZL (QR y i)).2 with
    |true=>
     have e9:XP y i=Qw .i64 (ZL (QR y i)).1 1:=by unfold XP;rw [if_pos hs]
     rw [Qf, ← e9]
     cases ile (XP y i) (XQ i)<;>rfl
    |false=>
     have e9:XP y i=40000:=by unfold XP;rw [hs];rfl
     rw [Qi,e9]
     cases ile 40000 (XQ i)<;>rfl
def Qzd:Ent:=Qo (.pr QE (.pr Qp .nil)) (fun x=>(Ju x.1 x.2.1)) (fun x=>(.tu [(.t tI ((ZE x.1 x.2.1).1)),(.t .bool (((ZE x.1 x.2.1).2).1)),(.t tI (((ZE x.1 x.2.1).2).2))]))
theorem QNm:EM 113 Qzd:=mS g_f113 QNl [((.t 4),some tI),((.t 5),some .bool),((.t 6),some tI)] false (gB (gD Qzb (gD QDO gN))) fun m=>Qs m fun x hok=>kT (s_f113 x.1 x.2.1 hok)
def tc_f60:TC:=aF Tryz.f60 [(126,pD [(0,[43,5043,10043,15043]),(1,[5,43,46,51]),(2,[5,43,46,51]),(3,[5,8,43,46,51,5046,10046,15046]),(4,[6]),(5,[]),(6,[]),(7,[]),(8,[5,8,43,46,51,5051,10051,15051]),(9,[5,43,46,51]),(10,[5,8,43,46,51])] (.one 4 (.one 5 (.one 6 (.one 7 (.alt 0 (.of [1,2,3,8,9,10]) (.one 1 (.alt 0 (.of [2,3,8,9,10]) (.of [2,0,3,8,9,10])))))))))]
def g_f60:G:=⟨TYs,[43],54,EL [(104,Qp4),(105,I3)],keeps,(fun _ _=>none),IL [],RL []⟩
def Qe9 (p0:Policy)(p1:Item)(p2:Keep)(p3:Int):OV:=
 let a1:=((p2.1,(p2.2.1,())),(p3,()))
 br (Qq ([]:List Link) p1.2.2.2.1 24) (br (Qq (([]:List Link)++p1.2.2.2.1) ([a1]) 24) (some (.tu [(.t Qp (p1.1,(p1.2.1,(p1.2.2.1,(((([]:List Link)++p1.2.2.2.1)++([a1])),(p1.2.2.2.2.1,())))))),(.t tI 0)],[])) none) none
def r_f60 (p0:Policy)(p1:Item)(p2:Keep)(p3:Int):OV:=
 let a1:=ByteArray.mk #[]
 let a2:=Qc p1.2.2.2.1
 br (Ju p0 p1) (br (ine (U0 p0 p1) 0) (some (.tu [(.t Qp (a1,(0,(0,(([]:List Link),(0,())))))),(.t tI (U0 p0 p1))],[])) (br (!(Jf p2)) (some (.tu [(.t Qp (a1,(0,(0,(([]:List Link),(0,())))))),(.t tI 7)],[])) (br (cIx p1.2.2.2.1 (Qw .i64 a2 1)) (br (ile p3 (((lgt Q2 p1.2.2.2.1 (Int.toNat (Qw .i64 a2 1))).2).1)) (some (.tu [(.t Qp (a1,(0,(0,(([]:List Link),(0,())))))),(.t tI 13)],[])) (br (igt p3 40000) (some (.tu [(.t Qp (a1,(0,(0,(([]:List Link),(0,())))))),(.t tI 13)],[])) (br (ieq a2 8) (some (.tu [(.t Qp (a1,(0,(0,(([]:List Link),(0,())))))),(.t tI 3)],[])) (frk (Qe9 p0 p1 p2 p3) (frk (Qe9 p0 p1 p2 p3) (Qe9 p0 p1 p2 p3)))))) none))) none
theorem s_f60 (y:Policy)(i:Item)(u:Keep)(day:Int)(h:FM y i u day=true):r_f60 y i u day=some (.tu [.t Qp (Zz y i u day).1,.t tI (Zz y i u day).2],[]):=by
 have h:Ju y i=true:=h
 simp only [r_f60,Qe9,J9,h,Qf,J9,BV]
 rcases QDJ (y:=y) (i:=i) with ⟨q1,q2⟩|⟨q1,q2,q3⟩
 ·rw [q2,show ine 0 0=false from rfl,Qi]
  have hf2:=q1
  simp only [Jj,Bc] at hf2
  have hi:=JK.1 hf2.2
  have c1:Q8 i.2.2.2.1=true:=Be (by omega)
  have c2:Qq ([]:List Link) i.2.2.2.1 24=true:=WY (by simp;omega) (by omega)
  have:=QpH (u:=u) (day:=day) q1 rfl
  rw [c1,Qf] at this
  rw [c2,Qf]
  unfold GY at this
  exact this
 ·rw [q2,q3,Qf]
  unfold Zz
  have a4:ZO y i u day=ofE y i:=by unfold ZO;rw [if_pos q1]
  have a5: ¬ ofE y i=0:=by simpa [ine] using q3
  rw [a4,if_neg a5]
  rfl
def Qze:Ent:=Qo (.pr QE (.pr Qp (.pr Qk (.pr tI .nil)))) (fun x=>(FM x.1 x.2.1 x.2.2.1 x.2.2.2.1)) (fun x=>(.tu [(.t Qp ((Zz x.1 x.2.1 x.2.2.1 x.2.2.2.1).1)),(.t tI ((Zz x.1 x.2.1 x.2.2.1 x.2.2.2.1).2))]))
theorem ms_f60:EM 60 Qze:=mS g_f60 tc_f60 [((.c 8 true 5),some Qp),((.t 9),some tI)] false (Jp _ (gA (gD QDI (gD Qaw gN)))) fun m=>Qs m fun x hok=>kT (s_f60 x.1 x.2.1 x.2.2.1 x.2.2.2.1 hok)
end
end Go.Proofs.YthlcobdnemhcdaaGreat.K
noncomputable section
namespace Go.Proofs.YthlcobdnemhcdaaGreat.K
open Go.RowKit
noncomputable section
def Oy:Estate:=(([]:List Endpoint),(([]:List Keep),(([]:List Item),())))
def Jt (e:Estate)(y:Policy):Int:=bif !YX e then 31 else Zt y
def Jg (e:Estate)(y:Policy):Bool:=ZC e&&Q5 y
abbrev JB (e:Estate)(k:Nat):Item:=lgt Qp (Je e) k
theorem QCL {e:Estate}{y:Policy}(h:Jt e y=0):YX e=true/\Zs y=true:=by
 unfold Jt at h
 cases he:YX e with
 |false=>rw [he] at h;cases h
 |true=>
  rw [he] at h
  have h:Zt y=0:=h
  refine ⟨rfl, ?_⟩
  unfold Zt at h
  cases hp:Zs y with
  |true=>rfl
  |false=>rw [hp] at h;cases h
def QpB (e:Estate)(k:Nat)(x:Item):Estate:=(e.1,(e.2.1,((Je e).set k x,())))
def apF (e:Estate)(y:Policy)(j:Job):Estate×Int:=
 bif ine (Jt e y) 0 then (Oy,Jt e y) else bif ilt j.1 0 then (Oy,52) else bif ige j.1 (Qc (Je e)) then (Oy,52) else
  bif ine (ZO y (JB e j.1.toNat) j.2.1.1 j.2.1.2.1) 0 then (Oy,ZO y (JB e j.1.toNat) j.2.1.1 j.2.1.2.1) else
   bif !(ZB y j.2.1.1 (JB e j.1.toNat).2.2.1 j.2.1.2.1).1 then (Oy,43) else (QpB e j.1.toNat (Oz (JB e j.1.toNat) j.2.1.1 j.2.1.2.1),0)
def apE (e:Estate)(y:Policy)(j:Job):Int:=(apF e y j).2
theorem ap_ok {e:Estate}{y:Policy}{j:Job}(h:apE e y j=0):Jt e y=0/\0<=j.1/\j.1<(Je e).length/\ZO y (JB e j.1.toNat) j.2.1.1 j.2.1.2.1=0/\(ZB y j.2.1.1 (JB e j.1.toNat).2.2.1 j.2.1.2.1).1=true/\apF e y j=(QpB e j.1.toNat (Oz (JB e j.1.toNat) j.2.1.1 j.2.1.2.1),0):=by
 unfold apE at h
 have hu:apF e y j=apF e y j:=rfl
 unfold apF at h
 cases h1:ine (Jt e y) 0 with
 |true=>
  rw [h1,B8] at h
  have h:Jt e y=0:=h
  rw [h] at h1
  cases h1
 |false=>
  rw [h1,BW] at h
  cases h2:ilt j.1 0 with
  |true=>rw [h2,B8] at h;cases h
  |false=>
   rw [h2,BW] at h
   cases h3:ige j.1 (Qc (Je e)) with
   |true=>rw [h3,B8] at h;cases h
   |false=>
    rw [h3,BW] at h
    cases h4:ine (ZO y (JB e j.1.toNat) j.2.1.1 j.2.1.2.1) 0 with
    |true=>
     rw [h4,B8] at h
     have h:ZO y (JB e j.1.toNat) j.2.1.1 j.2.1.2.1=0:=h
     rw [h] at h4
     cases h4
    |false=>
     rw [h4,BW] at h
     cases h5:(ZB y j.2.1.1 (JB e j.1.toNat).2.2.1 j.2.1.2.1).1 with
     |false=>rw [h5] at h;cases h
     |true=>
      refine ⟨by simpa [ine] using h1,by simpa [ilt] using h2,by simpa [ige,Qc] using h3,by simpa [ine] using h4,rfl, ?_⟩
      unfold apF
      rw [h1,h2,h3,h4,h5]
      rfl
def Zc (y:Policy):List Job->Estate->Int->Estate×Int×Int
 | [],e,n=>(e,n,0)
 |j::l,e,n=>bif ieq (apE e y j) 0 then Zc y l (apF e y j).1 (n+1) else (e,n,apE e y j)
def Zk (e:Estate)(y:Policy)(l:List Job):Estate×Int×Int:=bif igt (Qc l) 60 then (e,0,3) else Zc y l e 0
def stF (y:Policy)(i:Item):Bool×Int×Bool:=((J5 y i).2.1&&ile (J5 y i).1 i.2.2.2.2.1,(ZE y i).1,(ZE y i).2.1)
def thB (y:Policy)(can:Bool)(i:Item):Bool:=(stF y i).1&&(stF y i).2.2==can
def thZ (y:Policy)(can:Bool):List Item->Int->List Int
 | [],_=>[]
 |i::l,k=>bif thB y can i then k::thZ y can l (k+1) else thZ y can l (k+1)
def thF (e:Estate)(y:Policy)(can:Bool):List Int×Int:=bif ine (Jt e y) 0 then ([],Jt e y) else (thZ y can (Je e) 0,0)
def dlF (e:Estate)(y:Policy)(i:Int):Int×Bool×Int:=
 bif ine (Jt e y) 0 then (0,false,Jt e y) else bif ilt i 0||ige i (Qc (Je e)) then (0,false,52) else
  bif thB y true (JB e i.toNat) then ((stF y (JB e i.toNat)).2.1,true,0) else (0,false,0)
theorem QCM {e:Estate}(h:YX e=true){i:Item}(hi:i∈Je e):J7 i=true:=by
 simp only [YX,Bc] at h
 exact Bi.1 h.2.1 i hi
theorem QQG {e:Estate}{k:Nat}(hk:k<(Je e).length):JB e k∈Je e:=Qul (y:=Qp) hk
theorem QCN {e:Estate}{k:Nat}(hk:k<(Je e).length):JB e k=(Je e)[k]:=QL (y:=Qp) hk
theorem QpC (y:Policy)(can:Bool): ∀ (l:List Item) (k:Int),(thZ y can l k).length<=l.length
 | [],_=>BB _
 |i::l,k=>by
  have:=QpC y can l (k+1)
  unfold thZ
  cases thB y can i with
  |true=>simp only [B8,Br];omega
  |false=>simp only [BW,Br];omega
end
end Go.Proofs.YthlcobdnemhcdaaGreat.K
noncomputable section
namespace Go.Proofs.YthlcobdnemhcdaaGreat.K
open Go.RowKit
noncomputable section
def tc_f53:TC:=aF Tryz.f53 []
def g_f53:G:=gG 13 [(72,QFY),(90,QgN)] (fun _ _=>none)
def r_f53 (p0:Estate)(p1:Policy):OV:=br (ZC p0) (br (ine (U9 p0) 0) (some (.t tI 31,[])) (br (Q5 p1) (br (ine (Zt p1) 0) (some (.t tI 25,[])) (some (.t tI 0,[]))) none)) none
theorem s_f53 (e:Estate)(y:Policy)(h:Jg e y=true):r_f53 e y=some (.t tI (Jt e y),[]):=by
 obtain ⟨h1,h2⟩:=Bf.1 h
 unfold r_f53 Jt
 refine brY h1 ?_
 rw [QFR]
 cases YX e with
 |false=>rfl
 |true=>
  rw [BF,Qi]
  refine brY h2 ?_
  unfold Zt
  cases Zs y<;>rfl
def QeS:Ent:=Qo (.pr Qm (.pr QE .nil)) (fun x=>(Jg x.1 x.2.1)) (fun x=>(.t tI (Jt x.1 x.2.1)))
theorem Qnh:EM 53 QeS:=mS g_f53 tc_f53 [((.t 4),some tI)] false (gB (gD ms_f72 (gD Qpt gN))) fun m=>Qs m fun x hok=>kT (s_f53 x.1 x.2.1 hok)
def tc_f59:TC:=aF Tryz.f59 []
def g_f59:G:=gG 11 [(75,QF8),(103,QgU)] (fun _ _=>none)
def r_f59 (p0:Estate)(p1:Policy):OV:=br (ZC p0) (br (ine (U9 p0) 0) (some (.t tI 31,[])) (br (Q5 p1) (br (ine (Zt p1) 0) (some (.t tI 25,[])) (some (.t tI 0,[]))) none)) none
theorem s_f59 (e:Estate)(y:Policy)(h:Jg e y=true):r_f59 e y=some (.t tI (Jt e y),[]):=by
 obtain ⟨h1,h2⟩:=Bf.1 h
 unfold r_f59 Jt
 refine brY h1 ?_
 rw [QFR]
 cases YX e with
 |false=>rfl
 |true=>
  rw [BF,Qi]
  refine brY h2 ?_
  unfold Zt
  cases Zs y<;>rfl
def QeT:Ent:=Qo (.pr Qm (.pr QE .nil)) (fun x=>(Jg x.1 x.2.1)) (fun x=>(.t tI (Jt x.1 x.2.1)))
theorem Qni:EM 59 QeT:=mS g_f59 tc_f59 [((.t 4),some tI)] false (gB (gD ms_f75 (gD QpA gN))) fun m=>Qs m fun x hok=>kT (s_f59 x.1 x.2.1 hok)
theorem Qyt {e:Estate}{y:Policy}(h:ine (Jt e y) 0=false):Jt e y=0:=by simpa [ine] using h
theorem Qlk {i:Item}(h:J7 i=true):XC i=true:=Be (by have:=(JK.1 h).2.2.2.1;omega)
theorem jcpy {e:Estate}{y:Policy}(h:Jg e y=true)(h0:Jt e y=0):JE e=true:=by
 obtain ⟨h1,h2⟩:=Bf.1 h
 exact Bf.2 ⟨h1,Bi.2 fun i hi=>Qlk (QCM (QCL h0).1 hi)⟩
theorem I5 {e:Estate}(h:ZC e=true):Ya (Je e)=true:=by
 simp only [ZC,Bc] at h
 exact h.2.2
theorem QeU {e:Estate}(h:ZC e=true){k:Nat}(hk:k<(Je e).length):Zx (JB e k)=true:=by
 rw [QCN hk]
 exact Qip (I5 h) hk
theorem Qyu (y:Policy)(i:Item)(u:Keep)(d:Int):ine (Zz y i u d).2 0=ine (ZO y i u d) 0:=by
 unfold Zz
 split
 ·rename_i h
  rw [h]
 ·rfl
theorem Qyv {y:Policy}{i:Item}{u:Keep}{d:Int}(h:ine (ZO y i u d) 0=false):Zz y i u d=(Oz i u d,0):=by
 have h:ZO y i u d=0:=by simpa [ine] using h
 unfold Zz
 rw [if_pos h]
theorem Qyw {y:Policy}{i:Item}{u:Keep}{d:Int}(h:ine (ZO y i u d) 0=true):(Zz y i u d).2=ZO y i u d:=by
 unfold Zz
 split
 ·rename_i h2
  rw [h2]
 ·rfl
def GG (e:Estate)(y:Policy)(_:Job):Bool:=Jg e y
def tc_f13:TC:=aF Tryz.f13 [(30,pD [(0,[4]),(1,[3]),(2,[3]),(3,[5]),(4,[5]),(5,[]),(6,[]),(7,[5]),(8,[5]),(9,[5]),(10,[5]),(11,[5]),(12,[5]),(13,[]),(14,[]),(15,[]),(16,[]),(17,[9,5009,10009,15009]),(18,[9]),(19,[])] (.of [0,1,2,3,4,5,6,7,8,9,10,11,12,13,14,15,16,17,18,19]))]
def g_f13:G:=gG 81 [(51,IE),(53,QeS),(54,QCR),(55,QED)] (fun _ _=>none)
def r_f13 (p0:Estate)(p1:Policy)(p2:Job):OV:=
 let a3:=Int.toNat p2.1
 let a1:=Zz p1 (lgt Qp p0.2.2.1 a3) p2.2.1.1 p2.2.1.2.1
 let a2:=((((Zp p0).2).2).1)
 br (Jg p0 p1) (br (ine (Jt p0 p1) 0) (some (.tu [(.t Qm (([]:List Endpoint),(([]:List Keep),(([]:List Item),())))),(.t tI (Jt p0 p1))],[])) (br (ilt p2.1 0) (some (.tu [(.t Qm (([]:List Endpoint),(([]:List Keep),(([]:List Item),())))),(.t tI 52)],[])) (br (ige p2.1 (Qc p0.2.2.1)) (some (.tu [(.t Qm (([]:List Endpoint),(([]:List Keep),(([]:List Item),())))),(.t tI 52)],[])) (br (cIx p0.2.2.1 p2.1) (br (FM p1 (lgt Qp p0.2.2.1 a3) p2.2.1.1 p2.2.1.2.1) (br (ine (a1.2) 0) (some (.tu [(.t Qm (([]:List Endpoint),(([]:List Keep),(([]:List Item),())))),(.t tI (a1.2))],[])) (br (Ux p1 p2.2.1.1 ((((a1.1).2).2).1) p2.2.1.2.1) (br (!((ZB p1 p2.2.1.1 ((((a1.1).2).2).1) p2.2.1.2.1).1)) (some (.tu [(.t Qm (([]:List Endpoint),(([]:List Keep),(([]:List Item),())))),(.t tI 43)],[])) (br (JE p0) (br (cIx a2 p2.1) (br (cLd a2 a3) (some (.tu [(.t Qm ((Zp p0).1,(((Zp p0).2).1,((List.set a2 a3 (a1.1)),())))),(.t tI 0)],[])) none) none) none)) none)) none) none)))) none
theorem s_f13 (e:Estate)(y:Policy)(j:Job)(h:GG e y j=true):r_f13 e y j=some (.tu [.t Qm (apF e y j).1,.t tI (apF e y j).2],[]):=by
 have h:Jg e y=true:=h
 obtain ⟨hl1,hl2⟩:=Bf.1 h
 unfold r_f13 apF
 refine brY h ?_
 cases h1:ine (Jt e y) 0 with
 |true=>rfl
 |false=>
  rw [Qi,BW]
  cases h2:ilt j.1 0 with
  |true=>rfl
  |false=>
   rw [Qi,BW]
   cases h3:ige j.1 (Qc (Je e)) with
   |true=>rfl
   |false=>
    rw [Qi,BW]
    have h2:=Df h2
    have h3:=Df h3
    simp only [Qc] at h3
    have hk:j.1.toNat<(Je e).length:=by omega
    have hk2:j.1.toNat<(Zp e).2.2.1.length:=hk
    have h3b: ¬ ((e.2.2.1.length:Nat):Int)<=j.1:=h3
    have hcx:cIx e.2.2.1 j.1=true:=Be ⟨by omega,by omega⟩
    refine brY hcx (brY (show FM y (JB e j.1.toNat) j.2.1.1 j.2.1.2.1=true from Bf.2 ⟨hl2,QeU hl1 hk⟩) ?_)
    rw [Qyu]
    cases h4:ine (ZO y (JB e j.1.toNat) j.2.1.1 j.2.1.2.1) 0 with
    |true=>
     rw [Qf,B8,Qyw h4]
     rfl
    |false=>
     rw [Qi,BW,Qyv h4]
     refine brY (show Q5 y=true from hl2) ?_
     show br (!(ZB y j.2.1.1 (JB e j.1.toNat).2.2.1 j.2.1.2.1).1) _ _=_
     cases (ZB y j.2.1.1 (JB e j.1.toNat).2.2.1 j.2.1.2.1).1 with
     |false=>rfl
     |true=>
      rw [BF,Qi,BW]
      exact brY (jcpy h (Qyt h1)) (brY hcx (brY (Be hk2) rfl))
def QaB:Ent:=Qo (.pr Qm (.pr QE (.pr Jb .nil))) (fun x=>(GG x.1 x.2.1 x.2.2.1)) (fun x=>(.tu [(.t Qm ((apF x.1 x.2.1 x.2.2.1).1)),(.t tI ((apF x.1 x.2.1 x.2.2.1).2))]))
theorem Qnj:EM 13 QaB:=mS g_f13 tc_f13 [((.c 6 true 3),some Qm),((.t 7),some tI)] false (gB (gC Qv2 QlH (gD Qnh (gC en_f54 ms_f54 (gD ms_f55 gN))))) fun m=>Qs m fun x hok=>kT (s_f13 x.1 x.2.1 x.2.2.1 hok)
def tc_f17:TC:=aF Tryz.f17 []
def g_f17:G:=gG 83 [(59,QeT),(60,Qze),(61,Qtf),(62,Qn6)] (fun _ _=>none)
def r_f17 (p0:Estate)(p1:Policy)(p2:Job):OV:=
 let a1:=lgt Qp p0.2.2.1 (Int.toNat p2.1)
 let a2:=Zz p1 a1 p2.2.1.1 p2.2.1.2.1
 let a3:=((((Zp p0).2).2).1)
 br (Jg p0 p1) (br (ine (Jt p0 p1) 0) (some (.tu [(.t Qm (([]:List Endpoint),(([]:List Keep),(([]:List Item),())))),(.t tI (Jt p0 p1))],[])) (br (ilt p2.1 0) (some (.tu [(.t Qm (([]:List Endpoint),(([]:List Keep),(([]:List Item),())))),(.t tI 52)],[])) (br (ige p2.1 (Qc p0.2.2.1)) (some (.tu [(.t Qm (([]:List Endpoint),(([]:List Keep),(([]:List Item),())))),(.t tI 52)],[])) (br (cIx p0.2.2.1 p2.1) (br (FM p1 a1 p2.2.1.1 p2.2.1.2.1) (br (ine (a2.2) 0) (some (.tu [(.t Qm (([]:List Endpoint),(([]:List Keep),(([]:List Item),())))),(.t tI (a2.2))],[])) (br (Ux p1 p2.2.1.1 (((a1.2).2).1) p2.2.1.2.1) (br (!((ZB p1 p2.2.1.1 (((a1.2).2).1) p2.2.1.2.1).1)) (some (.tu [(.t Qm (([]:List Endpoint),(([]:List Keep),(([]:List Item),())))),(.t tI 43)],[])) (br (JE p0) (br (cIx a3 p2.1) (br (cLd a3 (Int.toNat p2.1)) (some (.tu [(.t Qm ((Zp p0).1,(((Zp p0).2).1,((List.set a3 (Int.toNat p2.1) (a2.1)),())))),(.t tI 0)],[])) none) none) none)) none)) none) none)))) none
theorem s_f17 (e:Estate)(y:Policy)(j:Job)(h:GG e y j=true):r_f17 e y j=some (.tu [.t Qm (apF e y j).1,.t tI (apF e y j).2],[]):=by
 have h:Jg e y=true:=h
 obtain ⟨hl1,hl2⟩:=Bf.1 h
 unfold r_f17 apF
 refine brY h ?_
 cases h1:ine (Jt e y) 0 with
 |true=>rfl
 |false=>
  rw [Qi,BW]
  cases h2:ilt j.1 0 with
  |true=>rfl
  |false=>
   rw [Qi,BW]
   cases h3:ige j.1 (Qc (Je e)) with
   |true=>rfl
   |false=>
    rw [Qi,BW]
    have h2:=Df h2
    have h3:=Df h3
    simp only [Qc] at h3
    have hk:j.1.toNat<(Je e).length:=by omega
    have hk2:j.1.toNat<(Zp e).2.2.1.length:=hk
    have h3b: ¬ ((e.2.2.1.length:Nat):Int)<=j.1:=h3
    have hcx:cIx e.2.2.1 j.1=true:=Be ⟨by omega,by omega⟩
    refine brY hcx (brY (show FM y (JB e j.1.toNat) j.2.1.1 j.2.1.2.1=true from Bf.2 ⟨hl2,QeU hl1 hk⟩) ?_)
    rw [Qyu]
    cases h4:ine (ZO y (JB e j.1.toNat) j.2.1.1 j.2.1.2.1) 0 with
    |true=>
     rw [Qf,B8,Qyw h4]
     rfl
    |false=>
     rw [Qi,BW,Qyv h4]
     refine brY (show Q5 y=true from hl2) ?_
     show br (!(ZB y j.2.1.1 (JB e j.1.toNat).2.2.1 j.2.1.2.1).1) _ _=_
     cases (ZB y j.2.1.1 (JB e j.1.toNat).2.2.1 j.2.1.2.1).1 with
     |false=>rfl
     |true=>
      rw [BF,Qi,BW]
      exact brY (jcpy h (Qyt h1)) (brY hcx (brY (Be hk2) rfl))
def Qnk:Ent:=Qo (.pr Qm (.pr QE (.pr Jb .nil))) (fun x=>(GG x.1 x.2.1 x.2.2.1)) (fun x=>(.tu [(.t Qm ((apF x.1 x.2.1 x.2.2.1).1)),(.t tI ((apF x.1 x.2.1 x.2.2.1).2))]))
theorem Qyx:EM 17 Qnk:=mS g_f17 tc_f17 [((.c 6 true 3),some Qm),((.t 7),some tI)] false (gB (gD Qni (gD ms_f60 (gD ms_f61 (gD QzY gN))))) fun m=>Qs m fun x hok=>kT (s_f17 x.1 x.2.1 x.2.2.1 hok)
def tc_f15:TC:=aF Tryz.f15 []
def g_f15:G:=gG 17 [(13,QaB)] (fun _ _=>none)
def r_f15 (p0:Estate)(p1:Policy)(p2:Job):OV:=br (GG p0 p1 p2) (some (.t tI ((apF p0 p1 p2).2),[])) none
theorem s_f15 (e:Estate)(y:Policy)(j:Job)(h:GG e y j=true):r_f15 e y j=some (.t tI (apE e y j),[]):=by
 unfold r_f15
 exact brY h rfl
def Qnl:Ent:=Qo (.pr Qm (.pr QE (.pr Jb .nil))) (fun x=>(GG x.1 x.2.1 x.2.2.1)) (fun x=>(.t tI (apE x.1 x.2.1 x.2.2.1)))
theorem Qyy:EM 15 Qnl:=mS g_f15 tc_f15 [((.t 6),some tI)] false (gB (gD Qnj gN)) fun m=>Qs m fun x hok=>kT (s_f15 x.1 x.2.1 x.2.2.1 hok)
def tc_f65:TC:=aF Tryz.f65 []
def g_f65:G:=gG 32 [(111,Qvy),(112,QvC)] (fun _ _=>none)
def r_f65 (p0:Policy)(p1:Item):OV:=
 let a1:=ZE p0 p1
 br (Ju p0 p1) (br (Ju p0 p1) (br (((J5 p0 p1).2).1) (some (.tu [(.t .bool (ile ((J5 p0 p1).1) p1.2.2.2.2.1)),(.t tI (a1.1)),(.t .bool ((a1.2).1))],[])) (some (.tu [(.t .bool false),(.t tI (a1.1)),(.t .bool ((a1.2).1))],[]))) none) none
theorem s_f65 (y:Policy)(i:Item)(h:Ju y i=true):r_f65 y i=some (.tu [.t .bool (stF y i).1,.t tI (stF y i).2.1,.t .bool (stF y i).2.2],[]):=by
 unfold r_f65
 refine brY h (brY h ?_)
 unfold stF
 cases (J5 y i).2.1<;>rfl
def Qnm:Ent:=Qo (.pr QE (.pr Qp .nil)) (fun x=>(Ju x.1 x.2.1)) (fun x=>(.tu [(.t .bool ((stF x.1 x.2.1).1)),(.t tI (((stF x.1 x.2.1).2).1)),(.t .bool (((stF x.1 x.2.1).2).2))]))
theorem Qyz:EM 65 Qnm:=mS g_f65 tc_f65 [((.t 4),some .bool),((.t 5),some tI),((.t 6),some .bool)] false (gB (gC QKf QKg (gC QKt QKu gN))) fun m=>Qs m fun x hok=>kT (s_f65 x.1 x.2.1 hok)
def tc_f66:TC:=aF Tryz.f66 []
def g_f66:G:=gG 36 [(26,QnK),(113,Qzd)] (fun _ _=>none)
def r_f66 (p0:Policy)(p1:Item):OV:=
 let a1:=ZE p0 p1
 br (Ju p0 p1) (br (Ju p0 p1) (br (((J5 p0 p1).2).1) (some (.tu [(.t .bool (ile ((J5 p0 p1).1) p1.2.2.2.2.1)),(.t tI (a1.1)),(.t .bool ((a1.2).1))],[])) (some (.tu [(.t .bool false),(.t tI (a1.1)),(.t .bool ((a1.2).1))],[]))) none) none
theorem s_f66 (y:Policy)(i:Item)(h:Ju y i=true):r_f66 y i=some (.tu [.t .bool (stF y i).1,.t tI (stF y i).2.1,.t .bool (stF y i).2.2],[]):=by
 unfold r_f66
 refine brY h (brY h ?_)
 unfold stF
 cases (J5 y i).2.1<;>rfl
def Qnn:Ent:=Qo (.pr QE (.pr Qp .nil)) (fun x=>(Ju x.1 x.2.1)) (fun x=>(.tu [(.t .bool ((stF x.1 x.2.1).1)),(.t tI (((stF x.1 x.2.1).2).1)),(.t .bool (((stF x.1 x.2.1).2).2))]))
theorem QyA:EM 66 Qnn:=mS g_f66 tc_f66 [((.t 4),some .bool),((.t 5),some tI),((.t 6),some .bool)] false (gB (gD Qzb (gD QNm gN))) fun m=>Qs m fun x hok=>kT (s_f66 x.1 x.2.1 hok)
def QeV (l:List Int):List Int:=l
def Qno (l:List Int):Bool:=decide (l.length<=100000)
def QMX:TC:=aF Tryz.f110 []
def g_f110:G:=gG 9 [] (fun _ _=>none)
def QyB (p0:List Int):OV:=br (cSl p0 0 (Qc p0) (Qc p0)) (some (.t (.sl tI) (lsl p0 0 (Qc p0)),[])) none
theorem s_f110 (l:List Int)(h:Qno l=true):QyB l=some (.t (.sl tI) (QeV l),[]):=by
 unfold QyB QeV
 have e1:cSl l 0 (Qc l) (Qc l)=true:=by simp only [cSl,Qc,Ba];omega
 have e2:lsl l 0 (Qc l)=l:=by simp [lsl,Qc]
 rw [e1,Qf,e2]
def QyC:Ent:=Qo (.pr (.sl tI) .nil) (fun x=>(Qno x.1)) (fun x=>(.t (.sl tI) (QeV x.1)))
theorem QMY:EM 110 QyC:=mS g_f110 QMX [((.t 2),some (.sl tI))] false (gB gN) fun m=>Qs m fun x hok=>kT (s_f110 x.1 hok)
def UO (y:Policy)(l:List Item)(o:List Int)(k:Int):Bool:=Q5 y&&(Ya l&&decide ((o.length:Int)<=k))
def WE (e:Estate)(y:Policy)(_:Bool):Bool:=Jg e y
theorem QyD {y:Policy}{can:Bool}{l:List Item}{k:Nat}(hk:k<l.length):thZ y can (l.drop k) (k:Int)=bif thB y can l[k] then (k:Int)::thZ y can (l.drop (k+1)) ((k:Int)+1) else thZ y can (l.drop (k+1)) ((k:Int)+1):=by
 rw [Bg hk]
 rfl
abbrev Ew:Sh:=⟨[(2,.ty .bool),(4,.ptr 4 0),(9,.ms 9),(22,.ty (.sl Qp)),(23,.ty tI),(24,.ty tI)],[(4,.box QE),(9,.arr 3 tI),(45,.no)]⟩
abbrev Qnp:Sh:=⟨[(9,.ms 9)],[(9,.arr 3 tI),(45,.no)]⟩
def Qnq:Fg:=Ew.f
def QyE:TC:=aF Tryz.f63 [(122,.nw 9 3),(122,pL 0 Qnq),(1957,.fg Qnp.f),(62,.fz [9])]
def QyF:TC:=lb 0 QyE
def QeW (x2:Bool)(x22:List Item)(x23 x24:Int)(y4:Policy)(y9:List Int):VS:=Ew.st (x2,(),(),x22,x23,x24,()) (y4,y9,(),())
def I6 (y9:List Int):VS:=Qnp.st ((),()) (y9,(),())
def QMZ:VS->Option (Bool×List (Bool×Exit×VS)):=mkL Ew (fun x y=>(QD x.2.2.2.1 x.2.2.2.2.1 x.2.2.2.2.2.1&&UO y.1 x.2.2.2.1 y.2.1 x.2.2.2.2.2.1)) (fun x y=>[(true,.exit 0,I6 (y.2.1++thZ y.1 x.1 (x.2.2.2.1.drop x.2.2.2.2.2.1.toNat) x.2.2.2.2.2.1))])
def Qnr:G:=gG 49 [(53,QeS),(65,Qnm),(110,QyC)] (Ls [QMZ])
def QeX (x2:Bool)(x22:List Item)(x23 x24:Int)(y4:Policy)(y9:List Int):OX:=Qx (QA Qnr Qnq QyF) (QeW x2 x22 x23 x24 y4 y9)
def QaC (kk:Bool->List Item->Int->Int->Policy->List Int->OX)(x2:Bool)(x22:List Item)(x23 x24:Int)(y4:Policy)(y9:List Int):OX:=
 let a1:=lgt Qp x22 (Int.toNat x24)
 let a2:=Qj .i64 x24 1
 br (ilt x24 x23) (br (cIx x22 x24) (br (Ju y4 a1) (br ((stF y4 a1).1) (br (Fu (((stF y4 a1).2).2) x2) (br (Qq y9 ([x24]) 8) (kk x2 x22 x23 a2 y4 (y9++([x24]))) none) (kk x2 x22 x23 a2 y4 y9)) (kk x2 x22 x23 a2 y4 y9)) none) none) (some (.exit 0,I6 y9))
def QeY (x2:Bool)(x22:List Item)(x23 x24:Int)(y4:Policy)(y9:List Int):OX:=some (.exit 0,I6 (y9++thZ y4 x2 (x22.drop x24.toNat) x24))
theorem QyG (x2:Bool)(x22:List Item)(x23 x24:Int)(y4:Policy)(y9:List Int):QeX x2 x22 x23 x24 y4 y9=QaC QeX x2 x22 x23 x24 y4 y9:=lnT (x:=QaC (fun x2 x22 x23 x24 y4 y9=>some (.normal,QeW x2 x22 x23 x24 y4 y9)) x2 x22 x23 x24 y4 y9) (by simp only [QaC,nxA];rfl)
def r_f63 (p0:Estate)(p1:Policy)(p2:Bool):OV:=
 let a1:=(p0.2.2.1.drop (0:Int).toNat)
 br (Jg p0 p1) (br (ine (Jt p0 p1) 0) (some (.tu [(.t (.sl tI) ([]:List Int)),(.t tI (Jt p0 p1))],[])) (br (QD p0.2.2.1 (Qc p0.2.2.1) (0:Int)&&UO p1 p0.2.2.1 ([]:List Int) (0:Int)) (br (Qno (([]:List Int)++thZ p1 p2 a1 (0:Int))) (some (.tu [(.t (.sl tI) (QeV (([]:List Int)++thZ p1 p2 a1 (0:Int)))),(.t tI 0)],[])) none) none)) none
theorem QM0 (x2:Bool)(x22:List Item)(x23 x24:Int)(y4:Policy)(y9:List Int)(h:(QD x22 x23 x24&&UO y4 x22 y9 x24)=true):QeX x2 x22 x23 x24 y4 y9=QeY x2 x22 x23 x24 y4 y9:=by
 simp only [UO,Bc,Ba] at h
 obtain ⟨h0,g1,g2,g3⟩:=h
 obtain ⟨rfl,h3,k,rfl,hk⟩:=JG h0
 clear h0
 revert y9
 refine QQ x22 (fun k=> ∀ y9:List Int,(y9.length:Int)<=(k:Int)->QeX x2 x22 (x22.length:Int) (k:Int) y4 y9=QeY x2 x22 (x22.length:Int) (k:Int) y4 y9) ?_ ?_ k hk
 ·intro y9 _
  rw [QyG]
  simp only [QaC,QeY,Qy,BN,BM,Qi,Bb,BS,thZ,BL]
 ·intro k hk ih y9 g3
  rw [QyG]
  have c1:Ju y4 x22[k]=true:=Bf.2 ⟨g1,Qip g2 hk⟩
  have c2:Qq y9 [(k:Int)] 8=true:=Q1 (by omega) (by simp only [Bh];omega)
  simp only [QaC,Qy,QK,hk,Bo,Qf,Bb,QO (show k<4611686018427387904 by omega),QL (y:=Qp) hk,c1,c2]
  rw [ih y9 (by omega),ih (y9++[(k:Int)]) (by simp only [Bm,Bh];omega)]
  simp only [QeY,Bb,QyD hk]
  unfold thB
  have e:((k+1:Nat):Int)=(k:Int)+1:=by omega
  rw [e]
  cases (stF y4 x22[k]).1 with
  |false=>rfl
  |true=>
   rw [Qf,Bu]
   have e2:Fu (stF y4 x22[k]).2.2 x2=((stF y4 x22[k]).2.2==x2):=rfl
   rw [e2]
   cases ((stF y4 x22[k]).2.2==x2) with
   |false=>rfl
   |true=>simp only [Qf,B8,BI,BH]
theorem QM1:LO Qnr Qnq QyF 0:=QI (s:=Ew) fun x y h _ q=>by simp only [QG,QH] at q;exact (QM0 x.1 x.2.2.2.1 x.2.2.2.2.1 x.2.2.2.2.2.1 y.1 y.2.1 h).trans q
theorem s_f63 (e:Estate)(y:Policy)(can:Bool)(h:WE e y can=true):r_f63 e y can=some (.tu [.t (.sl tI) (thF e y can).1,.t tI (thF e y can).2],[]):=by
 have h:Jg e y=true:=h
 obtain ⟨hl1,hl2⟩:=Bf.1 h
 have hi:=I5 hl1
 have hil:=F1 hi
 unfold r_f63 thF
 refine brY h ?_
 cases ine (Jt e y) 0 with
 |true=>rfl
 |false=>
  rw [Qi,BW]
  refine brY ?_ (brY ?_ ?_)
  ·rw [JH (show (Je e).length<=100000 from hil),Bu]
   unfold UO
   rw [hl2,hi]
   rfl
  ·rw [By,BG,BV]
   exact Be (Db (QpC y can _ _) hil)
  ·rw [By,BG,BV]
   rfl
def Qns:Ent:=Qo (.pr Qm (.pr QE (.pr .bool .nil))) (fun x=>(WE x.1 x.2.1 x.2.2.1)) (fun x=>(.tu [(.t (.sl tI) ((thF x.1 x.2.1 x.2.2.1).1)),(.t tI ((thF x.1 x.2.1 x.2.2.1).2))]))
theorem QyH:EM 63 Qns:=mS (lk:=lkL (lkc QM1 lkn)) Qnr QyE [((.t 6),some (.sl tI)),((.t 7),some tI)] false (gB (gD Qnh (gD Qyz (gD QMY gN)))) fun m=>Qs m fun x hok=>kT (s_f63 x.1 x.2.1 x.2.2.1 hok)
def Qnt:Fg:=Ew.f
def QyI:TC:=aF Tryz.f64 [(122,.nw 9 3),(122,pL 0 Qnt),(1957,.fg Qnp.f)]
def QyJ:TC:=lb 0 QyI
def QM2:VS->Option (Bool×List (Bool×Exit×VS)):=mkL Ew (fun x y=>(QD x.2.2.2.1 x.2.2.2.2.1 x.2.2.2.2.2.1&&UO y.1 x.2.2.2.1 y.2.1 x.2.2.2.2.2.1)) (fun x y=>[(true,.exit 0,I6 (y.2.1++thZ y.1 x.1 (x.2.2.2.1.drop x.2.2.2.2.2.1.toNat) x.2.2.2.2.2.1))])
def Qnu:G:=gG 48 [(59,QeT),(66,Qnn)] (Ls [QM2])
def QeZ (x2:Bool)(x22:List Item)(x23 x24:Int)(y4:Policy)(y9:List Int):OX:=Qx (QA Qnu Qnt QyJ) (QeW x2 x22 x23 x24 y4 y9)
def QaD (kk:Bool->List Item->Int->Int->Policy->List Int->OX)(x2:Bool)(x22:List Item)(x23 x24:Int)(y4:Policy)(y9:List Int):OX:=
 let a1:=lgt Qp x22 (Int.toNat x24)
 let a2:=Qj .i64 x24 1
 br (ilt x24 x23) (br (cIx x22 x24) (br (Ju y4 a1) (br ((stF y4 a1).1) (br (Fu (((stF y4 a1).2).2) x2) (br (Qq y9 ([x24]) 8) (kk x2 x22 x23 a2 y4 (y9++([x24]))) none) (kk x2 x22 x23 a2 y4 y9)) (kk x2 x22 x23 a2 y4 y9)) none) none) (some (.exit 0,I6 y9))
def Qe0 (x2:Bool)(x22:List Item)(x23 x24:Int)(y4:Policy)(y9:List Int):OX:=some (.exit 0,I6 (y9++thZ y4 x2 (x22.drop x24.toNat) x24))
theorem QyK (x2:Bool)(x22:List Item)(x23 x24:Int)(y4:Policy)(y9:List Int):QeZ x2 x22 x23 x24 y4 y9=QaD QeZ x2 x22 x23 x24 y4 y9:=lnT (x:=QaD (fun x2 x22 x23 x24 y4 y9=>some (.normal,QeW x2 x22 x23 x24 y4 y9)) x2 x22 x23 x24 y4 y9) (by simp only [QaD,nxA];rfl)
def r_f64 (p0:Estate)(p1:Policy)(p2:Bool):OV:=br (Jg p0 p1) (br (ine (Jt p0 p1) 0) (some (.tu [(.t (.sl tI) ([]:List Int)),(.t tI (Jt p0 p1))],[])) (br (QD p0.2.2.1 (Qc p0.2.2.1) (0:Int)&&UO p1 p0.2.2.1 ([]:List Int) (0:Int)) (some (.tu [(.t (.sl tI) (([]:List Int)++thZ p1 p2 (p0.2.2.1.drop (0:Int).toNat) (0:Int))),(.t tI 0)],[])) none)) none
theorem QM3 (x2:Bool)(x22:List Item)(x23 x24:Int)(y4:Policy)(y9:List Int)(h:(QD x22 x23 x24&&UO y4 x22 y9 x24)=true):QeZ x2 x22 x23 x24 y4 y9=Qe0 x2 x22 x23 x24 y4 y9:=by
 simp only [UO,Bc,Ba] at h
 obtain ⟨h0,g1,g2,g3⟩:=h
 obtain ⟨rfl,h3,k,rfl,hk⟩:=JG h0
 clear h0
 revert y9
 refine QQ x22 (fun k=> ∀ y9:List Int,(y9.length:Int)<=(k:Int)->QeZ x2 x22 (x22.length:Int) (k:Int) y4 y9=Qe0 x2 x22 (x22.length:Int) (k:Int) y4 y9) ?_ ?_ k hk
 ·intro y9 _
  rw [QyK]
  simp only [QaD,Qe0,Qy,BN,BM,Qi,Bb,BS,thZ,BL]
 ·intro k hk ih y9 g3
  rw [QyK]
  have c1:Ju y4 x22[k]=true:=Bf.2 ⟨g1,Qip g2 hk⟩
  have c2:Qq y9 [(k:Int)] 8=true:=Q1 (by omega) (by simp only [Bh];omega)
  simp only [QaD,Qy,QK,hk,Bo,Qf,Bb,QO (show k<4611686018427387904 by omega),QL (y:=Qp) hk,c1,c2]
  rw [ih y9 (by omega),ih (y9++[(k:Int)]) (by simp only [Bm,Bh];omega)]
  simp only [Qe0,Bb,QyD hk]
  unfold thB
  have e:((k+1:Nat):Int)=(k:Int)+1:=by omega
  rw [e]
  cases (stF y4 x22[k]).1 with
  |false=>rfl
  |true=>
   rw [Qf,Bu]
   have e2:Fu (stF y4 x22[k]).2.2 x2=((stF y4 x22[k]).2.2==x2):=rfl
   rw [e2]
   cases ((stF y4 x22[k]).2.2==x2) with
   |false=>rfl
   |true=>simp only [Qf,B8,BI,BH]
theorem QM4:LO Qnu Qnt QyJ 0:=QI (s:=Ew) fun x y h _ q=>by simp only [QG,QH] at q;exact (QM3 x.1 x.2.2.2.1 x.2.2.2.2.1 x.2.2.2.2.2.1 y.1 y.2.1 h).trans q
theorem s_f64 (e:Estate)(y:Policy)(can:Bool)(h:WE e y can=true):r_f64 e y can=some (.tu [.t (.sl tI) (thF e y can).1,.t tI (thF e y can).2],[]):=by
 have h:Jg e y=true:=h
 obtain ⟨hl1,hl2⟩:=Bf.1 h
 have hi:=I5 hl1
 have hil:=F1 hi
 unfold r_f64 thF
 refine brY h ?_
 cases ine (Jt e y) 0 with
 |true=>rfl
 |false=>
  rw [Qi,BW]
  refine brY ?_ ?_
  ·rw [JH (show (Je e).length<=100000 from hil),Bu]
   unfold UO
   rw [hl2,hi]
   rfl
  ·rw [By,BG,BV]
def Qnv:Ent:=Qo (.pr Qm (.pr QE (.pr .bool .nil))) (fun x=>(WE x.1 x.2.1 x.2.2.1)) (fun x=>(.tu [(.t (.sl tI) ((thF x.1 x.2.1 x.2.2.1).1)),(.t tI ((thF x.1 x.2.1 x.2.2.1).2))]))
theorem QyL:EM 64 Qnv:=mS (lk:=lkL (lkc QM4 lkn)) Qnu QyI [((.t 6),some (.sl tI)),((.t 7),some tI)] false (gB (gD Qni (gD QyA gN))) fun m=>Qs m fun x hok=>kT (s_f64 x.1 x.2.1 x.2.2.1 hok)
def Uh (e:Estate)(y:Policy):List Int×Int:=thF e y true
def Ui (e:Estate)(y:Policy):List Int×Int:=thF e y false
def tc_f19:TC:=aF Tryz.f19 []
def g_f19:G:=gG 11 [(63,Qns)] (fun _ _=>none)
def r_f19 (p0:Estate)(p1:Policy):OV:=br (WE p0 p1 true) (some (.tu [(.t (.sl tI) ((thF p0 p1 true).1)),(.t tI ((thF p0 p1 true).2))],[])) none
theorem s_f19 (e:Estate)(y:Policy)(h:Jg e y=true):r_f19 e y=some (.tu [.t (.sl tI) (Uh e y).1,.t tI (Uh e y).2],[]):=by
 unfold r_f19
 exact brY (show WE e y true=true from h) rfl
def Qnw:Ent:=Qo (.pr Qm (.pr QE .nil)) (fun x=>(Jg x.1 x.2.1)) (fun x=>(.tu [(.t (.sl tI) ((Uh x.1 x.2.1).1)),(.t tI ((Uh x.1 x.2.1).2))]))
theorem QyM:EM 19 Qnw:=mS g_f19 tc_f19 [((.t 4),some (.sl tI)),((.t 5),some tI)] false (gB (gD QyH gN)) fun m=>Qs m fun x hok=>kT (s_f19 x.1 x.2.1 hok)
def tc_f21:TC:=aF Tryz.f21 []
def g_f21:G:=gG 11 [(63,Qns)] (fun _ _=>none)
def r_f21 (p0:Estate)(p1:Policy):OV:=br (WE p0 p1 false) (some (.tu [(.t (.sl tI) ((thF p0 p1 false).1)),(.t tI ((thF p0 p1 false).2))],[])) none
theorem s_f21 (e:Estate)(y:Policy)(h:Jg e y=true):r_f21 e y=some (.tu [.t (.sl tI) (Ui e y).1,.t tI (Ui e y).2],[]):=by
 unfold r_f21
 exact brY (show WE e y false=true from h) rfl
def QyN:Ent:=Qo (.pr Qm (.pr QE .nil)) (fun x=>(Jg x.1 x.2.1)) (fun x=>(.tu [(.t (.sl tI) ((Ui x.1 x.2.1).1)),(.t tI ((Ui x.1 x.2.1).2))]))
theorem ms_f21:EM 21 QyN:=mS g_f21 tc_f21 [((.t 4),some (.sl tI)),((.t 5),some tI)] false (gB (gD QyH gN)) fun m=>Qs m fun x hok=>kT (s_f21 x.1 x.2.1 hok)
def tc_f20:TC:=aF Tryz.f20 []
def g_f20:G:=gG 11 [(64,Qnv)] (fun _ _=>none)
def r_f20 (p0:Estate)(p1:Policy):OV:=br (WE p0 p1 true) (some (.tu [(.t (.sl tI) ((thF p0 p1 true).1)),(.t tI ((thF p0 p1 true).2))],[])) none
theorem s_f20 (e:Estate)(y:Policy)(h:Jg e y=true):r_f20 e y=some (.tu [.t (.sl tI) (Uh e y).1,.t tI (Uh e y).2],[]):=by
 unfold r_f20
 exact brY (show WE e y true=true from h) rfl
def QyO:Ent:=Qo (.pr Qm (.pr QE .nil)) (fun x=>(Jg x.1 x.2.1)) (fun x=>(.tu [(.t (.sl tI) ((Uh x.1 x.2.1).1)),(.t tI ((Uh x.1 x.2.1).2))]))
theorem ms_f20:EM 20 QyO:=mS g_f20 tc_f20 [((.t 4),some (.sl tI)),((.t 5),some tI)] false (gB (gD QyL gN)) fun m=>Qs m fun x hok=>kT (s_f20 x.1 x.2.1 hok)
def tc_f22:TC:=aF Tryz.f22 []
def g_f22:G:=gG 11 [(64,Qnv)] (fun _ _=>none)
def r_f22 (p0:Estate)(p1:Policy):OV:=br (WE p0 p1 false) (some (.tu [(.t (.sl tI) ((thF p0 p1 false).1)),(.t tI ((thF p0 p1 false).2))],[])) none
theorem s_f22 (e:Estate)(y:Policy)(h:Jg e y=true):r_f22 e y=some (.tu [.t (.sl tI) (Ui e y).1,.t tI (Ui e y).2],[]):=by
 unfold r_f22
 exact brY (show WE e y false=true from h) rfl
def QyP:Ent:=Qo (.pr Qm (.pr QE .nil)) (fun x=>(Jg x.1 x.2.1)) (fun x=>(.tu [(.t (.sl tI) ((Ui x.1 x.2.1).1)),(.t tI ((Ui x.1 x.2.1).2))]))
theorem ms_f22:EM 22 QyP:=mS g_f22 tc_f22 [((.t 4),some (.sl tI)),((.t 5),some tI)] false (gB (gD QyL gN)) fun m=>Qs m fun x hok=>kT (s_f22 x.1 x.2.1 hok)
def QaE (e:Estate)(y:Policy)(_:Int):Bool:=Jg e y
theorem QyQ (y:Policy)(i:Item):thB y true i=((stF y i).1&&(stF y i).2.2):=by
 unfold thB
 cases (stF y i).2.2<;>rfl
def tc_f24:TC:=aF Tryz.f24 [(60,pD [(0,[4]),(1,[3]),(2,[3]),(3,[]),(4,[]),(5,[]),(6,[]),(7,[]),(8,[]),(9,[]),(10,[]),(11,[]),(12,[]),(13,[])] (.of [0,1,2,3,4,5,6,7,8,9,10,11,12,13]))]
def g_f24:G:=gG 44 [(53,QeS),(65,Qnm)] (fun _ _=>none)
def r_f24 (p0:Estate)(p1:Policy)(p2:Int):OV:=
 let a1:=lgt Qp p0.2.2.1 (Int.toNat p2)
 br (Jg p0 p1) (br (ine (Jt p0 p1) 0) (some (.tu [(.t tI 0),(.t .bool false),(.t tI (Jt p0 p1))],[])) (br (ilt p2 0) (some (.tu [(.t tI 0),(.t .bool false),(.t tI 52)],[])) (br (ige p2 (Qc p0.2.2.1)) (some (.tu [(.t tI 0),(.t .bool false),(.t tI 52)],[])) (br (cIx p0.2.2.1 p2) (br (Ju p1 a1) (br ((stF p1 a1).1) (br (((stF p1 a1).2).2) (some (.tu [(.t tI (((stF p1 a1).2).1)),(.t .bool true),(.t tI 0)],[])) (some (.tu [(.t tI 0),(.t .bool false),(.t tI 0)],[]))) (some (.tu [(.t tI 0),(.t .bool false),(.t tI 0)],[]))) none) none)))) none
theorem s_f24 (e:Estate)(y:Policy)(i:Int)(h:QaE e y i=true):r_f24 e y i=some (.tu [.t tI (dlF e y i).1,.t .bool (dlF e y i).2.1,.t tI (dlF e y i).2.2],[]):=by
 have h:Jg e y=true:=h
 obtain ⟨hl1,hl2⟩:=Bf.1 h
 unfold r_f24 dlF
 refine brY h ?_
 cases ine (Jt e y) 0 with
 |true=>rfl
 |false=>
  rw [Qi,BW]
  cases h2:ilt i 0 with
  |true=>rfl
  |false=>
   rw [Qi,Dh]
   cases h3:ige i (Qc (Je e)) with
   |true=>rfl
   |false=>
    rw [Qi,BW]
    have h2:=Df h2
    have h3:=Df h3
    simp only [Qc] at h3
    have hk:i.toNat<(Je e).length:=by omega
    have h3b: ¬ ((e.2.2.1.length:Nat):Int)<=i:=h3
    refine brY (Be ⟨by omega,by omega⟩) (brY (show Ju y (JB e i.toNat)=true from Bf.2 ⟨hl2,QeU hl1 hk⟩) ?_)
    rw [QyQ]
    show br (stF y (JB e i.toNat)).1 (br (stF y (JB e i.toNat)).2.2 _ _) _=_
    cases (stF y (JB e i.toNat)).1 with
    |false=>rfl
    |true=>cases (stF y (JB e i.toNat)).2.2<;>rfl
def QyR:Ent:=Qo (.pr Qm (.pr QE (.pr tI .nil))) (fun x=>(QaE x.1 x.2.1 x.2.2.1)) (fun x=>(.tu [(.t tI ((dlF x.1 x.2.1 x.2.2.1).1)),(.t .bool (((dlF x.1 x.2.1 x.2.2.1).2).1)),(.t tI (((dlF x.1 x.2.1 x.2.2.1).2).2))]))
theorem ms_f24:EM 24 QyR:=mS g_f24 tc_f24 [((.t 6),some tI),((.t 7),some .bool),((.t 8),some tI)] false (gB (gD Qnh (gD Qyz gN))) fun m=>Qs m fun x hok=>kT (s_f24 x.1 x.2.1 x.2.2.1 hok)
def tc_f25:TC:=aF Tryz.f25 [(30,pD [(0,[4]),(1,[3]),(2,[3]),(3,[]),(4,[]),(5,[]),(6,[]),(7,[]),(8,[]),(9,[]),(10,[]),(11,[]),(12,[]),(13,[])] (.of [0,1,2,3,4,5,6,7,8,9,10,11,12,13]))]
def g_f25:G:=gG 46 [(59,QeT),(66,Qnn)] (fun _ _=>none)
def r_f25 (p0:Estate)(p1:Policy)(p2:Int):OV:=
 let a1:=lgt Qp p0.2.2.1 (Int.toNat p2)
 br (Jg p0 p1) (br (ine (Jt p0 p1) 0) (some (.tu [(.t tI 0),(.t .bool false),(.t tI (Jt p0 p1))],[])) (br (ilt p2 0) (some (.tu [(.t tI 0),(.t .bool false),(.t tI 52)],[])) (br (ige p2 (Qc p0.2.2.1)) (some (.tu [(.t tI 0),(.t .bool false),(.t tI 52)],[])) (br (cIx p0.2.2.1 p2) (br (Ju p1 a1) (br (!((stF p1 a1).1)) (some (.tu [(.t tI 0),(.t .bool false),(.t tI 0)],[])) (br (!(((stF p1 a1).2).2)) (some (.tu [(.t tI 0),(.t .bool false),(.t tI 0)],[])) (some (.tu [(.t tI (((stF p1 a1).2).1)),(.t .bool true),(.t tI 0)],[])))) none) none)))) none
theorem s_f25 (e:Estate)(y:Policy)(i:Int)(h:QaE e y i=true):r_f25 e y i=some (.tu [.t tI (dlF e y i).1,.t .bool (dlF e y i).2.1,.t tI (dlF e y i).2.2],[]):=by
 have h:Jg e y=true:=h
 obtain ⟨hl1,hl2⟩:=Bf.1 h
 unfold r_f25 dlF
 refine brY h ?_
 cases ine (Jt e y) 0 with
 |true=>rfl
 |false=>
  rw [Qi,BW]
  cases h2:ilt i 0 with
  |true=>rfl
  |false=>
   rw [Qi,Dh]
   cases h3:ige i (Qc (Je e)) with
   |true=>rfl
   |false=>
    rw [Qi,BW]
    have h2:=Df h2
    have h3:=Df h3
    simp only [Qc] at h3
    have hk:i.toNat<(Je e).length:=by omega
    have h3b: ¬ ((e.2.2.1.length:Nat):Int)<=i:=h3
    refine brY (Be ⟨by omega,by omega⟩) (brY (show Ju y (JB e i.toNat)=true from Bf.2 ⟨hl2,QeU hl1 hk⟩) ?_)
    rw [QyQ]
    show br (!(stF y (JB e i.toNat)).1) _ (br (!(stF y (JB e i.toNat)).2.2) _ _)=_
    cases (stF y (JB e i.toNat)).1 with
    |false=>rfl
    |true=>cases (stF y (JB e i.toNat)).2.2<;>rfl
def QyS:Ent:=Qo (.pr Qm (.pr QE (.pr tI .nil))) (fun x=>(QaE x.1 x.2.1 x.2.2.1)) (fun x=>(.tu [(.t tI ((dlF x.1 x.2.1 x.2.2.1).1)),(.t .bool (((dlF x.1 x.2.1 x.2.2.1).2).1)),(.t tI (((dlF x.1 x.2.1 x.2.2.1).2).2))]))
theorem ms_f25:EM 25 QyS:=mS g_f25 tc_f25 [((.t 6),some tI),((.t 7),some .bool),((.t 8),some tI)] false (gB (gD Qni (gD QyA gN))) fun m=>Qs m fun x hok=>kT (s_f25 x.1 x.2.1 x.2.2.1 hok)
theorem QM5 (e:Estate)(k:Nat)(x:Item):(Je (QpB e k x)).length=(Je e).length:=List.length_set
theorem Qe1 {e:Estate}{y:Policy}{j:Job}(h:Jg e y=true)(h0:apE e y j=0):Jg (apF e y j).1 y=true:=by
 obtain ⟨h1,h2,h3,h4,h5,h6⟩:=ap_ok h0
 obtain ⟨hl1,hl2⟩:=Bf.1 h
 rw [h6]
 refine Bf.2 ⟨?_,hl2⟩
 have hi:=I5 hl1
 simp only [ZC,Bc] at hl1 ⊢
 refine ⟨hl1.1,hl1.2.1, ?_⟩
 have hk:j.1.toNat<(Je e).length:=by omega
 unfold Ya at hi ⊢
 obtain ⟨g1,g2⟩:=Bf.1 hi
 refine Bf.2 ⟨?_,Bi.2 fun z hz=> ?_⟩
 ·rw [QM5]
  exact g1
 ·rcases List.mem_or_eq_of_mem_set hz with hz|hz
  ·exact Bi.1 g2 z hz
  ·rw [hz]
   show Zx (JB e j.1.toNat)=true
   rw [QCN hk]
   exact Bi.1 g2 _ (Bw hk)
theorem apE_ne (e:Estate)(y:Policy)(j:Job):ieq (apE e y j) 0= !ine (apF e y j).2 0:=by
 show (apE e y j==0)= !(apE e y j != 0)
 rw [bne,Bool.not_not]
def Qnx (y:Policy)(e:Estate):Bool:=Jg e y
def FB (e:Estate)(y:Policy)(_:List Job):Bool:=JE e&&Q5 y
theorem QyT {e:Estate}{y:Policy}{l:List Job}(h:FB e y l=true):Jg e y=true:=by
 obtain ⟨h1,h2⟩:=Bf.1 h
 exact Bf.2 ⟨(Bf.1 h1).1,h2⟩
theorem QyU {y:Policy}: ∀ {l:List Job} {e:Estate} {n:Int},ine (Zc y l e n).2.2 0=false->(Zc y l e n).2.1=n+l.length/\(Zc y l e n).2.2=0
 | [],e,n,_=>⟨by simp [Zc],rfl⟩
 |j::l,e,n,h=>by
  unfold Zc at h ⊢
  cases hq:ieq (apE e y j) 0 with
  |true=>
   rw [hq] at h
   have:=QyU (l:=l) h
   simp only [B8,Br]
   exact ⟨by rw [this.1];omega,this.2⟩
  |false=>
   rw [hq] at h
   have h:ine (apE e y j) 0=false:=h
   have:apE e y j=0:=by simpa [ine] using h
   rw [this] at hq
   cases hq
abbrev Qe2:Sh:=⟨[(2,.ty (.sl Jb)),(4,.ptr 4 0),(6,.ptr 6 0),(9,.ptr 9 0),(20,.ty (.sl Jb)),(21,.ty tI),(22,.ty tI)],[(4,.box QE),(6,.box Qm),(9,.box Qm),(15,.no),(5015,.no),(10015,.no),(15015,.no)]⟩
abbrev QyV:Sh:=⟨[(6,.ptr 6 0),(7,.ty tI),(8,.ty tI)],[(6,.box Qm),(15,.no),(5015,.no),(10015,.no),(15015,.no)]⟩
abbrev QyW:Sh:=⟨[(2,.ty (.sl Jb)),(6,.ptr 6 0),(9,.ptr 9 0)],[(6,.box Qm),(9,.box Qm),(15,.no),(5015,.no),(10015,.no),(15015,.no)]⟩
def Qny:Fg:=Qe2.f
def QyX:TC:=aF Tryz.f18 [(122,.fz [15,5015,10015]),(122,pL 0 Qny),(1957,.fg QyW.f),(250677,.fg QyV.f)]
def QyY:TC:=lb 0 QyX
def QyZ (x2 x20:List Job)(x21 x22:Int)(y4:Policy)(y6 y9:Estate):VS:=Qe2.st (x2,(),(),(),x20,x21,x22,()) (y4,y6,y9,(),(),(),(),())
def Qnz (x7 x8:Int)(y6:Estate):VS:=QyV.st ((),x7,x8,()) (y6,(),(),(),(),())
def QnA (x2:List Job)(y6 y9:Estate):VS:=QyW.st (x2,(),(),()) (y6,y9,(),(),(),(),())
def QM6:VS->Option (Bool×List (Bool×Exit×VS)):=mkL Qe2 (fun x y=>(QD x.2.2.2.2.1 x.2.2.2.2.2.1 x.2.2.2.2.2.2.1&&Qnx y.1 y.2.2.1)) (fun x y=>[((ine (Zc y.1 (x.2.2.2.2.1.drop x.2.2.2.2.2.2.1.toNat) y.2.2.1 x.2.2.2.2.2.2.1).2.2 0),.ret,Qnz ((Zc y.1 (x.2.2.2.2.1.drop x.2.2.2.2.2.2.1.toNat) y.2.2.1 x.2.2.2.2.2.2.1).2.1) ((Zc y.1 (x.2.2.2.2.1.drop x.2.2.2.2.2.2.1.toNat) y.2.2.1 x.2.2.2.2.2.2.1).2.2) ((Zc y.1 (x.2.2.2.2.1.drop x.2.2.2.2.2.2.1.toNat) y.2.2.1 x.2.2.2.2.2.2.1).1)),(true,.exit 0,QnA (x.1) (y.2.1) ((Zc y.1 (x.2.2.2.2.1.drop x.2.2.2.2.2.2.1.toNat) y.2.2.1 x.2.2.2.2.2.2.1).1))])
def QnB:G:=gG 44 [(17,Qnk),(62,Qn6)] (Ls [QM6])
def Qe3 (x2 x20:List Job)(x21 x22:Int)(y4:Policy)(y6 y9:Estate):OX:=Qx (QA QnB Qny QyY) (QyZ x2 x20 x21 x22 y4 y6 y9)
def QaF (kk:List Job->List Job->Int->Int->Policy->Estate->Estate->OX)(x2 x20:List Job)(x21 x22:Int)(y4:Policy)(y6 y9:Estate):OX:=
 let a1:=lgt Jb x20 (Int.toNat x22)
 let a2:=apF y9 y4 a1
 br (ilt x22 x21) (br (cIx x20 x22) (br (GG y9 y4 a1) (br (ine (a2.2) 0) (some (.ret,Qnz x22 (a2.2) y9)) (kk x2 x20 x21 (Qj .i64 x22 1) y4 y6 (a2.1))) none) none) (some (.exit 0,QnA x2 y6 y9))
def QaG (x2 x20:List Job)(x21 x22:Int)(y4:Policy)(y6 y9:Estate):OX:=
 let a1:=Zc y4 (x20.drop x22.toNat) y9 x22
 br (ine a1.2.2 0) (some (.ret,Qnz (a1.2.1) (a1.2.2) (a1.1)))<|some (.exit 0,QnA (x2) (y6) (a1.1))
theorem Qy0 (x2 x20:List Job)(x21 x22:Int)(y4:Policy)(y6 y9:Estate):Qe3 x2 x20 x21 x22 y4 y6 y9=QaF Qe3 x2 x20 x21 x22 y4 y6 y9:=lnT (x:=QaF (fun x2 x20 x21 x22 y4 y6 y9=>some (.normal,QyZ x2 x20 x21 x22 y4 y6 y9)) x2 x20 x21 x22 y4 y6 y9) (by simp only [QaF,nxA];rfl)
def r_f18 (p0:Estate)(p1:Policy)(p2:List Job):OV:=
 let a2:=((Zp p0).1,(((Zp p0).2).1,((((Zp p0).2).2).1,())))
 let a1:=(Zc p1 (p2.drop (0:Int).toNat) a2 (0:Int))
 br (JE p0) (br (igt (Qc p2) 60) (some (.tu [(.t Qm a2),(.t tI 0),(.t tI 3)],[])) (br (QD p2 (Qc p2) (0:Int)&&Qnx p1 a2) (br (ine a1.2.2 0) (some (.tu [(.t Qm (a1.1)),(.t tI (a1.2.1)),(.t tI (a1.2.2))],[])) (some (.tu [(.t Qm (a1.1)),(.t tI (Qc (p2))),(.t tI 0)],[]))) none)) none
theorem QM7 (x2 x20:List Job)(x21 x22:Int)(y4:Policy)(y6 y9:Estate)(h:(QD x20 x21 x22&&Qnx y4 y9)=true):Qe3 x2 x20 x21 x22 y4 y6 y9=QaG x2 x20 x21 x22 y4 y6 y9:=by
 obtain ⟨h0,hl⟩:=Bf.1 h
 obtain ⟨rfl,h3,k,rfl,hk⟩:=JG h0
 clear h0 h
 replace hl:Jg y9 y4=true:=hl
 revert y9
 refine QQ x20 (fun k=> ∀ y9:Estate,Jg y9 y4=true->Qe3 x2 x20 (x20.length:Int) (k:Int) y4 y6 y9=QaG x2 x20 (x20.length:Int) (k:Int) y4 y6 y9) ?_ ?_ k hk
 ·intro y9 _
  rw [Qy0]
  simp only [QaF,QaG,Qy,BN,BM,Qi,Bb,BS,Zc]
  rfl
 ·intro k hk ih y9 hl
  rw [Qy0]
  have hd:Zc y4 (x20.drop k) y9 (k:Int)=bif ieq (apE y9 y4 x20[k]) 0 then Zc y4 (x20.drop (k+1)) (apF y9 y4 x20[k]).1 ((k:Int)+1) else (y9,(k:Int),apE y9 y4 x20[k]):=by
   rw [Bg hk]
   rfl
  simp only [QaF,Qy,QK,hk,Bo,Qf,Bb,QO (show k<4611686018427387904 by omega),QL (y:=Jb) hk]
  refine brY hl ?_
  simp only [QaG,Bb,hd,apE_ne]
  cases hq:ine (apF y9 y4 x20[k]).2 0 with
  |true=>
   have hq:ine (apE y9 y4 x20[k]) 0=true:=hq
   rw [Qf,BF,BW,hq,Qf]
   rfl
  |false=>
   have h0:apE y9 y4 x20[k]=0:=by simpa [ine,apE] using hq
   rw [Qi,DB,B8,ih _ (Qe1 hl h0)]
   simp only [QaG,Bb]
   have e:((k+1:Nat):Int)=(k:Int)+1:=by omega
   rw [e]
theorem QM8:LO QnB Qny QyY 0:=QI (s:=Qe2) fun x y h _ q=>by simp only [QG,QH] at q;exact (QM7 x.1 x.2.2.2.2.1 x.2.2.2.2.2.1 x.2.2.2.2.2.2.1 y.1 y.2.1 y.2.2.1 h).trans q
theorem s_f18 (e:Estate)(y:Policy)(l:List Job)(h:FB e y l=true):r_f18 e y l=some (.tu [.t Qm (Zk e y l).1,.t tI (Zk e y l).2.1,.t tI (Zk e y l).2.2],[]):=by
 have hj:=QyT h
 obtain ⟨h1,h2⟩:=Bf.1 h
 unfold r_f18 Zk
 refine brY h1 ?_
 cases h3:igt (Qc l) 60 with
 |true=>rfl
 |false=>
  rw [Qi,BW]
  have h3:=Df h3
  simp only [Qc] at h3
  refine brY ?_ ?_
  ·rw [JH (by omega)]
   exact hj
  ·rw [By,BG]
   show br (ine (Zc y l e 0).2.2 0) _ _=_
   cases hq:ine (Zc y l e 0).2.2 0 with
   |true=>rfl
   |false=>
    obtain ⟨g1,g2⟩:=QyU hq
    rw [Qi,g1,g2,Int.zero_add]
    rfl
def Qy1:Ent:=Qo (.pr Qm (.pr QE (.pr (.sl Jb) .nil))) (fun x=>(FB x.1 x.2.1 x.2.2.1)) (fun x=>(.tu [(.t Qm ((Zk x.1 x.2.1 x.2.2.1).1)),(.t tI (((Zk x.1 x.2.1 x.2.2.1).2).1)),(.t tI (((Zk x.1 x.2.1 x.2.2.1).2).2))]))
theorem ms_f18:EM 18 Qy1:=mS (lk:=lkL (lkc QM8 lkn)) QnB QyX [((.c 6 true 3),some Qm),((.t 7),some tI),((.t 8),some tI)] false (gB (gD Qyx (gD QzY gN))) fun m=>Qs m fun x hok=>kT (s_f18 x.1 x.2.1 x.2.2.1 hok)
end
end Go.Proofs.YthlcobdnemhcdaaGreat.K
noncomputable section
namespace Go.Proofs.YthlcobdnemhcdaaGreat.K
open Go.RowKit Go.Conc
def Rd (X:Nat->Nat->Prop)(w:World)(y:Ty)(x:y.T)(u:Value):Prop:=C X w Q3 (V.t y x).d u
def StX (X:Nat->Nat->Prop)(w w':World):Prop:=w.heap.size<=w'.heap.size∧ ∀ b o,b<w.heap.size→ ¬ X b o->w'.cell? ⟨b,o,none⟩=w.cell? ⟨b,o,none⟩
theorem Qbk {X X':Nat->Nat->Prop}{w:World}{σ:Pl}{y:Ty}{x:y.T}{u:Value}(h:C X' w σ (V.t y x).d u)(hx: ∀ b q,b<w.heap.size->X b q->X' b q):Rd X w y x u:=
 C.ext0 (X:=X') (X':=X) ⟨BB _,fun b q hb hn=>⟨fun h=>hn (hx b q hb h),rfl⟩⟩ _ _ (fun k hk=>by rw [show (V.t y x).d=y.d x from rfl,Ty.refs_d] at hk;cases hk) h
theorem Rd.stand {X:Nat->Nat->Prop}{w w':World}{y:Ty}{x:y.T}{u:Value}(h:Rd X w y x u)(k:StX X w w'):Rd X w' y x u:=
 C.ext0 (X:=X) (X':=X) ⟨k.1,fun b q hb hn=>⟨hn,k.2 b q hb hn⟩⟩ _ _ (fun _ _=>rfl) h
theorem Rd.more {X X':Nat->Nat->Prop}{w:World}{y:Ty}{x:y.T}{u:Value}(h:Rd X w y x u)(hx: ∀ b q,b<w.heap.size->X' b q->X b q):Rd X' w y x u:=Qbk h hx
theorem StX.below {X:Nat->Nat->Prop}{w w':World}(h:Below w.heap.size w w'):StX X w w':=⟨h.size,fun b o hb _=>h.cell (p:=⟨b,o,none⟩) hb⟩
theorem QPV {X:Nat->Nat->Prop}{w:World}{e:Estate}{u:Value}(hfin: ∀ b q,X b q->b<w.heap.size)(hs:Rd X w Qm e u)(h:JE e=true):
  Calls Tryz.prog 51 #[u] w fun en w'=> ∃ v,en= .returned v/\Rd X w' Qm e v/\Below w.heap.size w w':=by
 refine (PJ.copyMeets hfin hs h).mono ?_
 rintro en w' ⟨v,X',σ',rfl,h1,h2⟩
 exact ⟨v,rfl,Qbk h1 (fun b q _ hx=>h2.old b q (hfin b q hx) (fun i hi=>absurd hi (by simp)) hx),QhO h2⟩
theorem QPW {X:Nat->Nat->Prop}{w:World}{e:Estate}{y:Policy}{j:Job}{u v:Value}(hfin: ∀ b q,X b q->b<w.heap.size)(hs:Rd X w Qm e u)(hp:Rd X w QE y v)(h:Jg e y=true):
  Calls Tryz.prog 13 #[u,v,jV j] w fun en w'=> ∃ r,en= .returned (.tuple #[r,.int .i64 (apF e y j).2])/\Rd X w' Qm (apF e y j).1 r/\Below w.heap.size w w':=by
 have hF:Qv QaB [.t Qm e,.t QE y,.t Jb j] []=some (.tu [.t Qm (apF e y j).1,.t tI (apF e y j).2],[]):=by
  unfold QaB
  exact QmQ (a:= .pr Qm (.pr QE (.pr Jb .nil))) (x:=(e,(y,(j,())))) (by simp [Ty.args,Qq3]) h
 have hj:C X w Q3 (V.t Jb j).d (jV j):=by
  simp only [V.d]
  rw [Ty.d_row Jb _ rfl]
  simp only [C]
  exact ⟨[.int .i64 j.1,.int .i64 j.2.1.1.1,.int .i64 j.2.1.1.2.1,.int .i64 j.2.1.2.1],rfl,_,_,rfl,⟨rfl,rfl⟩,_,_,rfl,⟨rfl,rfl⟩,_,_,rfl,⟨rfl,rfl⟩,_,_,rfl,⟨rfl,rfl⟩,rfl⟩
 refine (U5 (by decide) (Qnj.2 _ _ _ _ hF X w Q3 [u,v,jV j] hfin QhN ⟨u,_,rfl,hs,v,_,rfl,hp,jV j,_,rfl,hj,rfl⟩)).mono ?_
 rintro en w' ⟨r,X',σ',rfl,h1,h2⟩
 have h1:C X' w' σ' (.tu [(V.t Qm (apF e y j).1).d,.v (.int .i64 (apF e y j).2)]) r:=h1
 simp only [C,Cs] at h1
 obtain ⟨vs,rfl,u1,us,rfl,c1,u2,us2,rfl,⟨rfl,_⟩,rfl⟩:=h1
 exact ⟨u1,rfl,Qbk c1 (fun b q _ hx=>h2.old b q (hfin b q hx) (fun i hi=>absurd hi (by simp)) hx),QhO h2⟩
theorem Qgu {w:World}{g:Nat}{t:TypeId}{a b c:Value}(h:Go.Proofs.YthlcobdnemhcdaaGreat.Blk w g t #[a,b,c])(x0 x1 x2:Value):
  Go.Proofs.YthlcobdnemhcdaaGreat.Blk (((w.setCell ⟨g,0,none⟩ x0).setCell ⟨g,1,none⟩ x1).setCell ⟨g,2,none⟩ x2) g t #[x0,x1,x2]:=((h.set_ 0 x0).set_ 1 x1).set_ 2 x2
theorem Qgv (w:World)(g:Nat)(x0 x1 x2:Value):w.grownBy (((w.setCell ⟨g,0,none⟩ x0).setCell ⟨g,1,none⟩ x1).setCell ⟨g,2,none⟩ x2) (some g):=
 have h1:=QpP (World.grownBy.refl w (some g)) (p:=⟨g,0,none⟩) (.inl rfl) x0
 have h2:=QpP h1 (p:=⟨g,1,none⟩) (.inl rfl) x1
 QpP h2 (p:=⟨g,2,none⟩) (.inl rfl) x2
theorem QB0 {X:Nat->Nat->Prop}{w w':World}{g:Nat}(h:w.grownBy w' (some g))(hx: ∀ o,X g o):StX X w w':=⟨h.size,fun b o hb hn=>by
 by_cases hg:b=g
 ·subst hg
  exact absurd (hx o) hn
 ·have:=h.block b hb (fun e=>hg (by injection e))
  simp [World.cell?, this]⟩
theorem QB1 (w:World)(c cap:Nat)(buf:Array Value)(cl:Bool)(s r:Nat)(tm:Bool):w.grownBy (w.setChan c cap buf cl s r tm) (some c):=
 ⟨rfl,rfl,rfl,by simp [World.setChan],fun k _ hne=>by simp only [World.setChan];rw [Array.getElem?_setIfInBounds_ne (fun e=>hne (by rw [e]))]⟩
theorem QPX {w:World}{c:Nat}{cap:Nat}{buf:Array Value}{cl:Bool}{s r:Nat}{tm:Bool}(h:w.heap[c]? = some (.chan cap buf cl s r tm))(cap':Nat)(buf':Array Value)(cl':Bool)(s' r':Nat)(tm':Bool)(X:Nat->Nat->Prop):StX X w (w.setChan c cap' buf' cl' s' r' tm'):=by
 have hlt:=(BY.1 h).1
 have hg:=QB1 w c cap' buf' cl' s' r' tm'
 refine ⟨hg.size,fun b o hb _=> ?_⟩
 by_cases hc:b=c
 ·subst hc
  have h2:=heap_setChan w b cap' buf' cl' s' r' tm' hlt
  simp [World.cell?, h,h2]
 ·have:=hg.block b hb (fun e=>hc (by injection e))
  simp [World.cell?, this]
theorem QPY {X:Nat->Nat->Prop}{w:World}{σ:Pl}{s:Policy}{u:Value}(h:C X w σ (V.t QE s).d u): ∃ v0 v1,u= .agg #[v0,v1]/\(v0.oneCell'=true/\v1.oneCell'=true):=by
 simp only [V.d] at h
 rw [Ty.d_row QE _ rfl] at h
 simp only [C] at h
 obtain ⟨us,rfl,h⟩:=h
 have hl:us.length=2:=h.len.trans (by rw [QE.cells_len];rfl)
 have one: ∀ v∈us,v.oneCell'=true:=fun v hv=>Cs.cell1 h (show (QE.cells s).all D.cell1=true from rfl) v hv
 match us,hl with
 | [v0,v1],_=>exact ⟨v0,v1,rfl,one _ (by simp),one _ (by simp)⟩
theorem Qgw {X:Nat->Nat->Prop}{w:World}{σ:Pl}{s:Estate}{u:Value}(h:C X w σ (V.t Qm s).d u): ∃ v0 v1 v2,u= .agg #[v0,v1,v2]/\(v0.oneCell'=true/\v1.oneCell'=true/\v2.oneCell'=true):=by
 simp only [V.d] at h
 rw [Ty.d_row Qm _ rfl] at h
 simp only [C] at h
 obtain ⟨us,rfl,h⟩:=h
 have hl:us.length=3:=h.len.trans (by rw [Qm.cells_len];rfl)
 have one: ∀ v∈us,v.oneCell'=true:=fun v hv=>Cs.cell1 h (show (Qm.cells s).all D.cell1=true from rfl) v hv
 match us,hl with
 | [v0,v1,v2],_=>exact ⟨v0,v1,v2,rfl,one _ (by simp),one _ (by simp),one _ (by simp)⟩
end Go.Proofs.YthlcobdnemhcdaaGreat.K
