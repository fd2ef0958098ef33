import Derived.Test.YtmokmalepelinaaGreatDoorQ3
import Derived.Shelf.Strings.Search3
import Derived.Shelf.Strings.Count
import Derived.Shelf.Strings.Prefix
import Derived.Shelf.Strings.Split
import Derived.Shelf.Strings.SlTrimAscii
import Derived.Ground.NamesProg
import Derived.Shelf.Strconv.Atoi
import Derived.Shelf.Strconv.Itoa3
import Derived.Shelf.Strings.OnBuilder
import Derived.Lib.AppendIntMem
import Derived.Lib.AtoiErrMem
import Derived.Shelf.Strings.BuilderK
import Derived.Deep.DeepCutAuto
import Derived.Deep.DrawnRows
import Derived.StillTailTactics
import Derived.TacticsInMore
import Derived.LoopNIn
import Derived.LoopIn
import Derived.Deep.RegionHeld3
import Derived.Shelf.GgSortFunc.RowK
import Derived.Lib.SlicesCompact
import Derived.Shelf.SlSortCmp.NoneTotal
import Derived.Sort.LotA
import Derived.Lib.Bytealg
import Derived.Lib.Small
import Derived.Ground.SlsfProg
import Derived.Laws.OwnMore
import Derived.Deep.AppendLies
import Derived.Deep.LoopGhost
import Derived.Great.BuildSlice
set_option linter.unusedSimpArgs false
set_option linter.unusedVariables false
set_option maxRecDepth 100000
namespace Go.Proofs
open Go.Shelf
def Tryz.lays100_ren:Go.Shelf.Ren:=⟨fun|100=>120|207=>224|n=>n,fun|9=>9|4=>4|3=>3|n=>n,fun|n=>n⟩
theorem Tryz.lays100:Go.Proofs.Lays.n100 Tryz.prog Tryz.lays100_ren:={
 mixed:=by kernel_rfl
 f100:=Tryz.func120.trans (congrArg some (by kernel_rfl))
 f207:=Tryz.func224.trans (congrArg some (by kernel_rfl))
 t3:=Tryz.underlying3
 a3:=Tryz.isAgg3
 z3:=Tryz.sizeOf3
 v3:=Tryz.zeroValue3
 t4:=Tryz.underlying4
 a4:=Tryz.isAgg4
 z4:=Tryz.sizeOf4
 v4:=Tryz.zeroValue4
 t9:=Tryz.underlying9
 a9:=Tryz.isAgg9
 z9:=Tryz.sizeOf9
 v9:=Tryz.zeroValue9}
def Tryz.lays137_ren:Go.Shelf.Ren:=⟨fun|137=>272|217=>262|266=>296|n=>n,fun|9=>9|5=>5|3=>3|n=>n,fun|n=>n⟩
theorem Tryz.lays137:Go.Proofs.Lays.n137 Tryz.prog Tryz.lays137_ren:={
 mixed:=by kernel_rfl
 f137:=Tryz.func272.trans (congrArg some (by kernel_rfl))
 f217:=Tryz.func262.trans (congrArg some (by kernel_rfl))
 f266:=Tryz.func296.trans (congrArg some (by kernel_rfl))
 t3:=Tryz.underlying3
 a3:=Tryz.isAgg3
 z3:=Tryz.sizeOf3
 v3:=Tryz.zeroValue3
 t5:=Tryz.underlying5
 a5:=Tryz.isAgg5
 z5:=Tryz.sizeOf5
 v5:=Tryz.zeroValue5
 t9:=Tryz.underlying9
 a9:=Tryz.isAgg9
 z9:=Tryz.sizeOf9
 v9:=Tryz.zeroValue9}
def Tryz.lays138_ren:Go.Shelf.Ren:=⟨fun|138=>77|195=>141|218=>142|143=>143|219=>208|217=>262|225=>263|224=>264|267=>265|266=>296|314=>297|n=>n,fun|9=>9|3=>3|4=>4|5=>5|0=>0|46=>179|146=>367|51=>264|n=>n,fun|1=>0|n=>n⟩
theorem Tryz.lays138:Go.Proofs.Lays.n138 Tryz.prog Tryz.lays138_ren:={
 mixed:=by kernel_rfl
 f138:=Tryz.func77.trans (congrArg some (by kernel_rfl))
 f143:=Tryz.func143.trans (congrArg some (by kernel_rfl))
 f195:=Tryz.func141.trans (congrArg some (by kernel_rfl))
 f217:=Tryz.func262.trans (congrArg some (by kernel_rfl))
 f218:=Tryz.func142.trans (congrArg some (by kernel_rfl))
 f219:=Tryz.func208.trans (congrArg some (by kernel_rfl))
 f224:=Tryz.func264.trans (congrArg some (by kernel_rfl))
 f225:=Tryz.func263.trans (congrArg some (by kernel_rfl))
 f266:=Tryz.func296.trans (congrArg some (by kernel_rfl))
 f267:=Tryz.func265.trans (congrArg some (by kernel_rfl))
 f314:=Tryz.func297.trans (congrArg some (by kernel_rfl))
 t0:=Tryz.underlying0
 a0:=Tryz.isAgg0
 z0:=Tryz.sizeOf0
 v0:=Tryz.zeroValue0
 t3:=Tryz.underlying3
 a3:=Tryz.isAgg3
 z3:=Tryz.sizeOf3
 v3:=Tryz.zeroValue3
 t4:=Tryz.underlying4
 a4:=Tryz.isAgg4
 z4:=Tryz.sizeOf4
 v4:=Tryz.zeroValue4
 t5:=Tryz.underlying5
 a5:=Tryz.isAgg5
 z5:=Tryz.sizeOf5
 v5:=Tryz.zeroValue5
 t9:=Tryz.underlying9
 a9:=Tryz.isAgg9
 z9:=Tryz.sizeOf9
 v9:=Tryz.zeroValue9
 t46:=Tryz.underlying179
 a46:=Tryz.isAgg179
 z46:=Tryz.sizeOf179
 v46:=Tryz.zeroValue179
 t51:=Tryz.underlying264
 a51:=Tryz.isAgg264
 z51:=Tryz.sizeOf264
 v51:=Tryz.zeroValue264
 t146:=Tryz.underlying367
 a146:=Tryz.isAgg367
 z146:=Tryz.sizeOf367
 v146:=Tryz.zeroValue367
 g1:=by kernel_rfl}
def Tryz.lays146_ren:Go.Shelf.Ren:=⟨fun|146=>78|221=>144|268=>230|138=>77|143=>143|195=>141|197=>285|218=>142|219=>208|260=>309|217=>262|225=>263|224=>264|267=>265|266=>296|314=>297|n=>n,fun|9=>9|31=>89|3=>3|4=>4|0=>0|105=>344|21=>21|5=>5|46=>179|119=>387|139=>390|138=>389|146=>367|51=>264|n=>n,fun|1=>0|3=>1|4=>2|n=>n⟩
theorem Tryz.lays146:Go.Proofs.Lays.n146 Tryz.prog Tryz.lays146_ren:={
 mixed:=by kernel_rfl
 f138:=Tryz.func77.trans (congrArg some (by kernel_rfl))
 f143:=Tryz.func143.trans (congrArg some (by kernel_rfl))
 f146:=Tryz.func78.trans (congrArg some (by kernel_rfl))
 f195:=Tryz.func141.trans (congrArg some (by kernel_rfl))
 f197:=Tryz.func285.trans (congrArg some (by kernel_rfl))
 f217:=Tryz.func262.trans (congrArg some (by kernel_rfl))
 f218:=Tryz.func142.trans (congrArg some (by kernel_rfl))
 f219:=Tryz.func208.trans (congrArg some (by kernel_rfl))
 f221:=Tryz.func144.trans (congrArg some (by kernel_rfl))
 f224:=Tryz.func264.trans (congrArg some (by kernel_rfl))
 f225:=Tryz.func263.trans (congrArg some (by kernel_rfl))
 f260:=Tryz.func309.trans (congrArg some (by kernel_rfl))
 f266:=Tryz.func296.trans (congrArg some (by kernel_rfl))
 f267:=Tryz.func265.trans (congrArg some (by kernel_rfl))
 f268:=Tryz.func230.trans (congrArg some (by kernel_rfl))
 f314:=Tryz.func297.trans (congrArg some (by kernel_rfl))
 t0:=Tryz.underlying0
 a0:=Tryz.isAgg0
 z0:=Tryz.sizeOf0
 v0:=Tryz.zeroValue0
 t3:=Tryz.underlying3
 a3:=Tryz.isAgg3
 z3:=Tryz.sizeOf3
 v3:=Tryz.zeroValue3
 t4:=Tryz.underlying4
 a4:=Tryz.isAgg4
 z4:=Tryz.sizeOf4
 v4:=Tryz.zeroValue4
 t5:=Tryz.underlying5
 a5:=Tryz.isAgg5
 z5:=Tryz.sizeOf5
 v5:=Tryz.zeroValue5
 t9:=Tryz.underlying9
 a9:=Tryz.isAgg9
 z9:=Tryz.sizeOf9
 v9:=Tryz.zeroValue9
 t21:=Tryz.underlying21
 a21:=Tryz.isAgg21
 z21:=Tryz.sizeOf21
 v21:=Tryz.zeroValue21
 t31:=Tryz.underlying89
 a31:=Tryz.isAgg89
 z31:=Tryz.sizeOf89
 v31:=Tryz.zeroValue89
 t46:=Tryz.underlying179
 a46:=Tryz.isAgg179
 z46:=Tryz.sizeOf179
 v46:=Tryz.zeroValue179
 t51:=Tryz.underlying264
 a51:=Tryz.isAgg264
 z51:=Tryz.sizeOf264
 v51:=Tryz.zeroValue264
 t105:=Tryz.underlying344
 a105:=Tryz.isAgg344
 z105:=Tryz.sizeOf344
 v105:=Tryz.zeroValue344
 t119:=Tryz.underlying387
 a119:=Tryz.isAgg387
 z119:=Tryz.sizeOf387
 t138:=Tryz.underlying389
 a138:=Tryz.isAgg389
 z138:=Tryz.sizeOf389
 v138:=Tryz.zeroValue389
 t139:=Tryz.underlying390
 a139:=Tryz.isAgg390
 z139:=Tryz.sizeOf390
 v139:=Tryz.zeroValue390
 t146:=Tryz.underlying367
 a146:=Tryz.isAgg367
 z146:=Tryz.sizeOf367
 v146:=Tryz.zeroValue367
 g1:=by kernel_rfl
 g3:=by kernel_rfl
 g4:=by kernel_rfl}
def Tryz.lays160_ren:Go.Shelf.Ren:=⟨fun|160=>218|232=>220|231=>269|227=>221|234=>222|233=>270|236=>223|235=>271|228=>273|271=>274|151=>275|197=>285|120=>299|152=>300|260=>309|137=>272|119=>315|224=>264|225=>263|217=>262|266=>296|n=>n,fun|9=>9|4=>4|3=>3|5=>5|117=>293|116=>292|0=>0|124=>296|21=>21|105=>344|46=>179|119=>387|139=>390|138=>389|n=>n,fun|3=>1|4=>2|n=>n⟩
theorem Tryz.lays160:Go.Proofs.Lays.n160 Tryz.prog Tryz.lays160_ren:={
 mixed:=by kernel_rfl
 f119:=Tryz.func315.trans (congrArg some (by kernel_rfl))
 f120:=Tryz.func299.trans (congrArg some (by kernel_rfl))
 f137:=Tryz.func272.trans (congrArg some (by kernel_rfl))
 f151:=Tryz.func275.trans (congrArg some (by kernel_rfl))
 f152:=Tryz.func300.trans (congrArg some (by kernel_rfl))
 f160:=Tryz.func218.trans (congrArg some (by kernel_rfl))
 f197:=Tryz.func285.trans (congrArg some (by kernel_rfl))
 f217:=Tryz.func262.trans (congrArg some (by kernel_rfl))
 f224:=Tryz.func264.trans (congrArg some (by kernel_rfl))
 f225:=Tryz.func263.trans (congrArg some (by kernel_rfl))
 f227:=Tryz.func221.trans (congrArg some (by kernel_rfl))
 f228:=Tryz.func273.trans (congrArg some (by kernel_rfl))
 f231:=Tryz.func269.trans (congrArg some (by kernel_rfl))
 f232:=Tryz.func220.trans (congrArg some (by kernel_rfl))
 f233:=Tryz.func270.trans (congrArg some (by kernel_rfl))
 f234:=Tryz.func222.trans (congrArg some (by kernel_rfl))
 f235:=Tryz.func271.trans (congrArg some (by kernel_rfl))
 f236:=Tryz.func223.trans (congrArg some (by kernel_rfl))
 f260:=Tryz.func309.trans (congrArg some (by kernel_rfl))
 f266:=Tryz.func296.trans (congrArg some (by kernel_rfl))
 f271:=Tryz.func274.trans (congrArg some (by kernel_rfl))
 t0:=Tryz.underlying0
 a0:=Tryz.isAgg0
 z0:=Tryz.sizeOf0
 v0:=Tryz.zeroValue0
 t3:=Tryz.underlying3
 a3:=Tryz.isAgg3
 z3:=Tryz.sizeOf3
 v3:=Tryz.zeroValue3
 t4:=Tryz.underlying4
 a4:=Tryz.isAgg4
 z4:=Tryz.sizeOf4
 v4:=Tryz.zeroValue4
 t5:=Tryz.underlying5
 a5:=Tryz.isAgg5
 z5:=Tryz.sizeOf5
 v5:=Tryz.zeroValue5
 t9:=Tryz.underlying9
 a9:=Tryz.isAgg9
 z9:=Tryz.sizeOf9
 v9:=Tryz.zeroValue9
 t21:=Tryz.underlying21
 a21:=Tryz.isAgg21
 z21:=Tryz.sizeOf21
 v21:=Tryz.zeroValue21
 t46:=Tryz.underlying179
 a46:=Tryz.isAgg179
 z46:=Tryz.sizeOf179
 v46:=Tryz.zeroValue179
 t105:=Tryz.underlying344
 a105:=Tryz.isAgg344
 z105:=Tryz.sizeOf344
 v105:=Tryz.zeroValue344
 t116:=Tryz.underlying292
 a116:=Tryz.isAgg292
 z116:=Tryz.sizeOf292
 t117:=Tryz.underlying293
 a117:=Tryz.isAgg293
 z117:=Tryz.sizeOf293
 v117:=Tryz.zeroValue293
 t119:=Tryz.underlying387
 a119:=Tryz.isAgg387
 z119:=Tryz.sizeOf387
 t124:=Tryz.underlying296
 a124:=Tryz.isAgg296
 z124:=Tryz.sizeOf296
 v124:=Tryz.zeroValue296
 t138:=Tryz.underlying389
 a138:=Tryz.isAgg389
 z138:=Tryz.sizeOf389
 v138:=Tryz.zeroValue389
 t139:=Tryz.underlying390
 a139:=Tryz.isAgg390
 z139:=Tryz.sizeOf390
 v139:=Tryz.zeroValue390
 g3:=by kernel_rfl
 g4:=by kernel_rfl}
def Tryz.lays162_ren:Go.Shelf.Ren:=⟨fun|162=>118|232=>220|227=>221|234=>222|236=>223|228=>273|271=>274|151=>275|120=>299|197=>285|152=>300|260=>309|137=>272|119=>315|224=>264|225=>263|217=>262|266=>296|n=>n,fun|9=>9|4=>4|3=>3|5=>5|117=>293|116=>292|0=>0|124=>296|21=>21|105=>344|46=>179|119=>387|139=>390|138=>389|n=>n,fun|3=>1|4=>2|n=>n⟩
theorem Tryz.lays162:Go.Proofs.Lays.n162 Tryz.prog Tryz.lays162_ren:={
 mixed:=by kernel_rfl
 f119:=Tryz.func315.trans (congrArg some (by kernel_rfl))
 f120:=Tryz.func299.trans (congrArg some (by kernel_rfl))
 f137:=Tryz.func272.trans (congrArg some (by kernel_rfl))
 f151:=Tryz.func275.trans (congrArg some (by kernel_rfl))
 f152:=Tryz.func300.trans (congrArg some (by kernel_rfl))
 f162:=Tryz.func118.trans (congrArg some (by kernel_rfl))
 f197:=Tryz.func285.trans (congrArg some (by kernel_rfl))
 f217:=Tryz.func262.trans (congrArg some (by kernel_rfl))
 f224:=Tryz.func264.trans (congrArg some (by kernel_rfl))
 f225:=Tryz.func263.trans (congrArg some (by kernel_rfl))
 f227:=Tryz.func221.trans (congrArg some (by kernel_rfl))
 f228:=Tryz.func273.trans (congrArg some (by kernel_rfl))
 f232:=Tryz.func220.trans (congrArg some (by kernel_rfl))
 f234:=Tryz.func222.trans (congrArg some (by kernel_rfl))
 f236:=Tryz.func223.trans (congrArg some (by kernel_rfl))
 f260:=Tryz.func309.trans (congrArg some (by kernel_rfl))
 f266:=Tryz.func296.trans (congrArg some (by kernel_rfl))
 f271:=Tryz.func274.trans (congrArg some (by kernel_rfl))
 t0:=Tryz.underlying0
 a0:=Tryz.isAgg0
 z0:=Tryz.sizeOf0
 v0:=Tryz.zeroValue0
 t3:=Tryz.underlying3
 a3:=Tryz.isAgg3
 z3:=Tryz.sizeOf3
 v3:=Tryz.zeroValue3
 t4:=Tryz.underlying4
 a4:=Tryz.isAgg4
 z4:=Tryz.sizeOf4
 v4:=Tryz.zeroValue4
 t5:=Tryz.underlying5
 a5:=Tryz.isAgg5
 z5:=Tryz.sizeOf5
 v5:=Tryz.zeroValue5
 t9:=Tryz.underlying9
 a9:=Tryz.isAgg9
 z9:=Tryz.sizeOf9
 v9:=Tryz.zeroValue9
 t21:=Tryz.underlying21
 a21:=Tryz.isAgg21
 z21:=Tryz.sizeOf21
 v21:=Tryz.zeroValue21
 t46:=Tryz.underlying179
 a46:=Tryz.isAgg179
 z46:=Tryz.sizeOf179
 v46:=Tryz.zeroValue179
 t105:=Tryz.underlying344
 a105:=Tryz.isAgg344
 z105:=Tryz.sizeOf344
 v105:=Tryz.zeroValue344
 t116:=Tryz.underlying292
 a116:=Tryz.isAgg292
 z116:=Tryz.sizeOf292
 t117:=Tryz.underlying293
 a117:=Tryz.isAgg293
 z117:=Tryz.sizeOf293
 v117:=Tryz.zeroValue293
 t119:=Tryz.underlying387
 a119:=Tryz.isAgg387
 z119:=Tryz.sizeOf387
 t124:=Tryz.underlying296
 a124:=Tryz.isAgg296
 z124:=Tryz.sizeOf296
 v124:=Tryz.zeroValue296
 t138:=Tryz.underlying389
 a138:=Tryz.isAgg389
 z138:=Tryz.sizeOf389
 v138:=Tryz.zeroValue389
 t139:=Tryz.underlying390
 a139:=Tryz.isAgg390
 z139:=Tryz.sizeOf390
 v139:=Tryz.zeroValue390
 g3:=by kernel_rfl
 g4:=by kernel_rfl}
end Go.Proofs
namespace Go.Proofs.YtmokmalepelinaaGreatDoor.K
open Go.RowKit Go.Shelf
noncomputable section
def ixbF (s:ByteArray)(c:Int):Int:=Lib.indexByte s.data.toList c.toNat.toUInt8
def sp_f272:Ent:=spec (.pr .str (.pr (.int .u8) .nil)) (fun x=>true) (fun x=>(.t tI (ixbF x.1 x.2.1)))
theorem en_f272:Entered Tryz.prog 272:= .inr ⟨by decide,_,Tryz.func272,by kernel_rfl,by kernel_rfl⟩
theorem ms_f272:Meets Tryz.prog 272 (strip sp_f272):=meets_calls fun x _ X w σ vs hfin hc=>by
 obtain ⟨s,c,u⟩:=x
 simp only [Ty.canon,V.ds,V.d,Ty.d,Cs,C] at hc
 obtain ⟨v1,r1,rfl,⟨rfl,_⟩,v2,r2,rfl,⟨rfl,_⟩,rfl⟩:=hc
 refine (Any.strings_IndexByte Tryz.lays137 s c w).mono ?_
 rintro e w' ⟨rfl,rfl⟩
 refine ⟨_,rfl, ?_,Below.refl _ _⟩
 simp only [V.d,Ty.d,C]
 exact ⟨rfl,rfl⟩
def sfxF (s p:ByteArray):Bool:=Lib.hasSuffix s.data.toList p.data.toList
def sfxOk (s _p:ByteArray):Bool:=nameG s
def sp_f120:Ent:=spec (.pr .str (.pr .str .nil)) (fun x=>(sfxOk x.1 x.2.1)) (fun x=>(.t .bool (sfxF x.1 x.2.1)))
theorem en_f120:Entered Tryz.prog 120:= .inr ⟨by decide,_,Tryz.func120,by kernel_rfl,by kernel_rfl⟩
theorem ms_f120:Meets Tryz.prog 120 (strip sp_f120):=meets_calls fun x hok X w σ vs hfin hc=>by
 obtain ⟨s,p,u⟩:=x
 have hok:s.size<=9223372036854775807:=of_decide_eq_true hok
 simp only [Ty.canon,V.ds,V.d,Ty.d,Cs,C] at hc
 obtain ⟨v1,r1,rfl,⟨rfl,_⟩,v2,r2,rfl,⟨rfl,_⟩,rfl⟩:=hc
 refine (Any.strings_HasSuffix Tryz.lays100 s p w hok).mono ?_
 rintro e w' ⟨rfl,rfl⟩
 refine ⟨_,rfl, ?_,Below.refl _ _⟩
 simp only [V.d,Ty.d,C]
 exact ⟨rfl,rfl⟩
theorem one_byte {d:Array UInt8}(hok:d.size=1): ∃ c,d= #[c]:=by
 match d,hok with
 |⟨[c]⟩,_=>exact ⟨c,rfl⟩
def cntF (s p:ByteArray):Int:=((Lib.countByte s.data.toList (p.data.toList.headD 0):Nat):Int)
def oneOk2 (_s p:ByteArray):Bool:=decide (p.size=1)
def sp_f77:Ent:=spec (.pr .str (.pr .str .nil)) (fun x=>(oneOk2 x.1 x.2.1)) (fun x=>(.t tI (cntF x.1 x.2.1)))
theorem en_f77:Entered Tryz.prog 77:= .inr ⟨by decide,_,Tryz.func77,by kernel_rfl,by kernel_rfl⟩
theorem ms_f77:Meets Tryz.prog 77 (strip sp_f77):=meets_calls fun x hok X w σ vs hfin hc=>by
 obtain ⟨s,⟨d⟩,u⟩:=x
 obtain ⟨c,rfl⟩:=one_byte (show d.size=1 from of_decide_eq_true hok)
 simp only [Ty.canon,V.ds,V.d,Ty.d,Cs,C] at hc
 obtain ⟨v1,r1,rfl,⟨rfl,_⟩,v2,r2,rfl,⟨rfl,_⟩,rfl⟩:=hc
 refine (Any.strings_Count_one Tryz.lays138 s c w).mono ?_
 rintro e w' ⟨rfl,rfl⟩
 refine ⟨_,rfl, ?_,Below.refl _ _⟩
 simp only [V.d,Ty.d,C]
 exact ⟨rfl,rfl⟩
def ascOk (s p:ByteArray):Bool:=nameG s&&(decide (p.size<4294967281)&&p.data.toList.all fun b=>decide (b.toNat<128))
def trmS (s p:ByteArray):ByteArray:=⟨(Lib.trimS s.data.toList p.data.toList).toArray⟩
def sp_f218:Ent:=spec (.pr .str (.pr .str .nil)) (fun x=>(ascOk x.1 x.2.1)) (fun x=>(.t .str (trmS x.1 x.2.1)))
theorem en_f218:Entered Tryz.prog 218:= .inr ⟨by decide,_,Tryz.func218,by kernel_rfl,by kernel_rfl⟩
theorem ms_f218:Meets Tryz.prog 218 (strip sp_f218):=meets_calls fun x hok X w σ vs hfin hc=>by
 obtain ⟨s,p,u⟩:=x
 obtain ⟨h1,h2⟩:=Bool.and_eq_true_iff.1 hok
 obtain ⟨h2,h3⟩:=Bool.and_eq_true_iff.1 h2
 simp only [Ty.canon,V.ds,V.d,Ty.d,Cs,C] at hc
 obtain ⟨v1,r1,rfl,⟨rfl,_⟩,v2,r2,rfl,⟨rfl,_⟩,rfl⟩:=hc
 refine (Any.strings_Trim_laid Tryz.lays160 (by kernel_rfl) s p w (of_decide_eq_true h1) (of_decide_eq_true h2) (ascii_of_all h3)).mono ?_
 rintro e w' ⟨rfl,hb⟩
 refine ⟨_,rfl, ?_,hb⟩
 simp only [V.d,Ty.d,C]
 exact ⟨rfl,rfl⟩
def trmR (s p:ByteArray):ByteArray:=⟨(Lib.trimRightS s.data.toList p.data.toList).toArray⟩
def sp_f118:Ent:=spec (.pr .str (.pr .str .nil)) (fun x=>(ascOk x.1 x.2.1)) (fun x=>(.t .str (trmR x.1 x.2.1)))
theorem en_f118:Entered Tryz.prog 118:= .inr ⟨by decide,_,Tryz.func118,by kernel_rfl,by kernel_rfl⟩
theorem ms_f118:Meets Tryz.prog 118 (strip sp_f118):=meets_calls fun x hok X w σ vs hfin hc=>by
 obtain ⟨s,p,u⟩:=x
 obtain ⟨h1,h2⟩:=Bool.and_eq_true_iff.1 hok
 obtain ⟨h2,h3⟩:=Bool.and_eq_true_iff.1 h2
 simp only [Ty.canon,V.ds,V.d,Ty.d,Cs,C] at hc
 obtain ⟨v1,r1,rfl,⟨rfl,_⟩,v2,r2,rfl,⟨rfl,_⟩,rfl⟩:=hc
 refine (Any.strings_TrimRight_laid Tryz.lays162 (by kernel_rfl) s p w (of_decide_eq_true h1) (of_decide_eq_true h2) (ascii_of_all h3)).mono ?_
 rintro e w' ⟨rfl,hb⟩
 refine ⟨_,rfl, ?_,hb⟩
 simp only [V.d,Ty.d,C]
 exact ⟨rfl,rfl⟩
def splF (s p:ByteArray):List ByteArray:=Lib.splitB p 0 (Lib.countB s p) s
def splOk (s p:ByteArray):Bool:=decide (p.size=1/\s.size<4294967281)
theorem cs_strs {X:Nat->Nat->Prop}{w:World}{σ:Pl}: ∀ l:List ByteArray,Cs X w σ (l.flatMap (Ty.cells .str)) (l.map Value.string)
 | []=>by simp only [List.flatMap_nil,List.map_nil,Cs]
 |s::l=>by
  have ih:=cs_strs (X:=X) (w:=w) (σ:=σ) l
  simp only [List.flatMap_cons,Ty.cells,Ty.d,List.singleton_append,List.map_cons,Cs,C]
  exact ⟨_,_,rfl,⟨rfl,rfl⟩,ih⟩
theorem split_any (s:ByteArray)(c:UInt8)(w:World)(hs:s.size<4294967281):
  Calls Tryz.prog 78 #[.string s,.string ⟨#[c]⟩] w fun e w'=>
   e= .returned (.slice (some ⟨w.heap.size,0,none⟩) (splF s ⟨#[c]⟩).length (splF s ⟨#[c]⟩).length)/\w'=w.alloc (.cells ((splF s ⟨#[c]⟩).map Value.string).toArray 9):=by
 have h1:1<=(ByteArray.mk #[c]).size:=Nat.le_refl 1
 have hle:=Lib.countB_le (ByteArray.mk #[c]) h1 s.size s (Nat.le_refl _)
 have hlen:=Lib.splitB_all (ByteArray.mk #[c]) h1 0 _ s rfl
 have c0:=Any.strings_genSplit_core {Tryz.lays146 with} (by kernel_rfl) s (ByteArray.mk #[c]) 0 (-1) (Lib.countB s (ByteArray.mk #[c])+1) w hs h1 (Nat.zero_le _)
  (fun x c' hx=>by
   refine (Any.strings_Index_one {Tryz.lays146 with} x c (w.alloc (.cells c' _))).mono fun e w' ⟨he,hw⟩=>⟨?_,hw⟩
   rw [he]
   show _=Ending.returned (Value.int .i64 (Lib.index x.data.toList [c]))
   rw [Lib.index_one])
  (by
   refine (Any.strings_Count_one {Tryz.lays146 with} s c w).mono fun e w' ⟨he,hw⟩=>⟨?_,hw⟩
   rw [he]
   show _=Ending.returned (Value.int .i64 ((Lib.count s.data.toList [c]:Nat):Int))
   rw [Lib.count_one]
   rfl)
  (by decide) (by decide) (by rw [if_pos (by decide)];omega)
 rw [Nat.add_sub_cancel,hlen] at c0
 have e2:Lib.cellsOf (Lib.splitB (ByteArray.mk #[c]) 0 (Lib.countB s (ByteArray.mk #[c])) s) (Lib.countB s (ByteArray.mk #[c])+1)=((Lib.splitB (ByteArray.mk #[c]) 0 (Lib.countB s (ByteArray.mk #[c])) s).map Value.string).toArray:=by rw [←hlen];exact Lib.cellsOf_full _
 rw [e2, ← hlen] at c0
 go_enter Tryz.func78,Tryz.ntmps78
 go_wp2_with (go_at_call 144;refine c0.mono ?_;rintro e w' ⟨rfl,hw⟩;rw [hw])
 go_ret
 refine ⟨?_,rfl⟩
 show Ending.returned (Value.slice _ (Lib.countB s ⟨#[c]⟩+1) (Lib.countB s ⟨#[c]⟩+1))=_
 rw [show (splF s ⟨#[c]⟩).length=Lib.countB s ⟨#[c]⟩+1 from hlen]
def sp_f78:Ent:=spec (.pr .str (.pr .str .nil)) (fun x=>(splOk x.1 x.2.1)) (fun x=>(.t (.sl .str) (splF x.1 x.2.1)))
theorem en_f78:Entered Tryz.prog 78:= .inr ⟨by decide,_,Tryz.func78,by kernel_rfl,by kernel_rfl⟩
theorem ms_f78:Meets Tryz.prog 78 (strip sp_f78):=meets_calls fun x hok X w σ vs hfin hc=>by
 obtain ⟨s,⟨d⟩,u⟩:=x
 obtain ⟨h1,h2⟩:=of_decide_eq_true hok
 have h2:s.size<4294967281:=h2
 obtain ⟨c,rfl⟩:=one_byte h1
 simp only [Ty.canon,V.ds,V.d,Ty.d,Cs,C] at hc
 obtain ⟨v1,r1,rfl,⟨rfl,_⟩,v2,r2,rfl,⟨rfl,_⟩,rfl⟩:=hc
 have hle:=Lib.countB_le (ByteArray.mk #[c]) (Nat.le_refl 1) s.size s (Nat.le_refl _)
 have hlen:(splF s ⟨#[c]⟩).length=Lib.countB s ⟨#[c]⟩+1:=Lib.splitB_all (ByteArray.mk #[c]) (Nat.le_refl 1) 0 _ s rfl
 refine (split_any s c w h2).mono ?_
 rintro e w' ⟨rfl,rfl⟩
 refine ⟨_,rfl, ?_,(Below.refl _ _).alloc (Nat.le_refl _) _⟩
 have hb:=Go.Proofs.YtmokmalepelinaaGreatDoor.Blk.new w 9 ((splF s ⟨#[c]⟩).map Value.string).toArray
 simp only [V.d,Ty.d,C]
 refine ⟨_,_,rfl,Nat.le_refl _, ?_,fun h=>absurd h (by omega),fun _=>⟨_,_,(splF s ⟨#[c]⟩).map Value.string,rfl,cs_strs _, ?_⟩⟩
 ·unfold maxLen
  omega
 ·refine ⟨hb.lt,fun j _ hX=>Nat.lt_irrefl _ (hfin _ _ hX),fun j v hj=> ?_,fun v hv=> ?_⟩
  ·rw [Nat.zero_add,hb.cell j,List.getElem?_toArray]
   exact hj
  ·obtain ⟨s,_,rfl⟩:=List.mem_map.1 hv
   rfl
end
end Go.Proofs.YtmokmalepelinaaGreatDoor.K
namespace Go.Proofs
open Go.Shelf
end Go.Proofs
namespace Go.Proofs.YtmokmalepelinaaGreatDoor.K
open Go.RowKit Go.Shelf
noncomputable section
end
end Go.Proofs.YtmokmalepelinaaGreatDoor.K
namespace Go.Proofs.YtmokmalepelinaaGreatDoor.K
open Go.RowKit
noncomputable section
-- loop 0: (x0 : ByteArray) (x9 : (List Int)) (x10 : Int) (x11 : Int); out: ('ret',) (x2 : Int) (x3 : Bool); ('exit', 0) (x0 : ByteArray)
end
end Go.Proofs.YtmokmalepelinaaGreatDoor.K
namespace Go.Proofs.YtmokmalepelinaaGreatDoor.K
open Go.RowKit
mutual
def V.plain:V->Bool
 |.t (.int _) _=>true
 |.t .bool _=>true
 |.tu vs=>V.plains vs
 |_=>false
def V.plains:List V->Bool
 | []=>true
 |v::vs=>v.plain&&V.plains vs
end
section
variable {X X':Nat->Nat->Prop}{w w':World}{σ σ':Pl}
mutual
theorem plain_c: ∀ (v:V) (u:Value),v.plain=true->C X w σ v.d u->C X' w' σ' v.d u
 |.t (.int _) x,u,_,h=>by simpa only [V.d,Ty.d,C] using h
 |.t .bool x,u,_,h=>by simpa only [V.d,Ty.d,C] using h
 |.tu vs,u,hp,h=>by
  simp only [V.plain] at hp
  simp only [V.d,C] at h ⊢
  obtain ⟨us,h1,h2⟩:=h
  exact ⟨us,h1,plain_cs vs us hp h2⟩
theorem plain_cs: ∀ (vs:List V) (us:List Value),V.plains vs=true->Cs X w σ (V.ds vs) us->Cs X' w' σ' (V.ds vs) us
 | [],us,_,h=>by simpa only [V.ds,Cs] using h
 |v::vs,us,hp,h=>by
  simp only [V.plains,Bool.and_eq_true] at hp
  simp only [V.ds,Cs] at h ⊢
  obtain ⟨u,us',h1,h2,h3⟩:=h
  exact ⟨u,us',h1,plain_c v u hp.1 h2,plain_cs vs us' hp.2 h3⟩
end
end
section
variable {P:Program}
end
end Go.Proofs.YtmokmalepelinaaGreatDoor.K
namespace Go.Proofs.YtmokmalepelinaaGreatDoor.K
open Go.RowKit
mutual
def V.fzw (k:Nat)(y:Ty)(l:List y.T):V->V
 |.wn sz j a m=>if j=k then (if sz=y.sz then .t (.sl y) ((l.drop a).take m) else .un) else .wn sz j a m
 |.ag vs=> .ag (V.fzws k y l vs)
 |v=>v.fz k y l
def V.fzws (k:Nat)(y:Ty)(l:List y.T):List V->List V
 | []=>[]
 |v::vs=>v.fzw k y l::V.fzws k y l vs
end
mutual
def V.wnC (k n:Nat):V->Bool->Bool
 |.wn _ j a m,b=>if j=k then decide (a+m<=n)&&b else b
 |.ag vs,b=>V.wnCs k n vs b
 |_,b=>b
def V.wnCs (k n:Nat):List V->Bool->Bool
 | [],b=>b
 |v::vs,b=>v.wnC k n (V.wnCs k n vs b)
end
mutual
theorem V.wnC_b {k n:Nat}{b:Bool}: ∀ v:V,v.wnC k n b=true->b=true
 |.wn sz j a m,h=>by
  simp only [V.wnC] at h
  split at h
  ·exact (Bool.and_eq_true_iff.1 h).2
  ·exact h
 |.ag vs,h=>V.wnCs_b vs (by simpa only [V.wnC] using h)
 |.ms _,h=>h
 |.pa _ _ _ _,h=>h
 |.bv _ _,h=>h
 |.ptr _ _,h=>h
 |.tu _,h=>h
 |.fn _ _,h=>h
 |.ifc _ _,h=>h
 |.t _ _,h=>h
 |.c _,h=>h
 |.el _ _ _,h=>h
 |.ud,h=>h
 |.un,h=>h
theorem V.wnCs_b {k n:Nat}{b:Bool}: ∀ vs:List V,V.wnCs k n vs b=true->b=true
 | [],h=>h
 |v::vs,h=>V.wnCs_b vs (V.wnC_b v (by simpa only [V.wnCs] using h))
end
section
variable {X X':Nat->Nat->Prop}{w:World}{σ:Pl}
mutual
theorem fzw_c {k:Nat}{y:Ty}{l:List y.T}{e:Nat}{b0:Bool}(hk:OAt X w σ k (.arr e y l))(ex:Ext X w X' w)(hX: ∀ u b,σ k= .arr u->u.ownBlock=some b→ ∀ q, ¬ X' b q): ∀ (v:V) (u:Value),v.wnC k (List.length l) b0=true->C X w σ v.d u->C X' w σ (v.fzw k y l).d u
 |.wn sz j a m,u,hb,h=>by
  simp only [V.fzw]
  split
  ·rename_i hj
   subst hj
   split
   ·rename_i hsz
    subst hsz
    simp only [V.wnC,if_true,Bool.and_eq_true,decide_eq_true_eq] at hb
    have hb:=hb.1
    have hl:(List.take m (List.drop a l)).length=m:=by
     rw [List.length_take,List.length_drop]
     omega
    obtain ⟨u',xs,h1,h2,h3,h4,h5⟩:=hk
    simp only [V.d,C] at h
    simp only [V.d,Ty.d,C]
    rw [hl]
    rcases h with ⟨g,n1,c1,e1,e2,e3⟩|⟨e1,e2,e3,e4⟩
    ·rw [h1] at e1
     injection e1 with e1
     rcases h2.2 with ⟨a6,a7⟩|⟨g',cap,cur,a6,_,a8,a9,a10,a11,a12⟩
     ·rw [a6] at e1
      cases e1
     ·rw [a6] at e1
      injection e1 with e1 e1' e1''
      injection e1 with e1
      injection e1 with e1
      subst e1
      subst e1''
      refine ⟨_,_,e3,by omega,by omega,fun h0=> ?_,fun h0=>⟨g',a*y.sz,(xs.drop (a*y.sz)).take (m*y.sz), ?_, ?_, ?_⟩⟩
      ·subst h0
       rfl
      ·rw [if_neg (by omega)]
      ·rw [←flat_take, ← flat_drop]
       exact ((Cs.ext ex _ _ (fun r hr=>by simp [y.refs_flat] at hr) h3).drop_ _).take_ _
      ·have hg:u'.ownBlock=some g':=by rw [a6];rfl
       have hf:Fix X' w g' 0 xs:=by
        refine ⟨(h2.lt g' hg).2,fun j hj=>hX u' g' h1 hg _,fun j v hv=> ?_,h4⟩
        have:=h2.cells hg j v hv
        rwa [Addr.add_mid] at this
       have:=(hf.drop_ (a*y.sz)).take_ (m*y.sz)
       rwa [Nat.zero_add] at this
    ·subst e2
     subst e3
     exact ⟨none,0,e4,Nat.le_refl _,by simp [maxLen],fun _=>rfl,fun q=>absurd q (by simp)⟩
   ·exact C.any_ u
  ·exact C.ext ex _ _ (fun _ _=>rfl) h
 |.ag vs,u,hb,h=>by
  simp only [V.fzw,V.d,C] at h ⊢
  obtain ⟨us,h1,h2⟩:=h
  exact ⟨us,h1,fzw_cs hk ex hX vs us (by simpa only [V.wnC] using hb) h2⟩
 |.ms j,u,_,h=>fz_c hk ex hX (.ms j) u h
 |.pa sz j i o,u,_,h=>fz_c hk ex hX (.pa sz j i o) u h
 |.bv j n,u,_,h=>fz_c hk ex hX (.bv j n) u h
 |.ptr j o,u,_,h=>fz_c hk ex hX (.ptr j o) u h
 |.tu vs,u,_,h=>fz_c hk ex hX (.tu vs) u h
 |.fn f vs,u,_,h=>fz_c hk ex hX (.fn f vs) u h
 |.ifc m x,u,_,h=>fz_c hk ex hX (.ifc m x) u h
 |.t y' x,u,_,h=>fz_c hk ex hX (.t y' x) u h
 |.c x,u,_,h=>fz_c hk ex hX (.c x) u h
 |.el y' x o,u,_,h=>fz_c hk ex hX (.el y' x o) u h
 |.ud,u,_,h=>fz_c hk ex hX .ud u h
 |.un,u,_,h=>fz_c hk ex hX .un u h
theorem fzw_cs {k:Nat}{y:Ty}{l:List y.T}{e:Nat}{b0:Bool}(hk:OAt X w σ k (.arr e y l))(ex:Ext X w X' w)(hX: ∀ u b,σ k= .arr u->u.ownBlock=some b→ ∀ q, ¬ X' b q): ∀ (vs:List V) (us:List Value),V.wnCs k (List.length l) vs b0=true->Cs X w σ (V.ds vs) us->Cs X' w σ (V.ds (V.fzws k y l vs)) us
 | [],us,_,h=>by simpa only [V.fzws,V.ds,Cs] using h
 |v::vs,us,hb,h=>by
  simp only [V.fzws,V.ds,Cs] at h ⊢
  obtain ⟨u,us',h1,h2,h3⟩:=h
  have hb:v.wnC k (List.length l) (V.wnCs k (List.length l) vs b0)=true:=by simpa only [V.wnCs] using hb
  exact ⟨u,us',h1,fzw_c hk ex hX v u hb h2,fzw_cs hk ex hX vs us' (V.wnC_b v hb) h3⟩
end
end
section
variable {P:Program}
end
end Go.Proofs.YtmokmalepelinaaGreatDoor.K
namespace Go.Proofs.YtmokmalepelinaaGreatDoor.K
open Go.RowKit
noncomputable section
-- loop 0: (x6 : Int) (x21 : (List ByteArray)) (x22 : Int) (x23 : Int) (y2 : Policy) (y20500 : (List Rule)) (y20501 : (List Keep)); out: ('ret',) (x3 : Int) (x4 : Int) (y2 : Policy) (y42 : (List Rule)) (y5042 : (List Keep)); ('exit', 0) (x6 : Int) (y2 : Policy) (y20500 : (List Rule)) (y20501 : (List Keep))
end
end Go.Proofs.YtmokmalepelinaaGreatDoor.K
namespace Go.Proofs.YtmokmalepelinaaGreatDoor.K
open Go.RowKit
noncomputable section
end
end Go.Proofs.YtmokmalepelinaaGreatDoor.K
namespace Go.Proofs.YtmokmalepelinaaGreatDoor.K
open Go.RowKit Go.Shelf
attribute [local go_sem ↓] Go.wp_at_zero Go.wp_at_succ
noncomputable section
set_option linter.unusedSectionVars false
abbrev eB:ByteArray:=ByteArray.mk #[]
theorem lentN0 {X:Nat->Nat->Prop}{w:World}{σ:Pl}:Lent X w σ []:=⟨fun j o hj=>by simp at hj,fun i j b _ hi=>by simp at hi⟩
theorem endsB0 {X X':Nat->Nat->Prop}{w w':World}{σ σ':Pl}{os:List VO}(h:Ends X w σ 0 X' w' σ' os):Below w.heap.size w w':=
 ⟨h.fr.os,h.fr.tape,h.fr.output,h.fr.size,fun b hb=>h.fr.keep b hb (by simp [lentB])⟩
abbrev F0:Nat->Nat->Prop:=fun _ _=>False
theorem scT_calls {f:FuncId}{E:Ent}{vs:List V}{r:V}{us:List Value}(hm:Meets Tryz.prog f (strip E))(hF:strip E vs []=some (r,[]))(w:World)(hT:TabI F0 w)(hc:Cs F0 w nowhere (V.ds vs) us)(hlt:f<1000000:=by decide):
  Calls Tryz.prog f us.toArray w fun en w'=> ∃ u X' σ',en= .returned u/\C X' w' σ' r.d u/\Below w.heap.size w w':=by
 refine (of_does hlt (hm _ _ _ _ hF F0 w nowhere us ⟨fun _ _ h=>h.elim,hT⟩ lentN0 hc)).mono ?_
 rintro en w' ⟨u,X',σ',rfl,h1,h2⟩
 exact ⟨u,X',σ',rfl,h1,endsB0 h2⟩
def TabB (b:Nat)(w:World):Prop:=b<=w.heap.size∧ ∀ g,tabG=some g->g<b∧ ∀ i:Nat,w.cell? ⟨g,i,none⟩=(tabZ[i]?).map (Value.int .u64)
theorem TabB.tab {b:Nat}{w:World}(h:TabB b w):TabI F0 w:=fun g hg=>⟨Nat.lt_of_lt_of_le (h.2 g hg).1 h.1,fun _ h=>h,(h.2 g hg).2⟩
theorem TabB.below {b:Nat}{w w':World}(h:TabB b w)(hb:Below b w w'):TabB b w':=⟨Nat.le_trans h.1 hb.size,fun g hg=>⟨(h.2 g hg).1,fun i=>by rw [World.cell?_of_block (w:=w) (a:=⟨g,i,none⟩) (hb.block g (h.2 g hg).1)];exact (h.2 g hg).2 i⟩⟩
theorem TabB.of {X:Nat->Nat->Prop}{w:World}(h:TabI X w):TabB w.heap.size w:=⟨Nat.le_refl _,fun g hg=>⟨(h g hg).1,(h g hg).2.2⟩⟩
theorem row_gen {X:Nat->Nat->Prop}{w:World}{y:Ty}{l:List y.T}{x:y.T}{k:Nat}{u:Value}(hC:C X w nowhere (.sl (List.length l) (l.flatMap y.cells)) u)(hx:l[k]? = some x):
  ∃ g off c vs,u= .slice (some ⟨g,off,none⟩) (List.length l) c/\g<w.heap.size/\Cs X w nowhere (y.cells x) vs∧ ∀ (j:Nat) v,vs[j]? = some v->w.cell? ⟨g,off+k*y.sz+j,none⟩=some v:=by
 have hk:k<List.length l:=(List.getElem?_eq_some_iff.1 hx).1
 simp only [C] at hC
 obtain ⟨A,c,rfl,_,_,_,h3⟩:=hC
 obtain ⟨g,off,vs,rfl,h4,h5⟩:=h3 (by omega)
 refine ⟨g,off,c,(vs.drop (k*y.sz)).take (1*y.sz),rfl,h5.lt, ?_,((h5.drop_ (k*y.sz)).take_ (1*y.sz)).at_⟩
 have h6:=(h4.drop_ (k*y.sz)).take_ (1*y.sz)
 rw [flat_drop,flat_take] at h6
 have:(l.drop k).take 1=[x]:=by
  rw [List.drop_eq_getElem_cons hk,List.take_succ_cons,List.take_zero, ← (List.getElem?_eq_some_iff.1 hx).2]
 rw [this] at h6
 simpa using h6
section
variable {P:Program}{ops:Array Oper}{Q:Exit->Act->World->Prop}{md:Region.Mode}{S:World->Prop}
theorem anyH_val (i d:Nat)(v:Value){fuel:Nat}{listed:Array Bool}{a:Act}{w:World}(hS:S w)(hi:ops[i]?.map (·.dst)=some (some d))(hs:Region.noSelect ops=true)(hf:Region.free md ops listed i=true)
  (hr:(Region.ready md ops listed).contains i=true) (hv: ∀ o,ops[i]? = some o->Region.wanted o (yielded ops a.tmps)=true∧ ∀ w,S w->(execOp a.eval o).run P w= .ok (.value v) w)
  (hQ: ∀ c k v (a:Act) w,Q (.panic c) (a.put (some k) v) w->Q (.panic c) a w) (h:wpAnyH P md ops Q S fuel (listed.setIfInBounds i true) ⟨a.tmps.setIfInBounds d v,a.defers⟩ w):
  wpAnyH P md ops Q S (fuel+1) listed a w:=by
 cases ho:ops[i]? with
 |none=>rw [ho] at hi;cases hi
 |some o=>
  have hv:=hv o ho
  rw [ho] at hi
  simp only [Option.map_some,Option.some.injEq] at hi
  refine wpAnyH_take ho hs hf hr (fun c a w=>by rw [hi];exact hQ c d v a w) (.inl hv) hS ?_
  rw [hi]
  exact h
end
end
end Go.Proofs.YtmokmalepelinaaGreatDoor.K
namespace Go.Proofs.YtmokmalepelinaaGreatDoor.K
open Go.RowKit Go.Shelf Go.Region
attribute [local go_sem ↓] Go.wp_at_zero Go.wp_at_succ
noncomputable section
set_option linter.unusedSectionVars false
theorem c_below {X0:Nat->Nat->Prop}{w0 w:World}{d:D}{u:Value}(h:C X0 w0 nowhere d u)(hb:Below w0.heap.size w0 w)(hr:d.refs=[]):C X0 w nowhere d u:=
 C.ext0 ⟨hb.size,fun g o hg hx=>⟨hx,World.cell?_of_block (hb.block g hg)⟩⟩ d u (by rw [hr];simp) h
theorem sl_val {X:Nat->Nat->Prop}{w:World}{n:Nat}{cs:List D}{u:Value}(h:C X w nowhere (.sl n cs) u): ∃ A c,u= .slice A n c:=by
 simp only [C] at h
 obtain ⟨A,c,rfl,_⟩:=h
 exact ⟨A,c,rfl⟩
end
end Go.Proofs.YtmokmalepelinaaGreatDoor.K
namespace Go.Proofs.YtmokmalepelinaaGreatDoor.K
open Go.RowKit Go.Sort Go.Lib
theorem flatK_eq {α:Type}[Inhabited α]{enc:α->List Value}{k:Nat}(hk: ∀ x,(enc x).length=k)(d:Array α):flatK enc k d=(d.toList.flatMap enc).toArray:=by
 have hlen: ∀ l:List α,(l.flatMap enc).length=l.length*k:=fun l=>by
  induction l with
  |nil=>simp
  |cons x l ih=>rw [List.flatMap_cons,List.length_append,ih,hk,List.length_cons,Nat.add_mul,Nat.one_mul,Nat.add_comm]
 have hget: ∀ (l:List α) (t:Nat),t<l.length*k->(l.flatMap enc)[t]! = (enc (l.toArray[t / k]!))[t % k]! :=fun l=>by
  induction l with
  |nil=>intro t ht;simp at ht
  |cons x l ih=>
   intro t ht
   have k0:0<k:=by
    rcases Nat.eq_zero_or_pos k with h|h
    ·subst h;simp at ht
    ·exact h
   rw [List.flatMap_cons]
   by_cases h1:t<k
   ·rw [Nat.div_eq_of_lt h1,Nat.mod_eq_of_lt h1]
    have e1:(x::l).toArray[0]! = x:=by simp
    rw [e1]
    have:t<(enc x).length:=by rw [hk];exact h1
    simp [List.getElem!_eq_getElem?_getD,List.getElem?_append_left this]
   ·have h2:t-k<l.length*k:=by
     rw [List.length_cons,Nat.add_mul,Nat.one_mul] at ht
     omega
    obtain ⟨s,rfl⟩: ∃ s,t=k+s:=⟨t-k,by omega⟩
    rw [Nat.add_sub_cancel_left] at h2
    have e1:(k+s) / k=s / k+1:=by rw [Nat.add_comm,Nat.add_div_right _ k0]
    have e2:(k+s) % k=s % k:=by rw [Nat.add_comm,Nat.add_mod_right]
    have e3:(x::l).toArray[s / k+1]! = l.toArray[s / k]! :=by simp
    have e4:(enc x++List.flatMap enc l)[k+s]! = (List.flatMap enc l)[s]! :=by
     rw [List.getElem!_eq_getElem?_getD,List.getElem!_eq_getElem?_getD,List.getElem?_append_right (by rw [hk];omega),hk,Nat.add_sub_cancel_left]
    rw [e1,e2,e3,e4,ih s h2]
 refine ext_get! (by simp [hlen]) fun t ht=> ?_
 have ht':t<d.size*k:=by simpa using ht
 rw [get_flatK _ _ _ t ht']
 have:=hget d.toList t (by simpa using ht')
 rw [Array.toArray_toList] at this
 rw [←this]
 simp
section
variable {α:Type}[Inhabited α]{enc:α->List Value}{k:Nat}
theorem setMany_one (hk: ∀ x,(enc x).length=k)(d:Array α)(i:Nat)(hi:i<d.size)(x:α):setMany (flatK enc k d) (i*k) (enc x)=flatK enc k (d.setIfInBounds i x):=by
 refine ext_get! (by simp) fun t ht=> ?_
 have ht':t<d.size*k:=by simpa using ht
 have k0:0<k:=by
  rcases Nat.eq_zero_or_pos k with h|h
  ·subst h;simp at ht'
  ·exact h
 rw [get_setMany _ _ _ t (by simpa using ht'),get_flatK _ _ _ t ht',get_flatK _ _ _ t (by simpa using ht'),hk]
 by_cases a:t / k=i
 ·rw [if_pos ((blk_iff k i t k0).2 a),a,getElem!_set_same d i x hi]
  congr 1
  subst a
  rw [Nat.mod_eq_sub_div_mul]
 ·rw [if_neg (fun h=>a ((blk_iff k i t k0).1 h)),getElem!_set_other d i (t / k) x a]
omit [Inhabited α] in
theorem row_bound {d:Array α}{i:Nat}(hi:i<d.size):i*k+k<=d.size*k:=by
 have:=Nat.mul_le_mul_right k (show i+1<=d.size from hi)
 rwa [Nat.add_mul,Nat.one_mul] at this
theorem put_one (hk: ∀ x,(enc x).length=k){w wr:World}{n blk i:Nat}{dk:Array α}(hi:i<dk.size)(hwr:wr=putRowK enc k (Sort.ahead w n) blk 0 dk)(x:α):
  (wr.setCells blk (i*k) (enc x)).drew=putRowK enc k (Sort.ahead w (n+1)) blk 0 (dk.setIfInBounds i x):=by
 subst hwr
 have h:=setCells_putRow (Sort.ahead w n) blk 0 (enc x) (i*k) (flatK enc k dk) (by rw [hk,size_flatK];exact row_bound hi)
 rw [Nat.zero_add,setMany_one hk dk i hi] at h
 show ((putRow id (Sort.ahead w n) blk 0 (flatK enc k dk)).setCells blk (i*k) (enc x)).drew=_
 rw [h]
 rfl
theorem run_clearK {P:Program}(w:World)(t e ty:TypeId)(z:Value)(ht:P.underlying t=some (.slice e))(hv: ∀ w,(zeroValue e).run P w= .ok z w)(b o n c m:Nat)(hm:(Builtin.zeroCells z.cells n).toList.length<=m)(h1: ∀ v∈(Builtin.zeroCells z.cells n).toList,v.oneCell'=true)(hn:0<n)
  (hc: ∀ j,j<m->(w.cell? ⟨b,o+j,none⟩).isSome=true) (hf: ∀ j,j<m->w.frozen? ⟨b,o+j,none⟩=false):
  (Builtin.clear_ #[t] ty #[.slice (some ⟨b,o,none⟩) n c]).run P w= .ok (.tuple #[]) (w.setCells b o (Builtin.zeroCells z.cells n).toList):=by
 have hst:=run_storeCells_cells (P:=P) b o (Builtin.zeroCells z.cells n).toList 0 w (fun j hj=>hc j (by omega)) (fun j hj=>hf j (by omega)) h1
 simp only [Nat.add_zero] at hst
 obtain ⟨q,rfl⟩: ∃ q,n=q+1:=⟨n-1,by omega⟩
 simp [Builtin.clear_,run_underlying ht,hv,hst]
structure CpRow (enc:α->List Value) (k:Nat) (w w':World) (g:Nat) (l:List α):Prop where
 grown:w.grownBy w' (some g)
 cell: ∀ j,j<l.length*k->w'.cell? ⟨g,j,none⟩=(l.flatMap enc)[j]?
theorem cp_cell (hk: ∀ x,(enc x).length=k){w:World}{g:Nat}{dk:Array α}{c:List α}(h:HoldsK enc k w g 0 dk)(hl:c.length<=dk.size)(hc: ∀ i,i<c.length->c[i]? = some dk[i]!): ∀ j,j<c.length*k->w.cell? ⟨g,j,none⟩=(c.flatMap enc)[j]? :=by
 intro j hj
 have k0:0<k:=by
  rcases Nat.eq_zero_or_pos k with h|h
  ·subst h;simp at hj
  ·exact h
 have hj2:j<dk.size*k:=Nat.lt_of_lt_of_le hj (Nat.mul_le_mul_right k hl)
 have h1:=(h j (by rw [size_flatK];exact hj2)).1
 rw [Nat.zero_add] at h1
 rw [h1]
 have e1:(c.flatMap enc)[j]? = (flatK enc k c.toArray)[j]? :=by
  rw [flatK_eq hk]
  simp
 have h2:j<(flatK enc k c.toArray).size:=by rw [size_flatK];simpa using hj
 rw [e1,Array.getElem?_eq_getElem h2, ← getElem!_pos (flatK enc k c.toArray) j h2,get_flatK _ _ _ _ hj2,get_flatK _ _ _ _ (by simpa using hj)]
 have hi:j / k<c.length:=Nat.div_lt_of_lt_mul (by rw [Nat.mul_comm];exact hj)
 have h3:=hc (j / k) hi
 have e2:c.toArray[j / k]! = dk[j / k]! :=by
  rw [List.getElem?_eq_getElem hi,Option.some.injEq] at h3
  rw [getElem!_pos c.toArray (j / k) (by simpa using hi)]
  simpa using h3
 rw [e2]
 rfl
theorem cp_same [DecidableEq α](hk: ∀ x,(enc x).length=k){w:World}{g:Nat}{d:Array α}(h:HoldsK enc k w g 0 d)(q:Nat)(hall: ∀ j,j<d.size->Lib.keeps d j=true):(compactUpTo d d.size).length=d.size/\CpRow enc k w (w.drewN q) g (compactUpTo d d.size):=by
 have e:compactUpTo d d.size=d.toList:=by rw [compactUpTo_all d _ hall,range_map_get]
 rw [e]
 refine ⟨by simp,⟨⟨rfl,rfl,rfl,Nat.le_refl _,fun _ _ _=>rfl⟩, ?_⟩⟩
 exact cp_cell hk (w:=w.drewN q) (dk:=d) h (by simp) fun i hi=>by
  have hi:i<d.size:=by simpa using hi
  rw [getElem!_pos d i hi]
  simp [hi]
theorem cp_end [DecidableEq α](hk: ∀ x,(enc x).length=k){w wr:World}{g q kk:Nat}{d dk:Array α}(h:HoldsK enc k w g 0 d)(hwr:wr=putRowK enc k (Sort.ahead w q) g 0 dk)(hI:CompInv d d.size kk dk)(vs:List Value):CpRow enc k w (wr.setCells g (kk*k) vs) g (compactUpTo d d.size):=by
 have hds:=hI.size
 have hlt:=hI.lt
 have hH:HoldsK enc k wr g 0 dk:=by
  rw [hwr]
  exact holdsK_putRowK enc k _ g 0 d dk (holdsK_ahead enc k w q g 0 d h) hds
 have hgr:w.grownBy wr (some g):=by
  rw [hwr]
  refine ⟨rfl,rfl,rfl,by simp [putRowK,putRow,mapBlock,Sort.ahead],fun b hb hne=> ?_⟩
  have hne:g≠b:=fun e=>hne (by rw [e])
  simp [putRowK,putRow,mapBlock,Sort.ahead,Array.getElem?_modify,hne]
 refine ⟨⟨?_, ?_, ?_, ?_,fun b hb hne=> ?_⟩,fun j hj=> ?_⟩
 ·exact (setCells_fr g vs (kk*k) wr).os.trans hgr.os
 ·exact (setCells_fr g vs (kk*k) wr).tape.trans hgr.tape
 ·exact (setCells_fr g vs (kk*k) wr).output.trans hgr.output
 ·rw [setCells_size]
  exact hgr.size
 ·rw [setCells_heap g vs (kk*k) wr b (fun e=>hne (by rw [e]))]
  exact hgr.block b hb hne
 ·have hl:(compactUpTo d d.size).length=kk:=hI.len
  rw [World.cell?_setCells_out g vs (kk*k) wr ⟨g,j,none⟩ (fun _ _=> .inl (by show j<kk*k;rw [←hl];exact hj))]
  exact cp_cell hk hH (by omega) (fun i hi=>hI.low i (by omega)) j hj
end
end Go.Proofs.YtmokmalepelinaaGreatDoor.K
namespace Go.Proofs.YtmokmalepelinaaGreatDoor.K
open Go.RowKit Go.Sort Go.Shelf
structure EncY (y:Ty) (enc:y.T->List Value):Prop where
 cells: ∀ x,y.cells x=(enc x).map D.v
 one: ∀ x, ∀ v∈enc x,v.oneCell'=true
 len: ∀ x,(enc x).length=y.sz
theorem plain_run {X:Nat->Nat->Prop}{w:World}{σ:Pl}: ∀ (xs vs:List Value),Cs X w σ (xs.map D.v) vs->vs=xs
 | [],vs,h=>by simpa [Cs] using h
 |x::xs,vs,h=>by
  simp only [List.map_cons,Cs] at h
  obtain ⟨u,us,rfl,h1,h2⟩:=h
  rw [(C.v h1).1,plain_run xs us h2]
theorem EncY.flat {y:Ty}{enc:y.T->List Value}(h:EncY y enc)(l:List y.T):l.flatMap y.cells=(l.flatMap enc).map D.v:=by
 induction l with
 |nil=>rfl
 |cons x l ih=>rw [List.flatMap_cons,List.flatMap_cons,List.map_append,h.cells,ih]
theorem EncY.flen {y:Ty}{enc:y.T->List Value}(h:EncY y enc)(l:List y.T):(l.flatMap enc).length=l.length*y.sz:=by
 have:=flat_len y l
 rw [h.flat,List.length_map] at this
 exact this
theorem EncY.fone {y:Ty}{enc:y.T->List Value}(h:EncY y enc)(l:List y.T): ∀ v∈l.flatMap enc,v.oneCell'=true:=fun v hv=>by
 obtain ⟨x,_,h2⟩:=List.mem_flatMap.1 hv
 exact h.one x v h2
theorem EncY.cs {X:Nat->Nat->Prop}{w:World}{σ:Pl}{y:Ty}{enc:y.T->List Value}(h:EncY y enc)(l:List y.T):Cs X w σ (l.flatMap y.cells) (l.flatMap enc):=by
 rw [h.flat]
 exact Cs.plain (h.fone l)
theorem holds_blk {w:World}{g:Nat}{cur:Array Value}{e:TypeId}{vs:List Value}(hb:w.heap[g]? = some (.cells cur e (0,0)))(ht:cur.toList.take vs.length=vs):Holds id w g 0 vs.toArray:=by
 intro j hj
 have hj':j<vs.length:=by simpa using hj
 refine ⟨?_,by simp [World.frozen?, hb]⟩
 have h1:(cur.toList.take vs.length)[j]? = vs[j]? :=by rw [ht]
 rw [List.getElem?_take_of_lt hj'] at h1
 simp only [World.cell?, hb,Nat.zero_add]
 simp only [Option.isSome_none,Bool.false_eq_true,if_false]
 rw [←Array.getElem?_toList,h1]
 simp [hj']
theorem heap_put {w:World}{g n:Nat}{os:Array Obj}{cur:Array Value}{e:TypeId}{fr:Nat×Nat}(d:Array Value)(hb:w.heap[g]? = some (.cells cur e fr)):
  (grow (putRow id (Sort.ahead w n) g 0 d) os).heap[g]? = some (.cells (putCells id 0 d cur) e fr):=by
 have hg:g<w.heap.size:=(Array.getElem?_eq_some_iff.1 hb).1
 rw [heap_grow_old _ _ (by simpa using hg)]
 simp [putRow,mapBlock,Sort.ahead,Array.getElem?_modify,hb,onCells]
theorem grownBy_put {w:World}{g n:Nat}{os:Array Obj}(d:Array Value):w.grownBy (grow (putRow id (Sort.ahead w n) g 0 d) os) (some g):=by
 refine ⟨rfl,rfl,rfl,by simp,fun k hk hne=> ?_⟩
 rw [heap_grow_old _ _ (by simpa using hk)]
 have:g≠k:=fun e=>hne (by rw [e])
 simp [putRow,mapBlock,Sort.ahead,Array.getElem?_modify,this]
theorem take_put (cur:Array Value)(ts:List Value)(h:ts.length<=cur.size):(putCells id 0 ts.toArray cur).toList.take ts.length=ts:=by
 apply List.ext_getElem?
 intro j
 by_cases hj:j<ts.length
 ·rw [List.getElem?_take_of_lt hj,Array.getElem?_toList]
  simp [putCells,hj,show j<cur.size by omega]
 ·rw [List.getElem?_take_eq_none (by omega),List.getElem?_eq_none (by omega)]
theorem ownsRow_put {w:World}{base g cap n k m:Nat}{e:TypeId}{os:Array Obj}{cur:Array Value}{ts:List Value}(hl:ts.length=m*k)(hbase:base<=g)(hb:w.heap[g]? = some (.cells cur e (0,0)))
  (h1:m<=cap) (h2:cap<=maxLen) (h3:cur.size=cap*k):
  (grow (putRow id (Sort.ahead w n) g 0 ts.toArray) os).ownsRow base e k (.slice (some ⟨g,0,none⟩) m cap) m ts:=
 ⟨hl,.inr ⟨g,cap,_,rfl,hbase,heap_put _ hb,h1,h2,by simp [putCells,h3],by rw [←hl];exact take_put cur ts (by rw [hl,h3];exact Nat.mul_le_mul_right _ h1)⟩⟩
section
variable {P:Program}
theorem own_argK {X:Nat->Nat->Prop}{w:World}{σ:Pl}{e:Nat}{y:Ty}{enc:y.T->List Value}{l:List y.T}(hE:EncY y enc)(hl:Lent X w σ [.arr e y l])(he:e<1000000):
  ∃ u,σ 50000= .arr u/\w.ownsRow 0 e y.sz u l.length (l.flatMap enc)∧ ∀ b,u.ownBlock=some b→ ∀ o,X b o:=by
 obtain ⟨⟨u,xs,h1,h2,h3,h4,h5⟩,_⟩:=hl.at_ 0 _ rfl
 rw [hE.flat] at h3
 have:=plain_run _ _ h3
 subst this
 exact ⟨u,h1,h2.own he,h5⟩
def srtF {α:Type}(cf:α->α->Int)(l:List α):List α:=l.mergeSort fun x y=> !decide (cf y x<0)
def srtOk {α:Type}(ok:α->Bool)(l:List α):Bool:=lenOk l&&l.all ok
theorem meets_sortK {f g:FuncId}{e k:Nat}{y:Ty}{enc:y.T->List Value}{ok:y.T->Bool}[Inhabited {x:y.T // ok x=true}]{cf:y.T->y.T->Int}(hlt:f<1000000)(hE:EncY y enc)(hk:y.sz=k)
  (hs: ∀ (blk cap:Nat) (d:Array {x:y.T // ok x=true}) (w:World),HoldsK (fun x=>enc x.1) k w blk 0 d->blk<w.heap.size->d.size<4611686018427387904→
   Calls P f #[.slice (some ⟨blk,0,none⟩) d.size cap,.func (.func g) #[] #[]] w fun e w'=>e= .returned (.tuple #[])∧ ∃ n os,w'=sortWorldK (fun x=>enc x.1) k w blk 0 n (d.toList.mergeSort fun q r=> !(ltOf fun a b:{x:y.T // ok x=true}=>cf a.1 b.1) r q).toArray os)
  (h0: ∀ (p:Option Addr) (cap:Nat) (w:World),Calls P f #[.slice p 0 cap,.func (.func g) #[] #[]] w fun e w'=>e= .returned (.tuple #[])/\w'=w) (he:e<1000000:=by decide):
  Meets P f (strip (specS [.ms 50000,.cf g] [.arr e y] (fun _ y=>srtOk ok y.1) (fun _ _=> .tu []) (fun _ z=>[.arr e y (srtF cf z.1)]))):=by
 refine meets_S fun x z hok X w σ vs hfin hl hc=> ?_
 obtain ⟨l,u0⟩:=z
 obtain ⟨u,h1,h2,h3⟩:=own_argK hE hl he
 simp only [mkVt,SV.mk,V.ds,V.d,Cs,C] at hc
 obtain ⟨u',us,rfl,⟨g1,_⟩,u2,us2,rfl,⟨rfl,_⟩,rfl⟩:=hc
 rw [h1] at g1
 injection g1 with g1
 subst g1
 obtain ⟨hok,hall⟩:=Bool.and_eq_true_iff.1 (show (lenOk l&&l.all ok)=true from hok)
 have hok:l.length<4611686018427387904:=of_decide_eq_true hok
 have hall:=List.all_eq_true.1 hall
 have htu: ∀ (w':World),C X w' σ (V.tu []).d (.tuple #[]):=fun w'=>by
  simp only [V.d,V.ds,C,Cs]
  exact ⟨[],rfl,rfl⟩
 have hlen:(srtF cf l).length=l.length:=List.length_mergeSort _
 refine does_of hlt ?_
 have none_case: ∀ (p:Option Addr) cap,l=[]->u= .slice p 0 cap->Calls P f [u,.func (.func g) #[] #[]].toArray w fun e' w'=> ∃ u X' σ',e'= .returned u/\C X' w' σ' (V.tu []).d u/\Ends X w σ (mkOt [.arr e y] (l,u0)).length X' w' σ' [.arr e y (srtF cf l)]:=by
  intro p cap hl0 hu
  subst hl0 hu
  refine (h0 p cap w).mono ?_
  rintro _ _ ⟨rfl,rfl⟩
  refine ⟨_,X,σ,rfl,htu _,ends_put (row:=none) hfin ?_ ⟨rfl,rfl,rfl,Nat.le_refl _,fun _ _ _=>rfl⟩ (.inl rfl)⟩
  have h9:=(hl.at_ 0 _ rfl).1
  have e0:srtF cf []=[]:=by simp [srtF]
  rw [e0]
  exact h9
 rcases h2.2 with ⟨q1,q2⟩|⟨g',cap,cur,rfl,q2,q3,q4,q5,q6,q7⟩
 ·exact none_case none 0 (List.eq_nil_of_length_eq_zero q2) q1
 ·by_cases hz:l=[]
  ·exact none_case _ _ hz (by subst hz;rfl)
  ·have hfl:=hE.flen l
   have ht:cur.toList.take (l.flatMap enc).length=l.flatMap enc:=by rw [hfl];exact q7
   have hb:g'<w.heap.size:=(Array.getElem?_eq_some_iff.1 q3).1
   let d:List {x:y.T // ok x=true}:=l.attachWith (fun x=>ok x=true) hall
   have dv:d.map Subtype.val=l:=List.attachWith_map_subtype_val hall
   have dl:d.length=l.length:=List.length_attachWith
   have hfk: ∀ d:List {x:y.T // ok x=true},(d.flatMap fun x=>enc x.1)=(d.map Subtype.val).flatMap enc:=fun d=>by rw [List.flatMap_map]
   have hk': ∀ x:{x:y.T // ok x=true},(enc x.1).length=k:=fun x=>(hE.len x.1).trans hk
   have hh:HoldsK (fun x:{x:y.T // ok x=true}=>enc x.1) k w g' 0 d.toArray:=by
    unfold HoldsK
    rw [flatK_eq (enc:=fun x:{x:y.T // ok x=true}=>enc x.1) hk',List.toList_toArray,hfk,dv]
    exact holds_blk q3 ht
   have hc1:=hs g' cap d.toArray w hh hb (by rw [List.size_toArray,dl];exact hok)
   rw [List.size_toArray,dl] at hc1
   refine hc1.mono ?_
   rintro _ _ ⟨rfl,n,os,rfl⟩
   have e1:(d.toArray.toList.mergeSort fun q r=> !(ltOf fun a b:{x:y.T // ok x=true}=>cf a.1 b.1) r q).map Subtype.val=srtF cf l:=by
    show (d.toArray.toList.mergeSort fun q r:{x:y.T // ok x=true}=> !decide (cf r.1 q.1<0)).map Subtype.val=l.mergeSort fun x y=> !decide (cf y x<0)
    rw [List.map_mergeSort (r:=fun q r:{x:y.T // ok x=true}=> !decide (cf r.1 q.1<0)) (s:=fun x y=> !decide (cf y x<0)) (fun a _ b _=>rfl),List.toList_toArray,dv]
   have e2:sortWorldK (fun x:{x:y.T // ok x=true}=>enc x.1) k w g' 0 n (d.toArray.toList.mergeSort fun q r=> !(ltOf fun a b:{x:y.T // ok x=true}=>cf a.1 b.1) r q).toArray os=grow (putRow id (Sort.ahead w n) g' 0 ((srtF cf l).flatMap enc).toArray) os:=by
    unfold sortWorldK putRowK
    rw [flatK_eq (enc:=fun x:{x:y.T // ok x=true}=>enc x.1) hk',List.toList_toArray,hfk,e1]
   rw [e2]
   refine ⟨_,X,σ,rfl,htu _,ends_put (row:=some g') hfin ?_ (grownBy_put _) (.inr (by rw [h1];rfl))⟩
   have hown:=ownsRow_put (n:=n) (os:=os) (k:=y.sz) (m:=l.length) (ts:=(srtF cf l).flatMap enc) (by rw [hE.flen,hlen]) (Nat.zero_le g') q3 q4 q5 q6
   exact ⟨_,(srtF cf l).flatMap enc,h1,by rw [hlen];exact .of hown,hE.cs _,hE.fone _,h3⟩
theorem meets_compactK {f:FuncId}{e k:Nat}{y:Ty}{enc:y.T->List Value}[Inhabited y.T][DecidableEq y.T](hlt:f<1000000)(hE:EncY y enc)(hk:y.sz=k)
  (hs: ∀ (g cap:Nat) (d:Array y.T) (w:World),HoldsK enc k w g 0 d->g<w.heap.size->d.size<4611686018427387904->d.size<=cap→
   Calls P f #[.slice (some ⟨g,0,none⟩) d.size cap] w fun e w'=>e= .returned (.slice (some ⟨g,0,none⟩) (Lib.compactUpTo d d.size).length cap)/\CpRow enc k w w' g (Lib.compactUpTo d d.size))
  (h0: ∀ (a:Option Addr) (cap:Nat) (w:World),Calls P f #[.slice a 0 cap] w fun e w'=>e= .returned (.slice a 0 cap)/\w'=w) (he:e<1000000:=by decide):
  Meets P f (strip (specS [.ms 50000] [.arr e y] (fun _ y=>lenOk y.1) (fun _ z=> .t (.sl y) (Lib.compact z.1)) (fun _ _=>[.no]))):=by
 refine meets_S fun x z hok X w σ vs hfin hl hc=> ?_
 obtain ⟨l,u0⟩:=z
 obtain ⟨u,h1,h2,h3⟩:=own_argK hE hl he
 simp only [mkVt,SV.mk,V.ds,V.d,Cs,C] at hc
 obtain ⟨u',us,rfl,⟨g1,_⟩,rfl⟩:=hc
 rw [h1] at g1
 injection g1 with g1
 subst g1
 have hok:l.length<4611686018427387904:=of_decide_eq_true hok
 have hmx:maxLen=9223372036854775807:=rfl
 have hle:(Lib.compact l).length<=l.length:=by
  unfold Lib.compact Lib.compactUpTo
  rw [List.length_map]
  exact Nat.le_trans (List.length_filter_le _ _) (by simp)
 refine does_of hlt ?_
 have none_case: ∀ (p:Option Addr) cap,cap<=maxLen->l=[]->u= .slice p 0 cap->Calls P f [u].toArray w fun e' w'=> ∃ u X' σ',e'= .returned u/\C X' w' σ' (V.t (.sl y) (Lib.compact l)).d u/\Ends X w σ (mkOt [.arr e y] (l,u0)).length X' w' σ' [.no]:=by
  intro p cap hcap hl0 hu
  subst hl0 hu
  refine (h0 p cap w).mono ?_
  rintro _ _ ⟨rfl,rfl⟩
  refine ⟨_,_,σ,rfl, ?_,ends_used (row:=none) hfin ⟨rfl,rfl,rfl,Nat.le_refl _,fun _ _ _=>rfl⟩ (.inl rfl)⟩
  simp only [V.d,Ty.d,C]
  exact ⟨p,cap,rfl,Nat.zero_le _,hcap,fun _=>rfl,fun h=>absurd (show 0<([]:List y.T).length from h) (by simp)⟩
 rcases h2.2 with ⟨q1,q2⟩|⟨g',cap,cur,rfl,q2,q3,q4,q5,q6,q7⟩
 ·exact none_case none 0 (Nat.zero_le _) (List.eq_nil_of_length_eq_zero q2) q1
 ·by_cases hz:l=[]
  ·exact none_case _ _ q5 hz (by subst hz;rfl)
  ·have hfl:=hE.flen l
   have ht:cur.toList.take (l.flatMap enc).length=l.flatMap enc:=by rw [hfl];exact q7
   have hb:g'<w.heap.size:=(Array.getElem?_eq_some_iff.1 q3).1
   have hk': ∀ x:y.T,(enc x).length=k:=fun x=>(hE.len x).trans hk
   have hh:HoldsK enc k w g' 0 l.toArray:=by
    unfold HoldsK
    rw [flatK_eq (enc:=enc) hk',List.toList_toArray]
    exact holds_blk q3 ht
   have hc1:=hs g' cap l.toArray w hh hb (by rw [List.size_toArray];exact hok) (by rw [List.size_toArray];exact q4)
   rw [List.size_toArray] at hc1
   refine hc1.mono ?_
   rintro _ w' ⟨rfl,hcp⟩
   have ec:Lib.compactUpTo l.toArray l.length=Lib.compact l:=rfl
   rw [ec] at hcp ⊢
   have hbk:(σ 50000).blk=some g':=by rw [h1];rfl
   have q4':l.length<=cap:=q4
   refine ⟨_,_,σ,rfl, ?_,ends_used (row:=some g') hfin hcp.grown (.inr hbk.symm)⟩
   simp only [V.d,Ty.d,C]
   refine ⟨some ⟨g',0,none⟩,cap,rfl,by omega,q5,fun h=>by rw [List.eq_nil_of_length_eq_zero h];rfl,fun _=>⟨g',0,(Lib.compact l).flatMap enc,rfl,hE.cs _,Nat.lt_of_lt_of_le hb hcp.grown.size,fun j _ hx=>hx.2 hbk,fun j v hj=> ?_,hE.fone _⟩⟩
   have hjl:=(List.getElem?_eq_some_iff.1 hj).1
   rw [hE.flen,hk] at hjl
   rw [Nat.zero_add,hcp.cell j hjl,hj]
end
end Go.Proofs.YtmokmalepelinaaGreatDoor.K
namespace Go.Proofs.YtmokmalepelinaaGreatDoor.K
open Go.RowKit Go.Sort Go.Lib
structure LC {α:Type} (c:α->α->Int):Prop where
 flip: ∀ x y,c x y<0↔0<c y x
 tr: ∀ x y z,c x y<=0->c y z<=0->c x z<=0
theorem LC.neg {α:Type}{c:α->α->Int}(h:LC c){x y z:α}(h1:c x y<=0)(h2:c y z<=0)(h3:c x y<0∨c y z<0):c x z<0:=by
 have h4:=h.tr _ _ _ h1 h2
 by_cases e:c x z=0
 ·have h5:c z x<=0:=by
   have:=h.flip x z
   have:=h.flip z x
   omega
  rcases h3 with h3|h3
  ·have h6:=h.tr _ _ _ h2 h5
   have:=h.flip x y
   omega
  ·have h6:=h.tr _ _ _ h5 h1
   have:=h.flip y z
   omega
 ·omega
def lexC {α:Type}(c d:α->α->Int)(x y:α):Int:=if c x y=0 then d x y else c x y
theorem LC.lex {α:Type}{c d:α->α->Int}(h:LC c)(k:LC d):LC (lexC c d) where
 flip x y:=by
  have h1:=h.flip x y
  have h2:=h.flip y x
  have h3:=k.flip x y
  unfold lexC
  split<;>split<;>omega
 tr x y z h1 h2:=by
  have hn:= @LC.neg _ _ h x y z
  have ht:=h.tr x y z
  have kt:=k.tr x y z
  unfold lexC at h1 h2 ⊢
  split at h1<;>split at h2<;>split<;>omega
theorem LC.key {α β:Type}{c:β->β->Int}(h:LC c)(f:α->β):LC (fun x y=>c (f x) (f y)):=⟨fun _ _=>h.flip _ _,fun _ _ _=>h.tr _ _ _⟩
theorem LC.int:LC Lib.compareInt where
 flip x y:=by unfold compareInt;split<;>split<;>(try split)<;>(try split)<;>omega
 tr x y z h1 h2:=by
  unfold compareInt at*
  split at h1<;>split at h2<;>split<;>(try split at h1)<;>(try split at h2)<;>(try split)<;>omega
theorem bytes_flip: ∀ x y:List UInt8,compareBytes x y= - compareBytes y x
 | [],[]=>rfl
 | [],_::_=>rfl
 |_::_,[]=>rfl
 |a::av,b::bv=>by
  simp only [compareBytes]
  by_cases h1:a<b
  ·have h2: ¬ b<a:=by simp only [UInt8.lt_iff_toNat_lt] at *; omega
   rw [if_pos h1,if_neg h2,if_pos h1]
  ·by_cases h2:b<a
   ·rw [if_neg h1,if_pos h2,if_pos h2]
    rfl
   ·rw [if_neg h1,if_neg h2,if_neg h2,if_neg h1,bytes_flip av bv]
theorem bytes_tr: ∀ x y z:List UInt8,compareBytes x y<=0->compareBytes y z<=0->compareBytes x z<=0
 | [],_,[],_,_=>by simp [compareBytes]
 | [],_,_::_,_,_=>by simp [compareBytes]
 |_::_,[],_,h,_=>by simp [compareBytes] at h
 |_::_,_::_,[],_,h=>by simp [compareBytes] at h
 |a::av,b::bv,c::cv,h1,h2=>by
  simp only [compareBytes] at h1 h2 ⊢
  have ht:=bytes_tr av bv cv
  simp only [UInt8.lt_iff_toNat_lt] at*
  by_cases l1:a.toNat<b.toNat
  ·by_cases l2:b.toNat<c.toNat
   ·rw [if_pos (by omega)];omega
   ·rw [if_neg l2] at h2
    by_cases l3:c.toNat<b.toNat
    ·rw [if_pos l3] at h2;omega
    ·rw [if_pos (by omega)];omega
  ·rw [if_neg l1] at h1
   by_cases l4:b.toNat<a.toNat
   ·rw [if_pos l4] at h1;omega
   ·rw [if_neg l4] at h1
    by_cases l2:b.toNat<c.toNat
    ·rw [if_pos (by omega)];omega
    ·rw [if_neg l2] at h2
     by_cases l3:c.toNat<b.toNat
     ·rw [if_pos l3] at h2;omega
     ·rw [if_neg l3] at h2
      rw [if_neg (by omega),if_neg (by omega)]
      exact ht h1 h2
theorem bytes_zero: ∀ x y:List UInt8,compareBytes x y=0->x=y
 | [],[],_=>rfl
 | [],_::_,h=>by simp [compareBytes] at h
 |_::_,[],h=>by simp [compareBytes] at h
 |a::av,b::bv,h=>by
  simp only [compareBytes] at h
  by_cases h1:a<b
  ·rw [if_pos h1] at h;omega
  ·by_cases h2:b<a
   ·rw [if_neg h1,if_pos h2] at h;omega
   ·rw [if_neg h1,if_neg h2] at h
    have:a=b:=by
     simp only [UInt8.lt_iff_toNat_lt] at h1 h2
     exact UInt8.toNat_inj.1 (by omega)
    rw [this,bytes_zero av bv h]
theorem LC.bytes:LC (fun a b:ByteArray=>compareBytes a.data.toList b.data.toList) where
 flip x y:=by
  have:=bytes_flip x.data.toList y.data.toList
  omega
 tr x y z:=bytes_tr _ _ _
theorem LC.swo {α:Type}{c:α->α->Int}(h:LC c):SWO (fun x y=>decide (c x y<0)) where
 irrefl x:=by
  have:=h.flip x x
  simp only [decide_eq_false_iff_not]
  omega
 trans x y z h1 h2:=by
  simp only [decide_eq_true_eq] at*
  exact h.neg (by omega) (by omega) (.inl h1)
 ntrans x y z h1 h2:=by
  simp only [decide_eq_false_iff_not] at*
  have a:=h.flip y x
  have b:=h.flip z y
  have c1:=h.flip x y
  have c2:=h.flip y z
  have d:=h.tr z y x (by omega) (by omega)
  have:=h.flip x z
  omega
section
variable {α:Type}{c:α->α->Int}
theorem LC.self (h:LC c)(x:α):c x x=0:=by
 have:=h.flip x x
 omega
def ascC (c:α->α->Int)(l:List α):Prop:=l.Pairwise fun x y=>c x y<0
theorem ascC_ext (h:LC c): ∀ {a b:List α},ascC c a->ascC c b->(∀ x,x∈a↔x∈b)->a=b
 | [],[],_,_,_=>rfl
 | [],y::b,_,_,h=>absurd ((h y).2 (by simp)) (by simp)
 |x::a,[],_,_,h=>absurd ((h x).1 (by simp)) (by simp)
 |x::a,y::b,ha,hb,hm=>by
  obtain ⟨ha1,ha2⟩:=List.pairwise_cons.1 ha
  obtain ⟨hb1,hb2⟩:=List.pairwise_cons.1 hb
  have e:x=y:=by
   rcases List.mem_cons.1 ((hm x).1 (by simp)) with e|e
   ·exact e
   ·rcases List.mem_cons.1 ((hm y).2 (by simp)) with e'|e'
    ·exact e'.symm
    ·have h1:=ha1 y e'
     have h2:=hb1 x e
     have:=h.flip x y
     omega
  subst e
  rw [ascC_ext h ha2 hb2 fun z=> ?_]
  have hs:=h.self x
  constructor
  ·intro hz
   have h1:=ha1 z hz
   rcases List.mem_cons.1 ((hm z).1 (by simp [hz])) with e|e
   ·subst e;omega
   ·exact e
  ·intro hz
   have h1:=hb1 z hz
   rcases List.mem_cons.1 ((hm z).2 (by simp [hz])) with e|e
   ·subst e;omega
   ·exact e
variable [Inhabited α][DecidableEq α]
theorem compactUpTo_ascC (h:LC c)(h0: ∀ x y,c x y=0->x=y){d:Array α}(hs:d.toList.Pairwise fun x y=>c x y<=0): ∀ m,m<=d.size->ascC c (Lib.compactUpTo d m)/\(∀ x,x∈Lib.compactUpTo d m↔x∈d.toList.take m)/\(0<m→ ∀ x,x∈Lib.compactUpTo d m->c x d[m-1]! ≤ 0)
 |0,_=>⟨List.Pairwise.nil,fun x=>by simp [Lib.compactUpTo],fun h=>absurd h (by omega)⟩
 |m+1,hm=>by
  obtain ⟨h1,h2,h3⟩:=compactUpTo_ascC h h0 hs m (by omega)
  rw [Lib.compactUpTo_succ]
  have hsz:m<d.size:=by omega
  have hle:m<d.toList.length:=by simpa using hsz
  have et:d.toList.take (m+1)=d.toList.take m++[d.toList[m]]:=List.take_succ_eq_append_getElem hle
  have eg:d[m]! = d.toList[m]:=by simp [hsz]
  have hle2: ∀ x,x∈d.toList.take m->c x d[m]! ≤ 0:=by
   intro x hx
   rw [eg]
   obtain ⟨i,hi,rfl⟩:=List.getElem_of_mem hx
   have hi':i<m:=by rw [List.length_take] at hi;omega
   rw [List.getElem_take]
   exact (List.pairwise_iff_getElem.1 hs) i m (by omega) hle hi'
  by_cases hk:Lib.keeps d m=true
  ·rw [if_pos hk]
   have hlt: ∀ x,x∈Lib.compactUpTo d m->c x d[m]! < 0:=by
    intro x hx
    have h4:0<m:=by
     rcases Nat.eq_zero_or_pos m with rfl|h
     ·simp [Lib.compactUpTo] at hx
     ·exact h
    have h5:=h3 h4 x hx
    simp only [Lib.keeps,decide_eq_true_eq] at hk
    have h6:c d[m-1]! d[m]! ≤ 0:=hle2 _ (by
     have e:d[m-1]! = d.toList[m-1]:=by simp [show m-1<d.size by omega]
     rw [e,List.mem_take_iff_getElem]
     exact ⟨m-1,by omega,rfl⟩)
    rcases hk with hk|hk
    ·omega
    ·have h7:c d[m-1]! d[m]! ≠ 0:=fun e=>hk (h0 _ _ e).symm
     exact h.neg h5 h6 (.inr (by omega))
   refine ⟨?_,fun x=> ?_,fun _ x hx=> ?_⟩
   ·refine List.pairwise_append.2 ⟨h1,List.pairwise_singleton _ _,fun a ha b hb=> ?_⟩
    rw [List.mem_singleton.1 hb]
    exact hlt a ha
   ·rw [et,List.mem_append,List.mem_append,h2 x,eg]
   ·rw [Nat.add_sub_cancel]
    rcases List.mem_append.1 hx with hx|hx
    ·exact Int.le_of_lt (hlt x hx)
    ·rw [List.mem_singleton.1 hx,h.self]
     exact Int.le_refl _
  ·have hk':Lib.keeps d m=false:=by simpa using hk
   rw [hk']
   simp only [Bool.false_eq_true,if_false,List.append_nil]
   simp only [Lib.keeps,decide_eq_false_iff_not,not_or,Decidable.not_not] at hk'
   have h4:0<m:=by omega
   have e:d[m-1]! = d.toList[m-1]:=by simp [show m-1<d.size by omega]
   refine ⟨h1,fun x=> ?_,fun _ x hx=> ?_⟩
   ·rw [et,List.mem_append,h2 x]
    constructor
    ·exact .inl
    ·rintro (h|h)
     ·exact h
     ·rw [List.mem_singleton.1 h, ← eg,hk'.2,e,List.mem_take_iff_getElem]
      exact ⟨m-1,by omega,rfl⟩
   ·rw [Nat.add_sub_cancel,hk'.2]
    exact h3 h4 x hx
theorem compact_ascC (h:LC c)(h0: ∀ x y,c x y=0->x=y){l:List α}(hs:l.Pairwise fun x y=>c x y<=0):ascC c (Lib.compact l)∧ ∀ x,x∈Lib.compact l↔x∈l:=by
 have h:=compactUpTo_ascC h h0 (d:=l.toArray) (by simpa using hs) l.length (by simp)
 refine ⟨h.1,fun x=> ?_⟩
 have:=h.2.1 x
 rw [show Lib.compact l=Lib.compactUpTo l.toArray l.length from rfl,this,List.take_of_length_le (by simp)]
omit [Inhabited α] [DecidableEq α] in
theorem srtF_sorted (h:LC c)(l:List α):(srtF c l).Pairwise fun x y=>c x y<=0:=by
 have hf: ∀ x y,(!decide (c y x<0))=true↔c x y<=0:=fun x y=>by
  have:=h.flip y x
  rw [Bool.not_eq_true',decide_eq_false_iff_not]
  omega
 have:=List.pairwise_mergeSort (le:=fun x y:α=> !decide (c y x<0)) (fun a b d h1 h2=>by
  rw [hf] at*
  exact h.tr _ _ _ h1 h2) (fun a b=>by
  have:=h.flip a b
  rw [Bool.or_eq_true,hf,hf]
  omega) l
 exact this.imp fun {x y} h=>(hf x y).1 h
omit [Inhabited α] [DecidableEq α] in
theorem mem_srtF {l:List α}{x:α}:x∈srtF c l↔x∈l:=List.mem_mergeSort
def nrmC (c:α->α->Int)(l:List α):List α:=Lib.compact (srtF c l)
theorem nrmC_asc (h:LC c)(h0: ∀ x y,c x y=0->x=y)(l:List α):ascC c (nrmC c l)∧ ∀ x,x∈nrmC c l↔x∈l:=by
 obtain ⟨h1,h2⟩:=compact_ascC h h0 (srtF_sorted h l)
 exact ⟨h1,fun x=>(h2 x).trans mem_srtF⟩
theorem nrmC_eq (h:LC c)(h0: ∀ x y,c x y=0->x=y){l u:List α}(hu:ascC c u)(hm: ∀ x,x∈l↔x∈u):nrmC c l=u:=by
 obtain ⟨h1,h2⟩:=nrmC_asc h h0 l
 exact ascC_ext h h1 hu fun x=>(h2 x).trans (hm x)
end
end Go.Proofs.YtmokmalepelinaaGreatDoor.K
namespace Go.Proofs.YtmokmalepelinaaGreatDoor.K
open Go.RowKit Go.Region Go.Sort Go.Lib
attribute [local go_sem ↓] Go.wp_at_zero Go.wp_at_succ
set_option linter.unusedSectionVars false
def encU (x:Keep):List Value:=[.int .i64 x.1,.int .i64 x.2.1]
theorem encU_len (x:Keep):(encU x).length=2:=rfl
theorem encU_one (x:Keep): ∀ v∈encU x,v.oneCell'=true:=fun v hv=>by
 simp only [encU,List.mem_cons,List.not_mem_nil,or_false] at hv
 rcases hv with rfl|rfl<;>rfl
theorem zeroU (w:World):(zeroValue 35).run Tryz.prog w= .ok (.agg #[.int .i64 0,.int .i64 0]) w:=by
 have hi:(Tryz.prog.info? 35).map (fun i=>i.zero)=some (some (.agg #[.int .i64 0,.int .i64 0])):=by kernel_rfl
 obtain ⟨i,hi,hz⟩:=Option.map_eq_some_iff.1 hi
 simp [zeroValue,typeInfo,hi,hz]
theorem cellU {w:World}{g:Nat}{d:Array Keep}(h:HoldsK encU 2 w g 0 d){i:Nat}(hi:i<d.size){a b:Int}{u:Unit}(hx:d[i]! = (a,b,u)):w.cell? ⟨g,i*2,none⟩=some (.int .i64 a)/\w.cell? ⟨g,i*2+1,none⟩=some (.int .i64 b):=by
 have h0:=(h.cell (i:=i) (c:=0) hi (by omega)).1
 have h1:=(h.cell (i:=i) (c:=1) hi (by omega)).1
 rw [hx] at h0 h1
 rw [Nat.zero_add] at h0 h1
 exact ⟨h0,h1⟩
set_option maxHeartbeats 4000000 in
theorem compactU_calls (g cap:Nat)(d:Array Keep)(w:World)(hH:HoldsK encU 2 w g 0 d)(hg:g<w.heap.size)(hsz:d.size<4611686018427387904)(hcap:d.size<=cap):
  Calls Tryz.prog 40 #[.slice (some ⟨g,0,none⟩) d.size cap] w fun e w'=>e= .returned (.slice (some ⟨g,0,none⟩) (compactUpTo d d.size).length cap)/\CpRow encU 2 w w' g (compactUpTo d d.size):=by
 have same:=cp_same encU_len hH
 have mixed:Tryz.prog.follows Departure.mixedOrders=true:=mixed
 have HS:=Lib.hid same
 clear same
 by_cases h2:d.size<2
 ·have HH:=Lib.hid hH
  clear hH
  have i1:((d.size:Nat):Int)<2:=by omega
  go_enter Tryz.func40,Tryz.ntmps40
  go_wp2_with fail
  go_ret
  obtain ⟨e1,e2⟩:=HS.out 0 (fun j hj=>keeps_lt_one d j (by omega))
  exact ⟨by rw [e1];rfl,e2⟩
 ·have i1: ¬ ((d.size:Nat):Int)<2:=by omega
  have HH:=Lib.hid hH
  clear hH
  go_enter Tryz.func40,Tryz.ntmps40
  go_wp2_with fail
  go_loopw [3] (fun s3 wr=> ∃ k q:Nat,1<=k/\k<=d.size/\s3= .int .i64 k/\wr=w.drewN q/\Hid (∀ j,j<k->Lib.keeps d j=true)) (fun iv _=>d.size-(intOf iv).toNat)
  case atStart=>exact ⟨1,0,Nat.le_refl _,by omega,rfl,rfl,Lib.hid (keeps_lt_one d)⟩
  case round=>
   obtain ⟨k,q,hk1,hk,rfl,rfl,hall⟩:=hrel
   by_cases hlt:k<d.size
   ·obtain ⟨kp,rfl⟩: ∃ kp,k=kp+1:=⟨k-1,by omega⟩
    obtain ⟨⟨xa,xb,xu⟩,hx⟩: ∃ x,d[kp+1]! = x:=⟨_,rfl⟩
    obtain ⟨⟨ya,yb,yu⟩,hy⟩: ∃ x,d[kp]! = x:=⟨_,rfl⟩
    obtain ⟨c0,c1⟩:=cellU HH.out hlt hx
    obtain ⟨d0,d1⟩:=cellU HH.out (Nat.lt_of_succ_lt hlt) hy
    have HXY:=Lib.hid (And.intro hx hy)
    clear hx hy
    have i2:((kp:Nat):Int)+1<((d.size:Nat):Int):=by omega
    have i3:((kp:Nat):Int)<((d.size:Nat):Int):=by omega
    have p0:(0:Int)<=(kp:Int)+1:=by omega
    have e0:((kp:Int)+1).toNat=kp+1:=by omega
    have hwp:IntKind.i64.wrap (kp:Int)=(kp:Int):=by rw [IntKind.wrap_i64];omega
    by_cases hdup:xa=ya/\xb=yb
    ·obtain ⟨rfl,rfl⟩:=hdup
     go_wp2_with fail
     go_region_o
     go_wp2
     clear c0 c1 d0 d1
     go_loopw [3,5] (fun s3 s5 wr=> ∃ (kk k2 q2:Nat) (dk:Array Keep),s3= .int .i64 kk/\s5= .int .i64 ((k2+1:Nat):Int)/\kp+1+(k2+1)<=d.size/\Hid (wr=putRowK encU 2 (Sort.ahead w q2) g 0 dk/\CompInv d (kp+1+(k2+1)) kk dk)) (fun _ iv _=>d.size-(intOf iv).toNat)
     case atStart=>
      exact ⟨kp+1,0,q+1,d,by simp,rfl,by omega,Lib.hid ⟨(putRowK_self encU 2 (Sort.ahead w (q+1)) g 0 d (holdsK_ahead encU 2 w (q+1) g 0 d HH.out)).symm,CompInv.start hall.out (keeps_neg (by omega) (by rw [HXY.out.1];exact HXY.out.2.symm))⟩⟩
     case round=>
      obtain ⟨kk,k2,q2,dk,rfl,rfl,hle,HW⟩:=hrel
      have hkk:=HW.out.2.lt
      have hds:=HW.out.2.size
      have hHk:HoldsK encU 2 wr g 0 dk:=by
       rw [HW.out.1]
       exact holdsK_putRowK encU 2 _ g 0 d dk (holdsK_ahead encU 2 w q2 g 0 d HH.out) hds
      have HK:=Lib.hid hHk
      clear hHk
      by_cases hlt2:kp+1+(k2+1)<d.size
      ·obtain ⟨⟨ua,ub,uu⟩,hu⟩: ∃ x,d[kp+1+(k2+1)]! = x:=⟨_,rfl⟩
       obtain ⟨⟨va,vb,vu⟩,hv⟩: ∃ x,d[kp+1+k2]! = x:=⟨_,rfl⟩
       obtain ⟨⟨oa,ob,ou⟩,ho⟩: ∃ x,dk[kk]! = x:=⟨_,rfl⟩
       obtain ⟨u0,u1⟩:=cellU HK.out (by omega) ((HW.out.2.high _ (by omega)).trans hu)
       obtain ⟨v0,v1⟩:=cellU HK.out (i:=kp+1+k2) (by omega) ((HW.out.2.high _ (by omega)).trans hv)
       obtain ⟨o0,o1⟩:=cellU HK.out (i:=kk) (by omega) ho
       have f0:=(HK.out.cell (i:=kk) (c:=0) (by omega) (by omega)).2
       have f1:=(HK.out.cell (i:=kk) (c:=1) (by omega) (by omega)).2
       rw [Nat.zero_add] at f0 f1
       have f0:wr.frozen? ⟨g,kk*2,none⟩=false:=f0
       rw [Nat.add_mul (kp+1) (k2+1)] at u0 u1
       rw [Nat.add_mul (kp+1) k2] at v0 v1
       have HUV:=Lib.hid (And.intro hu hv)
       clear hu hv ho
       have j1:((k2:Nat):Int)+1<((d.size-(kp+1):Nat):Int):=by omega
       have j2:((k2:Nat):Int)<((d.size-(kp+1):Nat):Int):=by omega
       have j3:(0:Int)<=(k2:Int)+1:=by omega
       have j4:((k2:Int)+1).toNat=k2+1:=by omega
       have j5:IntKind.i64.wrap (k2:Int)=(k2:Int):=by rw [IntKind.wrap_i64];omega
       have j6:((kk:Nat):Int)<((d.size:Nat):Int):=by omega
       by_cases huv:ua=va/\ub=vb
       ·obtain ⟨rfl,rfl⟩:=huv
        go_wp2_with fail
        go_region_o
        go_wp2
        refine ⟨⟨kk,k2+1,q2+1,dk,rfl,by simp,by omega,Lib.hid ⟨by rw [HW.out.1];rfl,HW.out.2.skip (keeps_neg (by omega) ?_)⟩⟩, ?_⟩
        ·rw [HUV.out.1]
         exact HUV.out.2.symm
        ·simp [intOf]
         omega
       ·have hkeep:Lib.keeps d (kp+1+(k2+1))=true:=keeps_pos (by
         rw [HUV.out.1,show d[kp+1+(k2+1)-1]! = _ from HUV.out.2]
         intro e
         injection e with e1 e2
         injection e2 with e2 _
         exact huv ⟨e1,e2⟩)
        have HKP:=Lib.hid hkeep
        clear hkeep
        have hor:ua≠va∨(ua=va/\ub≠vb):=by
         by_cases e1:ua=va
         ·exact .inr ⟨e1,fun e2=>huv ⟨e1,e2⟩⟩
         ·exact .inl e1
        clear huv
        rcases hor with hn|⟨rfl,hn⟩
        all_goals
         go_wp2_with fail
         go_region_o
         go_wp2
         refine ⟨⟨kk+1,k2+1,q2+1,dk.setIfInBounds kk (ua,ub,uu),by simp,by simp,by omega,Lib.hid ⟨put_one encU_len (by omega) HW.out.1 (ua,ub,uu),by have:=HW.out.2.keep hlt2 HKP.out;rwa [HUV.out.1] at this⟩⟩, ?_⟩
         simp [intOf]
         omega
      ·have hend:kp+1+(k2+1)=d.size:=by omega
       have j1: ¬ ((k2:Nat):Int)+1<((d.size-(kp+1):Nat):Int):=by omega
       have hcl: ∀ ty,(Builtin.clear_ #[45] ty #[.slice (some ⟨g,kk*2,none⟩) (d.size-kk) (cap-kk)]).run Tryz.prog wr= .ok (.tuple #[]) (wr.setCells g (kk*2) (Builtin.zeroCells #[.int .i64 0,.int .i64 0] (d.size-kk)).toList):=fun ty=>by
        refine run_clearK wr _ 35 ty (.agg #[.int .i64 0,.int .i64 0]) (by kernel_rfl) zeroU g (kk*2) (d.size-kk) (cap-kk) ((d.size-kk)*2) ?_ ?_ (by omega) (fun j hj=> ?_) (fun j hj=> ?_)
        ·simp [Builtin.zeroCells,Value.cells]
        ·intro v hv
         simp only [Builtin.zeroCells,Value.cells,Array.toList_map,List.mem_map] at hv
         obtain ⟨i,_,rfl⟩:=hv
         have hm:i % (#[Value.int .i64 0,Value.int .i64 0]:Array Value).size=0∨i % (#[Value.int .i64 0,Value.int .i64 0]:Array Value).size=1:=by
          have:i % 2<2:=Nat.mod_lt _ (by omega)
          show i % 2=0∨i % 2=1
          omega
         rcases hm with h|h
         all_goals
          rw [h]
          rfl
        ·have hj2:kk+j / 2<dk.size:=by omega
         have:=(HK.out.cell (i:=kk+j / 2) (c:=j % 2) hj2 (Nat.mod_lt _ (by omega))).1
         rw [show 0+(kk+j / 2)*2+j % 2=kk*2+j by omega] at this
         rw [this]
         rfl
        ·have hj2:kk+j / 2<dk.size:=by omega
         have:=(HK.out.cell (i:=kk+j / 2) (c:=j % 2) hj2 (Nat.mod_lt _ (by omega))).2
         rw [show 0+(kk+j / 2)*2+j % 2=kk*2+j by omega] at this
         exact this
       have j6:((kk:Nat):Int)<=((d.size:Nat):Int):=by omega
       go_wp2_with fail
       go_ret
       have hI:=HW.out.2
       rw [hend] at hI
       exact ⟨by rw [hI.len];rfl,cp_end encU_len HH.out HW.out.1 hI _⟩
    ·have hkeep:Lib.keeps d (kp+1)=true:=keeps_pos (by
      rw [HXY.out.1,show d[kp+1-1]! = _ from HXY.out.2]
      intro e
      injection e with e1 e2
      injection e2 with e2 _
      exact hdup ⟨e1,e2⟩)
     have HKP:=Lib.hid hkeep
     clear hkeep
     have hor:xa≠ya∨(xa=ya/\xb≠yb):=by
      by_cases e1:xa=ya
      ·exact .inr ⟨e1,fun e2=>hdup ⟨e1,e2⟩⟩
      ·exact .inl e1
     clear hdup
     rcases hor with hn|⟨rfl,hn⟩
     all_goals
      go_wp2_with fail
      go_region_o
      go_wp2
      refine ⟨⟨kp+2,q+1,by omega,by omega,by simp;omega,rfl,Lib.hid fun j hj=> ?_⟩, ?_⟩
      ·by_cases e:j=kp+1
       ·subst e
        exact HKP.out
       ·exact hall.out j (by omega)
      ·simp [intOf]
       omega
   ·obtain rfl:k=d.size:=by omega
    have i2: ¬ ((d.size:Nat):Int)<((d.size:Nat):Int):=by omega
    go_wp2_with fail
    go_ret
    obtain ⟨e1,e2⟩:=HS.out q hall.out
    exact ⟨by rw [e1];rfl,e2⟩
end Go.Proofs.YtmokmalepelinaaGreatDoor.K
namespace Go.Proofs
open Go.Shelf
def Tryz.sortU_ren:Go.Shelf.Ren:=⟨fun|6=>38|15=>94|14=>93|28=>174|29=>175|20=>166|21=>167|22=>168|23=>169|24=>170|25=>171|26=>172|27=>173|46=>245|47=>246|48=>247|49=>248|50=>249|57=>290|n=>n,fun|22=>45|24=>35|25=>110|3=>3|39=>179|0=>0|53=>264|55=>266|4=>4|46=>257|45=>256|50=>261|5=>5|9=>9|66=>328|70=>215|76=>361|77=>362|n=>n,fun|n=>n⟩
theorem Tryz.sortU:Go.Proofs.SlLaysF0.n6 Tryz.prog Tryz.sortU_ren:={
 mixed:=by kernel_rfl
 f6:=⟨Tryz.f38.name,by decide,Tryz.func38.trans (congrArg some (by kernel_rfl))⟩
 f14:=⟨Tryz.f93.name,by decide,Tryz.func93.trans (congrArg some (by kernel_rfl))⟩
 f15:=Tryz.func94.trans (congrArg some (by kernel_rfl))
 f20:=⟨Tryz.f166.name,by decide,Tryz.func166.trans (congrArg some (by kernel_rfl))⟩
 f21:=⟨Tryz.f167.name,by decide,Tryz.func167.trans (congrArg some (by kernel_rfl))⟩
 f22:=⟨Tryz.f168.name,by decide,Tryz.func168.trans (congrArg some (by kernel_rfl))⟩
 f23:=⟨Tryz.f169.name,by decide,Tryz.func169.trans (congrArg some (by kernel_rfl))⟩
 f24:=⟨Tryz.f170.name,by decide,Tryz.func170.trans (congrArg some (by kernel_rfl))⟩
 f25:=⟨Tryz.f171.name,by decide,Tryz.func171.trans (congrArg some (by kernel_rfl))⟩
 f26:=⟨Tryz.f172.name,by decide,Tryz.func172.trans (congrArg some (by kernel_rfl))⟩
 f27:=⟨Tryz.f173.name,by decide,Tryz.func173.trans (congrArg some (by kernel_rfl))⟩
 f28:=Tryz.func174.trans (congrArg some (by kernel_rfl))
 f29:=Tryz.func175.trans (congrArg some (by kernel_rfl))
 f46:=⟨Tryz.f245.name,by decide,Tryz.func245.trans (congrArg some (by kernel_rfl))⟩
 f47:=Tryz.func246.trans (congrArg some (by kernel_rfl))
 f48:=Tryz.func247.trans (congrArg some (by kernel_rfl))
 f49:=⟨Tryz.f248.name,by decide,Tryz.func248.trans (congrArg some (by kernel_rfl))⟩
 f50:=⟨Tryz.f249.name,by decide,Tryz.func249.trans (congrArg some (by kernel_rfl))⟩
 f57:=⟨Tryz.f290.name,by decide,Tryz.func290.trans (congrArg some (by kernel_rfl))⟩
 t0:=Tryz.underlying0
 a0:=Tryz.isAgg0
 z0:=Tryz.sizeOf0
 v0:=Tryz.zeroValue0
 t3:=Tryz.underlying3
 a3:=Tryz.isAgg3
 z3:=Tryz.sizeOf3
 v3:=Tryz.zeroValue3
 t4:=Tryz.underlying4
 a4:=Tryz.isAgg4
 z4:=Tryz.sizeOf4
 v4:=Tryz.zeroValue4
 t5:=Tryz.underlying5
 a5:=Tryz.isAgg5
 z5:=Tryz.sizeOf5
 v5:=Tryz.zeroValue5
 t9:=Tryz.underlying9
 a9:=Tryz.isAgg9
 z9:=Tryz.sizeOf9
 v9:=Tryz.zeroValue9
 t22:=Tryz.underlying45
 a22:=Tryz.isAgg45
 z22:=Tryz.sizeOf45
 v22:=Tryz.zeroValue45
 t25:=Tryz.underlying110
 a25:=Tryz.isAgg110
 z25:=Tryz.sizeOf110
 v25:=Tryz.zeroValue110
 t39:=Tryz.underlying179
 a39:=Tryz.isAgg179
 z39:=Tryz.sizeOf179
 v39:=Tryz.zeroValue179
 t45:=Tryz.underlying256
 a45:=Tryz.isAgg256
 z45:=Tryz.sizeOf256
 v45:=Tryz.zeroValue256
 t46:=Tryz.underlying257
 a46:=Tryz.isAgg257
 z46:=Tryz.sizeOf257
 v46:=Tryz.zeroValue257
 t50:=Tryz.underlying261
 a50:=Tryz.isAgg261
 z50:=Tryz.sizeOf261
 v50:=Tryz.zeroValue261
 t53:=Tryz.underlying264
 a53:=Tryz.isAgg264
 z53:=Tryz.sizeOf264
 v53:=Tryz.zeroValue264
 t55:=Tryz.underlying266
 a55:=Tryz.isAgg266
 z55:=Tryz.sizeOf266
 v55:=Tryz.zeroValue266
 t66:=Tryz.underlying328
 a66:=Tryz.isAgg328
 z66:=Tryz.sizeOf328
 v66:=Tryz.zeroValue328
 t70:=Tryz.underlying215
 a70:=Tryz.isAgg215
 z70:=Tryz.sizeOf215
 v70:=Tryz.zeroValue215
 t76:=Tryz.underlying361
 a76:=Tryz.isAgg361
 z76:=Tryz.sizeOf361
 v76:=Tryz.zeroValue361
 t77:=Tryz.underlying362
 a77:=Tryz.isAgg362
 z77:=Tryz.sizeOf362
 v77:=Tryz.zeroValue362}
end Go.Proofs
namespace Go.Proofs.YtmokmalepelinaaGreatDoor.K
open Go.RowKit Go.Region Go.Sort Go.Lib Go.Shelf
set_option linter.unusedSectionVars false
theorem encYU:EncY tyKeep encU:=⟨fun _=>rfl,encU_one,fun _=>rfl⟩
def lesU (a b:Keep):Int:=if a.1=b.1 then a.2.1-b.2.1 else a.1-b.1
def okU (u:Keep):Bool:=decide ((-4000000000000000000<=u.1/\u.1<=4000000000000000000)∧ -4000000000000000000<=u.2.1/\u.2.1<=4000000000000000000)
abbrev KeepS:Type:={x:Keep // okU x=true}
instance:Inhabited KeepS:=⟨⟨(0,0,()),by decide⟩⟩
def lesS (a b:KeepS):Int:=lesU a.1 b.1
theorem les_lc:LC lesU where
 flip x y:=by
  obtain ⟨xa,xb,xu⟩:=x
  obtain ⟨ya,yb,yu⟩:=y
  show (if xa=ya then xb-yb else xa-ya)<0↔0<(if ya=xa then yb-xb else ya-xa)
  by_cases e:xa=ya
  ·rw [if_pos e,if_pos e.symm];omega
  ·rw [if_neg e,if_neg (Ne.symm e)];omega
 tr x y z:=by
  obtain ⟨xa,xb,xu⟩:=x
  obtain ⟨ya,yb,yu⟩:=y
  obtain ⟨za,zb,zu⟩:=z
  show (if xa=ya then xb-yb else xa-ya)<=0->(if ya=za then yb-zb else ya-za)<=0->(if xa=za then xb-zb else xa-za)<=0
  by_cases e1:xa=ya
  ·subst e1
   rw [if_pos rfl]
   by_cases e2:xa=za
   ·rw [if_pos e2,if_pos e2];omega
   ·rw [if_neg e2,if_neg e2];omega
  ·rw [if_neg e1]
   by_cases e2:ya=za
   ·subst e2
    rw [if_pos rfl,if_neg e1];omega
   ·rw [if_neg e2]
    by_cases e3:xa=za
    ·subst e3
     rw [if_pos rfl];omega
    ·rw [if_neg e3];omega
theorem les_zero (x y:Keep)(h:lesU x y=0):x=y:=by
 obtain ⟨xa,xb,xu⟩:=x
 obtain ⟨ya,yb,yu⟩:=y
 have h:(if xa=ya then xb-yb else xa-ya)=0:=h
 by_cases e:xa=ya
 ·rw [if_pos e] at h
  subst e
  obtain rfl:xb=yb:=by omega
  rfl
 ·rw [if_neg e] at h
  omega
theorem swoU:SWO (ltOf lesS):=(les_lc.key (Subtype.val:KeepS->Keep)).swo
theorem LC.none {α:Type}{c:α->α->Int}(h:LC c){x y:α}(h1:decide (c x y<0)=false)(h2:decide (c y x<0)=false):c x y=0:=by
 have h1:=of_decide_eq_false h1
 have h2:=of_decide_eq_false h2
 have:=h.flip y x
 omega
theorem totU (x y:KeepS)(h1:ltOf lesS x y=false)(h2:ltOf lesS y x=false):x=y:=
 Subtype.ext (les_zero _ _ (les_lc.none h1 h2))
attribute [local go_sem ↓] Go.wp_at_zero Go.wp_at_succ
set_option maxHeartbeats 1000000 in
theorem less_calls (x y:Keep)(hx:okU x=true)(hy:okU y=true)(w:World):
  Calls Tryz.prog 39 #[.agg #[.int .i64 x.1,.int .i64 x.2.1],.agg #[.int .i64 y.1,.int .i64 y.2.1]] w fun e w'=>e= .returned (.int .i64 (lesU x y))∧ ∃ q os',w'=grow (w.drewN q) os':=by
 obtain ⟨xa,xb,xu⟩:=x
 obtain ⟨ya,yb,yu⟩:=y
 obtain ⟨⟨a1,a2⟩,a3,a4⟩:(-4000000000000000000<=xa/\xa<=4000000000000000000)∧ -4000000000000000000<=xb/\xb<=4000000000000000000:=of_decide_eq_true hx
 obtain ⟨⟨b1,b2⟩,b3,b4⟩:(-4000000000000000000<=ya/\ya<=4000000000000000000)∧ -4000000000000000000<=yb/\yb<=4000000000000000000:=of_decide_eq_true hy
 have w1:IntKind.i64.wrap (xa-ya)=xa-ya:=by rw [IntKind.wrap_i64];omega
 have w2:IntKind.i64.wrap (xb-yb)=xb-yb:=by rw [IntKind.wrap_i64];omega
 clear a1 a2 a3 a4 b1 b2 b3 b4 hx hy
 by_cases e:xa=ya
 ·subst e
  have el:lesU (xa,xb,xu) (xa,yb,yu)=xb-yb:=if_pos rfl
  rw [el]
  go_enter Tryz.func39,Tryz.ntmps39
  go_wp2_with fail
  go_ret
  exact ⟨rfl,0,_,by rw [alloc_eq_grow,alloc_eq_grow,grow_grow];rfl⟩
 ·have el:lesU (xa,xb,xu) (ya,yb,yu)=xa-ya:=if_neg e
  rw [el]
  go_enter Tryz.func39,Tryz.ntmps39
  go_wp2_with fail
  go_ret
  exact ⟨rfl,0,_,by rw [alloc_eq_grow,alloc_eq_grow,grow_grow];rfl⟩
set_option maxHeartbeats 1000000 in
theorem compactU_none (p:Option Addr)(cap:Nat)(w:World):Calls Tryz.prog 40 #[.slice p 0 cap] w fun e w'=>e= .returned (.slice p 0 cap)/\w'=w:=by
 go_enter Tryz.func40,Tryz.ntmps40
 go_wp2_with fail
 go_ret
 exact ⟨rfl,rfl⟩
def srtU (l:List Keep):List Keep:=srtF lesU l
def srtUOk (l:List Keep):Bool:=srtOk okU l
def sp_f38c39:Ent:=specB [.ms 50000,.cf 39] [.arr 35 tyKeep] (fun x y=>(srtUOk y.1)) (fun x y=>(.tu [])) (fun x y=>[.arr 35 tyKeep (srtU y.1)])
theorem en_f38c39:Entered Tryz.prog 38:= .inr ⟨by decide,_,Tryz.func38,by kernel_rfl,by kernel_rfl⟩
def sp_f40:Ent:=specS [.ms 50000] [.arr 35 tyKeep] (fun _ y=>(lenOk y.1)) (fun _ y=> .t (.sl tyKeep) (Lib.compact y.1)) (fun _ _=>[.no])
theorem en_f40:Entered Tryz.prog 40:= .inr ⟨by decide,_,Tryz.func40,by kernel_rfl,by kernel_rfl⟩
theorem isAggU (w:World):(isAgg 35).run Tryz.prog w= .ok true w:=by kernel_rfl
theorem sizeU (w:World):(Go.sizeOf 35).run Tryz.prog w= .ok 2 w:=by kernel_rfl
theorem ms_f38c39:Meets Tryz.prog 38 (strip sp_f38c39):=
 meets_B<|meets_sortK (f:=38) (e:=35) (y:=tyKeep) (enc:=encU) (ok:=okU) (cf:=lesU) (k:=2) (by decide) encYU rfl
  (fun blk cap d w hH hb hsz=>AnyQ.slices_SortFunc_total Tryz.sortU 2 isAggU sizeU (fun x:KeepS=>encU x.1) (fun _=>rfl) (fun x=>encU_one x.1) lesS swoU 39 #[] blk 0 cap d w (enters_of Tryz.func39 (by kernel_rfl) rfl) (fun m os dk _ x y=>less_calls x.1 y.1 x.2 y.2 _) hH hb hsz totU)
  (fun p cap w=>AnyF.slices_SortFunc_none Tryz.sortU p cap _ w)
theorem ms_f40:Meets Tryz.prog 40 (strip sp_f40):=
 meets_compactK (e:=35) (y:=tyKeep) (enc:=encU) (k:=2) (by decide) encYU rfl compactU_calls compactU_none
end Go.Proofs.YtmokmalepelinaaGreatDoor.K
namespace Go.Proofs.YtmokmalepelinaaGreatDoor.K
open Go.RowKit
noncomputable section
def kindF (a:Int):Int:=(ofF a).1.2.1
noncomputable def tc_f240:TC:=(.sq (.reg (rT Tryz.f240 0)) (.sq (.reg (rT Tryz.f240 1)) (.sq (.reg (rT Tryz.f240 2)) .rt)))
def rv_f240:List (RV×Option Ty):=[((.t 2),some tI)]
def g_f240:G:=⟨TYs,[],12,EL [(185,sp_f185)],keeps,(fun _ _=>none),IL [],RL []⟩
def r_f240 (p0:Int):Option (V×List VO):=some (.t tI ((((ofF p0).1).2).1),[])
theorem e_f240 (p0:Int):runF g_f240 tc_f240 rv_f240 false [.t tI p0] []=r_f240 p0:=by kernel_rfl
theorem en_f240:Entered Tryz.prog 240:= .inr ⟨by decide,_,Tryz.func240,by kernel_rfl,by kernel_rfl⟩
theorem gk_f240:GOk Tryz.prog g_f240:=gok_of _ (gA (gC en_f185 ms_f185 gN))
theorem lk_f240:tc_f240.lok g_f240:=by repeat (first|exact trivial|refine ⟨?_, ?_⟩)
theorem s_f240 (a:Int):r_f240 a=some (.t tI (kindF a),[]):=rfl
def sp_f240:Ent:=spec (.pr tI .nil) (fun x=>true) (fun x=>(.t tI (kindF x.1)))
theorem ms_f240:Meets Tryz.prog 240 (strip sp_f240):=meets_spec (R:=runF g_f240 tc_f240 rv_f240 false) (mG Tryz.func240 (by kernel_rfl) Tryz.ntmps240 (by kernel_rfl) gk_f240 lk_f240) fun x _=>(e_f240 x.1).trans (s_f240 x.1)
def useP (a b:Int):Keep:=(a,(b,()))
noncomputable def tc_f276:TC:=(.sq (.reg (rT Tryz.f276 0)) (.sq (.reg (rT Tryz.f276 1)) .rt))
def rv_f276:List (RV×Option Ty):=[((.c 4 true 2),some tyKeep)]
def g_f276:G:=⟨TYs,[],8,EL [],keeps,(fun _ _=>none),IL [],RL []⟩
def r_f276 (p0 p1:Int):Option (V×List VO):=some (.t tyKeep (p0,(p1,())),[])
theorem e_f276 (p0 p1:Int):runF g_f276 tc_f276 rv_f276 false [.t tI p0,.t tI p1] []=r_f276 p0 p1:=by kernel_rfl
theorem en_f276:Entered Tryz.prog 276:= .inr ⟨by decide,_,Tryz.func276,by kernel_rfl,by kernel_rfl⟩
theorem gk_f276:GOk Tryz.prog g_f276:=gok_of _ (fun p hp=>by cases hp)
theorem lk_f276:tc_f276.lok g_f276:=by repeat (first|exact trivial|refine ⟨?_, ?_⟩)
theorem s_f276 (a b:Int):r_f276 a b=some (.t tyKeep (useP a b),[]):=rfl
def sp_f276:Ent:=spec (.pr tI (.pr tI .nil)) (fun x=>true) (fun x=>(.t tyKeep (useP x.1 x.2.1)))
theorem ms_f276:Meets Tryz.prog 276 (strip sp_f276):=meets_spec (R:=runF g_f276 tc_f276 rv_f276 false) (mG Tryz.func276 (by kernel_rfl) Tryz.ntmps276 (by kernel_rfl) gk_f276 lk_f276) fun x _=>(e_f276 x.1 x.2.1).trans (s_f276 x.1 x.2.1)
def suitesF:List Suite:=[(1,((ByteArray.mk #[114,115,97,45,114,99,52,45,109,100,53]),((10,(0,())),((5,(0,())),((14,(128,())),((19,(0,())),(1,(2,())))))))),(2,((ByteArray.mk #[114,115,97,45,114,99,52,45,115,104,97]),((10,(0,())),((5,(0,())),((14,(128,())),((20,(0,())),(1,(3,())))))))),(3,((ByteArray.mk #[114,115,97,45,100,101,115,51,45,115,104,97]),((10,(0,())),((5,(0,())),((15,(168,())),((20,(0,())),(1,(3,())))))))),(4,((ByteArray.mk #[100,104,101,45,100,115,97,45,100,101,115,51,45,115,104,97]),((11,(1024,())),((6,(0,())),((15,(168,())),((20,(0,())),(1,(3,())))))))),(5,((ByteArray.mk #[100,104,101,45,114,115,97,45,100,101,115,51,45,115,104,97]),((11,(1024,())),((5,(0,())),((15,(168,())),((20,(0,())),(1,(3,())))))))),(6,((ByteArray.mk #[114,115,97,45,97,101,115,49,50,56,45,115,104,97]),((10,(0,())),((5,(0,())),((16,(128,())),((20,(0,())),(1,(3,())))))))),(7,((ByteArray.mk #[100,104,101,45,114,115,97,45,97,101,115,49,50,56,45,115,104,97]),((11,(2048,())),((5,(0,())),((16,(128,())),((20,(0,())),(1,(3,())))))))),(8,((ByteArray.mk #[101,99,100,104,101,45,114,115,97,45,97,101,115,49,50,56,45,115,104,97]),((12,(256,())),((5,(0,())),((16,(128,())),((20,(0,())),(1,(3,())))))))),(9,((ByteArray.mk #[101,99,100,104,101,45,101,99,100,115,97,45,97,101,115,50,53,54,45,115,104,97,50,53,54]),((12,(256,())),((7,(0,())),((16,(256,())),((21,(0,())),(3,(3,())))))))),(10,((ByteArray.mk #[101,99,100,104,101,45,114,115,97,45,97,101,115,49,50,56,45,103,99,109]),((12,(256,())),((5,(0,())),((17,(128,())),((22,(0,())),(3,(3,())))))))),(11,((ByteArray.mk #[101,99,100,104,101,45,101,99,100,115,97,45,97,101,115,50,53,54,45,103,99,109]),((12,(384,())),((7,(0,())),((17,(256,())),((22,(0,())),(3,(3,())))))))),(12,((ByteArray.mk #[101,99,100,104,101,45,114,115,97,45,99,104,97,99,104,97]),((12,(256,())),((5,(0,())),((18,(0,())),((22,(0,())),(3,(3,())))))))),(13,((ByteArray.mk #[114,115,97,45,97,101,115,50,53,54,45,103,99,109]),((10,(0,())),((5,(0,())),((17,(256,())),((22,(0,())),(3,(3,())))))))),(14,((ByteArray.mk #[97,101,115,49,50,56,45,103,99,109]),((12,(256,())),((0,(0,())),((17,(128,())),((22,(0,())),(4,(4,())))))))),(15,((ByteArray.mk #[99,104,97,99,104,97]),((12,(256,())),((0,(0,())),((18,(0,())),((22,(0,())),(4,(4,())))))))),(16,((ByteArray.mk #[109,108,107,101,109,45,97,101,115,50,53,54,45,103,99,109]),((13,(768,())),((0,(0,())),((17,(256,())),((22,(0,())),(4,(4,()))))))))]
abbrev zSuite:Suite:=Ty.zero tySuite
def codeL (k:Nat)(l:List Suite):List Suite:=(List.range' k (16-k)).foldl (fun l i=>l.set i (((i+1:Nat):Int),(l.getD i zSuite).2)) l
noncomputable def dr_f225_0:List DO:=dT Tryz.f225 4
def fg_f225_0:Fg:=⟨[(15,none),(113,some tI),(114,some tI)],[(111,none)]⟩
noncomputable def tb_f225_0:TC:=(.sq (.reg (rT Tryz.f225 6)) (.sq (.cd (.t 115) .sk (.fg ⟨[(15,none)],[(111,none)]⟩ (.ex 0))) (.sq (.bk 1 (.sq (.reg (rT Tryz.f225 7)) (.reg (rT Tryz.f225 8)))) (.reg (rT Tryz.f225 9)))))
noncomputable def tc_f225:TC:=(.sq (.reg (rT Tryz.f225 0)) (.sq (.reg (rT Tryz.f225 1)) (.sq (.reg (rT Tryz.f225 2)) (.sq (.reg (rT Tryz.f225 3)) (.sq (.dr dr_f225_0 [(0,[1]),(1,[2]),(2,[]),(3,[11]),(4,[]),(5,[1]),(6,[2]),(7,[]),(8,[12]),(9,[]),(10,[1]),(11,[2]),(12,[6]),(13,[12]),(14,[]),(15,[]),(16,[3]),(17,[6]),(18,[12]),(19,[]),(20,[]),(21,[2]),(22,[6]),(23,[12]),(24,[]),(25,[1]),(26,[2]),(27,[7]),(28,[12]),(29,[]),(30,[]),(31,[2]),(32,[7]),(33,[12]),(34,[]),(35,[14]),(36,[2]),(37,[7]),(38,[12]),(39,[]),(40,[14]),(41,[4]),(42,[]),(43,[]),(44,[]),(45,[14]),(46,[2]),(47,[8]),(48,[13]),(49,[]),(50,[]),(51,[4]),(52,[9]),(53,[13]),(54,[]),(55,[14]),(56,[2]),(57,[10]),(58,[13]),(59,[]),(60,[1]),(61,[2]),(62,[9]),(63,[13]),(64,[]),(65,[14]),(66,[5]),(67,[8]),(68,[13]),(69,[]),(70,[14]),(71,[5]),(72,[10]),(73,[13]),(74,[]),(75,[]),(76,[5]),(77,[9]),(78,[13]),(79,[]),(80,[111,5111,10111,15111]),(81,[111])] (.of [0,1,2,3,4,5,6,7,8,9,10,11,12,13,14,15,16,17,18,19,20,21,22,23,24,25,26,27,28,29,30,31,32,33,34,35,36,37,38,39,40,41,42,43,44,45,46,47,48,49,50,51,52,53,54,55,56,57,58,59,60,61,62,63,64,65,66,67,68,69,70,71,72,73,74,75,76,77,78,79,80,81])) (.sq (.sq (.reg (rT Tryz.f225 5)) (.bk 0 (.lp 0 fg_f225_0 tb_f225_0))) (.sq (.reg (rT Tryz.f225 10)) .rt)))))))
def rv_f225:List (RV×Option Ty):=[((.t 0),some (.sl tySuite))]
abbrev sh_f225_0:Sh:=⟨[(15,.ms 111),(113,.ty tI),(114,.ty tI)],[(111,.arr 302 tySuite)]⟩
def st_f225_0 (x113 x114:Int)(y111:List Suite):VS:=sh_f225_0.st ((),x113,x114,()) (y111,())
abbrev sh_f225_0_e0:Sh:=⟨[(15,.ms 111)],[(111,.arr 302 tySuite)]⟩
def st_f225_0_e0 (y111:List Suite):VS:=sh_f225_0_e0.st ((),()) (y111,())
def L_f225_0:VS->Option (Bool×List (Bool×Exit×VS)):=mkL sh_f225_0 (fun x y=>(decide (0<=x.2.2.1/\x.2.2.1<=16/\x.2.1=16/\y.1.length=16))) (fun x y=>[(true,.exit 0,st_f225_0_e0 (codeL x.2.2.1.toNat y.1))])
def g_f225:G:=⟨TYs,[111],125,EL [(276,sp_f276)],keeps,(Ls [L_f225_0]),IL [],RL []⟩
def b_f225_0 (x113 x114:Int)(y111:List Suite):Option (Exit×VS):=
 let a1:=Int.toNat x114
 br (ilt x114 x113) (br (cIx y111 x114) (br (cLd y111 a1) (some (.normal,st_f225_0 x113 (iadd .i64 x114 1) (List.set y111 a1 ((iadd .i64 x114 1),(lgt tySuite y111 a1).2)))) none) none) (some (.exit 0,st_f225_0_e0 y111))
noncomputable def lp_f225_0 (x113 x114:Int)(y111:List Suite):Option (Exit×VS):=loopF (roundF g_f225 fg_f225_0 tb_f225_0) (st_f225_0 x113 x114 y111)
noncomputable def n_f225_0 (x113 x114:Int)(y111:List Suite):Option (Exit×VS):=
 let a1:=Int.toNat x114
 br (ilt x114 x113) (br (cIx y111 x114) (br (cLd y111 a1) (lp_f225_0 x113 (iadd .i64 x114 1) (List.set y111 a1 ((iadd .i64 x114 1),(lgt tySuite y111 a1).2))) none) none) (some (.exit 0,st_f225_0_e0 y111))
def la_f225_0 (x113 x114:Int)(y111:List Suite):Option (Exit×VS):=some (.exit 0,st_f225_0_e0 (codeL x114.toNat y111))
theorem be_f225_0 (x113 x114:Int)(y111:List Suite):roundF g_f225 fg_f225_0 tb_f225_0 (st_f225_0 x113 x114 y111)=b_f225_0 x113 x114 y111:=by kernel_rfl
theorem ln_f225_0 (x113 x114:Int)(y111:List Suite):lp_f225_0 x113 x114 y111=n_f225_0 x113 x114 y111:=(loopF_nxt _ _).trans (by
 rw [be_f225_0]
 simp only [b_f225_0,n_f225_0,nxt_br,nxt_n,nxt_r,nxt_e,nxt_0]
 rfl)
def r_f225  : Option (V×List VO):=
 let a1:=((useP 5 0).1,(((useP 5 0).2).1,()))
 let a2:=((useP 20 0).1,(((useP 20 0).2).1,()))
 let a3:=((useP 22 0).1,(((useP 22 0).2).1,()))
 let a4:=((useP 12 256).1,(((useP 12 256).2).1,()))
 let a5:=((useP 10 0).1,(((useP 10 0).2).1,()))
 let a6:=((useP 15 168).1,(((useP 15 168).2).1,()))
 let a7:=((useP 16 128).1,(((useP 16 128).2).1,()))
 let a8:=((useP 17 256).1,(((useP 17 256).2).1,()))
 let a9:=(ByteArray.mk #[101,99,100,104,101,45,101,99,100,115,97,45,97,101,115,50,53,54,45,115,104,97,50,53,54])
 let a10:=(ByteArray.mk #[101,99,100,104,101,45,101,99,100,115,97,45,97,101,115,50,53,54,45,103,99,109])
 let a11:=((useP 11 1024).1,(((useP 11 1024).2).1,()))
 let a12:=(ByteArray.mk #[101,99,100,104,101,45,114,115,97,45,97,101,115,49,50,56,45,115,104,97])
 let a13:=(ByteArray.mk #[101,99,100,104,101,45,114,115,97,45,97,101,115,49,50,56,45,103,99,109])
 let a14:=((useP 14 128).1,(((useP 14 128).2).1,()))
 let a15:=((useP 17 128).1,(((useP 17 128).2).1,()))
 let a16:=(ByteArray.mk #[100,104,101,45,114,115,97,45,97,101,115,49,50,56,45,115,104,97])
 let a17:=((useP 18 0).1,(((useP 18 0).2).1,()))
 let a18:=((useP 7 0).1,(((useP 7 0).2).1,()))
 let a19:=(ByteArray.mk #[100,104,101,45,100,115,97,45,100,101,115,51,45,115,104,97])
 let a20:=(ByteArray.mk #[100,104,101,45,114,115,97,45,100,101,115,51,45,115,104,97])
 let a21:=(ByteArray.mk #[109,108,107,101,109,45,97,101,115,50,53,54,45,103,99,109])
 let a22:=(ByteArray.mk #[101,99,100,104,101,45,114,115,97,45,99,104,97,99,104,97])
 let a23:=(ByteArray.mk #[114,115,97,45,97,101,115,49,50,56,45,115,104,97])
 let a24:=(ByteArray.mk #[114,115,97,45,97,101,115,50,53,54,45,103,99,109])
 let a25:=(ByteArray.mk #[114,115,97,45,100,101,115,51,45,115,104,97])
 let a26:=(ByteArray.mk #[114,115,97,45,114,99,52,45,109,100,53])
 let a27:=(ByteArray.mk #[114,115,97,45,114,99,52,45,115,104,97])
 let a28:=(ByteArray.mk #[97,101,115,49,50,56,45,103,99,109])
 let a29:=((useP 11 2048).1,(((useP 11 2048).2).1,()))
 let a30:=((useP 16 256).1,(((useP 16 256).2).1,()))
 let a31:=((useP 12 384).1,(((useP 12 384).2).1,()))
 let a32:=((useP 13 768).1,(((useP 13 768).2).1,()))
 let a33:=(ByteArray.mk #[99,104,97,99,104,97])
 let a34:=((useP 19 0).1,(((useP 19 0).2).1,()))
 let a35:=((useP 21 0).1,(((useP 21 0).2).1,()))
 let a36:=((useP 6 0).1,(((useP 6 0).2).1,()))
 br (decide (0<=(0:Int)/\(0:Int)<=16/\(llen ([(0,(a26,(a5,(a1,(a14,(a34,(1,(2,())))))))),(0,(a27,(a5,(a1,(a14,(a2,(1,(3,())))))))),(0,(a25,(a5,(a1,(a6,(a2,(1,(3,())))))))),(0,(a19,(a11,(a36,(a6,(a2,(1,(3,())))))))),(0,(a20,(a11,(a1,(a6,(a2,(1,(3,())))))))),(0,(a23,(a5,(a1,(a7,(a2,(1,(3,())))))))),(0,(a16,(a29,(a1,(a7,(a2,(1,(3,())))))))),(0,(a12,(a4,(a1,(a7,(a2,(1,(3,())))))))),(0,(a9,(a4,(a18,(a30,(a35,(3,(3,())))))))),(0,(a13,(a4,(a1,(a15,(a3,(3,(3,())))))))),(0,(a10,(a31,(a18,(a8,(a3,(3,(3,())))))))),(0,(a22,(a4,(a1,(a17,(a3,(3,(3,())))))))),(0,(a24,(a5,(a1,(a8,(a3,(3,(3,())))))))),(0,(a28,(a4,((0,(0,())),(a15,(a3,(4,(4,())))))))),(0,(a33,(a4,((0,(0,())),(a17,(a3,(4,(4,())))))))),(0,(a21,(a32,((0,(0,())),(a8,(a3,(4,(4,()))))))))]))=16/\([(0,(a26,(a5,(a1,(a14,(a34,(1,(2,())))))))),(0,(a27,(a5,(a1,(a14,(a2,(1,(3,())))))))),(0,(a25,(a5,(a1,(a6,(a2,(1,(3,())))))))),(0,(a19,(a11,(a36,(a6,(a2,(1,(3,())))))))),(0,(a20,(a11,(a1,(a6,(a2,(1,(3,())))))))),(0,(a23,(a5,(a1,(a7,(a2,(1,(3,())))))))),(0,(a16,(a29,(a1,(a7,(a2,(1,(3,())))))))),(0,(a12,(a4,(a1,(a7,(a2,(1,(3,())))))))),(0,(a9,(a4,(a18,(a30,(a35,(3,(3,())))))))),(0,(a13,(a4,(a1,(a15,(a3,(3,(3,())))))))),(0,(a10,(a31,(a18,(a8,(a3,(3,(3,())))))))),(0,(a22,(a4,(a1,(a17,(a3,(3,(3,())))))))),(0,(a24,(a5,(a1,(a8,(a3,(3,(3,())))))))),(0,(a28,(a4,((0,(0,())),(a15,(a3,(4,(4,())))))))),(0,(a33,(a4,((0,(0,())),(a17,(a3,(4,(4,())))))))),(0,(a21,(a32,((0,(0,())),(a8,(a3,(4,(4,()))))))))]).length=16)) (some (.t (.sl tySuite) (codeL (0:Int).toNat ([(0,(a26,(a5,(a1,(a14,(a34,(1,(2,())))))))),(0,(a27,(a5,(a1,(a14,(a2,(1,(3,())))))))),(0,(a25,(a5,(a1,(a6,(a2,(1,(3,())))))))),(0,(a19,(a11,(a36,(a6,(a2,(1,(3,())))))))),(0,(a20,(a11,(a1,(a6,(a2,(1,(3,())))))))),(0,(a23,(a5,(a1,(a7,(a2,(1,(3,())))))))),(0,(a16,(a29,(a1,(a7,(a2,(1,(3,())))))))),(0,(a12,(a4,(a1,(a7,(a2,(1,(3,())))))))),(0,(a9,(a4,(a18,(a30,(a35,(3,(3,())))))))),(0,(a13,(a4,(a1,(a15,(a3,(3,(3,())))))))),(0,(a10,(a31,(a18,(a8,(a3,(3,(3,())))))))),(0,(a22,(a4,(a1,(a17,(a3,(3,(3,())))))))),(0,(a24,(a5,(a1,(a8,(a3,(3,(3,())))))))),(0,(a28,(a4,((0,(0,())),(a15,(a3,(4,(4,())))))))),(0,(a33,(a4,((0,(0,())),(a17,(a3,(4,(4,())))))))),(0,(a21,(a32,((0,(0,())),(a8,(a3,(4,(4,()))))))))])),[])) none
theorem e_f225  : runF g_f225 tc_f225 rv_f225 false [] []=r_f225  :=by kernel_rfl
theorem en_f225:Entered Tryz.prog 225:= .inr ⟨by decide,_,Tryz.func225,by kernel_rfl,by kernel_rfl⟩
theorem gk_f225:GOk Tryz.prog g_f225:=gok_of _ (gA (gC en_f276 ms_f276 gN))
theorem l_f225_0 (x113 x114:Int)(y111:List Suite)(h:(decide (0<=x114/\x114<=16/\x113=16/\y111.length=16))=true):lp_f225_0 x113 x114 y111=la_f225_0 x113 x114 y111:=by
 simp only [decide_eq_true_eq] at h
 obtain ⟨h1,h2,rfl,h4⟩:=h
 obtain ⟨k,rfl⟩:=Int.eq_ofNat_of_zero_le h1
 revert y111
 refine up_ind 16 (fun k=> ∀ y111:List Suite,y111.length=16->lp_f225_0 16 (k:Int) y111=la_f225_0 16 (k:Int) y111) ?_ ?_ k (by omega)
 ·intro y111 _
  rw [ln_f225_0]
  rfl
 ·intro k hk ih y111 hy
  rw [ln_f225_0]
  have e1:ilt (k:Int) 16=true:=decide_eq_true (by omega)
  have e2:cLd y111 k=true:=decide_eq_true (by omega)
  have e3:codeL k y111=codeL (k+1) (y111.set k (((k+1:Nat):Int),(y111.getD k zSuite).2)):=by
   have:16-k=(16-(k+1))+1:=by omega
   unfold codeL
   rw [this,List.range'_succ,List.foldl_cons]
  simp only [n_f225_0,e1,br_true,cIx_nat,show decide (k<y111.length)=true from decide_eq_true (by omega),Int.toNat_natCast,e2,add1 (k:=k)]
  rw [ih _ (by rw [List.length_set];exact hy)]
  simp only [la_f225_0,Int.toNat_natCast,e3]
theorem lo_f225_0: ∀ S l p,g_f225.L 0 (fgt fg_f225_0 S)=some (true,l)->pickA l=some p->loopF (roundF g_f225 fg_f225_0 tb_f225_0) S=some p:=
 lok_of (s:=sh_f225_0) ⟨by decide,by decide⟩ (by kernel_rfl) fun x y hok p hp=>by
 simp only [pickA_br,pickA_one] at hp
 exact (l_f225_0 x.2.1 x.2.2.1 y.1 (by simpa using hok)).trans hp
theorem lk_f225:tc_f225.lok g_f225:=by
 repeat (first|exact trivial|exact lo_f225_0|refine ⟨?_, ?_⟩)
theorem s_f225:r_f225=some (.t (.sl tySuite) suitesF,[]):=by kernel_rfl
def sp_f225:Ent:=spec .nil (fun x=>true) (fun x=>(.t (.sl tySuite) suitesF))
theorem ms_f225:Meets Tryz.prog 225 (strip sp_f225):=meets_spec (R:=runF g_f225 tc_f225 rv_f225 false) (mG Tryz.func225 (by kernel_rfl) Tryz.ntmps225 (by kernel_rfl) gk_f225 lk_f225) fun x _=>(e_f225 ).trans (s_f225)
theorem drop_neG {α:Type}[BEq α][LawfulBEq α]{a b:List α}{k:Nat}(h1:k<a.length)(h2:k<b.length):(a.drop k==b.drop k)=((a[k]==b[k])&&(a.drop (k+1)==b.drop (k+1))):=by
 rw [List.drop_eq_getElem_cons h1,List.drop_eq_getElem_cons h2]
 rfl
def sameU (a b:List Keep):Bool:=a==b
def sameUOk (a b:List Keep):Bool:=decide (a.length<=100000/\b.length<=100000)
theorem keep_eq (a b:Keep):(and (ieq a.1 b.1) (and (ieq a.2.1 b.2.1) true))=(a==b):=by
 obtain ⟨a1,a2,_⟩:=a
 obtain ⟨b1,b2,_⟩:=b
 show _=((a1==b1)&&((a2==b2)&&true))
 rfl
noncomputable def dr_f16_0:List DO:=dT Tryz.f16 5
def fg_f16_0:Fg:=⟨[(0,some (.sl tyKeep)),(1,some (.sl tyKeep)),(5,some tI)],[]⟩
noncomputable def tb_f16_0:TC:=(.sq (.sq (.reg (rT Tryz.f16 4)) (.cd (.t 14) .sk (.fg ⟨[],[]⟩ (.ex 0)))) (.sq (.bk 1 (.sq (.dr dr_f16_0 [(0,[]),(1,[]),(2,[]),(3,[]),(4,[]),(5,[]),(6,[]),(7,[]),(8,[])] (.of [0,1,2,3,4,5,6,7,8])) (.cd (.t 25) (.sq (.reg (rT Tryz.f16 6)) (.fg ⟨[(4,some .bool)],[]⟩ .rt)) .sk))) (.reg (rT Tryz.f16 7))))
noncomputable def tc_f16:TC:=(.sq (.reg (rT Tryz.f16 0)) (.sq (.sq (.reg (rT Tryz.f16 1)) (.cd (.t 10) (.sq (.reg (rT Tryz.f16 2)) .rt) .sk)) (.sq (.sq (.reg (rT Tryz.f16 3)) (.bk 0 (.lp 0 fg_f16_0 tb_f16_0))) (.sq (.reg (rT Tryz.f16 8)) .rt))))
def rv_f16:List (RV×Option Ty):=[((.t 4),some .bool)]
abbrev sh_f16_0:Sh:=⟨[(0,.ty (.sl tyKeep)),(1,.ty (.sl tyKeep)),(5,.ty tI)],[]⟩
def st_f16_0 (x0 x1:List Keep)(x5:Int):VS:=sh_f16_0.st (x0,x1,x5,()) ()
abbrev sh_f16_0_ret:Sh:=⟨[(4,.ty .bool)],[]⟩
def st_f16_0_ret (x4:Bool):VS:=sh_f16_0_ret.st (x4,()) ()
abbrev sh_f16_0_e0:Sh:=⟨[],[]⟩
def st_f16_0_e0  : VS:=sh_f16_0_e0.st () ()
def L_f16_0:VS->Option (Bool×List (Bool×Exit×VS)):=mkL sh_f16_0 (fun x y=>(decide (x.1.length<=100000/\x.1.length=x.2.1.length/\0<=x.2.2.1/\x.2.2.1<=x.1.length))) (fun x y=>[((!(x.1.drop x.2.2.1.toNat==x.2.1.drop x.2.2.1.toNat)),.ret,st_f16_0_ret (false)),(true,.exit 0,st_f16_0_e0)])
def g_f16:G:=⟨TYs,[],26,EL [],keeps,(Ls [L_f16_0]),IL [],RL []⟩
def b_f16_0 (x0 x1:List Keep)(x5:Int):Option (Exit×VS):=
 let a1:=Int.toNat x5
 br (ilt x5 (llen x0)) (br (cIx x0 x5) (br (cIx x1 x5) (br (!(and (ieq ((lgt tyKeep x0 a1).1) ((lgt tyKeep x1 a1).1)) (and (ieq (((lgt tyKeep x0 a1).2).1) (((lgt tyKeep x1 a1).2).1)) true))) (some (.ret,st_f16_0_ret false)) (some (.normal,st_f16_0 x0 x1 (iadd .i64 x5 1)))) none) none) (some (.exit 0,st_f16_0_e0))
noncomputable def lp_f16_0 (x0 x1:List Keep)(x5:Int):Option (Exit×VS):=loopF (roundF g_f16 fg_f16_0 tb_f16_0) (st_f16_0 x0 x1 x5)
noncomputable def n_f16_0 (x0 x1:List Keep)(x5:Int):Option (Exit×VS):=
 let a1:=Int.toNat x5
 br (ilt x5 (llen x0)) (br (cIx x0 x5) (br (cIx x1 x5) (br (!(and (ieq ((lgt tyKeep x0 a1).1) ((lgt tyKeep x1 a1).1)) (and (ieq (((lgt tyKeep x0 a1).2).1) (((lgt tyKeep x1 a1).2).1)) true))) (some (.ret,st_f16_0_ret false)) (lp_f16_0 x0 x1 (iadd .i64 x5 1))) none) none) (some (.exit 0,st_f16_0_e0))
def la_f16_0 (x0 x1:List Keep)(x5:Int):Option (Exit×VS):=br (!(x0.drop x5.toNat==x1.drop x5.toNat)) (some (.ret,st_f16_0_ret (false)))<|some (.exit 0,st_f16_0_e0)
theorem be_f16_0 (x0 x1:List Keep)(x5:Int):roundF g_f16 fg_f16_0 tb_f16_0 (st_f16_0 x0 x1 x5)=b_f16_0 x0 x1 x5:=by kernel_rfl
theorem ln_f16_0 (x0 x1:List Keep)(x5:Int):lp_f16_0 x0 x1 x5=n_f16_0 x0 x1 x5:=(loopF_nxt _ _).trans (by
 rw [be_f16_0]
 simp only [b_f16_0,n_f16_0,nxt_br,nxt_n,nxt_r,nxt_e,nxt_0]
 rfl)
def r_f16 (p0 p1:List Keep):Option (V×List VO):=br (ine (llen p0) (llen p1)) (some (.t .bool false,[])) (br (decide (p0.length<=100000/\p0.length=p1.length/\0<=(0:Int)/\(0:Int)<=p0.length)) (br (!(p0.drop (0:Int).toNat==p1.drop (0:Int).toNat)) (some (.t .bool (false),[])) (some (.t .bool true,[]))) none)
theorem e_f16 (p0 p1:List Keep):runF g_f16 tc_f16 rv_f16 false [.t (.sl tyKeep) p0,.t (.sl tyKeep) p1] []=r_f16 p0 p1:=by kernel_rfl
theorem en_f16:Entered Tryz.prog 16:= .inr ⟨by decide,_,Tryz.func16,by kernel_rfl,by kernel_rfl⟩
theorem gk_f16:GOk Tryz.prog g_f16:=gok_of _ (fun p hp=>by cases hp)
theorem l_f16_0 (x0 x1:List Keep)(x5:Int)(h:(decide (x0.length<=100000/\x0.length=x1.length/\0<=x5/\x5<=x0.length))=true):lp_f16_0 x0 x1 x5=la_f16_0 x0 x1 x5:=by
 simp only [decide_eq_true_eq] at h
 obtain ⟨h1,h2,h3,h4⟩:=h
 obtain ⟨k,rfl⟩:=Int.eq_ofNat_of_zero_le h3
 refine range_ind x0 (fun k=>lp_f16_0 x0 x1 (k:Int)=la_f16_0 x0 x1 (k:Int)) ?_ ?_ k (by omega)
 ·rw [ln_f16_0]
  have e1:x0.drop x0.length=[]:=List.drop_length
  have e2:x1.drop x0.length=[]:=List.drop_eq_nil_of_le (by omega)
  simp only [n_f16_0,la_f16_0,ilt_nat,llen,Nat.lt_irrefl,decide_false,br_false,Int.toNat_natCast,e1,e2]
  rfl
 ·intro k hk ih
  rw [ln_f16_0]
  have hk2:k<x1.length:=by omega
  simp only [n_f16_0,ilt_nat,llen,cIx_nat,hk,hk2,decide_true,br_true,Int.toNat_natCast,add1 (k:=k),lgt_get (y:=tyKeep) hk,lgt_get (y:=tyKeep) hk2,keep_eq,ih]
  simp only [la_f16_0,Int.toNat_natCast,drop_neG hk hk2]
  cases x0[k]==x1[k]<;>rfl
theorem lo_f16_0: ∀ S l p,g_f16.L 0 (fgt fg_f16_0 S)=some (true,l)->pickA l=some p->loopF (roundF g_f16 fg_f16_0 tb_f16_0) S=some p:=
 lok_of (s:=sh_f16_0) ⟨by decide,by decide⟩ (by kernel_rfl) fun x y hok p hp=>by
 simp only [pickA_br,pickA_one] at hp
 exact (l_f16_0 x.1 x.2.1 x.2.2.1 (by simpa using hok)).trans hp
theorem lk_f16:tc_f16.lok g_f16:=by
 repeat (first|exact trivial|exact lo_f16_0|refine ⟨?_, ?_⟩)
theorem s_f16 (a b:List Keep)(h:sameUOk a b=true):r_f16 a b=some (.t .bool (sameU a b),[]):=by
 simp only [sameUOk,decide_eq_true_eq] at h
 simp only [r_f16,Int.toNat_zero,List.drop_zero]
 refine br_intro (fun h1=> ?_) (fun h1=> ?_)
 ·have: ¬ (a==b)=true:=fun e=>by have:=eq_of_beq e;subst this;simp [ine] at h1
  simp [sameU,this]
 ·have h2:a.length=b.length:=by simp [ine,llen] at h1;omega
  rw [dec_true ⟨h.1,h2,Int.le_refl 0,by omega⟩,br_true]
  unfold sameU
  cases a==b<;>rfl
def sp_f16:Ent:=spec (.pr (.sl tyKeep) (.pr (.sl tyKeep) .nil)) (fun x=>(sameUOk x.1 x.2.1)) (fun x=>(.t .bool (sameU x.1 x.2.1)))
theorem ms_f16:Meets Tryz.prog 16 (strip sp_f16):=meets_spec (R:=runF g_f16 tc_f16 rv_f16 false) (mG Tryz.func16 (by kernel_rfl) Tryz.ntmps16 (by kernel_rfl) gk_f16 lk_f16) fun x hok=>(e_f16 x.1 x.2.1).trans (s_f16 x.1 x.2.1 hok)
end
end Go.Proofs.YtmokmalepelinaaGreatDoor.K
namespace Go.Proofs.YtmokmalepelinaaGreatDoor.K
open Go.RowKit
def badP (x:Pattern):Bool:=ilt (llen x.2.1) 1||(igt (llen x.2.1) 64|| !(validF x.1))
def ptChk (p:List Pattern):Int:=bif p.any badP then 21 else bif igt (llen p) 32 then 21 else 0
def ptLen (p:List Pattern):Bool:=decide (p.length<=100000)
def fg_f36_0:Fg:=⟨[(0,some (.sl tyPattern)),(5,some (.sl tyPattern)),(6,some tI),(7,some tI)],[]⟩
noncomputable def tb_f36_0:TC:=(.sq (.reg (rT Tryz.f36 2)) (.sq (.cd (.t 8) .sk (.fg ⟨[(0,some (.sl tyPattern))],[]⟩ (.ex 0))) (.sq (.bk 1 (.sq (.reg (rT Tryz.f36 3)) (.sq (.reg (rT Tryz.f36 4)) (.cd (.t 26) (.sq (.reg (rT Tryz.f36 5)) (.fg ⟨[(2,some tI)],[]⟩ .rt)) .sk)))) (.reg (rT Tryz.f36 6)))))
noncomputable def tc_f36:TC:=(.sq (.reg (rT Tryz.f36 0)) (.sq (.sq (.reg (rT Tryz.f36 1)) (.bk 0 (.lp 0 fg_f36_0 tb_f36_0))) (.sq (.sq (.reg (rT Tryz.f36 7)) (.cd (.t 30) (.sq (.reg (rT Tryz.f36 8)) .rt) .sk)) (.sq (.reg (rT Tryz.f36 9)) .rt))))
def rv_f36:List (RV×Option Ty):=[((.t 2),some tI)]
abbrev sh_f36_0:Sh:=⟨[(0,.ty (.sl tyPattern)),(5,.ty (.sl tyPattern)),(6,.ty tI),(7,.ty tI)],[]⟩
def st_f36_0 (x0 x5:List Pattern)(x6 x7:Int):VS:=sh_f36_0.st (x0,x5,x6,x7,()) ()
abbrev sh_f36_0_ret:Sh:=⟨[(2,.ty tI)],[]⟩
def st_f36_0_ret (x2:Int):VS:=sh_f36_0_ret.st (x2,()) ()
abbrev sh_f36_0_e0:Sh:=⟨[(0,.ty (.sl tyPattern))],[]⟩
def st_f36_0_e0 (x0:List Pattern):VS:=sh_f36_0_e0.st (x0,()) ()
def L_f36_0:VS->Option (Bool×List (Bool×Exit×VS)):=mkL sh_f36_0 (fun x y=>(rngOk x.2.1 x.2.2.1 x.2.2.2.1)) (fun x y=>[(((x.2.1.drop x.2.2.2.1.toNat).any badP),.ret,st_f36_0_ret (21)),(true,.exit 0,st_f36_0_e0 (x.1))])
def g_f36:G:=⟨TYs,[],31,EL [(46,sp_f46)],keeps,(Ls [L_f36_0]),IL [],RL []⟩
def b_f36_0 (x0 x5:List Pattern)(x6 x7:Int):Option (Exit×VS):=
 let a1:=lgt tyPattern x5 (Int.toNat x7)
 br (ilt x7 x6) (br (cIx x5 x7) (br (ilt (llen ((a1.2).1)) 1) (some (.ret,st_f36_0_ret 21)) (br (igt (llen ((a1.2).1)) 64) (some (.ret,st_f36_0_ret 21)) (br (!(validF (a1.1))) (some (.ret,st_f36_0_ret 21)) (some (.normal,st_f36_0 x0 x5 x6 (iadd .i64 x7 1)))))) none) (some (.exit 0,st_f36_0_e0 x0))
noncomputable def lp_f36_0 (x0 x5:List Pattern)(x6 x7:Int):Option (Exit×VS):=loopF (roundF g_f36 fg_f36_0 tb_f36_0) (st_f36_0 x0 x5 x6 x7)
noncomputable def n_f36_0 (x0 x5:List Pattern)(x6 x7:Int):Option (Exit×VS):=
 let a1:=lgt tyPattern x5 (Int.toNat x7)
 br (ilt x7 x6) (br (cIx x5 x7) (br (ilt (llen ((a1.2).1)) 1) (some (.ret,st_f36_0_ret 21)) (br (igt (llen ((a1.2).1)) 64) (some (.ret,st_f36_0_ret 21)) (br (!(validF (a1.1))) (some (.ret,st_f36_0_ret 21)) (lp_f36_0 x0 x5 x6 (iadd .i64 x7 1))))) none) (some (.exit 0,st_f36_0_e0 x0))
def la_f36_0 (x0 x5:List Pattern)(x6 x7:Int):Option (Exit×VS):=br ((x5.drop x7.toNat).any badP) (some (.ret,st_f36_0_ret (21)))<|some (.exit 0,st_f36_0_e0 (x0))
theorem be_f36_0 (x0 x5:List Pattern)(x6 x7:Int):roundF g_f36 fg_f36_0 tb_f36_0 (st_f36_0 x0 x5 x6 x7)=b_f36_0 x0 x5 x6 x7:=by kernel_rfl
theorem ln_f36_0 (x0 x5:List Pattern)(x6 x7:Int):lp_f36_0 x0 x5 x6 x7=n_f36_0 x0 x5 x6 x7:=(loopF_nxt _ _).trans (by
 rw [be_f36_0]
 simp only [b_f36_0,n_f36_0,nxt_br,nxt_n,nxt_r,nxt_e,nxt_0]
 rfl)
def r_f36 (p0:List Pattern):Option (V×List VO):=br (rngOk p0 (llen p0) (0:Int)) (br ((p0.drop (0:Int).toNat).any badP) (some (.t tI (21),[])) (br (igt (llen (p0)) 32) (some (.t tI 21,[])) (some (.t tI 0,[])))) none
theorem e_f36 (p0:List Pattern):runF g_f36 tc_f36 rv_f36 false [.t (.sl tyPattern) p0] []=r_f36 p0:=by kernel_rfl
theorem en_f36:Entered Tryz.prog 36:= .inr ⟨by decide,_,Tryz.func36,by kernel_rfl,by kernel_rfl⟩
theorem gk_f36:GOk Tryz.prog g_f36:=gok_of _ (gA (gC en_f46 ms_f46 gN))
theorem l_f36_0 (x0 x5:List Pattern)(x6 x7:Int)(h:(rngOk x5 x6 x7)=true):lp_f36_0 x0 x5 x6 x7=la_f36_0 x0 x5 x6 x7:=by
 obtain ⟨rfl,h3,k,rfl,hk⟩:=rng_k h
 clear h
 refine range_ind x5 (fun k=>lp_f36_0 x0 x5 (x5.length:Int) (k:Int)=la_f36_0 x0 x5 (x5.length:Int) (k:Int)) ?_ ?_ k hk
 ·rw [ln_f36_0]
  simp [n_f36_0,la_f36_0,ilt_nat,br_false]
 ·intro k hk ih
  rw [ln_f36_0]
  simp only [n_f36_0,ilt_nat,cIx_nat,hk,decide_true,br_true,Int.toNat_natCast,add1 (k:=k),lgt_get (y:=tyPattern) hk,ih]
  simp only [la_f36_0,Int.toNat_natCast,List.drop_eq_getElem_cons hk,List.any_cons,badP]
  cases ilt (llen x5[k].2.1) 1<;>cases igt (llen x5[k].2.1) 64<;>cases validF x5[k].1<;>simp [br_true,br_false]<;>rfl
theorem lo_f36_0: ∀ S l p,g_f36.L 0 (fgt fg_f36_0 S)=some (true,l)->pickA l=some p->loopF (roundF g_f36 fg_f36_0 tb_f36_0) S=some p:=
 lok_of (s:=sh_f36_0) ⟨by decide,by decide⟩ (by kernel_rfl) fun x y hok p hp=>by
 simp only [pickA_br,pickA_one] at hp
 exact (l_f36_0 x.1 x.2.1 x.2.2.1 x.2.2.2.1 (by simpa using hok)).trans hp
theorem lk_f36:tc_f36.lok g_f36:=by
 repeat (first|exact trivial|exact lo_f36_0|refine ⟨?_, ?_⟩)
theorem s_f36 (p:List Pattern)(h:ptLen p=true):r_f36 p=some (.t tI (ptChk p),[]):=by
 have h:p.length<=100000:=of_decide_eq_true h
 simp only [r_f36,rng_0 h,br_true,Int.toNat_zero,List.drop_zero,ptChk]
 cases p.any badP<;>cases igt (llen p) 32<;>rfl
def sp_f36:Ent:=spec (.pr (.sl tyPattern) .nil) (fun x=>(ptLen x.1)) (fun x=>(.t tI (ptChk x.1)))
theorem ms_f36:Meets Tryz.prog 36 (strip sp_f36):=meets_spec (R:=runF g_f36 tc_f36 rv_f36 false) (mG Tryz.func36 (by kernel_rfl) Tryz.ntmps36 (by kernel_rfl) gk_f36 lk_f36) fun x hok=>(e_f36 x.1).trans (s_f36 x.1 hok)
abbrev fHost (f:Finding):ByteArray:=f.2.1
abbrev fMach (f:Finding):Int:=f.2.2.1
abbrev fDay (f:Finding):Int:=f.2.2.2.1
abbrev fConf (f:Finding):Int:=f.2.2.2.2.1
abbrev fKind (f:Finding):Int:=f.2.2.2.2.2.1
abbrev fSubj (f:Finding):ByteArray:=f.2.2.2.2.2.2.1
abbrev fUse (f:Finding):Keep:=f.2.2.2.2.2.2.2.1
abbrev fNum (f:Finding):Int:=f.2.2.2.2.2.2.2.2.1
abbrev fText (f:Finding):ByteArray:=f.2.2.2.2.2.2.2.2.2.1
def no0 (u:Keep):Bool:=and (ieq u.1 0) (and (ieq u.2.1 0) true)
def emT (s:ByteArray):Bool:=seq s (ByteArray.mk #[])
def contF (f:Finding):Bool:=
 bif ieq (fKind f) 1||ieq (fKind f) 8 then validF (fUse f)&&(ieq (fNum f) 0&&emT (fText f))
 else bif ieq (fKind f) 2 then no0 (fUse f)&&(emT (fText f)&&(ige (fNum f) 0&&ile (fNum f) 65535))
 else bif ieq (fKind f) 3 then validF (fUse f)&&(ieq (kindF (fUse f).1) 2&&(ige (fNum f) 0&&(ile (fNum f) 2147483648&&emT (fText f))))
 else bif ieq (fKind f) 4||ieq (fKind f) 5 then no0 (fUse f)&&(emT (fText f)&&(ige (fNum f) 1&&ile (fNum f) 4))
 else bif ieq (fKind f) 6 then no0 (fUse f)&&(emT (fText f)&&(ige (fNum f) 0&&ile (fNum f) 2147483648))
 else bif ieq (fKind f) 7 then no0 (fUse f)&&(ieq (fNum f) 0&&namedG (fText f))
 else false
def contOk (f:Finding):Bool:=nameG (fText f)
noncomputable def tc_f190:TC:=(.sq (.reg (rT Tryz.f190 0)) (.sq (.reg (rT Tryz.f190 1)) (.sq (.sq (.reg (rT Tryz.f190 2)) (.bk 0 (.sq (.sq (.reg (rT Tryz.f190 3)) (.cd (.t 15) .sk (.reg (rT Tryz.f190 4)))) (.cd (.t 15) (.sq (.reg (rT Tryz.f190 5)) .rt) (.sq (.reg (rT Tryz.f190 6)) (.cd (.t 31) (.sq (.reg (rT Tryz.f190 7)) .rt) (.sq (.reg (rT Tryz.f190 8)) (.cd (.t 44) (.sq (.reg (rT Tryz.f190 9)) .rt) (.sq (.sq (.reg (rT Tryz.f190 10)) (.cd (.t 71) .sk (.reg (rT Tryz.f190 11)))) (.cd (.t 71) (.sq (.reg (rT Tryz.f190 12)) .rt) (.sq (.reg (rT Tryz.f190 13)) (.cd (.t 85) (.sq (.reg (rT Tryz.f190 14)) .rt) (.sq (.reg (rT Tryz.f190 15)) (.cd (.t 98) (.sq (.reg (rT Tryz.f190 16)) .rt) .sk)))))))))))))) (.sq (.reg (rT Tryz.f190 17)) .rt))))
def rv_f190:List (RV×Option Ty):=[((.t 2),some .bool)]
def g_f190:G:=⟨TYs,[],114,EL [(46,sp_f46),(163,sp_f163),(240,sp_f240)],keeps,(fun _ _=>none),IL [],RL []⟩
def r_f190_1 (p0:Finding):Option (V×List VO):=br (validF p0.2.2.2.2.2.2.2.1) (br (ieq p0.2.2.2.2.2.2.2.2.1 0) (some (.t .bool (seq p0.2.2.2.2.2.2.2.2.2.1 (ByteArray.mk #[])),[])) (some (.t .bool false,[]))) (some (.t .bool false,[]))
def r_f190_3 (p0:Finding):Option (V×List VO):=br (validF p0.2.2.2.2.2.2.2.1) (br (ieq (kindF p0.2.2.2.2.2.2.2.1.1) 2) (br (ige p0.2.2.2.2.2.2.2.2.1 0) (br (ile p0.2.2.2.2.2.2.2.2.1 2147483648) (some (.t .bool (seq p0.2.2.2.2.2.2.2.2.2.1 (ByteArray.mk #[])),[])) (some (.t .bool false,[]))) (some (.t .bool false,[]))) (some (.t .bool false,[]))) (some (.t .bool false,[]))
def r_f190_4 (p0:Finding):Option (V×List VO):=br (seq p0.2.2.2.2.2.2.2.2.2.1 (ByteArray.mk #[])) (br (ige p0.2.2.2.2.2.2.2.2.1 1) (some (.t .bool (ile p0.2.2.2.2.2.2.2.2.1 4),[])) (some (.t .bool false,[]))) (some (.t .bool false,[]))
def r_f190_6 (p0:Finding):Option (V×List VO):=br (ieq p0.2.2.2.2.2.1 7) (br (and (ieq p0.2.2.2.2.2.2.2.1.1 0) (and (ieq p0.2.2.2.2.2.2.2.1.2.1 0) true)) (br (ieq p0.2.2.2.2.2.2.2.2.1 0) (br (nameG p0.2.2.2.2.2.2.2.2.2.1) (some (.t .bool (namedG p0.2.2.2.2.2.2.2.2.2.1),[])) none) (some (.t .bool false,[]))) (some (.t .bool false,[]))) (some (.t .bool false,[]))
def r_f190_5 (p0:Finding):Option (V×List VO):=br (ieq p0.2.2.2.2.2.1 6) (br (seq p0.2.2.2.2.2.2.2.2.2.1 (ByteArray.mk #[])) (br (ige p0.2.2.2.2.2.2.2.2.1 0) (some (.t .bool (ile p0.2.2.2.2.2.2.2.2.1 2147483648),[])) (some (.t .bool false,[]))) (some (.t .bool false,[]))) (r_f190_6 p0)
def r_f190_2 (p0:Finding):Option (V×List VO):=br (ieq p0.2.2.2.2.2.1 2) (br (seq p0.2.2.2.2.2.2.2.2.2.1 (ByteArray.mk #[])) (br (ige p0.2.2.2.2.2.2.2.2.1 0) (some (.t .bool (ile p0.2.2.2.2.2.2.2.2.1 65535),[])) (some (.t .bool false,[]))) (some (.t .bool false,[]))) (br (ieq p0.2.2.2.2.2.1 3) (r_f190_3 p0) (br (ieq p0.2.2.2.2.2.1 4) (br (ieq p0.2.2.2.2.2.1 4) (r_f190_4 p0) (r_f190_5 p0)) (br (ieq p0.2.2.2.2.2.1 5) (r_f190_4 p0) (r_f190_5 p0))))
def r_f190_8 (p0:Finding):Option (V×List VO):=br (ieq p0.2.2.2.2.2.1 6) (some (.t .bool false,[])) (r_f190_6 p0)
def r_f190_7 (p0:Finding):Option (V×List VO):=br (ieq p0.2.2.2.2.2.1 2) (some (.t .bool false,[])) (br (ieq p0.2.2.2.2.2.1 3) (r_f190_3 p0) (br (ieq p0.2.2.2.2.2.1 4) (br (ieq p0.2.2.2.2.2.1 4) (some (.t .bool false,[])) (r_f190_8 p0)) (br (ieq p0.2.2.2.2.2.1 5) (some (.t .bool false,[])) (r_f190_8 p0))))
def r_f190 (p0:Finding):Option (V×List VO):=
 let a1:=ieq p0.2.2.2.2.2.1 1
 br (and (ieq p0.2.2.2.2.2.2.2.1.1 0) (and (ieq p0.2.2.2.2.2.2.2.1.2.1 0) true)) (br a1 (br a1 (r_f190_1 p0) (r_f190_2 p0)) (br (ieq p0.2.2.2.2.2.1 8) (r_f190_1 p0) (r_f190_2 p0))) (br a1 (br a1 (r_f190_1 p0) (r_f190_7 p0)) (br (ieq p0.2.2.2.2.2.1 8) (r_f190_1 p0) (r_f190_7 p0)))
theorem e_f190 (p0:Finding):runF g_f190 tc_f190 rv_f190 false [.t tyFinding p0] []=r_f190 p0:=by kernel_rfl
theorem en_f190:Entered Tryz.prog 190:= .inr ⟨by decide,_,Tryz.func190,by kernel_rfl,by kernel_rfl⟩
theorem gk_f190:GOk Tryz.prog g_f190:=gok_of _ (gA (gC en_f46 ms_f46 (gC en_f163 ms_f163 (gC en_f240 ms_f240 gN))))
theorem lk_f190:tc_f190.lok g_f190:=by repeat (first|exact trivial|refine ⟨?_, ?_⟩)
theorem s_f190 (f:Finding)(h:contOk f=true):r_f190 f=some (.t .bool (contF f),[]):=by
 have h:nameG (fText f)=true:=h
 simp only [r_f190,r_f190_1,r_f190_2,r_f190_3,r_f190_4,r_f190_5,r_f190_6,r_f190_7,r_f190_8,h,contF,no0,emT,fKind,fUse,fNum,fText]
 generalize ieq f.2.2.2.2.2.1 1=k1
 generalize ieq f.2.2.2.2.2.1 8=k8
 generalize ieq f.2.2.2.2.2.1 2=k2
 generalize ieq f.2.2.2.2.2.1 3=k3
 generalize ieq f.2.2.2.2.2.1 4=k4
 generalize ieq f.2.2.2.2.2.1 5=k5
 generalize ieq f.2.2.2.2.2.1 6=k6
 generalize ieq f.2.2.2.2.2.1 7=k7
 generalize ieq f.2.2.2.2.2.2.2.1.1 0=u1
 generalize ieq f.2.2.2.2.2.2.2.1.2.1 0=u2
 generalize validF f.2.2.2.2.2.2.2.1=va
 generalize ieq f.2.2.2.2.2.2.2.2.1 0=n0
 generalize ige f.2.2.2.2.2.2.2.2.1 0=n1
 generalize ile f.2.2.2.2.2.2.2.2.1 65535=n2
 generalize ige f.2.2.2.2.2.2.2.2.1 1=n3
 generalize ile f.2.2.2.2.2.2.2.2.1 4=n4
 generalize ile f.2.2.2.2.2.2.2.2.1 2147483648=n5
 generalize seq f.2.2.2.2.2.2.2.2.2.1 (ByteArray.mk #[])=em
 cases k1
 ·cases k8
  ·cases k2
   ·cases k3
    ·cases k4
     ·cases k5
      ·cases k6
       ·cases k7<;>cases u1<;>cases u2<;>cases n0<;>rfl
       ·cases u1<;>cases u2<;>cases em<;>cases n1<;>rfl
      ·cases u1<;>cases u2<;>cases em<;>cases n3<;>rfl
     ·cases u1<;>cases u2<;>cases em<;>cases n3<;>rfl
    ·cases u1<;>cases u2<;>cases va<;>cases ieq (kindF f.2.2.2.2.2.2.2.1.1) 2<;>cases n1<;>cases n5<;>rfl
   ·cases u1<;>cases u2<;>cases em<;>cases n1<;>rfl
  ·cases u1<;>cases u2<;>cases va<;>cases n0<;>rfl
 ·cases u1<;>cases u2<;>cases va<;>cases n0<;>rfl
def sp_f190:Ent:=spec (.pr tyFinding .nil) (fun x=>(contOk x.1)) (fun x=>(.t .bool (contF x.1)))
theorem ms_f190:Meets Tryz.prog 190 (strip sp_f190):=meets_spec (R:=runF g_f190 tc_f190 rv_f190 false) (mG Tryz.func190 (by kernel_rfl) Tryz.ntmps190 (by kernel_rfl) gk_f190 lk_f190) fun x hok=>(e_f190 x.1).trans (s_f190 x.1 hok)
def whereF (f:Finding):Bool:=namedG (fHost f)&&(namedG (fSubj f)&&(ige (fMach f) 0&&ile (fMach f) 1099511627776))
def whenF (f:Finding):Bool:=ige (fDay f) 0&&(ile (fDay f) 40000&&(ige (fConf f) 1&&ile (fConf f) 100))
def fdGood (f:Finding):Bool:=whereF f&&(whenF f&&(!(ilt f.1 1)&&(!(igt f.1 7)&&contF f)))
def fdChk (f:Finding):Int:=bif fdGood f then 0 else 24
def fdOk (f:Finding):Bool:=nameG (fHost f)&&(nameG (fSubj f)&&contOk f)
noncomputable def tc_f105:TC:=(.sq (.reg (rT Tryz.f105 0)) (.sq (.reg (rT Tryz.f105 1)) (.sq (.reg (rT Tryz.f105 2)) (.sq (.sq (.reg (rT Tryz.f105 3)) (.cd (.t 61) (.sq (.reg (rT Tryz.f105 4)) .rt) .sk)) (.sq (.reg (rT Tryz.f105 5)) .rt)))))
def rv_f105:List (RV×Option Ty):=[((.t 2),some tI)]
def g_f105:G:=⟨TYs,[],62,EL [(163,sp_f163),(190,sp_f190)],keeps,(fun _ _=>none),IL [],RL []⟩
def r_f105_2 (p0:Finding):Option (V×List VO):=br (ilt p0.1 1) (some (.t tI 24,[])) (br (igt p0.1 7) (some (.t tI 24,[])) (br (contOk p0) (br (!(contF p0)) (some (.t tI 24,[])) (some (.t tI 0,[]))) none))
def r_f105_1 (p0:Finding):Option (V×List VO):=br (!(ile p0.2.2.2.2.1 100)) (some (.t tI 24,[])) (r_f105_2 p0)
def r_f105_4 (p0:Finding):Option (V×List VO):=br (!false) (some (.t tI 24,[])) (r_f105_2 p0)
def r_f105_3 (p0:Finding):Option (V×List VO):=br (!(ile p0.2.2.1 1099511627776)) (some (.t tI 24,[])) (r_f105_4 p0)
def r_f105_6 (p0:Finding):Option (V×List VO):=br (!false) (some (.t tI 24,[])) (r_f105_4 p0)
def r_f105_5 (p0:Finding):Option (V×List VO):=br (ige p0.2.2.2.1 0) (br (ile p0.2.2.2.1 40000) (br (ige p0.2.2.2.2.1 1) (br (!false) (some (.t tI 24,[])) (r_f105_1 p0)) (r_f105_6 p0)) (r_f105_6 p0)) (r_f105_6 p0)
def r_f105 (p0:Finding):Option (V×List VO):=br (nameG p0.2.1) (br (namedG p0.2.1) (br (nameG p0.2.2.2.2.2.2.1) (br (namedG p0.2.2.2.2.2.2.1) (br (ige p0.2.2.1 0) (br (ige p0.2.2.2.1 0) (br (ile p0.2.2.2.1 40000) (br (ige p0.2.2.2.2.1 1) (br (!(ile p0.2.2.1 1099511627776)) (some (.t tI 24,[])) (r_f105_1 p0)) (r_f105_3 p0)) (r_f105_3 p0)) (r_f105_3 p0)) (r_f105_5 p0)) (r_f105_5 p0)) none) (r_f105_5 p0)) none
theorem e_f105 (p0:Finding):runF g_f105 tc_f105 rv_f105 false [.t tyFinding p0] []=r_f105 p0:=by kernel_rfl
theorem en_f105:Entered Tryz.prog 105:= .inr ⟨by decide,_,Tryz.func105,by kernel_rfl,by kernel_rfl⟩
theorem gk_f105:GOk Tryz.prog g_f105:=gok_of _ (gA (gC en_f163 ms_f163 (gC en_f190 ms_f190 gN)))
theorem lk_f105:tc_f105.lok g_f105:=by repeat (first|exact trivial|refine ⟨?_, ?_⟩)
theorem s_f105 (f:Finding)(h:fdOk f=true):r_f105 f=some (.t tI (fdChk f),[]):=by
 obtain ⟨h1,h2⟩:=Bool.and_eq_true_iff.1 h
 obtain ⟨h2,h3⟩:=Bool.and_eq_true_iff.1 h2
 simp only [r_f105,r_f105_1,r_f105_2,r_f105_3,r_f105_4,r_f105_5,r_f105_6,fdChk,fdGood,whereF,whenF,h1,h2,h3,fHost,fSubj,fMach,fDay,fConf] at*
 simp only [h1,h2,h3,br_true]
 generalize namedG f.2.1=a1
 generalize namedG f.2.2.2.2.2.2.1=a2
 generalize ige f.2.2.1 0=a3
 generalize ile f.2.2.1 1099511627776=a4
 generalize ige f.2.2.2.1 0=b1
 generalize ile f.2.2.2.1 40000=b2
 generalize ige f.2.2.2.2.1 1=b3
 generalize ile f.2.2.2.2.1 100=b4
 generalize ilt f.1 1=c1
 generalize igt f.1 7=c2
 generalize contF f=c3
 cases a1<;>cases a2<;>cases a3<;>cases a4<;>cases b1<;>cases b2<;>cases b3<;>cases b4<;>first|rfl|(cases c1<;>cases c2<;>cases c3<;>rfl)
def sp_f105:Ent:=spec (.pr tyFinding .nil) (fun x=>(fdOk x.1)) (fun x=>(.t tI (fdChk x.1)))
theorem ms_f105:Meets Tryz.prog 105 (strip sp_f105):=meets_spec (R:=runF g_f105 tc_f105 rv_f105 false) (mG Tryz.func105 (by kernel_rfl) Tryz.ntmps105 (by kernel_rfl) gk_f105 lk_f105) fun x hok=>(e_f105 x.1).trans (s_f105 x.1 hok)
end Go.Proofs.YtmokmalepelinaaGreatDoor.K
namespace Go.Proofs.YtmokmalepelinaaGreatDoor.K
open Go.RowKit
theorem dOk_of {d:Dice}{l:List Int}(h:dOk d=true):dOk (dofN d l)=true:=dOk_next h
theorem dof_mem {d:Dice}{l:List Int}(h:l≠[]):dof d l∈l:=by
 have hl:0<(l.length:Int):=by
  cases l with
  |nil=>exact absurd rfl h
  |cons a l=>rw [List.length_cons];omega
 have h2:=dval_lt (d:=d) hl
 have h3:(dval d l.length).toNat<l.length:=by omega
 unfold dof
 rw [List.getD_eq_getElem?_getD,List.getElem?_eq_getElem h3]
 exact List.getElem_mem h3
def szL (a:Int):List Int:=
 if a=5∨a=6∨a=10∨a=11 then [2048,1024,512,3072,1023,4096,16384]
 else if a=7∨a=12 then [256,160,224,384,521]
 else if a=9 then [65,44,87]
 else if a=13 then [768,512,1024]
 else if a=14 then [128,40]
 else if a=15 then [168,112]
 else if a=16∨a=17 then [128,256]
 else []
def sizeV (d:Dice)(a:Int):Int:=if szL a=[] then 0 else dof d (szL a)
def sizeN (d:Dice)(a:Int):Dice:=if szL a=[] then d else dofN d (szL a)
def dOk1 (d:Dice)(_a:Int):Bool:=dOk d
noncomputable def tc_f86:TC:=(.sq (.reg (rT Tryz.f86 0)) (.sq (.sq (.reg (rT Tryz.f86 1)) (.bk 0 (.sq (.sq (.reg (rT Tryz.f86 2)) (.cd (.t 6) .sk (.sq (.reg (rT Tryz.f86 3)) (.cd (.t 6) .sk (.sq (.reg (rT Tryz.f86 4)) (.cd (.t 6) .sk (.reg (rT Tryz.f86 5)))))))) (.cd (.t 6) (.sq (.reg (rT Tryz.f86 6)) .rt) (.sq (.sq (.reg (rT Tryz.f86 7)) (.cd (.t 14) .sk (.reg (rT Tryz.f86 8)))) (.cd (.t 14) (.sq (.reg (rT Tryz.f86 9)) .rt) (.sq (.reg (rT Tryz.f86 10)) (.cd (.t 20) (.sq (.reg (rT Tryz.f86 11)) .rt) (.sq (.reg (rT Tryz.f86 12)) (.cd (.t 25) (.sq (.reg (rT Tryz.f86 13)) .rt) (.sq (.reg (rT Tryz.f86 14)) (.cd (.t 30) (.sq (.reg (rT Tryz.f86 15)) .rt) (.sq (.reg (rT Tryz.f86 16)) (.cd (.t 35) (.sq (.reg (rT Tryz.f86 17)) .rt) (.sq (.sq (.reg (rT Tryz.f86 18)) (.cd (.t 40) .sk (.reg (rT Tryz.f86 19)))) (.cd (.t 40) (.sq (.reg (rT Tryz.f86 20)) .rt) .sk)))))))))))))))) (.sq (.reg (rT Tryz.f86 21)) .rt)))
def rv_f86:List (RV×Option Ty):=[((.t 4),some tI)]
def g_f86:G:=⟨TYs,[],46,EL [(26,sp_f26)],keeps,(fun _ _=>none),IL [],RL []⟩
def r_f86_1 (d0:Dice)(p1:Int):Option (V×List VO):=br (ofOk d0 ([2048,1024,512,3072,1023,4096,16384])) (some (.t tI (dof d0 ([2048,1024,512,3072,1023,4096,16384])),[.box (.t tyDice (dofN d0 ([2048,1024,512,3072,1023,4096,16384])))])) none
def r_f86_3 (d0:Dice)(p1:Int):Option (V×List VO):=br (ofOk d0 ([256,160,224,384,521])) (some (.t tI (dof d0 ([256,160,224,384,521])),[.box (.t tyDice (dofN d0 ([256,160,224,384,521])))])) none
def r_f86_5 (d0:Dice)(p1:Int):Option (V×List VO):=br (ofOk d0 ([128,256])) (some (.t tI (dof d0 ([128,256])),[.box (.t tyDice (dofN d0 ([128,256])))])) none
def r_f86_4 (d0:Dice)(p1:Int):Option (V×List VO):=br (ieq p1 9) (br (ofOk d0 ([65,44,87])) (some (.t tI (dof d0 ([65,44,87])),[.box (.t tyDice (dofN d0 ([65,44,87])))])) none) (br (ieq p1 13) (br (ofOk d0 ([768,512,1024])) (some (.t tI (dof d0 ([768,512,1024])),[.box (.t tyDice (dofN d0 ([768,512,1024])))])) none) (br (ieq p1 14) (br (ofOk d0 ([128,40])) (some (.t tI (dof d0 ([128,40])),[.box (.t tyDice (dofN d0 ([128,40])))])) none) (br (ieq p1 15) (br (ofOk d0 ([168,112])) (some (.t tI (dof d0 ([168,112])),[.box (.t tyDice (dofN d0 ([168,112])))])) none) (br (ieq p1 16) (br (ieq p1 16) (r_f86_5 d0 p1) (some (.t tI 0,[.box (.t tyDice d0)]))) (br (ieq p1 17) (r_f86_5 d0 p1) (some (.t tI 0,[.box (.t tyDice d0)])))))))
def r_f86_2 (d0:Dice)(p1:Int):Option (V×List VO):=br (ieq p1 7) (br (ieq p1 7) (r_f86_3 d0 p1) (r_f86_4 d0 p1)) (br (ieq p1 12) (r_f86_3 d0 p1) (r_f86_4 d0 p1))
def r_f86 (d0:Dice)(p1:Int):Option (V×List VO):=br (ieq p1 5) (br (ieq p1 5) (r_f86_1 d0 p1) (r_f86_2 d0 p1)) (br (ieq p1 6) (br (ieq p1 6) (r_f86_1 d0 p1) (r_f86_2 d0 p1)) (br (ieq p1 10) (br (ieq p1 10) (r_f86_1 d0 p1) (r_f86_2 d0 p1)) (br (ieq p1 11) (r_f86_1 d0 p1) (r_f86_2 d0 p1))))
theorem e_f86 (d0:Dice)(p1:Int):runF g_f86 tc_f86 rv_f86 false [.ptr 50000 0,.t tI p1] [.box (.t tyDice d0)]=r_f86 d0 p1:=by kernel_rfl
theorem en_f86:Entered Tryz.prog 86:= .inr ⟨by decide,_,Tryz.func86,by kernel_rfl,by kernel_rfl⟩
theorem gk_f86:GOk Tryz.prog g_f86:=gok_of _ (gA (gC en_f26 ms_f26 gN))
theorem lk_f86:tc_f86.lok g_f86:=by repeat (first|exact trivial|refine ⟨?_, ?_⟩)
theorem s_f86 (d:Dice)(a:Int)(h:dOk1 d a=true):r_f86 d a=some (.t tI (sizeV d a),[.box (.t tyDice (sizeN d a))]):=by
 have h:dOk d=true:=h
 have ho: ∀ l:List Int,l≠[]->l.length<=100->ofOk d l=true:=fun l h1 h2=>by
  have:0<l.length:=List.length_pos_iff.2 h1
  simp only [ofOk,h,Bool.true_and,decide_eq_true_eq]
  omega
 simp only [r_f86,r_f86_1,r_f86_2,r_f86_3,r_f86_4,r_f86_5,ho _ (show ([2048,1024,512,3072,1023,4096,16384]:List Int)≠[] by decide) (by decide),ho _ (show ([256,160,224,384,521]:List Int)≠[] by decide) (by decide),ho _ (show ([65,44,87]:List Int)≠[] by decide) (by decide),ho _ (show ([768,512,1024]:List Int)≠[] by decide) (by decide),ho _ (show ([128,40]:List Int)≠[] by decide) (by decide),ho _ (show ([168,112]:List Int)≠[] by decide) (by decide),ho _ (show ([128,256]:List Int)≠[] by decide) (by decide),br_true]
 rcases alg_cases a with ⟨e,hb⟩|hc
 ·have e1:szL a=[]:=by
   unfold szL
   repeat rw [if_neg (by omega)]
  simp only [e 5 (by decide),e 6 (by decide),e 7 (by decide),e 9 (by decide),e 10 (by decide),e 11 (by decide),e 12 (by decide),e 13 (by decide),e 14 (by decide),e 15 (by decide),e 16 (by decide),e 17 (by decide),br_false,sizeV,sizeN,e1,if_true]
 ·rcases hc with rfl|rfl|rfl|rfl|rfl|rfl|rfl|rfl|rfl|rfl|rfl|rfl|rfl|rfl|rfl|rfl|rfl|rfl|rfl|rfl|rfl|rfl<;>rfl
def sp_f86:Ent:=specP tyDice (.pr tI .nil) (fun d x=>(dOk1 d x.1)) (fun d x=>(.t tI (sizeV d x.1))) (fun d x=>(sizeN d x.1))
theorem ms_f86:Meets Tryz.prog 86 (strip sp_f86):=meets_specP (R:=runF g_f86 tc_f86 rv_f86 false) (mG Tryz.func86 (by kernel_rfl) Tryz.ntmps86 (by kernel_rfl) gk_f86 lk_f86) rfl fun d x hok=>(e_f86 d x.1).trans (s_f86 d x.1 hok)
def useV (d:Dice):Keep:=(1+dval d 22,(sizeV (dnext d 22) (1+dval d 22),()))
def useN (d:Dice):Dice:=sizeN (dnext d 22) (1+dval d 22)
noncomputable def tc_f28:TC:=(.sq (.reg (rT Tryz.f28 0)) (.sq (.reg (rT Tryz.f28 1)) (.sq (.reg (rT Tryz.f28 2)) .rt)))
def rv_f28:List (RV×Option Ty):=[((.c 2 true 2),some tyKeep)]
def g_f28:G:=⟨TYs,[],12,EL [(25,sp_f25),(86,sp_f86)],keeps,(fun _ _=>none),IL [],RL []⟩
def r_f28 (d0:Dice):Option (V×List VO):=
 let a1:=iadd .i64 1 (dval d0 22)
 br (nextOk d0 22) (br (dOk1 (dnext d0 22) a1) (some (.t tyKeep (a1,((sizeV (dnext d0 22) a1),())),[.box (.t tyDice (sizeN (dnext d0 22) a1))])) none) none
theorem e_f28 (d0:Dice):runF g_f28 tc_f28 rv_f28 false [.ptr 50000 0] [.box (.t tyDice d0)]=r_f28 d0:=by kernel_rfl
theorem en_f28:Entered Tryz.prog 28:= .inr ⟨by decide,_,Tryz.func28,by kernel_rfl,by kernel_rfl⟩
theorem gk_f28:GOk Tryz.prog g_f28:=gok_of _ (gA (gC en_f25 ms_f25 (gC en_f86 ms_f86 gN)))
theorem lk_f28:tc_f28.lok g_f28:=by repeat (first|exact trivial|refine ⟨?_, ?_⟩)
theorem s_f28 (d:Dice)(h:dOk d=true):r_f28 d=some (.t tyKeep (useV d),[.box (.t tyDice (useN d))]):=by
 have h1:nextOk d 22=true:=by simp [nextOk,h]
 have h2:=dval_lt (d:=d) (n:=22) (by omega)
 have h3:iadd .i64 1 (dval d 22)=1+dval d 22:=iadd_in (by omega)
 have h4: ∀ a,dOk1 (dnext d 22) a=true:=fun a=>dOk_next h
 simp only [r_f28,h1,h3,h4,br_true]
 rfl
def sp_f28:Ent:=specP tyDice .nil (fun d x=>(dOk d)) (fun d x=>(.t tyKeep (useV d))) (fun d x=>(useN d))
theorem ms_f28:Meets Tryz.prog 28 (strip sp_f28):=meets_specP (R:=runF g_f28 tc_f28 rv_f28 false) (mG Tryz.func28 (by kernel_rfl) Tryz.ntmps28 (by kernel_rfl) gk_f28 lk_f28) rfl fun d x hok=>(e_f28 d).trans (s_f28 d hok)
theorem dOk_size {d:Dice}{a:Int}(h:dOk d=true):dOk (sizeN d a)=true:=by
 unfold sizeN
 split
 ·exact h
 ·exact dOk_of h
theorem dOk_use {d:Dice}(h:dOk d=true):dOk (useN d)=true:=dOk_size (dOk_next h)
theorem size_valid {d:Dice}{a:Int}(h1:1<=a)(h2:a<=22):validF (a,(sizeV d a,()))=true:=by
 have hm:sizeV d a∈(if szL a=[] then [0] else szL a):=by
  unfold sizeV
  split
  ·simp
  ·rename_i h
   exact dof_mem h
 have ha: ∀ l:List Int,(∀ x,x∈l->validF (a,(x,()))=true)->sizeV d a∈l->validF (a,(sizeV d a,()))=true:=fun l h hm=>h _ hm
 have hc:a=1∨a=2∨a=3∨a=4∨a=5∨a=6∨a=7∨a=8∨a=9∨a=10∨a=11∨a=12∨a=13∨a=14∨a=15∨a=16∨a=17∨a=18∨a=19∨a=20∨a=21∨a=22:=by omega
 rcases hc with rfl|rfl|rfl|rfl|rfl|rfl|rfl|rfl|rfl|rfl|rfl|rfl|rfl|rfl|rfl|rfl|rfl|rfl|rfl|rfl|rfl|rfl<;>exact ha _ (by decide) hm
theorem use_valid (d:Dice):validF (useV d)=true:=by
 have h2:=dval_lt (d:=d) (n:=22) (by omega)
 exact size_valid (by omega) (by omega)
end Go.Proofs.YtmokmalepelinaaGreatDoor.K
namespace Go.Proofs.YtmokmalepelinaaGreatDoor.K
open Go.RowKit
noncomputable section
abbrev fdW1:List ByteArray:=[(ByteArray.mk #[97]),(ByteArray.mk #[98]),(ByteArray.mk #[99])]
abbrev fdW2:List ByteArray:=[(ByteArray.mk #[115]),(ByteArray.mk #[116])]
abbrev fdW3:List ByteArray:=[(ByteArray.mk #[97]),(ByteArray.mk #[98])]
abbrev fdU:List Keep:=[(1,(0,())),(2,(0,())),(5,(1024,())),(14,(128,()))]
abbrev fd1 (d:Dice):Dice:=dnext d 7
abbrev fd2 (d:Dice):Dice:=dwdGN (fd1 d) fdW1
abbrev fd3 (d:Dice):Dice:=dofN (fd2 d) [0,1,2,0,3]
abbrev fd4 (d:Dice):Dice:=dnext (fd3 d) 12
abbrev fd5 (d:Dice):Dice:=dofN (fd4 d) [90,50,100,1]
abbrev fd6 (d:Dice):Dice:=dnext (fd5 d) 8
abbrev fd7 (d:Dice):Dice:=dwdGN (fd6 d) fdW2
abbrev fdK (d:Dice):Int:=iadd .i64 1 (dval (fd5 d) 8)
def fdX (k:Int)(d:Dice):Keep×(Int×(ByteArray×Dice)):=
 if k=1∨k=8 then (lgt tyKeep fdU (dval d 4).toNat,(0,(ByteArray.mk #[],dnext d 4)))
 else if k=2 then ((0,(0,())),(iadd .i64 1 (dval d 5),(ByteArray.mk #[],dnext d 5)))
 else if k=3 then ((5,(dof d [1024,2048],())),(iadd .i64 100 (dval (dofN d [1024,2048]) 3),(ByteArray.mk #[],dnext (dofN d [1024,2048]) 3)))
 else if k=4∨k=5 then ((0,(0,())),(iadd .i64 1 (dval d 4),(ByteArray.mk #[],dnext d 4)))
 else if k=6 then ((0,(0,())),(dval d 3,(ByteArray.mk #[],dnext d 3)))
 else ((0,(0,())),(0,(dwdG d fdW3,dwdGN d fdW3)))
def finV (d:Dice):Finding:=(iadd .i64 1 (dval d 7),(dwdG (fd1 d) fdW1,(dof (fd2 d) [0,1,2,0,3],(dval (fd3 d) 12,(dof (fd4 d) [90,50,100,1],(fdK d,(dwdG (fd6 d) fdW2,((fdX (fdK d) (fd7 d)).1,((fdX (fdK d) (fd7 d)).2.1,((fdX (fdK d) (fd7 d)).2.2.1,()))))))))))
def finN (d:Dice):Dice:=(fdX (fdK d) (fd7 d)).2.2.2
theorem dOk_wd {d:Dice}{l:List ByteArray}(h:dOk d=true):dOk (dwdGN d l)=true:=dOk_next h
noncomputable def tc_f9:TC:=(.sq (.reg (rT Tryz.f9 0)) (.sq (.reg (rT Tryz.f9 1)) (.sq (.sq (.reg (rT Tryz.f9 2)) (.bk 0 (.sq (.sq (.reg (rT Tryz.f9 3)) (.cd (.t 27) .sk (.reg (rT Tryz.f9 4)))) (.cd (.t 27) (.reg (rT Tryz.f9 5)) (.sq (.reg (rT Tryz.f9 6)) (.cd (.t 40) (.reg (rT Tryz.f9 7)) (.sq (.reg (rT Tryz.f9 8)) (.cd (.t 46) (.reg (rT Tryz.f9 9)) (.sq (.sq (.reg (rT Tryz.f9 10)) (.cd (.t 57) .sk (.reg (rT Tryz.f9 11)))) (.cd (.t 57) (.reg (rT Tryz.f9 12)) (.sq (.reg (rT Tryz.f9 13)) (.cd (.t 64) (.reg (rT Tryz.f9 14)) (.sq (.reg (rT Tryz.f9 15)) (.cd (.t 69) (.reg (rT Tryz.f9 16)) .sk)))))))))))))) (.sq (.reg (rT Tryz.f9 17)) .rt))))
def rv_f9:List (RV×Option Ty):=[((.c 2 true 11),some tyFinding)]
def g_f9:G:=⟨TYs,[],76,EL [(25,sp_f25),(26,sp_f26),(29,sp_f29)],keeps,(fun _ _=>none),IL [],RL []⟩
def r_f9_1 (d0:Dice):Option (V×List VO):=
 let a1:=(dofN (dwdGN (dnext d0 7) ([(ByteArray.mk #[97]),(ByteArray.mk #[98]),(ByteArray.mk #[99])])) ([0,1,2,0,3]))
 let a4:=(dofN (dnext a1 12) ([90,50,100,1]))
 let a2:=(dwdGN (dnext a4 8) ([(ByteArray.mk #[115]),(ByteArray.mk #[116])]))
 let a3:=(lgt tyKeep ([(1,(0,())),(2,(0,())),(5,(1024,())),(14,(128,()))]) (Int.toNat (dval a2 4)))
 br (nextOk a2 4) (br (cIx ([(1,(0,())),(2,(0,())),(5,(1024,())),(14,(128,()))]) (dval a2 4)) (some (.t tyFinding ((iadd .i64 1 (dval d0 7)),((dwdG (dnext d0 7) ([(ByteArray.mk #[97]),(ByteArray.mk #[98]),(ByteArray.mk #[99])])),((dof (dwdGN (dnext d0 7) ([(ByteArray.mk #[97]),(ByteArray.mk #[98]),(ByteArray.mk #[99])])) ([0,1,2,0,3])),((dval a1 12),((dof (dnext a1 12) ([90,50,100,1])),((iadd .i64 1 (dval a4 8)),((dwdG (dnext a4 8) ([(ByteArray.mk #[115]),(ByteArray.mk #[116])])),((a3.1,((a3.2).1,())),(0,((ByteArray.mk #[]),())))))))))),[.box (.t tyDice (dnext a2 4))])) none) none
def r_f9_3 (d0:Dice):Option (V×List VO):=
 let a1:=(dofN (dwdGN (dnext d0 7) ([(ByteArray.mk #[97]),(ByteArray.mk #[98]),(ByteArray.mk #[99])])) ([0,1,2,0,3]))
 let a3:=(dofN (dnext a1 12) ([90,50,100,1]))
 let a2:=(dwdGN (dnext a3 8) ([(ByteArray.mk #[115]),(ByteArray.mk #[116])]))
 br (nextOk a2 4) (some (.t tyFinding ((iadd .i64 1 (dval d0 7)),((dwdG (dnext d0 7) ([(ByteArray.mk #[97]),(ByteArray.mk #[98]),(ByteArray.mk #[99])])),((dof (dwdGN (dnext d0 7) ([(ByteArray.mk #[97]),(ByteArray.mk #[98]),(ByteArray.mk #[99])])) ([0,1,2,0,3])),((dval a1 12),((dof (dnext a1 12) ([90,50,100,1])),((iadd .i64 1 (dval a3 8)),((dwdG (dnext a3 8) ([(ByteArray.mk #[115]),(ByteArray.mk #[116])])),((0,(0,())),((iadd .i64 1 (dval a2 4)),((ByteArray.mk #[]),())))))))))),[.box (.t tyDice (dnext a2 4))])) none
def r_f9_4 (d0:Dice):Option (V×List VO):=
 let a10:=ByteArray.mk #[97]
 let a11:=ByteArray.mk #[98]
 let a1:=(dofN (dwdGN (dnext d0 7) ([a10,a11,(ByteArray.mk #[99])])) ([0,1,2,0,3]))
 let a3:=(dofN (dnext a1 12) ([90,50,100,1]))
 let a2:=(dwdGN (dnext a3 8) ([(ByteArray.mk #[115]),(ByteArray.mk #[116])]))
 let a4:=(dof (dwdGN (dnext d0 7) ([a10,a11,(ByteArray.mk #[99])])) ([0,1,2,0,3]))
 let a5:=(dwdG (dnext d0 7) ([a10,a11,(ByteArray.mk #[99])]))
 let a6:=(dwdG (dnext a3 8) ([(ByteArray.mk #[115]),(ByteArray.mk #[116])]))
 let a7:=iadd .i64 1 (dval a3 8)
 let a8:=(dof (dnext a1 12) ([90,50,100,1]))
 let a9:=iadd .i64 1 (dval d0 7)
 let a12:=((ByteArray.mk #[]),())
 br (ieq a7 6) (br (nextOk a2 3) (some (.t tyFinding (a9,(a5,(a4,((dval a1 12),(a8,(a7,(a6,((0,(0,())),((dval a2 3),a12))))))))),[.box (.t tyDice (dnext a2 3))])) none) (br (ieq a7 7) (br (wdGOk a2 ([a10,a11])) (some (.t tyFinding (a9,(a5,(a4,((dval a1 12),(a8,(a7,(a6,((0,(0,())),(0,((dwdG a2 ([a10,a11])),())))))))))),[.box (.t tyDice (dwdGN a2 ([a10,a11])))])) none) (some (.t tyFinding (a9,(a5,(a4,((dval a1 12),(a8,(a7,(a6,((0,(0,())),(0,a12))))))))),[.box (.t tyDice a2)])))
def r_f9_2 (d0:Dice):Option (V×List VO):=
 let a3:=(dwdGN (dnext d0 7) ([(ByteArray.mk #[97]),(ByteArray.mk #[98]),(ByteArray.mk #[99])]))
 let a6:=(dofN a3 ([0,1,2,0,3]))
 let a1:=(dofN (dnext a6 12) ([90,50,100,1]))
 let a2:=(dwdGN (dnext a1 8) ([(ByteArray.mk #[115]),(ByteArray.mk #[116])]))
 let a4:=iadd .i64 1 (dval a1 8)
 let a5:=(dwdG (dnext d0 7) ([(ByteArray.mk #[97]),(ByteArray.mk #[98]),(ByteArray.mk #[99])]))
 let a7:=(dwdG (dnext a1 8) ([(ByteArray.mk #[115]),(ByteArray.mk #[116])]))
 let a8:=(dofN a2 ([1024,2048]))
 let a9:=(dof (dnext a6 12) ([90,50,100,1]))
 let a10:=(dof a3 ([0,1,2,0,3]))
 let a11:=iadd .i64 1 (dval d0 7)
 let a12:=((ByteArray.mk #[]),())
 br (ieq a4 2) (br (nextOk a2 5) (some (.t tyFinding (a11,(a5,(a10,((dval a6 12),(a9,(a4,(a7,((0,(0,())),((iadd .i64 1 (dval a2 5)),a12))))))))),[.box (.t tyDice (dnext a2 5))])) none) (br (ieq a4 3) (br (ofOk a2 ([1024,2048])) (br (nextOk a8 3) (some (.t tyFinding (a11,(a5,(a10,((dval a6 12),(a9,(a4,(a7,((5,((dof a2 ([1024,2048])),())),((iadd .i64 100 (dval a8 3)),a12))))))))),[.box (.t tyDice (dnext a8 3))])) none) none) (br (ieq a4 4) (br (ieq a4 4) (r_f9_3 d0) (r_f9_4 d0)) (br (ieq a4 5) (r_f9_3 d0) (r_f9_4 d0))))
def r_f9 (d0:Dice):Option (V×List VO):=
 let a1:=(dofN (dwdGN (dnext d0 7) ([(ByteArray.mk #[97]),(ByteArray.mk #[98]),(ByteArray.mk #[99])])) ([0,1,2,0,3]))
 let a2:=(dofN (dnext a1 12) ([90,50,100,1]))
 let a3:=iadd .i64 1 (dval a2 8)
 br (nextOk d0 7) (br (wdGOk (dnext d0 7) ([(ByteArray.mk #[97]),(ByteArray.mk #[98]),(ByteArray.mk #[99])])) (br (ofOk (dwdGN (dnext d0 7) ([(ByteArray.mk #[97]),(ByteArray.mk #[98]),(ByteArray.mk #[99])])) ([0,1,2,0,3])) (br (nextOk a1 12) (br (ofOk (dnext a1 12) ([90,50,100,1])) (br (nextOk a2 8) (br (wdGOk (dnext a2 8) ([(ByteArray.mk #[115]),(ByteArray.mk #[116])])) (br (ieq a3 1) (br (ieq a3 1) (r_f9_1 d0) (r_f9_2 d0)) (br (ieq a3 8) (r_f9_1 d0) (r_f9_2 d0))) none) none) none) none) none) none) none
theorem e_f9 (d0:Dice):runF g_f9 tc_f9 rv_f9 false [.ptr 50000 0] [.box (.t tyDice d0)]=r_f9 d0:=by kernel_rfl
theorem en_f9:Entered Tryz.prog 9:= .inr ⟨by decide,_,Tryz.func9,by kernel_rfl,by kernel_rfl⟩
theorem gk_f9:GOk Tryz.prog g_f9:=gok_of _ (gA (gC en_f25 ms_f25 (gC en_f26 ms_f26 (gC en_f29 ms_f29 gN))))
theorem lk_f9:tc_f9.lok g_f9:=by repeat (first|exact trivial|refine ⟨?_, ?_⟩)
theorem s_f9 (d:Dice)(h:dOk d=true):r_f9 d=some (.t tyFinding (finV d),[.box (.t tyDice (finN d))]):=by
 have h1:dOk (fd1 d)=true:=dOk_next h
 have h2:dOk (fd2 d)=true:=dOk_wd h1
 have h3:dOk (fd3 d)=true:=dOk_of h2
 have h4:dOk (fd4 d)=true:=dOk_next h3
 have h5:dOk (fd5 d)=true:=dOk_of h4
 have h6:dOk (fd6 d)=true:=dOk_next h5
 have h7:dOk (fd7 d)=true:=dOk_wd h6
 have hv:=dval_lt (d:=fd5 d) (n:=8) (by omega)
 have hk:1<=fdK d/\fdK d<=8:=by
  show 1<=iadd .i64 1 _/\iadd .i64 1 _<=8
  rw [iadd_in (by omega)]
  omega
 have nx: ∀ (d:Dice) (n:Int),dOk d=true->n<=1000->nextOk d n=true:=fun d n h h2=>by
  rw [nextOk,h,decide_eq_true (by omega)]
  rfl
 have c1:nextOk d 7=true:=nx _ _ h (by omega)
 have c2:wdGOk (fd1 d) fdW1=true:=by rw [wdGOk,h1];rfl
 have c3:ofOk (fd2 d) [0,1,2,0,3]=true:=by rw [ofOk,h2];rfl
 have c4:nextOk (fd3 d) 12=true:=nx _ _ h3 (by omega)
 have c5:ofOk (fd4 d) [90,50,100,1]=true:=by rw [ofOk,h4];rfl
 have c6:nextOk (fd5 d) 8=true:=nx _ _ h5 (by omega)
 have c7:wdGOk (fd6 d) fdW2=true:=by rw [wdGOk,h6];rfl
 have c8:nextOk (fd7 d) 4=true:=nx _ _ h7 (by omega)
 have c9:nextOk (fd7 d) 5=true:=nx _ _ h7 (by omega)
 have c10:ofOk (fd7 d) [1024,2048]=true:=by rw [ofOk,h7];rfl
 have c11:nextOk (dofN (fd7 d) [1024,2048]) 3=true:=nx _ _ (dOk_of h7) (by omega)
 have c12:nextOk (fd7 d) 3=true:=nx _ _ h7 (by omega)
 have c13:wdGOk (fd7 d) fdW3=true:=by rw [wdGOk,h7];rfl
 have v4:=dval_lt (d:=fd7 d) (n:=4) (by omega)
 have c14:cIx ([(1,(0,())),(2,(0,())),(5,(1024,())),(14,(128,()))]:List Keep) (dval (fd7 d) 4)=true:=decide_eq_true v4
 have hc:fdK d=1∨fdK d=2∨fdK d=3∨fdK d=4∨fdK d=5∨fdK d=6∨fdK d=7∨fdK d=8:=by omega
 simp only [r_f9,r_f9_1,r_f9_2,r_f9_3,r_f9_4]
 simp only [finV,finN]
 rw [c1,br_true,c2,br_true,c3,br_true,c4,br_true,c5,br_true,c6,br_true,c7,br_true]
 simp only [c8,c9,c10,c11,c12,c13,c14,br_true]
 rcases hc with e|e|e|e|e|e|e|e
 ·simp only [e]
  exact brY rfl (brY rfl (brY c14 rfl))
 ·simp only [e];rfl
 ·simp only [e];rfl
 ·simp only [e];rfl
 ·simp only [e];rfl
 ·simp only [e];rfl
 ·simp only [e];rfl
 ·simp only [e]
  exact br_false.trans (brY rfl (brY c14 rfl))
def sp_f9:Ent:=specP tyDice .nil (fun d x=>(dOk d)) (fun d x=>(.t tyFinding (finV d))) (fun d x=>(finN d))
theorem ms_f9:Meets Tryz.prog 9 (strip sp_f9):=meets_specP (R:=runF g_f9 tc_f9 rv_f9 false) (mG Tryz.func9 (by kernel_rfl) Tryz.ntmps9 (by kernel_rfl) gk_f9 lk_f9) rfl fun d x hok=>(e_f9 d).trans (s_f9 d hok)
def ptB:Nat->Dice->List Int×Dice
 |0,d=>([],d)
 |n+1,d=>(icv .u8 (dof d [0,1,2,103])::(ptB n (dofN d [0,1,2,103])).1,(ptB n (dofN d [0,1,2,103])).2)
def ptK (d:Dice):Int:=iadd .i64 1 (dval d 5)
def ptL (d:Dice):List Int×Dice:=ptB (ptK d).toNat (dnext d 5)
def ptZ:Nat->Dice->List Pattern×Dice
 |0,d=>([],d)
 |n+1,d=>((useV (ptL d).2,((ptL d).1,()))::(ptZ n (useN (ptL d).2)).1,(ptZ n (useN (ptL d).2)).2)
def patV (d:Dice):List Pattern:=(ptZ (ptK d).toNat (dnext d 5)).1
def patN (d:Dice):Dice:=(ptZ (ptK d).toNat (dnext d 5)).2
theorem ptK_in (d:Dice):1<=ptK d/\ptK d<=5:=by
 have:=dval_lt (d:=d) (n:=5) (by omega)
 unfold ptK
 rw [iadd_in (by omega)]
 omega
theorem ptB_ok: ∀ (n:Nat) (d:Dice),dOk d=true->dOk (ptB n d).2=true
 |0,_,h=>h
 |n+1,d,h=>ptB_ok n _ (dOk_of h)
theorem ptL_ok {d:Dice}(h:dOk d=true):dOk (ptL d).2=true:=ptB_ok _ _ (dOk_next h)
def fg_f8_0:Fg:=⟨[(0,none),(3,none),(4,some tI),(5,none),(6,some tI)],[(3,none),(5,none),(27,none),(34,none),(50000,some tyDice)]⟩
noncomputable def tb_f8_0:TC:=(.sq (.sq (.reg (rT Tryz.f8 6)) (.cd (.t 18) .sk (.fg ⟨[(0,none),(3,none),(4,some tI),(5,none)],[(3,none),(5,none),(27,none),(34,none),(50000,some tyDice)]⟩ (.ex 2)))) (.sq (.bk 3 (.reg (rT Tryz.f8 7))) (.reg (rT Tryz.f8 8))))
def fg_f8_1:Fg:=⟨[(0,none),(3,none),(4,some tI)],[(3,none),(34,none),(50000,some tyDice)]⟩
noncomputable def tb_f8_1:TC:=(.sq (.sq (.reg (rT Tryz.f8 3)) (.cd (.t 11) .sk (.fg ⟨[(3,none)],[(3,none),(34,none),(50000,some tyDice)]⟩ (.ex 0)))) (.sq (.bk 1 (.sq (.reg (rT Tryz.f8 4)) (.sq (.sq (.reg (rT Tryz.f8 5)) (.bk 2 (.nw 5 5 (.lp 0 fg_f8_0 tb_f8_0)))) (.reg (rT Tryz.f8 9))))) (.reg (rT Tryz.f8 10))))
noncomputable def tc_f8:TC:=(.sq (.reg (rT Tryz.f8 0)) (.sq (.reg (rT Tryz.f8 1)) (.sq (.sq (.reg (rT Tryz.f8 2)) (.bk 0 (.nw 3 97 (.lp 1 fg_f8_1 tb_f8_1)))) (.sq (.reg (rT Tryz.f8 11)) .rt))))
def rv_f8:List (RV×Option Ty):=[((.t 2),some (.sl tyPattern))]
abbrev sh_f8_0:Sh:=⟨[(0,.ptr 50000 0),(3,.ms 3),(4,.ty tI),(5,.ms 5),(6,.ty tI)],[(3,.arr 97 tyPattern),(5,.arr 5 (.int .u8)),(27,.no),(34,.no),(50000,.box tyDice)]⟩
def st_f8_0 (x4 x6:Int)(y3:List Pattern)(y5:List Int)(y50000:Dice):VS:=sh_f8_0.st ((),(),x4,(),x6,()) (y3,y5,(),(),y50000,())
abbrev sh_f8_0_e2:Sh:=⟨[(0,.ptr 50000 0),(3,.ms 3),(4,.ty tI),(5,.ms 5)],[(3,.arr 97 tyPattern),(5,.arr 5 (.int .u8)),(27,.no),(34,.no),(50000,.box tyDice)]⟩
def st_f8_0_e2 (x4:Int)(y3:List Pattern)(y5:List Int)(y50000:Dice):VS:=sh_f8_0_e2.st ((),(),x4,(),()) (y3,y5,(),(),y50000,())
abbrev sh_f8_1:Sh:=⟨[(0,.ptr 50000 0),(3,.ms 3),(4,.ty tI)],[(3,.arr 97 tyPattern),(34,.no),(50000,.box tyDice)]⟩
def st_f8_1 (x4:Int)(y3:List Pattern)(y50000:Dice):VS:=sh_f8_1.st ((),(),x4,()) (y3,(),y50000,())
abbrev sh_f8_1_e0:Sh:=⟨[(3,.ms 3)],[(3,.arr 97 tyPattern),(34,.no),(50000,.box tyDice)]⟩
def st_f8_1_e0 (y3:List Pattern)(y50000:Dice):VS:=sh_f8_1_e0.st ((),()) (y3,(),y50000,())
def L_f8_0:VS->Option (Bool×List (Bool×Exit×VS)):=mkL sh_f8_0 (fun x y=>(dOk y.2.2.2.2.1&&decide (0<=x.2.2.2.2.1/\x.2.2.2.2.1<=5/\y.2.1.length+x.2.2.2.2.1.toNat<=1000))) (fun x y=>[(true,.exit 2,st_f8_0_e2 (x.2.2.1) (y.1) (y.2.1++(ptB x.2.2.2.2.1.toNat y.2.2.2.2.1).1) ((ptB x.2.2.2.2.1.toNat y.2.2.2.2.1).2))])
def L_f8_1:VS->Option (Bool×List (Bool×Exit×VS)):=mkL sh_f8_1 (fun x y=>(dOk y.2.2.1&&decide (0<=x.2.2.1/\x.2.2.1<=5/\y.1.length+x.2.2.1.toNat<=1000))) (fun x y=>[(true,.exit 0,st_f8_1_e0 (y.1++(ptZ x.2.2.1.toNat y.2.2.1).1) ((ptZ x.2.2.1.toNat y.2.2.1).2))])
def g_f8:G:=⟨TYs,[],36,EL [(25,sp_f25),(26,sp_f26),(28,sp_f28)],keeps,(Ls [L_f8_0,L_f8_1]),IL [],RL []⟩
def b_f8_0 (x4 x6:Int)(y3:List Pattern)(y5:List Int)(y50000:Dice):Option (Exit×VS):=
 let a1:=(icv .u8 (dof y50000 ([0,1,2,103])))
 br (igt x6 0) (br (ofOk y50000 ([0,1,2,103])) (br (cApp y5 ([a1]) 1) (some (.normal,st_f8_0 x4 (isub .i64 x6 1) y3 (y5++([a1])) (dofN y50000 ([0,1,2,103])))) none) none) (some (.exit 2,st_f8_0_e2 x4 y3 y5 y50000))
noncomputable def lp_f8_0 (x4 x6:Int)(y3:List Pattern)(y5:List Int)(y50000:Dice):Option (Exit×VS):=loopF (roundF g_f8 fg_f8_0 tb_f8_0) (st_f8_0 x4 x6 y3 y5 y50000)
noncomputable def n_f8_0 (x4 x6:Int)(y3:List Pattern)(y5:List Int)(y50000:Dice):Option (Exit×VS):=
 let a1:=(icv .u8 (dof y50000 ([0,1,2,103])))
 br (igt x6 0) (br (ofOk y50000 ([0,1,2,103])) (br (cApp y5 ([a1]) 1) (lp_f8_0 x4 (isub .i64 x6 1) y3 (y5++([a1])) (dofN y50000 ([0,1,2,103]))) none) none) (some (.exit 2,st_f8_0_e2 x4 y3 y5 y50000))
def la_f8_0 (x4 x6:Int)(y3:List Pattern)(y5:List Int)(y50000:Dice):Option (Exit×VS):=some (.exit 2,st_f8_0_e2 (x4) (y3) (y5++(ptB x6.toNat y50000).1) ((ptB x6.toNat y50000).2))
theorem be_f8_0 (x4 x6:Int)(y3:List Pattern)(y5:List Int)(y50000:Dice):roundF g_f8 fg_f8_0 tb_f8_0 (st_f8_0 x4 x6 y3 y5 y50000)=b_f8_0 x4 x6 y3 y5 y50000:=by kernel_rfl
theorem ln_f8_0 (x4 x6:Int)(y3:List Pattern)(y5:List Int)(y50000:Dice):lp_f8_0 x4 x6 y3 y5 y50000=n_f8_0 x4 x6 y3 y5 y50000:=(loopF_nxt _ _).trans (by
 rw [be_f8_0]
 simp only [b_f8_0,n_f8_0,nxt_br,nxt_n,nxt_r,nxt_e,nxt_0]
 rfl)
def b_f8_1 (x4:Int)(y3:List Pattern)(y50000:Dice):Option (Exit×VS):=
 let a3:=iadd .i64 1 (dval y50000 5)
 let a1:=ptB a3.toNat (dnext y50000 5)
 let a2:=(((useV (a1.2)).1,(((useV (a1.2)).2).1,())),((([]:List Int)++a1.1),()))
 br (igt x4 0) (br (nextOk y50000 5) (br (dOk (dnext y50000 5)&&decide (0<=a3/\a3<=5/\([]:List Int).length+a3.toNat<=1000)) (br (dOk (a1.2)) (br (cApp (y3) ([a2]) 40) (some (.normal,st_f8_1 (isub .i64 (x4) 1) ((y3)++([a2])) (useN (a1.2)))) none) none) none) none) (some (.exit 0,st_f8_1_e0 y3 y50000))
noncomputable def lp_f8_1 (x4:Int)(y3:List Pattern)(y50000:Dice):Option (Exit×VS):=loopF (roundF g_f8 fg_f8_1 tb_f8_1) (st_f8_1 x4 y3 y50000)
noncomputable def n_f8_1 (x4:Int)(y3:List Pattern)(y50000:Dice):Option (Exit×VS):=
 let a3:=iadd .i64 1 (dval y50000 5)
 let a1:=ptB a3.toNat (dnext y50000 5)
 let a2:=(((useV (a1.2)).1,(((useV (a1.2)).2).1,())),((([]:List Int)++a1.1),()))
 br (igt x4 0) (br (nextOk y50000 5) (br (dOk (dnext y50000 5)&&decide (0<=a3/\a3<=5/\([]:List Int).length+a3.toNat<=1000)) (br (dOk (a1.2)) (br (cApp (y3) ([a2]) 40) (lp_f8_1 (isub .i64 (x4) 1) ((y3)++([a2])) (useN (a1.2))) none) none) none) none) (some (.exit 0,st_f8_1_e0 y3 y50000))
def la_f8_1 (x4:Int)(y3:List Pattern)(y50000:Dice):Option (Exit×VS):=some (.exit 0,st_f8_1_e0 (y3++(ptZ x4.toNat y50000).1) ((ptZ x4.toNat y50000).2))
theorem be_f8_1 (x4:Int)(y3:List Pattern)(y50000:Dice):roundF g_f8 fg_f8_1 tb_f8_1 (st_f8_1 x4 y3 y50000)=b_f8_1 x4 y3 y50000:=by kernel_rfl
theorem ln_f8_1 (x4:Int)(y3:List Pattern)(y50000:Dice):lp_f8_1 x4 y3 y50000=n_f8_1 x4 y3 y50000:=(loopF_nxt _ _).trans (by
 rw [be_f8_1]
 simp only [b_f8_1,n_f8_1,nxt_br,nxt_n,nxt_r,nxt_e,nxt_0]
 rfl)
def r_f8 (d0:Dice):Option (V×List VO):=
 let a1:=iadd .i64 1 (dval d0 5)
 let a2:=ptZ a1.toNat (dnext d0 5)
 br (nextOk d0 5) (br (dOk (dnext d0 5)&&decide (0<=a1/\a1<=5/\([]:List Pattern).length+a1.toNat<=1000)) (some (.t (.sl tyPattern) (([]:List Pattern)++a2.1),[.box (.t tyDice (a2.2))])) none) none
theorem e_f8 (d0:Dice):runF g_f8 tc_f8 rv_f8 false [.ptr 50000 0] [.box (.t tyDice d0)]=r_f8 d0:=by kernel_rfl
theorem en_f8:Entered Tryz.prog 8:= .inr ⟨by decide,_,Tryz.func8,by kernel_rfl,by kernel_rfl⟩
theorem gk_f8:GOk Tryz.prog g_f8:=gok_of _ (gA (gC en_f25 ms_f25 (gC en_f26 ms_f26 (gC en_f28 ms_f28 gN))))
theorem l_f8_0 (x4 x6:Int)(y3:List Pattern)(y5:List Int)(y50000:Dice)(h:(dOk y50000&&decide (0<=x6/\x6<=5/\y5.length+x6.toNat<=1000))=true):lp_f8_0 x4 x6 y3 y5 y50000=la_f8_0 x4 x6 y3 y5 y50000:=by
 obtain ⟨h1,hh⟩:=Bool.and_eq_true_iff.1 h
 obtain ⟨h2,h2',h3⟩:=of_decide_eq_true hh
 obtain ⟨n,rfl⟩:=Int.eq_ofNat_of_zero_le h2
 rw [Int.toNat_natCast] at h3
 clear h hh h2
 induction n generalizing y5 y50000 with
 |zero=>
  rw [ln_f8_0]
  simp [n_f8_0,la_f8_0,igt,br_false,ptB]
 |succ n ih=>
  rw [ln_f8_0]
  have e1:igt ((n+1:Nat):Int) 0=true:=decide_eq_true (by omega)
  have e2:isub .i64 ((n+1:Nat):Int) 1=(n:Int):=by rw [isub_in (by omega)];omega
  have e3:ofOk y50000 [0,1,2,103]=true:=by rw [ofOk,h1];rfl
  simp only [n_f8_0,e1,e2,e3,br_true]
  rw [cApp_ok (by simp only [List.length_singleton];omega) (by omega),br_true,ih _ _ (dOk_of h1) (by first|omega|(rw [List.length_append,List.length_singleton];omega)) (by first|omega|(rw [List.length_append,List.length_singleton];omega))]
  simp only [la_f8_0,Int.toNat_natCast,ptB,List.append_assoc,List.singleton_append]
theorem l_f8_1 (x4:Int)(y3:List Pattern)(y50000:Dice)(h:(dOk y50000&&decide (0<=x4/\x4<=5/\y3.length+x4.toNat<=1000))=true):lp_f8_1 x4 y3 y50000=la_f8_1 x4 y3 y50000:=by
 obtain ⟨h1,hh⟩:=Bool.and_eq_true_iff.1 h
 obtain ⟨h2,h2',h3⟩:=of_decide_eq_true hh
 obtain ⟨n,rfl⟩:=Int.eq_ofNat_of_zero_le h2
 rw [Int.toNat_natCast] at h3
 clear h hh h2
 induction n generalizing y3 y50000 with
 |zero=>
  rw [ln_f8_1]
  simp [n_f8_1,la_f8_1,igt,br_false,ptZ]
 |succ n ih=>
  rw [ln_f8_1]
  have e1:igt ((n+1:Nat):Int) 0=true:=decide_eq_true (by omega)
  have e2:isub .i64 ((n+1:Nat):Int) 1=(n:Int):=by rw [isub_in (by omega)];omega
  have e3:nextOk y50000 5=true:=by rw [nextOk,h1];rfl
  have hk:=ptK_in y50000
  have e4:(dOk (dnext y50000 5)&&decide (0<=iadd .i64 1 (dval y50000 5)/\iadd .i64 1 (dval y50000 5)<=5/\([]:List Int).length+(iadd .i64 1 (dval y50000 5)).toNat<=1000))=true:=by
   unfold ptK at hk
   rw [dOk_next h1,decide_eq_true (by rw [List.length_nil];omega)]
   rfl
  simp only [n_f8_1,e1,e2,e3,br_true]
  rw [e4]
  simp only [br_true,List.nil_append]
  rw [show dOk (ptB (iadd .i64 1 (dval y50000 5)).toNat (dnext y50000 5)).2=true from ptL_ok h1]
  simp only [br_true]
  rw [cApp_ok (by simp only [List.length_singleton];omega) (by omega),br_true]
  refine (ih (y3++[(useV (ptL y50000).2,((ptL y50000).1,()))]) (useN (ptL y50000).2) (dOk_use (ptL_ok h1)) (by first|omega|(rw [List.length_append,List.length_singleton];omega)) (by first|omega|(rw [List.length_append,List.length_singleton];omega))).trans ?_
  simp only [la_f8_1,Int.toNat_natCast,ptZ,List.append_assoc,List.singleton_append]
theorem lo_f8_0: ∀ S l p,g_f8.L 0 (fgt fg_f8_0 S)=some (true,l)->pickA l=some p->loopF (roundF g_f8 fg_f8_0 tb_f8_0) S=some p:=
 lok_of (s:=sh_f8_0) ⟨by decide,by decide⟩ (by kernel_rfl) fun x y hok p hp=>by
 simp only [pickA_br,pickA_one] at hp
 exact (l_f8_0 x.2.2.1 x.2.2.2.2.1 y.1 y.2.1 y.2.2.2.2.1 (by simpa using hok)).trans hp
theorem lo_f8_1: ∀ S l p,g_f8.L 1 (fgt fg_f8_1 S)=some (true,l)->pickA l=some p->loopF (roundF g_f8 fg_f8_1 tb_f8_1) S=some p:=
 lok_of (s:=sh_f8_1) ⟨by decide,by decide⟩ (by kernel_rfl) fun x y hok p hp=>by
 simp only [pickA_br,pickA_one] at hp
 exact (l_f8_1 x.2.2.1 y.1 y.2.2.1 (by simpa using hok)).trans hp
theorem lk_f8:tc_f8.lok g_f8:=by
 repeat (first|exact trivial|exact lo_f8_0|exact lo_f8_1|refine ⟨?_, ?_⟩)
theorem s_f8 (d:Dice)(h:dOk d=true):r_f8 d=some (.t (.sl tyPattern) (patV d),[.box (.t tyDice (patN d))]):=by
 have e3:nextOk d 5=true:=by rw [nextOk,h];rfl
 have hk:=ptK_in d
 unfold ptK at hk
 simp only [r_f8,e3,br_true,dOk_next h,Bool.true_and,List.nil_append]
 rw [decide_eq_true (by rw [List.length_nil];omega),br_true]
 rfl
def sp_f8:Ent:=specP tyDice .nil (fun d x=>(dOk d)) (fun d x=>(.t (.sl tyPattern) (patV d))) (fun d x=>(patN d))
theorem ms_f8:Meets Tryz.prog 8 (strip sp_f8):=meets_specP (R:=runF g_f8 tc_f8 rv_f8 false) (mG Tryz.func8 (by kernel_rfl) Tryz.ntmps8 (by kernel_rfl) gk_f8 lk_f8) rfl fun d x hok=>(e_f8 d).trans (s_f8 d hok)
end
end Go.Proofs.YtmokmalepelinaaGreatDoor.K
namespace Go.Proofs.YtmokmalepelinaaGreatDoor.K
open Go.RowKit
section
variable {P:Program}
theorem meets_clone {f:FuncId}{e:Nat}{y:Ty}{N:Nat}{ok:(Ty.pr (.sl y) .nil).T->Bool}(hlt:f<1000000)
  (hok: ∀ x,ok x=true->x.1.length<=N)
  (h: ∀ (A:Option Addr) (c n:Nat) (cells:List Value) (w:World),Sl w (.slice A n c) y.sz n cells->(∀ u∈cells,u.oneCell'=true)->n<=N→
   Calls P f #[.slice A n c] w fun r w'=> ∃ sv,r= .returned sv/\w'.ownsRow w.heap.size e y.sz sv n cells/\Below w.heap.size w w'):
  Meets P f (strip (specO (.pr (.sl y) .nil) ok (fun _=> .ms 50000) (fun x=>[.arr e y x.1]))):=by
 intro args objs r os hF X w σ vs hfin hl hc
 unfold strip specO at hF
 cases objs with
 |cons o os'=>simp at hF
 |nil=>
  simp only at hF
  cases ha:(Ty.pr (.sl y) .nil).args args with
  |none=>rw [ha] at hF;cases hF
  |some x=>
   rw [ha] at hF
   simp only at hF
   split at hF
   ·rename_i r' os' hq
    simp only [Option.some.injEq,Prod.mk.injEq] at hF hq
    obtain ⟨rfl,rfl⟩:=hF
    obtain ⟨h1,rfl,rfl⟩:=hq
    have hcc:=canon_cs ha hc
    obtain ⟨l,u0⟩:=x
    have hlen:=hok _ h1
    simp only [Ty.canon,V.ds,V.d,Ty.d,Cs,C] at hcc
    obtain ⟨u,us,rfl,⟨A,c,rfl,hnc,hmx,hz,hp⟩,rfl⟩:=hcc
    have hsl: ∃ cells,Sl w (.slice A l.length c) y.sz l.length cells/\(∀ u∈cells,u.oneCell'=true)/\Cs X w nowhere (List.flatMap y.cells l) cells:=by
     by_cases hq:l=[]
     ·subst hq
      exact ⟨[],⟨by simp,A,c,rfl,Nat.zero_le _,hmx,fun hn=>absurd hn (by simp)⟩,fun u hu=>(by cases hu),by simp [Cs]⟩
     ·have hn:0<l.length:=List.length_pos_iff.2 hq
      obtain ⟨b,off,vs,rfl,g1,g2⟩:=hp hn
      have hvl:=Cs.len g1
      rw [flat_len] at hvl
      exact ⟨vs,⟨hvl,_,c,rfl,hnc,hmx,fun _=>⟨b,off,rfl,g2.lt,fun j u hu=>g2.at_ j u hu⟩⟩,g2.one,g1⟩
    obtain ⟨cells,s1,s2,s3⟩:=hsl
    refine (does_of hlt (h A c l.length cells w s1 s2 hlen)).mono ?_
    rintro _ w' ⟨sv,rfl,ho,hb⟩
    let X':Nat->Nat->Prop:=fun b q=>X b q∨some b=sv.ownBlock
    let σ':Pl:=fun k=>if k=50000 then .arr sv else σ k
    have hsv:sv.oneCell'=true:=by
     rcases ho.2 with ⟨rfl,_⟩|⟨g,cap,cur,rfl,_⟩<;>rfl
    have hlo: ∀ b,sv.ownBlock=some b->w.heap.size<=b/\b<w'.heap.size:=fun b hbk=>ho.lt b hbk
    have ex:Ext0 X w X' w':=⟨hb.size,fun b q hbl hx=>⟨fun hx'=>by
     rcases hx' with hx'|hx'
     ·exact hx hx'
     ·have:=hlo b hx'.symm
      omega,World.cell?_of_block (w:=w) (a:=⟨b,q,none⟩) (hb.block b hbl)⟩⟩
    have e0:σ' 50000= .arr sv:=if_pos rfl
    refine ⟨sv,X',σ',rfl, ?_,⟨fun b q hq=> ?_,fun j o hj=> ?_,fun i j b hij hi hj=>by simp at hi hj;omega,by simp,fun j hj=>by simp at hj,fun j b _ hj hl=> ?_,fr_below hb,fun b q hbl hq=> ?_,fun b q _ _ hq=> .inl hq⟩⟩
    ·simp only [V.d,C]
     exact ⟨e0,hsv⟩
    ·rcases hq with hq|hq
     ·exact Nat.lt_of_lt_of_le (hfin b q hq) hb.size
     ·exact (hlo b hq.symm).2
    ·cases j with
     |zero=>
      simp only [List.getElem?_cons_zero,Option.some.injEq] at hj
      subst hj
      have ho0:w'.ownsRow 0 e y.sz sv l.length cells:=by
       refine ⟨ho.1, ?_⟩
       rcases ho.2 with hq|⟨g,cap,cur,q1,q2,q3⟩
       ·exact .inl hq
       ·exact .inr ⟨g,cap,cur,q1,Nat.zero_le _,q3⟩
      exact ⟨⟨sv,cells,e0,.of ho0,Cs.ext0 ex _ _ (fun _ _=>rfl) s3,s2,fun b hbk o=> .inr hbk.symm⟩,fun _ h=>by cases h⟩
     |succ j=>simp at hj
    ·simp only [List.length_cons,List.length_nil] at hj
     have:j=0:=by omega
     subst this
     left
     rw [show 50000+0=50000 from rfl,e0] at hl
     exact (hlo b hl).1
    ·rcases hq with hq|hq
     ·exact hq
     ·have:=hlo b hq.symm
      omega
   ·cases hF
theorem meets_On {f:FuncId}{e:Nat}{y:Ty}{a:Ty}{ok:a.T->Bool}{L:a.T->List y.T}(h:Meets P f (strip (specO a ok (fun _=> .ms 50000) (fun x=>[.arr e y (L x)])))):Meets P f (strip (spec a ok (fun x=> .t (.sl y) (L x)))):=by
 intro args objs r os hF X w σ vs hfin hl hc
 unfold strip spec at hF
 cases objs with
 |cons o os'=>simp at hF
 |nil=>
  simp only at hF
  cases ha:a.args args with
  |none=>rw [ha] at hF;cases hF
  |some x=>
   rw [ha] at hF
   simp only at hF
   split at hF
   ·rename_i r' os' hq
    simp only [Option.some.injEq,Prod.mk.injEq] at hF hq
    obtain ⟨rfl,rfl⟩:=hF
    obtain ⟨h1,rfl,rfl⟩:=hq
    have h2:=h args [] (.ms 50000) [.arr e y (L x)] (by unfold strip specO;simp only [ha,h1]) X w σ vs hfin hl hc
    refine h2.mono ?_
    rintro e0 w' ⟨u,X',σ',rfl,hu,hE⟩
    have hat:=(hE.at_ 0 _ rfl).1
    let X'':Nat->Nat->Prop:=fun b q=>X' b q/\(σ' 50000).blk≠some b
    have ex:Ext X' w' X'' w':=⟨Nat.le_refl _,fun b q _ hx=>⟨fun hx'=>hx hx'.1,rfl⟩,fun _ _ _=>rfl⟩
    have hX: ∀ u b,σ' 50000= .arr u->u.ownBlock=some b→ ∀ q, ¬ X'' b q:=fun u b h1 h2 q hx=>hx.2 (by rw [h1];exact h2)
    have hz:=fz_c (k:=50000) (y:=y) (l:=L x) (e:=e) hat ex hX (.ms 50000) u hu
    simp only [V.fz,if_true] at hz
    refine ⟨u,X'',σ',rfl,hz,⟨fun b q hq=>hE.fin b q hq.1,fun j o hj=>by simp at hj,fun i j b _ hi=>absurd hi (by simp),by simp,fun j hj=>absurd hj (by simp),fun j b _ hj=>absurd hj (by simp),hE.fr,fun b q hb hq=>hE.sub b q hb hq.1,fun b q hb hn hq=>⟨hE.old b q hb (fun i hi=>absurd hi (by simp)) hq,fun hb2=> ?_⟩⟩⟩
    rcases hE.new 0 b (Nat.zero_le _) (by simp) hb2 with h3|⟨i,hi,_⟩
    ·omega
    ·exact absurd hi (by simp)
   ·cases hF
end
end Go.Proofs.YtmokmalepelinaaGreatDoor.K
namespace Go.Proofs.YtmokmalepelinaaGreatDoor.K
open Go.RowKit
structure Mch where
 n:Nat
 nx:Nat->Nat->Int
 bk:Nat->Int
 en:Nat->List Int
def mcV (S:Mch)(ev:Nat->Value)(k:Nat):Value:=
 if k % 258<256 then .int .i16 (S.nx (k / 258) (k % 258)) else if k % 258=256 then .int .i16 (S.bk (k / 258)) else ev (k / 258)
def mcL (S:Mch)(ev:Nat->Value):List Value:=(List.range (S.n*258)).map (mcV S ev)
theorem mcL_len (S:Mch)(ev:Nat->Value):(mcL S ev).length=S.n*258:=by simp [mcL]
theorem mcL_at {S:Mch}{ev:Nat->Value}{k:Nat}(h:k<S.n*258):(mcL S ev)[k]? = some (mcV S ev k):=by
 simp [mcL,h]
theorem mcV_nx (S:Mch)(ev:Nat->Value){i c:Nat}(hc:c<256):mcV S ev (i*258+c)= .int .i16 (S.nx i c):=by
 have e1:(i*258+c) % 258=c:=by omega
 have e2:(i*258+c) / 258=i:=by omega
 rw [mcV,e1,e2,if_pos hc]
theorem mcV_bk (S:Mch)(ev:Nat->Value)(i:Nat):mcV S ev (i*258+256)= .int .i16 (S.bk i):=by
 have e1:(i*258+256) % 258=256:=by omega
 have e2:(i*258+256) / 258=i:=by omega
 rw [mcV,e1,e2,if_neg (by omega),if_pos rfl]
theorem mcV_en (S:Mch)(ev:Nat->Value)(i:Nat):mcV S ev (i*258+257)=ev i:=by
 have e1:(i*258+257) % 258=257:=by omega
 have e2:(i*258+257) / 258=i:=by omega
 rw [mcV,e1,e2,if_neg (by omega),if_neg (by omega)]
structure SS (w:World) (m:Nat) (sv:Value) (S:Mch) (ev:Nat->Value):Prop where
 own:w.ownsRow m 254 258 sv S.n (mcL S ev)
 inn: ∀ i,i<S.n->w.ownsRow m 3 1 (ev i) (S.en i).length ((S.en i).map (Value.int .i64))
 ne: ∀ i,i<S.n→ ∀ g,sv.ownBlock=some g->(ev i).ownBlock≠some g
 dj: ∀ i j,i<S.n->j<S.n->i≠j→ ∀ g,(ev i).ownBlock=some g->(ev j).ownBlock≠some g
theorem SS.form {w:World}{m:Nat}{sv:Value}{S:Mch}{ev:Nat->Value}(h:SS w m sv S ev)(hn:0<S.n): ∃ g cap,sv= .slice (some ⟨g,0,none⟩) S.n cap/\m<=g/\g<w.heap.size:=h.own.form hn
theorem SS.cell {w:World}{m g cap:Nat}{S:Mch}{ev:Nat->Value}(h:SS w m (.slice (some ⟨g,0,none⟩) S.n cap) S ev){k:Nat}(hk:k<S.n*258):w.cell? ⟨g,k,none⟩=some (mcV S ev k):=by
 rw [h.own.cellAt k hk,mcL_at hk]
theorem SS.nx {w:World}{m g cap:Nat}{S:Mch}{ev:Nat->Value}(h:SS w m (.slice (some ⟨g,0,none⟩) S.n cap) S ev){i c:Nat}(hi:i<S.n)(hc:c<256):w.cell? ⟨g,i*258+c,none⟩=some (.int .i16 (S.nx i c)):=by
 rw [h.cell (by omega),mcV_nx S ev hc]
theorem SS.bk {w:World}{m g cap:Nat}{S:Mch}{ev:Nat->Value}(h:SS w m (.slice (some ⟨g,0,none⟩) S.n cap) S ev){i:Nat}(hi:i<S.n):w.cell? ⟨g,i*258+256,none⟩=some (.int .i16 (S.bk i)):=by
 rw [h.cell (by omega),mcV_bk]
theorem SS.en {w:World}{m g cap:Nat}{S:Mch}{ev:Nat->Value}(h:SS w m (.slice (some ⟨g,0,none⟩) S.n cap) S ev){i:Nat}(hi:i<S.n):w.cell? ⟨g,i*258+257,none⟩=some (ev i):=by
 rw [h.cell (by omega),mcV_en]
theorem SS.keep {w w':World}{m:Nat}{sv:Value}{S:Mch}{ev:Nat->Value}{r:Option Nat}(h:SS w m sv S ev)(hg:w.grownBy w' r)(h1: ∀ g,r=some g->sv.ownBlock≠some g)(h2: ∀ g,r=some g→ ∀ i,i<S.n->(ev i).ownBlock≠some g):SS w' m sv S ev:=
 ⟨own_grown h.own hg fun b hb e=>h1 b e.symm hb,fun i hi=>own_grown (h.inn i hi) hg fun b hb e=>h2 b e.symm i hi hb,h.ne,h.dj⟩
theorem SS.below {w w':World}{m:Nat}{sv:Value}{S:Mch}{ev:Nat->Value}(h:SS w m sv S ev)(hb:Below w.heap.size w w'):SS w' m sv S ev:=
 h.keep (only_of_below hb none) (fun _ e=>by cases e) (fun _ e=>by cases e)
theorem SS.ltI {w:World}{m:Nat}{sv:Value}{S:Mch}{ev:Nat->Value}(h:SS w m sv S ev){i g:Nat}(hi:i<S.n)(he:(ev i).ownBlock=some g):m<=g/\g<w.heap.size:=(h.inn i hi).lt g he
theorem SS.put {w:World}{m g cap:Nat}{S S':Mch}{ev ev':Nat->Value}(h:SS w m (.slice (some ⟨g,0,none⟩) S.n cap) S ev){k:Nat}{u:Value}(hn:S'.n=S.n)(hen:S'.en=S.en)(hev:ev'=ev)
  (hv: ∀ j,j<S.n*258->mcV S' ev' j=if j=k then u else mcV S ev j):SS (w.setCell ⟨g,k,none⟩ u) m (.slice (some ⟨g,0,none⟩) S.n cap) S' ev'/\w.grownBy (w.setCell ⟨g,k,none⟩ u) (some g):=by
 subst hev
 obtain ⟨h1,h2⟩:=h.own.stored k u
 refine ⟨⟨?_,fun i hi=> ?_,fun i hi=>h.ne i (hn▸hi),fun i j hi hj=>h.dj i j (hn▸hi) (hn▸hj)⟩,h2⟩
 ·rw [hn]
  have e:(mcL S ev').set k u=mcL S' ev':=by
   apply List.ext_getElem?
   intro j
   by_cases hj:j<S.n*258
   ·rw [mcL_at (show j<S'.n*258 by rw [hn];exact hj),List.getElem?_set,mcL_at hj,hv j hj,mcL_len]
    by_cases hjk:k=j
    ·subst hjk
     rw [if_pos rfl,if_pos rfl,if_pos hj]
    ·rw [if_neg hjk,if_neg (fun e=>hjk e.symm)]
   ·rw [List.getElem?_eq_none (by rw [List.length_set,mcL_len];omega),List.getElem?_eq_none (by rw [mcL_len,hn];omega)]
  rw [←e]
  exact h1
 ·rw [hen]
  exact own_grown (h.inn i (hn▸hi)) h2 fun b hb e=>h.ne i (hn▸hi) g rfl (by rw [hb];exact e)
def Mch.setNx (S:Mch)(i c:Nat)(v:Int):Mch:={S with nx:=fun i' c'=>if i'=i/\c'=c then v else S.nx i' c'}
def Mch.setBk (S:Mch)(i:Nat)(v:Int):Mch:={S with bk:=fun i'=>if i'=i then v else S.bk i'}
def Mch.setEn (S:Mch)(i:Nat)(l:List Int):Mch:={S with en:=fun i'=>if i'=i then l else S.en i'}
theorem SS.putNx {w:World}{m g cap:Nat}{S:Mch}{ev:Nat->Value}(h:SS w m (.slice (some ⟨g,0,none⟩) S.n cap) S ev){i c:Nat}(_hi:i<S.n)(hc:c<256)(v:Int):SS (w.setCell ⟨g,i*258+c,none⟩ (.int .i16 v)) m (.slice (some ⟨g,0,none⟩) S.n cap) (S.setNx i c v) ev/\w.grownBy (w.setCell ⟨g,i*258+c,none⟩ (.int .i16 v)) (some g):=by
 refine h.put rfl rfl rfl fun j hj=> ?_
 unfold mcV Mch.setNx
 simp only
 by_cases hjk:j=i*258+c
 ·have e1:j % 258=c:=by omega
  have e2:j / 258=i:=by omega
  rw [if_pos hjk,e1,e2,if_pos hc,if_pos ⟨rfl,rfl⟩]
 ·rw [if_neg hjk]
  by_cases h1:j % 258<256
  ·rw [if_pos h1,if_pos h1,if_neg (fun e=>hjk (by omega))]
  ·rw [if_neg h1,if_neg h1]
theorem SS.putBk {w:World}{m g cap:Nat}{S:Mch}{ev:Nat->Value}(h:SS w m (.slice (some ⟨g,0,none⟩) S.n cap) S ev){i:Nat}(_hi:i<S.n)(v:Int):SS (w.setCell ⟨g,i*258+256,none⟩ (.int .i16 v)) m (.slice (some ⟨g,0,none⟩) S.n cap) (S.setBk i v) ev/\w.grownBy (w.setCell ⟨g,i*258+256,none⟩ (.int .i16 v)) (some g):=by
 refine h.put rfl rfl rfl fun j hj=> ?_
 unfold mcV Mch.setBk
 simp only
 by_cases hjk:j=i*258+256
 ·have e1:j % 258=256:=by omega
  have e2:j / 258=i:=by omega
  rw [if_pos hjk,e1,e2,if_neg (by omega),if_pos rfl,if_pos rfl]
 ·rw [if_neg hjk]
  by_cases h1:j % 258<256
  ·rw [if_pos h1,if_pos h1]
  ·rw [if_neg h1,if_neg h1]
   by_cases h2:j % 258=256
   ·rw [if_pos h2,if_pos h2,if_neg (by omega)]
   ·rw [if_neg h2,if_neg h2]
theorem SS.putEn {w w':World}{m g cap:Nat}{S:Mch}{ev:Nat->Value}(h:SS w m (.slice (some ⟨g,0,none⟩) S.n cap) S ev){i:Nat}(hi:i<S.n){v':Value}{l:List Int}
  (hown:w'.ownsRow m 3 1 v' l.length (l.map (Value.int .i64))) (hg:w.grownBy w' (ev i).ownBlock) (hat:v'.ownBlock=(ev i).ownBlock∨v'.ownBlock=some w.heap.size):
  SS (w'.setCell ⟨g,i*258+257,none⟩ v') m (.slice (some ⟨g,0,none⟩) S.n cap) (S.setEn i l) (fun j=>if j=i then v' else ev j)/\w'.grownBy (w'.setCell ⟨g,i*258+257,none⟩ v') (some g):=by
 have hgl:g<w.heap.size:=(h.own.lt g rfl).2
 have ho:w'.ownsRow m 254 258 (.slice (some ⟨g,0,none⟩) S.n cap) S.n (mcL S ev):=own_grown h.own hg fun b hb e=>by
  have hb:g=b:=Option.some.inj hb
  exact h.ne i hi b (by rw [←hb];rfl) e.symm
 obtain ⟨h1,h2⟩:=ho.stored (i*258+257) v'
 have hvg:v'.ownBlock≠some g:=by
  rcases hat with e|e
  ·rw [e]
   exact h.ne i hi g rfl
  ·rw [e]
   intro e
   have:=Option.some.inj e
   omega
 have hold: ∀ j,j<S.n->j≠i→ ∀ b,(ev j).ownBlock=some b->some b≠(ev i).ownBlock/\v'.ownBlock≠some b:=fun j hj hne b hb=>by
  have q:(ev i).ownBlock≠some b:=fun e=>h.dj i j hi hj (fun e=>hne e.symm) b e hb
  refine ⟨fun e=>q e.symm, ?_⟩
  rcases hat with e|e
  ·rw [e]
   exact q
  ·rw [e]
   intro e2
   have:=Option.some.inj e2
   have:=(h.ltI hj hb).2
   omega
 refine ⟨⟨?_,fun j hj=> ?_,fun j hj b hb=> ?_,fun j k hj hk hne b hb=> ?_⟩,h2⟩
 ·have e:(mcL S ev).set (i*258+257) v'=mcL (S.setEn i l) (fun j=>if j=i then v' else ev j):=by
   apply List.ext_getElem?
   intro j
   by_cases hj:j<S.n*258
   ·rw [mcL_at (show j<(S.setEn i l).n*258 from hj),List.getElem?_set,mcL_at hj,mcL_len]
    by_cases hjk:i*258+257=j
    ·subst hjk
     rw [if_pos rfl,if_pos hj,mcV_en,if_pos rfl]
    ·rw [if_neg hjk]
     unfold mcV Mch.setEn
     simp only
     by_cases q1:j % 258<256
     ·rw [if_pos q1,if_pos q1]
     ·rw [if_neg q1,if_neg q1]
      by_cases q2:j % 258=256
      ·rw [if_pos q2,if_pos q2]
      ·rw [if_neg q2,if_neg q2,if_neg (by omega)]
   ·rw [List.getElem?_eq_none (by rw [List.length_set,mcL_len];omega),List.getElem?_eq_none (by rw [mcL_len];show S.n*258<=j;omega)]
  rw [←e]
  exact h1
 ·have hj:j<S.n:=hj
  show World.ownsRow _ m _ 1 (if j=i then v' else ev j) (if j=i then l else S.en j).length ((if j=i then l else S.en j).map (Value.int .i64))
  by_cases hji:j=i
  ·rw [if_pos hji,if_pos hji]
   exact own_grown hown h2 fun b hb e=>hvg (by rw [hb];exact e)
  ·rw [if_neg hji,if_neg hji]
   exact own_grown (own_grown (h.inn j hj) hg fun b hb=>(hold j hj hji b hb).1) h2 fun b hb e=>h.ne j hj g rfl (by rw [hb];exact e)
 ·show (if j=i then v' else ev j).ownBlock≠some b
  have hb:g=b:=Option.some.inj hb
  subst hb
  by_cases hji:j=i
  ·rw [if_pos hji]
   exact hvg
  ·rw [if_neg hji]
   exact h.ne j hj g rfl
 ·have hb:(if j=i then v' else ev j).ownBlock=some b:=hb
  show (if k=i then v' else ev k).ownBlock≠some b
  by_cases hji:j=i
  ·rw [if_pos hji] at hb
   rw [if_neg (fun e=>hne (by rw [hji,e]))]
   intro e
   exact (hold k hk (fun e=>hne (by rw [hji,e])) b e).2 hb
  ·rw [if_neg hji] at hb
   by_cases hki:k=i
   ·rw [if_pos hki]
    exact (hold j hj hji b hb).2
   ·rw [if_neg hki]
    exact h.dj j k hj hk hne b hb
end Go.Proofs.YtmokmalepelinaaGreatDoor.K
namespace Go.Proofs.YtmokmalepelinaaGreatDoor.K
open Go.RowKit Go.Region
attribute [local go_sem ↓] Go.wp_at_zero Go.wp_at_succ
set_option linter.unusedSectionVars false
def nwL (k:Nat):List Value:=List.replicate k (.int .i16 (-1))++(List.replicate (256-k) (.int .i16 0)++[.int .i16 0,.slice none 0 0])
theorem nwL_set {k:Nat}(h:k<256):(nwL k).toArray.setIfInBounds k (.int .i16 (-1))=(nwL (k+1)).toArray:=by
 apply Array.toList_inj.1
 rw [Array.toList_setIfInBounds]
 show (nwL k).set k _=nwL (k+1)
 unfold nwL
 rw [List.set_append_right _ _ (by rw [List.length_replicate];exact Nat.le_refl _),List.length_replicate,Nat.sub_self,show 256-k=(256-(k+1))+1 by omega,List.replicate_succ,List.cons_append,List.set_cons_zero,List.replicate_succ',List.append_assoc,List.singleton_append]
theorem nwL_len {k:Nat}(h:k<=256):(nwL k).length=258:=by
 unfold nwL
 simp only [List.length_append,List.length_replicate,List.length_cons,List.length_nil]
 omega
theorem nwL_at {k:Nat}(hk:k<256):(nwL k).toArray[k]? = some (.int .i16 0):=by
 rw [List.getElem?_toArray]
 unfold nwL
 rw [List.getElem?_append_right (by rw [List.length_replicate];exact Nat.le_refl _),List.length_replicate,Nat.sub_self,show 256-k=(256-(k+1))+1 by omega,List.replicate_succ]
 rfl
theorem below_setRowS {B g:Nat}{w w':World}(h:Below B w w')(hg:B<=g)(row:Array Value):Below B w (w'.setRow g row):=
 ⟨h.os,h.tape,h.output,by rw [size_setRow];exact h.size,fun i hi=>by
  have e:(w'.setRow g row).heap[i]? = w'.heap[i]? :=by
   simp only [World.setRow,Array.getElem?_modify]
   rw [if_neg (by omega)]
  exact e.trans (h.block i hi)⟩
abbrev nwV:Value:= .agg (nwL 256).toArray
set_option maxHeartbeats 4000000 in
theorem state_calls (w:World):Calls Tryz.prog 289 #[] w fun e w'=>e= .returned nwV/\Below w.heap.size w w':=by
 go_enter Tryz.func289,Tryz.ntmps289
 go_wp2_with fail
 obtain ⟨b,hb⟩: ∃ b,b=w.heap.size:=⟨_,rfl⟩
 obtain ⟨wx,hwx⟩: ∃ wx,wx=(w.alloc (Obj.cells Tryz.zeroCells254 254)).alloc (Obj.cells Tryz.zeroCells254 254):=⟨_,rfl⟩
 have e0:Tryz.zeroCells254=(nwL 0).toArray:=by kernel_rfl
 have B0:Go.Proofs.YtmokmalepelinaaGreatDoor.Blk wx b 254 (nwL 0).toArray:=by
  rw [hwx,hb,e0]
  exact (Go.Proofs.YtmokmalepelinaaGreatDoor.Blk.new w _ _).alloc _
 have B1:Go.Proofs.YtmokmalepelinaaGreatDoor.Blk wx (b+1) 254 (nwL 0).toArray:=by
  rw [hwx,hb,e0, ← World.size_alloc w (Obj.cells (nwL 0).toArray 254)]
  exact Go.Proofs.YtmokmalepelinaaGreatDoor.Blk.new _ _ _
 have BW:Below b w wx:=by
  rw [hwx,hb]
  exact (((Below.refl w.heap.size w).alloc (Nat.le_refl _) _).alloc (by rw [World.size_alloc];omega) _)
 rw [←hwx, ← hb]
 have HB0:=Lib.hid B0
 have HB1:=Lib.hid B1
 have HBW:=Lib.hid BW
 have HBE:=Lib.hid hb
 clear hwx hb B0 B1 BW e0
 go_loopw [3] (fun iv wr=> ∃ k:Nat,k<=256/\iv= .int .i64 k/\Hid (Go.Proofs.YtmokmalepelinaaGreatDoor.Blk wr b 254 (nwL 0).toArray)/\Hid (Go.Proofs.YtmokmalepelinaaGreatDoor.Blk wr (b+1) 254 (nwL k).toArray)/\Hid (Below b w wr)) (fun iv _=>256-(intOf iv).toNat)
 case atStart=>exact ⟨0,Nat.zero_le _,rfl,HB0,HB1,HBW⟩
 case round=>
  obtain ⟨k,hk,rfl,G0,G1,GW⟩:=hrel
  by_cases hlt:k<256
  ·have z1:wr.cell? ⟨b+1,k,none⟩=some (.int .i16 0):=by rw [G1.out.cell,nwL_at hlt]
   have z2:=G1.out.frozen k
   have hlt2:((k:Nat):Int)<256:=by omega
   go_wp2_with fail
   refine ⟨⟨k+1,by omega,rfl,Lib.hid (G0.out.far (p:=⟨b+1,k,none⟩) (by show b≠b+1;omega) _),Lib.hid (by rw [←nwL_set hlt];exact G1.out.set_ k _),Lib.hid (GW.out.setCell (p:=⟨b+1,k,none⟩) (by show b<=b+1;omega) _)⟩,by simp [intOf];omega⟩
  ·obtain rfl:k=256:=by omega
   have h1c:(nwL 256).toArray.all (·.oneCell')=true:=by kernel_rfl
   have hi:(Tryz.prog.info? 254).map (·.size)=some (nwL 256).toArray.size:=by kernel_rfl
   have hsz:(nwL 0).toArray.size=(nwL 256).toArray.size:=by kernel_rfl
   go_wp2_with (first
    |(refine wpList_load_row rfl 254 (.tmp 1) rfl (b+1) rfl 254 (nwL 256).toArray (0,0) _ G1.out Tryz.underlying254 rfl hi ?_)
    |(refine wpList_store_row rfl 254 (.tmp 0) (.tmp 10) rfl b (nwL 256).toArray rfl rfl 254 (nwL 0).toArray G0.out hi hsz h1c ?_))
   refine bodyPost_ret (v:=nwV) (results_cell_row rfl _ _ b 254 (nwL 256).toArray (0,0) _ rfl (setRow_heap wr b _ _ _ _ G0.out) Tryz.underlying254 rfl hi) rfl ?_
   refine ⟨rfl, ?_⟩
   rw [←HBE.out]
   exact below_setRowS GW.out (Nat.le_refl _) _
end Go.Proofs.YtmokmalepelinaaGreatDoor.K
namespace Go.Proofs.YtmokmalepelinaaGreatDoor.K
open Go.RowKit Go.Region
attribute [local go_sem ↓] Go.wp_at_zero Go.wp_at_succ
set_option linter.unusedSectionVars false
abbrev nlS:Value:= .slice none 0 0
def Mch.grow (S:Mch):Mch:=⟨S.n+1,fun i c=>if i=S.n then-1 else S.nx i c,fun i=>if i=S.n then 0 else S.bk i,fun i=>if i=S.n then [] else S.en i⟩
theorem grow_n (S:Mch):S.grow.n=S.n+1:=rfl
theorem nwL_l:(nwL 256).length=258:=nwL_len (k:=256) (by omega)
theorem nwL_tl:(nwL 256).toArray.toList=nwL 256:=rfl
theorem nwL256_at {j:Nat}(h:j<258):(nwL 256)[j]? = some (if j<256 then .int .i16 (-1) else if j=256 then .int .i16 0 else nlS):=by
 show (List.replicate 256 (Value.int .i16 (-1))++[Value.int .i16 0,nlS])[j]? = _
 by_cases h1:j<256
 ·rw [if_pos h1,List.getElem?_append_left (by rw [List.length_replicate];exact h1),List.getElem?_replicate,if_pos h1]
 ·rw [if_neg h1,List.getElem?_append_right (by rw [List.length_replicate];omega),List.length_replicate]
  by_cases h2:j=256
  ·subst h2
   rfl
  ·obtain rfl:j=257:=by omega
   rfl
attribute [local irreducible] nwL mcL
theorem SS.push {w w':World}{m:Nat}{sv v':Value}{S:Mch}{ev:Nat->Value}(h:SS w m sv S ev)
  (hown:w'.ownsRow m 254 258 v' (S.n+1) (mcL S ev++nwL 256)) (hg:w.grownBy w' sv.ownBlock) (hat:v'.ownBlock=sv.ownBlock∨v'.ownBlock=some w.heap.size):
  SS w' m v' S.grow (fun j=>if j=S.n then nlS else ev j):=by
 refine ⟨?_,fun i hi=> ?_,fun i hi g hgv=> ?_,fun i j hi hj hne g hgv=> ?_⟩
 ·have e:mcL S ev++nwL 256=mcL S.grow (fun j=>if j=S.n then nlS else ev j):=by
   apply List.ext_getElem?
   intro j
   by_cases hj:j<S.n*258
   ·have hjg:j<S.grow.n*258:=Nat.lt_of_lt_of_le hj (Nat.mul_le_mul_right 258 (Nat.le_succ S.n))
    have a1:(mcL S ev++nwL 256)[j]? = (mcL S ev)[j]? :=List.getElem?_append_left (by rw [mcL_len];exact hj)
    have a2:(mcL S.grow (fun j=>if j=S.n then nlS else ev j))[j]? = _:=mcL_at (S:=S.grow) hjg
    have a3:(mcL S ev)[j]? = _:=mcL_at (S:=S) hj
    rw [a1,a2,a3]
    unfold mcV Mch.grow
    simp only
    rw [if_neg (show ¬ j / 258=S.n by omega),if_neg (show ¬ j / 258=S.n by omega),if_neg (show ¬ j / 258=S.n by omega)]
   ·rw [List.getElem?_append_right (by rw [mcL_len];omega),mcL_len]
    by_cases hj2:j<(S.n+1)*258
    ·rw [nwL256_at (by omega),mcL_at (S:=S.grow) (by rw [grow_n];exact hj2)]
     unfold mcV Mch.grow
     simp only
     have e1:j / 258=S.n:=by omega
     have e2:j % 258=j-S.n*258:=by omega
     rw [e1,e2,if_pos rfl,if_pos rfl,if_pos rfl]
    ·rw [List.getElem?_eq_none (by rw [nwL_l];omega),List.getElem?_eq_none (by rw [mcL_len];show (S.n+1)*258<=j;omega)]
  rw [←e]
  exact hown
 ·have hi:i<S.n+1:=hi
  show World.ownsRow _ m _ 1 (if i=S.n then nlS else ev i) (if i=S.n then [] else S.en i).length ((if i=S.n then [] else S.en i).map (Value.int .i64))
  by_cases hin:i=S.n
  ·rw [if_pos hin,if_pos hin]
   exact World.ownsRow_nil _ _ _ _
  ·rw [if_neg hin,if_neg hin]
   exact own_grown (h.inn i (by omega)) hg fun b hb e=>h.ne i (by omega) b e.symm hb
 ·have hi:i<S.n+1:=hi
  show (if i=S.n then nlS else ev i).ownBlock≠some g
  by_cases hin:i=S.n
  ·rw [if_pos hin]
   intro e
   cases e
  ·rw [if_neg hin]
   rcases hat with e|e
   ·exact h.ne i (by omega) g (e▸hgv)
   ·intro e2
    have:=(h.ltI (show i<S.n by omega) e2).2
    rw [e] at hgv
    have:=Option.some.inj hgv
    omega
 ·have hi:i<S.n+1:=hi
  have hj:j<S.n+1:=hj
  have hgv:(if i=S.n then nlS else ev i).ownBlock=some g:=hgv
  show (if j=S.n then nlS else ev j).ownBlock≠some g
  by_cases hin:i=S.n
  ·rw [if_pos hin] at hgv
   cases hgv
  ·rw [if_neg hin] at hgv
   by_cases hjn:j=S.n
   ·rw [if_pos hjn]
    intro e
    cases e
   ·rw [if_neg hjn]
    exact h.dj i j (by omega) (by omega) hne g hgv
def mc0:Mch:=⟨1,fun _ _=> -1,fun _=>0,fun _=>[]⟩
theorem SS.init {w:World}{m b:Nat}(hb:Go.Proofs.YtmokmalepelinaaGreatDoor.Blk w b 254 (nwL 256).toArray)(hm:m<=b):SS w m (.slice (some ⟨b,0,none⟩) 1 1) mc0 (fun _=>nlS):=by
 refine ⟨⟨by rw [mcL_len],.inr ⟨b,1,(nwL 256).toArray,rfl,hm,hb,Nat.le_refl _,by decide,by rw [List.size_toArray,nwL_l], ?_⟩⟩,fun i _=>World.ownsRow_nil _ _ _ _,fun i _ g _ e=>(by cases e),fun i j _ _ _ g e=>(by cases e)⟩
 rw [nwL_tl]
 rw [List.take_of_length_le (by rw [nwL_l];exact Nat.le_refl _)]
 apply List.ext_getElem?
 intro j
 by_cases hj:j<258
 ·rw [nwL256_at hj,mcL_at (S:=mc0) (show j<mc0.n*258 by show j<1*258;omega)]
  unfold mcV mc0
  simp only
  have e1:j % 258=j:=by omega
  rw [e1]
 ·rw [List.getElem?_eq_none (by rw [nwL_l];omega),List.getElem?_eq_none (by rw [mcL_len];show 1*258<=j;omega)]
def mcAdd (S:Mch)(i c:Nat):Mch×Nat:=if S.nx i c<0 then ((S.setNx i c (S.n:Int)).grow,S.n) else (S,(S.nx i c).toNat)
def mcWalk:List Int->Mch->Nat->Mch×Nat
 | [],S,i=>(S,i)
 |c::l,S,i=>mcWalk l (mcAdd S i c.toNat).1 (mcAdd S i c.toNat).2
def mcPat (S:Mch)(k:Nat)(b:List Int):Mch:=(mcWalk b S 0).1.setEn (mcWalk b S 0).2 ((mcWalk b S 0).1.en (mcWalk b S 0).2++[(k:Int)])
def mcTree:List (List Int)->Nat->Mch->Mch
 | [],_,S=>S
 |b::l,k,S=>mcTree l (k+1) (mcPat S k b)
structure WT (S:Mch):Prop where
 pos:1<=S.n
 nx: ∀ i c,i<S.n→ -1<=S.nx i c/\S.nx i c<S.n
theorem WT.mc0:WT mc0:=⟨Nat.le_refl _,fun i c _=>⟨Int.le_refl _,show (-1:Int)<((1:Nat):Int) by omega⟩⟩
theorem mcAdd_ok {S:Mch}(h:WT S){i c:Nat}(hi:i<S.n):WT (mcAdd S i c).1/\(mcAdd S i c).2<(mcAdd S i c).1.n/\(mcAdd S i c).1.n<=S.n+1/\S.n<=(mcAdd S i c).1.n:=by
 have hx:=h.nx i c hi
 have hp:=h.pos
 unfold mcAdd
 by_cases hn:S.nx i c<0
 ·rw [if_pos hn]
  refine ⟨⟨Nat.le_add_left _ _,fun j d hj=> ?_⟩,Nat.lt_succ_self _,Nat.le_refl _,Nat.le_succ _⟩
  have hj:j<S.n+1:=hj
  show-1<=(if j=S.n then-1 else if j=i/\d=c then (S.n:Int) else S.nx j d)/\(if j=S.n then-1 else if j=i/\d=c then (S.n:Int) else S.nx j d)<((S.n+1:Nat):Int)
  by_cases q1:j=S.n
  ·rw [if_pos q1]
   omega
  ·rw [if_neg q1]
   by_cases q2:j=i/\d=c
   ·rw [if_pos q2]
    omega
   ·rw [if_neg q2]
    have:=h.nx j d (by omega)
    omega
 ·rw [if_neg hn]
  exact ⟨h,by show (S.nx i c).toNat<S.n;omega,Nat.le_succ _,Nat.le_refl _⟩
theorem WT.setEn {S:Mch}(h:WT S)(i:Nat)(l:List Int):WT (S.setEn i l):=⟨h.pos,h.nx⟩
theorem mcWalk_ok: ∀ (l:List Int) (S:Mch) (i:Nat),WT S->i<S.n->WT (mcWalk l S i).1/\(mcWalk l S i).2<(mcWalk l S i).1.n/\(mcWalk l S i).1.n<=S.n+l.length
 | [],S,i,h,hi=>⟨h,hi,Nat.le_refl _⟩
 |c::l,S,i,h,hi=>by
  obtain ⟨h1,h2,h3,h4⟩:=mcAdd_ok (c:=c.toNat) h hi
  obtain ⟨g1,g2,g3⟩:=mcWalk_ok l _ _ h1 h2
  exact ⟨g1,g2,by rw [List.length_cons];show (mcWalk l _ _).1.n<=_;omega⟩
theorem mcWalk_snoc (c:Int): ∀ (l:List Int) (S:Mch) (i:Nat),mcWalk (l++[c]) S i=mcAdd (mcWalk l S i).1 (mcWalk l S i).2 c.toNat
 | [],S,i=>rfl
 |d::l,S,i=>by
  show mcWalk (l++[c]) _ _=_
  rw [mcWalk_snoc c l]
  rfl
def EN (S:Mch)(k:Nat):Prop:= ∀ i,(S.en i).length<=k∧ ∀ v,v∈S.en i->0<=v/\v<(k:Int)
theorem EN.mc0:EN mc0 0:=fun i=>⟨Nat.le_refl _,fun v hv=>by cases hv⟩
theorem EN.add {S:Mch}{k i c:Nat}(h:EN S k):EN (mcAdd S i c).1 k:=fun j=>by
 unfold mcAdd
 by_cases hn:S.nx i c<0
 ·rw [if_pos hn]
  show (if j=S.n then [] else S.en j).length<=k∧ ∀ v,v∈(if j=S.n then [] else S.en j)->0<=v/\v<(k:Int)
  by_cases hj:j=S.n
  ·rw [if_pos hj]
   exact ⟨Nat.zero_le _,fun v hv=>by cases hv⟩
  ·rw [if_neg hj]
   exact h j
 ·rw [if_neg hn]
  exact h j
theorem EN.walk {k:Nat}: ∀ (l:List Int) (S:Mch) (i:Nat),EN S k->EN (mcWalk l S i).1 k
 | [],_,_,h=>h
 |c::l,S,i,h=>EN.walk l _ _ (EN.add (i:=i) (c:=c.toNat) h)
theorem EN.pat {S:Mch}{k:Nat}{b:List Int}(h:EN S k):EN (mcPat S k b) (k+1):=fun j=>by
 have hw:=EN.walk b S 0 h
 show (if j=(mcWalk b S 0).2 then (mcWalk b S 0).1.en (mcWalk b S 0).2++[(k:Int)] else (mcWalk b S 0).1.en j).length<=k+1∧ ∀ v,v∈(if j=(mcWalk b S 0).2 then (mcWalk b S 0).1.en (mcWalk b S 0).2++[(k:Int)] else (mcWalk b S 0).1.en j)->0<=v/\v<((k+1:Nat):Int)
 by_cases hj:j=(mcWalk b S 0).2
 ·rw [if_pos hj]
  have:=hw (mcWalk b S 0).2
  refine ⟨by rw [List.length_append,List.length_singleton];omega,fun v hv=> ?_⟩
  rcases List.mem_append.1 hv with hv|hv
  ·have:=this.2 v hv
   omega
  ·rw [List.mem_singleton.1 hv]
   omega
 ·rw [if_neg hj]
  have:=hw j
  exact ⟨by omega,fun v hv=>by have:=this.2 v hv;omega⟩
theorem mcTree_snoc (b:List Int): ∀ (l:List (List Int)) (k:Nat) (S:Mch),mcTree (l++[b]) k S=mcPat (mcTree l k S) (k+l.length) b
 | [],k,S=>rfl
 |a::l,k,S=>by
  show mcTree (l++[b]) (k+1) _=_
  rw [mcTree_snoc b l,List.length_cons,show k+1+l.length=k+(l.length+1) by omega]
  rfl
theorem mcPat_ok {S:Mch}(h:WT S)(k:Nat)(b:List Int):WT (mcPat S k b)/\(mcPat S k b).n<=S.n+b.length:=by
 obtain ⟨h1,_,h3⟩:=mcWalk_ok b S 0 h h.pos
 exact ⟨h1.setEn _ _,h3⟩
structure TR (S:Mch) (k:Nat):Prop where
 wt:WT S
 en:EN S k
 n:S.n<=1+100*k
theorem TR.mc0:TR mc0 0:=⟨WT.mc0,EN.mc0,Nat.le_refl _⟩
theorem TR.pat {S:Mch}{k:Nat}{b:List Int}(h:TR S k)(hb:b.length<=100):TR (mcPat S k b) (k+1):=by
 obtain ⟨h1,h2⟩:=mcPat_ok h.wt k b
 have:=h.n
 exact ⟨h1,h.en.pat,by omega⟩
end Go.Proofs.YtmokmalepelinaaGreatDoor.K
namespace Go.Proofs.YtmokmalepelinaaGreatDoor.K
open Go.RowKit Go.Region
attribute [local go_sem ↓] Go.wp_at_zero Go.wp_at_succ
set_option linter.unusedSectionVars false
attribute [local irreducible] nwL mcL
theorem patR_at {X:Nat->Nat->Prop}{w:World}{l:List Pattern}{x:Pattern}{k:Nat}{u:Value}(hC:C X w nowhere (.sl (List.length l) (l.flatMap tyPattern.cells)) u)(hx:l[k]? = some x):
  ∃ g off c A cb,u= .slice (some ⟨g,off,none⟩) (List.length l) c/\g<w.heap.size/\w.cell? ⟨g,off+k*3,none⟩=some (.int .i64 x.1.1)/\w.cell? ⟨g,off+k*3+1,none⟩=some (.int .i64 x.1.2.1)/\w.cell? ⟨g,off+k*3+2,none⟩=some (.slice A x.2.1.length cb)/\C X w nowhere (.sl x.2.1.length (x.2.1.flatMap (Ty.int .u8).cells)) (.slice A x.2.1.length cb):=by
 obtain ⟨g,off,c,vs,rfl,hg,h1,h2⟩:=row_gen (y:=tyPattern) hC hx
 have h1:Cs X w nowhere [.v (.int .i64 x.1.1),.v (.int .i64 x.1.2.1),.sl x.2.1.length (x.2.1.flatMap (Ty.int .u8).cells)] vs:=h1
 simp only [Cs] at h1
 obtain ⟨u0,_,rfl,q0,u1,_,rfl,q1,u2,_,rfl,q2,rfl⟩:=h1
 obtain ⟨A,cb,rfl⟩:=sl_val q2
 simp only [C] at q0 q1
 obtain ⟨rfl,_⟩:=q0
 obtain ⟨rfl,_⟩:=q1
 exact ⟨g,off,c,A,cb,rfl,hg,h2 0 _ rfl,h2 1 _ rfl,h2 2 _ rfl,q2⟩
theorem byR_at {X:Nat->Nat->Prop}{w:World}{l:List Int}{x:Int}{k:Nat}{u:Value}(hC:C X w nowhere (.sl (List.length l) (l.flatMap (Ty.int .u8).cells)) u)(hx:l[k]? = some x):
  ∃ g off c,u= .slice (some ⟨g,off,none⟩) (List.length l) c/\g<w.heap.size/\w.cell? ⟨g,off+k,none⟩=some (.int .u8 x):=by
 obtain ⟨g,off,c,vs,rfl,hg,h1,h2⟩:=row_gen (y:= .int .u8) hC hx
 have h1:Cs X w nowhere [.v (.int .u8 x)] vs:=h1
 simp only [Cs,C] at h1
 obtain ⟨u0,_,rfl,⟨rfl,_⟩,rfl⟩:=h1
 have:=h2 0 _ rfl
 rw [show (Ty.int .u8).sz=1 from rfl,Nat.mul_one] at this
 exact ⟨g,off,c,rfl,hg,this⟩
structure PtOk (p:List Pattern):Prop where
 by_: ∀ x,x∈p→ ∀ c,c∈x.2.1->0<=c/\c<256
 len:p.length<=100
 tot: ∀ x,x∈p->x.2.1.length<=100
theorem elemSt:ElemOk Tryz.prog 249 254 258 544:=ElemOk.of (.agg Tryz.zeroCells254) (by kernel_rfl) (by kernel_rfl) (by kernel_rfl) (by decide)
theorem nw_one: ∀ u∈nwL 256,u.oneCell'=true:=List.all_eq_true.1 (by kernel_rfl)
theorem slSt {w:World}{b:Nat}(hb:Go.Proofs.YtmokmalepelinaaGreatDoor.Blk w b 254 (nwL 256).toArray):Sl w (.slice (some ⟨b,0,none⟩) 1 1) 258 1 (nwL 256):=
 ⟨by rw [nwL_l],_,_,rfl,Nat.le_refl 1,by decide,fun _=>⟨b,0,rfl,hb.lt,fun j u hu=>by rw [Nat.zero_add,hb.cell,List.getElem?_toArray,hu]⟩⟩
theorem tree_push {W6 w7:World}{m g2 cap2 i cn n:Nat}{S1:Mch}{ev:Nat->Value}{v':Value}{z:Int}(h:SS W6 m (.slice (some ⟨g2,0,none⟩) n cap2) S1 ev)(hn:S1.n=n)(hi:i<n)(hc:cn<256)(hz:S1.grow.nx i cn=z)
  (hown:w7.ownsRow m 254 258 v' (n+1) (mcL S1 ev++nwL 256)) (hg:W6.grownBy w7 (some g2)) (hat:v'.ownBlock=some g2∨v'.ownBlock=some W6.heap.size):
  ∃ g3 cap3,v'= .slice (some ⟨g3,0,none⟩) (n+1) cap3/\w7.cell? ⟨g3,i*258+cn,none⟩=some (.int .i16 z)∧ ∃ ev7,SS w7 m v' S1.grow ev7:=by
 subst hn hz
 have hs:=h.push hown hg hat
 obtain ⟨g3,cap3,rfl,_,_⟩:=hs.form (Nat.succ_pos _)
 exact ⟨g3,cap3,rfl,hs.nx (Nat.lt_succ_of_lt hi) hc,_,hs⟩
theorem elemIn:ElemOk Tryz.prog 22 3 1 8:=ElemOk.of (.int .i64 0) (by kernel_rfl) (by kernel_rfl) (by kernel_rfl) (by decide)
theorem slOne {w:World}{b:Nat}{T:TypeId}{u:Value}(hb:Go.Proofs.YtmokmalepelinaaGreatDoor.Blk w b T #[u]):Sl w (.slice (some ⟨b,0,none⟩) 1 1) 1 1 [u]:=
 ⟨rfl,_,_,rfl,Nat.le_refl 1,by decide,fun _=>⟨b,0,rfl,hb.lt,fun j v hv=>by rw [Nat.zero_add,hb.cell,List.getElem?_toArray,hv]⟩⟩
theorem en_app {W6 w7:World}{m g2 cap2 i:Nat}{S:Mch}{ev:Nat->Value}{v':Value}{l:List Int}(h:SS W6 m (.slice (some ⟨g2,0,none⟩) S.n cap2) S ev)(hi:i<S.n)
  (hown:w7.ownsRow m 3 1 v' ((S.en i).length+l.length) ((S.en i).map (Value.int .i64)++l.map (Value.int .i64))) (hg:W6.grownBy w7 (ev i).ownBlock) (hat:v'.ownBlock=(ev i).ownBlock∨v'.ownBlock=some W6.heap.size):
  w7.cell? ⟨g2,i*258+257,none⟩=some (ev i)/\w7.frozen? ⟨g2,i*258+257,none⟩=false/\(∃ ev',SS (w7.setCell ⟨g2,i*258+257,none⟩ v') m (.slice (some ⟨g2,0,none⟩) S.n cap2) (S.setEn i (S.en i++l)) ev'):=by
 have ho:w7.ownsRow m 254 258 (.slice (some ⟨g2,0,none⟩) S.n cap2) S.n (mcL S ev):=own_grown h.own hg fun b hb e=>by
  have hb:g2=b:=Option.some.inj hb
  exact h.ne i hi b (by rw [←hb];rfl) e.symm
 refine ⟨?_,ho.frozenAt _,⟨_,(h.putEn hi (l:=S.en i++l) (by rw [List.length_append,List.map_append];exact hown) hg hat).1⟩⟩
 rw [ho.cellAt _ (by omega),mcL_at (S:=S) (by omega),mcV_en]
theorem bs_fill:Instr.fill (fun i=>some (i*258,258)) ((Array.range (1*258)).map ((Value.agg Tryz.zeroCells254).cells[· % (Value.agg Tryz.zeroCells254).cells.size]!)) [(0,nwV)]=some (nwL 256).toArray:=by kernel_rfl
theorem wpList_bsSt {ops:Array Oper}{rest:List Oper}{o:Oper}{a:Act}{w:World}{Q:Exit->Act->World->Prop}(hg:o.guard=none)(x:Operand)(ho:o.op= .buildSlice 249 1 #[(0,x)])(hx:a.eval x=nwV)
  (h:wpList Tryz.prog ops Q rest (a.put o.dst (.slice (some ⟨w.heap.size,0,none⟩) 1 1)) (w.alloc (.cells (nwL 256).toArray 254))):wpList Tryz.prog ops Q (o::rest) a w:=by
 have h1:(Tryz.prog.info? 254).map (·.size)=some 258:=by kernel_rfl
 have h2:(Tryz.prog.info? 254).bind (·.zero)=some (.agg Tryz.zeroCells254):=by kernel_rfl
 cases hie:Tryz.prog.info? 254 with
 |none=>rw [hie] at h1;cases h1
 |some ie=>
  rw [hie] at h1 h2
  have h1:ie.size=258:=Option.some.inj h1
  have h2:ie.zero=some (.agg Tryz.zeroCells254):=h2
  refine wpList_buildSlice hg 249 254 1 #[(0,x)] ho (nwL 256).toArray ie _ (by kernel_rfl) hie h2 (by rw [h1];decide) (by rw [h1];decide) ?_ h
  rw [h1]
  have e:((#[(0,x)]:Array (Nat×Operand)).map fun (i,x)=>(i,a.eval x)).toList=[(0,nwV)]:=by
   simp only [List.map_toArray,List.map_cons,List.map_nil,hx]
  rw [e]
  exact bs_fill
set_option maxHeartbeats 4000000 in
theorem tree_calls {X:Nat->Nat->Prop}{w:World}{pv:Value}{p:List Pattern}(hC:C X w nowhere (.sl p.length (p.flatMap tyPattern.cells)) pv)(hok:PtOk p):
  Calls Tryz.prog 244 #[pv] w fun e w'=> ∃ sv,e= .returned sv/\(∃ ev,SS w' w.heap.size sv (mcTree (p.map (·.2.1)) 0 mc0) ev)/\Below w.heap.size w w':=by
 obtain ⟨A,c,rfl⟩:=sl_val hC
 have HC:=Lib.hid hC
 have HK:=Lib.hid hok
 clear hC hok
 go_enter Tryz.func244,Tryz.ntmps244
 go_wp2_with (first
  |(refine (state_calls _).mono ?_;rintro e w1 ⟨rfl,hb1⟩;have HB1:=Lib.hid hb1;clear hb1)
  |(refine wpList_bsSt rfl (.tmp 11) rfl rfl ?_))
 obtain ⟨m,hm⟩: ∃ m,m=w.heap.size:=⟨_,rfl⟩
 obtain ⟨b0,hb0⟩: ∃ b0,b0=w1.heap.size:=⟨_,rfl⟩
 obtain ⟨W0,hW0⟩: ∃ W0,W0=w1.alloc (Obj.cells (nwL 256).toArray 254):=⟨_,rfl⟩
 have hmb:m<=b0:=by rw [hm,hb0];exact HB1.out.size
 have hs0:SS W0 m (.slice (some ⟨b0,0,none⟩) 1 1) mc0 (fun _=>nlS):=SS.init (by rw [hW0,hb0];exact Go.Proofs.YtmokmalepelinaaGreatDoor.Blk.new _ _ _) hmb
 have hl0:Below m w W0:=by
  rw [hW0,hm]
  exact HB1.out.alloc HB1.out.size _
 rw [←hW0, ← hb0]
 have HM:=Lib.hid hm
 have HS0:=Lib.hid hs0
 have HL0:=Lib.hid hl0
 clear hm hb0 hW0 hmb hs0 hl0 HB1
 go_loopw [4,15] (fun sv iv wr=> ∃ k:Nat,k<=p.length/\iv= .int .i64 k/\Hid ((∃ ev,SS wr m sv (mcTree ((p.take k).map (·.2.1)) 0 mc0) ev)/\TR (mcTree ((p.take k).map (·.2.1)) 0 mc0) k)/\Hid (Below m w wr)) (fun _ iv _=>p.length-(intOf iv).toNat)
 case atStart=>exact ⟨0,Nat.zero_le _,rfl,Lib.hid ⟨⟨_,HS0.out⟩,TR.mc0⟩,HL0⟩
 case round=>
  obtain ⟨k,hk,rfl,HS,HL⟩:=hrel
  by_cases hlt:k<p.length
  ·obtain ⟨x,hx⟩: ∃ x,p[k]? = some x:=⟨_,List.getElem?_eq_getElem hlt⟩
   have HX:=Lib.hid hx
   obtain ⟨g,off,c',A',cb,e1,hg,d0,d1,d2,hCx⟩:=patR_at HC.out hx
   have hww:Below w.heap.size w wr:=HM.out▸HL.out
   replace d0:=(hww.cell (p:=⟨g,off+k*3,none⟩) hg).trans d0
   replace d1:=(hww.cell (p:=⟨g,off+k*3+1,none⟩) hg).trans d1
   replace d2:=(hww.cell (p:=⟨g,off+k*3+2,none⟩) hg).trans d2
   injection e1 with e2 _ e3
   subst e2 e3
   have HCX:=Lib.hid hCx
   clear hCx hx hww
   have hlt2:((k:Nat):Int)<((p.length:Nat):Int):=by omega
   obtain ⟨⟨x1,x2,x3⟩,xb,x4⟩:=x
   simp only [] at d0 d1 d2 HCX
   go_wp2_with fail
   obtain ⟨S0,hS0⟩: ∃ S0,S0=mcTree ((p.take k).map (·.2.1)) 0 mc0:=⟨_,rfl⟩
   obtain ⟨W2,hW2⟩: ∃ W2,W2=wr.alloc (Obj.cells #[Value.int IntKind.i64 x1,Value.int IntKind.i64 x2,Value.slice A' xb.length cb] 97):=⟨_,rfl⟩
   have hs:=HS.out
   rw [←hS0] at hs
   obtain ⟨⟨ev0,hs1⟩,hs2⟩:=hs
   have hbw:Below wr.heap.size wr W2:=by
    rw [hW2]
    exact (Below.refl _ _).alloc (Nat.le_refl _) _
   have hlw:Below m w W2:=by
    rw [hW2]
    exact HL.out.alloc (by rw [HM.out];exact (HM.out▸HL.out.size)) _
   have HS2:=Lib.hid (hs1.below hbw)
   have HTR:=Lib.hid hs2
   have HWT:=Lib.hid hs2.wt
   have HN:=Lib.hid hs2.n
   have HL2:=Lib.hid hlw
   have HE0:=Lib.hid hS0
   have hxb: ∀ c,c∈xb->0<=c/\c<256:=fun c hc=>HK.out.by_ _ (List.mem_of_getElem? HX.out) c hc
   have hxl:xb.length<=100:=HK.out.tot _ (List.mem_of_getElem? HX.out)
   have hkl:p.length<=100:=HK.out.len
   have HXB:=Lib.hid hxb
   have HXL:=Lib.hid (show xb.length<=100/\p.length<=100 from ⟨hxl,hkl⟩)
   rw [←hW2]
   clear hs1 hs2 hbw hlw hS0 hW2 hxb hxl hkl
   go_loopw [4,7,23] (fun sv av jv wy=> ∃ j:Nat,j<=xb.length/\jv= .int .i64 j/\av= .int .i16 (((mcWalk (xb.take j) S0 0).2:Nat):Int)/\Hid (∃ ev,SS wy m sv (mcWalk (xb.take j) S0 0).1 ev)/\Hid (Below m w wy)) (fun _ _ jv _=>xb.length-(intOf jv).toNat)
   case atStart=>exact ⟨0,Nat.zero_le _,rfl,rfl,Lib.hid ⟨_,HS2.out⟩,HL2⟩
   case round=>
    obtain ⟨j,hj,rfl,rfl,HSY,HLY⟩:=hrel
    obtain ⟨q1,q2,q3⟩:=mcWalk_ok (xb.take j) S0 0 HWT.out HWT.out.pos
    have HSN:Hid (∀ c,xb[j]? = some c->mcWalk (xb.take (j+1)) S0 0=mcAdd (mcWalk (xb.take j) S0 0).1 (mcWalk (xb.take j) S0 0).2 c.toNat):=Lib.hid fun c hc=>by
     rw [List.take_add_one,hc,Option.toList_some,mcWalk_snoc]
    by_cases hjl:j<xb.length
    ·obtain ⟨c,hc⟩: ∃ c,xb[j]? = some c:=⟨_,List.getElem?_eq_getElem hjl⟩
     have hsn:=HSN.out c hc
     obtain ⟨hc0,hc1⟩:=HXB.out c (List.mem_of_getElem? hc)
     obtain ⟨cn,rfl⟩:=Int.eq_ofNat_of_zero_le hc0
     obtain ⟨gb,ob,cb',e1,hgb,d0'⟩:=byR_at HCX.out hc
     have hwy:Below w.heap.size w wr:=HM.out▸HLY.out
     replace d0':=(hwy.cell (p:=⟨gb,ob+j,none⟩) hgb).trans d0'
     injection e1 with e2 _ e3
     subst e2 e3
     rw [hsn] at HSN
     generalize hW:mcWalk (xb.take j) S0 0=R at*
     obtain ⟨S,i⟩:=R
     simp only [] at q1 q2 q3 hsn HSY
     obtain ⟨ev,hss⟩:=HSY.out
     obtain ⟨g2,cap2,rfl,hg2,hg2'⟩:=hss.form q1.pos
     have z1:=hss.nx q2 (show cn<256 by omega)
     have i1:((i:Nat):Int)<((S.n:Nat):Int):=by omega
     have i2:((cn:Nat):Int)<256:=by omega
     have i3:((j:Nat):Int)<((xb.length:Nat):Int):=by omega
     have i4:((j:Nat):Int)<100:=by have:=HXL.out.1;omega
     have HSS:=Lib.hid hss
     have HQ:=Lib.hid (And.intro q1 (And.intro q2 q3))
     have HJ:=Lib.hid hsn
     have HW:=Lib.hid hW
     clear hwy hss q1 q2 q3 hsn hW hg2 hg2' HSY hc HSN hc0 hc1
     by_cases hneg:S.nx i cn<0
     ·have HJA:Hid (mcWalk (List.take (j+1) xb) S0 0=((S.setNx i cn (S.n:Int)).grow,S.n)):=Lib.hid (by
       rw [HJ.out]
       show mcAdd S i (cn:Int).toNat=_
       rw [Int.toNat_natCast,mcAdd,if_pos hneg])
      have hn30:S.n<=30000:=by
       have h1:=HQ.out.2.2
       have h2:=HN.out
       have h3:=HXL.out
       rw [List.length_take] at h1
       omega
      have hcv:IntKind.i16.wrap ((S.n:Nat):Int)=((S.n:Nat):Int):=Go.IntWalk.i16_in _ (by omega)
      have HN3:=Lib.hid hn30
      have zf:=HSS.out.own.frozenAt (i*258+cn)
      have hp:=HSS.out.putNx HQ.out.2.1 (show cn<256 by omega) ((S.n:Nat):Int)
      have hmg:=(HSS.out.own.lt g2 rfl)
      have HP:=Lib.hid hp.1
      have HMG:=Lib.hid hmg
      have HLP:Hid (Below m w (wr.setCell ⟨g2,i*258+cn,none⟩ (.int .i16 ((S.n:Nat):Int)))):=Lib.hid (HLY.out.setCell (p:=⟨g2,i*258+cn,none⟩) hmg.1 _)
      obtain ⟨S1,hS1⟩: ∃ S1,S1=S.setNx i cn ((S.n:Nat):Int):=⟨_,rfl⟩
      have HS1:=Lib.hid hS1
      have HN1:Hid (S1.n=S.n):=Lib.hid (by rw [hS1];rfl)
      rw [←hS1] at HP HJA
      have z3:S1.grow.nx i cn=((S.n:Nat):Int):=by
       rw [hS1]
       show (if i=S.n then-1 else if i=i/\cn=cn then ((S.n:Nat):Int) else S.nx i cn)=_
       rw [if_neg (by have:=HQ.out.2.1;omega),if_pos ⟨rfl,rfl⟩]
      have HZ3:=Lib.hid z3
      have i5:((i:Nat):Int)<((S.n+1:Nat):Int):=by omega
      clear hn30 hp hmg hS1 z3
      go_wp2_with (first
       |(refine (state_calls _).mono ?_;rintro e w5 ⟨rfl,hb5⟩;have HS5:=Lib.hid (HP.out.below hb5);have HL5:=Lib.hid (below_step HLP.out hb5 (by rw [World.size_setCell];exact Nat.le_of_lt (Nat.lt_of_le_of_lt HMG.out.1 HMG.out.2)));clear hb5)
       |(refine wpList_bsSt rfl (.tmp 46) rfl rfl ?_)
       |(at_builtin;refine wpList_app elemSt rfl _ _ rfl m (.slice (some ⟨g2,0,none⟩) S.n cap2) S.n (mcL S1 ev) rfl (HN1.out▸(HS5.out.below ((Below.refl _ _).alloc (Nat.le_refl _) (.cells (nwL 256).toArray 254))).own) (some ⟨w5.heap.size,0,none⟩) 1 1 (nwL 256) rfl (slSt (Go.Proofs.YtmokmalepelinaaGreatDoor.Blk.new _ _ _)) nw_one (by have:=HN3.out;omega) (by decide) (by rw [World.size_alloc];exact Nat.le_succ_of_le (Nat.le_trans HMG.out.1 (Nat.le_of_lt (HS5.out.own.lt g2 rfl).2))) ?_;intro v' w7 hown7 hg7 hat7;obtain ⟨g3,cap3,rfl,z7,hs7⟩:=tree_push (HS5.out.below ((Below.refl _ _).alloc (Nat.le_refl _) (.cells (nwL 256).toArray 254))) HN1.out HQ.out.2.1 (show cn<256 by omega) HZ3.out hown7 hg7 hat7;have HS7:=Lib.hid hs7;have HL7:Hid (Below m w w7):=Lib.hid (below_of_only (HL5.out.alloc (Nat.le_trans HMG.out.1 (Nat.le_of_lt (HS5.out.own.lt g2 rfl).2)) _) hg7 HMG.out.1 (by rw [World.size_alloc];exact Nat.le_succ_of_le (Nat.le_trans HMG.out.1 (Nat.le_of_lt (HS5.out.own.lt g2 rfl).2))));clear hown7 hg7 hat7 hs7))
      refine ⟨⟨j+1,by omega,rfl, ?_,Lib.hid ?_,HL7⟩,by simp [intOf];omega⟩
      ·rw [HJA.out]
      ·rw [HJA.out]
       exact HS7.out
     ·have HJA:Hid (mcWalk (List.take (j+1) xb) S0 0=(S,(S.nx i cn).toNat)):=Lib.hid (by
       rw [HJ.out]
       show mcAdd S i (cn:Int).toNat=_
       rw [Int.toNat_natCast,mcAdd,if_neg hneg])
      go_wp2_with fail
      refine ⟨⟨j+1,by omega,rfl, ?_,Lib.hid ⟨ev, ?_⟩,HLY⟩,by simp [intOf];omega⟩
      ·rw [HJA.out]
       show Value.int IntKind.i16 (S.nx i cn)=Value.int IntKind.i16 (((S.nx i cn).toNat:Nat):Int)
       rw [Int.toNat_of_nonneg (by omega)]
      ·rw [HJA.out]
       exact HSS.out
    ·obtain rfl:j=xb.length:=by omega
     have i3: ¬ ((xb.length:Nat):Int)<((xb.length:Nat):Int):=by omega
     rw [List.take_length] at HSY q1 q2 q3 ⊢
     generalize hW:mcWalk xb S0 0=R at*
     obtain ⟨S,i⟩:=R
     simp only [] at q1 q2 q3 HSY
     obtain ⟨ev,hss⟩:=HSY.out
     obtain ⟨g2,cap2,rfl,hg2,hg2'⟩:=hss.form q1.pos
     have z1:=hss.en q2
     have i1:((i:Nat):Int)<((S.n:Nat):Int):=by omega
     have zf:=hss.own.frozenAt (i*258+257)
     have HSS:=Lib.hid hss
     have HQ:=Lib.hid (And.intro q1 (And.intro q2 q3))
     have HW:=Lib.hid hW
     have HG2:=Lib.hid (And.intro hg2 hg2')
     have hle:(S.en i).length<=100:=by
      have h1:=(EN.walk xb S0 0 HTR.out.en i).1
      rw [hW] at h1
      have:=HXL.out.2
      exact Nat.le_trans h1 (by omega)
     have HLE:=Lib.hid hle
     have HT:Hid (mcTree ((p.take (k+1)).map (·.2.1)) 0 mc0=mcPat S0 k xb/\mcPat S0 k xb=S.setEn i (S.en i++[(k:Int)])):=Lib.hid ⟨by
      rw [List.take_add_one,HX.out,Option.toList_some,List.map_append,List.map_singleton,mcTree_snoc,List.length_map,List.length_take,Nat.min_eq_left hk,Nat.zero_add, ← HE0.out],by
      unfold mcPat
      rw [hW]⟩
     have i6:((k:Nat):Int)<100:=by have:=HXL.out.2;omega
     clear hss q1 q2 q3 hW hg2 hg2' HSY HSN hle
     go_wp2_with (at_builtin;refine wpList_app elemIn rfl _ _ rfl m (ev i) (S.en i).length ((S.en i).map (Value.int .i64)) rfl ((HSS.out.inn i HQ.out.2.1).alloc _) (some ⟨wr.heap.size,0,none⟩) 1 1 ([(k:Int)].map (Value.int .i64)) rfl (slOne (Go.Proofs.YtmokmalepelinaaGreatDoor.Blk.new _ _ _)) (by simp [Value.oneCell']) (by have:=HLE.out;omega) (by decide) (by rw [World.size_alloc];exact Nat.le_succ_of_le (Nat.le_trans HG2.out.1 (Nat.le_of_lt HG2.out.2))) ?_;intro v' w7 hown7 hg7 hat7;obtain ⟨g9,c9,rfl,_,_⟩:=hown7.form (by omega);obtain ⟨z8,zf8,hs8⟩:=en_app (l:=[(k:Int)]) (HSS.out.below ((Below.refl _ _).alloc (Nat.le_refl _) _)) HQ.out.2.1 hown7 hg7 hat7;have HS8:=Lib.hid hs8;have HG7:=Lib.hid hg7;have HAT:=Lib.hid hat7;clear hown7 hg7 hat7 hs8)
     obtain ⟨ev',hs9⟩:=HS8.out
     refine ⟨⟨k+1,by omega,rfl,Lib.hid ⟨⟨ev', ?_⟩, ?_⟩,Lib.hid ?_⟩,by simp [intOf];omega⟩
     ·rw [HT.out.1,HT.out.2]
      exact hs9
     ·rw [HT.out.1]
      exact HTR.out.pat HXL.out.1
     ·refine Below.setCell ?_ (p:=⟨g2,i*258+257,none⟩) HG2.out.1 _
      have hb6:Below m w (wr.alloc (.cells #[Value.int IntKind.i64 (k:Int)] 3)):=HLY.out.alloc (Nat.le_trans HG2.out.1 (Nat.le_of_lt HG2.out.2)) _
      cases he:(ev i).ownBlock with
      |none=>
       rw [he] at HG7
       exact ⟨HG7.out.os.trans hb6.os,HG7.out.tape.trans hb6.tape,HG7.out.output.trans hb6.output,Nat.le_trans hb6.size HG7.out.size,fun b hb=>(HG7.out.block b (by have:=hb6.size;rw [World.size_alloc];have:=HG2.out;omega) (fun e=>by cases e)).trans (hb6.block b hb)⟩
      |some q=>
       rw [he] at HG7
       exact below_of_only hb6 HG7.out (HSS.out.ltI HQ.out.2.1 he).1 (by rw [World.size_alloc];have:=HG2.out;omega)
  ·obtain rfl:k=p.length:=by omega
   have hnl: ¬ ((p.length:Nat):Int)<((p.length:Nat):Int):=by omega
   go_wp2_with fail
   go_ret
   obtain ⟨⟨ev,h1⟩,_⟩:=HS.out
   rw [List.take_length] at h1
   exact ⟨_,rfl,⟨ev,by rw [←HM.out];exact h1⟩,by rw [←HM.out];exact HL.out⟩
end Go.Proofs.YtmokmalepelinaaGreatDoor.K
namespace Go.Proofs.YtmokmalepelinaaGreatDoor.K
open Go.RowKit Go.Region
set_option linter.unusedSectionVars false
def QV (e:TypeId)(w:World)(m:Nat)(qv:Value)(g:Nat)(l:List Value):Prop:=
 ∃ off cap cur,qv= .slice (some ⟨g,off,none⟩) l.length cap/\m<=g/\w.heap[g]? = some (.cells cur e (0,0))/\l.length<=cap/\cap<=maxLen/\off+cap<=cur.size∧ ∀ j v,l[j]? = some v->cur.toList[off+j]? = some v
section
variable {e:TypeId}{w w':World}{m g:Nat}{qv:Value}{l:List Value}
theorem QV.lt (h:QV e w m qv g l):m<=g/\g<w.heap.size:=by
 obtain ⟨off,cap,cur,_,hm,hg,_⟩:=h
 refine ⟨hm, ?_⟩
 rcases Nat.lt_or_ge g w.heap.size with hlt|hge
 ·exact hlt
 ·rw [Array.getElem?_eq_none hge] at hg
  cases hg
theorem QV.keep {r:Option Nat}(h:QV e w m qv g l)(hg:w.grownBy w' r)(hne:r≠some g):QV e w' m qv g l:=by
 have hlt:=h.lt.2
 obtain ⟨off,cap,cur,h1,h2,h3,h4⟩:=h
 exact ⟨off,cap,cur,h1,h2,(hg.block g hlt (fun e=>hne e.symm)).trans h3,h4⟩
theorem QV.below (h:QV e w m qv g l)(hb:Below w.heap.size w w'):QV e w' m qv g l:=h.keep (only_of_below hb none) (fun e=>by cases e)
end
section
variable {P:Program}{w:World}
theorem run_append_roomW (t ty e:TypeId)(i:TypeInfo)(ht:P.underlying t=some (.slice e))(hi:P.info? e=some i)(hs1:i.size=1)
  (g off sLen sCap:Nat) (cur:Array Value) (hg:w.heap[g]? = some (.cells cur e (0,0)))
  (a:Addr) (c:Nat) (x:Value) (hx:w.cell? a=some x) (h1:x.oneCell'=true)
  (hroom:sLen+1<=sCap) (hfit:off+sLen+1<=cur.size):
  (Builtin.append_ #[t,t] ty #[.slice (some ⟨g,off,none⟩) sLen sCap,.slice (some a) 1 c]).run P w=
   .ok (.slice (some ⟨g,off,none⟩) (sLen+1) sCap) (w.setRow g (cur.toList.take (off+sLen)++[x]++cur.toList.drop (off+sLen+1)).toArray):=by
 have hf:=run_firstCells_some (P:=P) w i.size 1 a 1 c [x] (by rw [hs1];rfl) (fun j u hu=>by
  cases j with
  |zero=>
   simp only [List.getElem?_cons_zero,Option.some.injEq] at hu
   subst hu
   rw [show a.add 0=a from by unfold Addr.add;split<;>simp_all]
   exact hx
  |succ j=>simp at hu)
 have hst:=run_storeCells_at P g (off+sLen) e [x] 0 cur w hg (by simpa using hfit) (fun v hv=>by rw [List.mem_singleton.1 hv];exact h1)
 simp only [Nat.add_zero,List.length_singleton] at hst
 rw [hs1] at hf
 simp [Builtin.append_,run_underlying ht,sizeOf,typeInfo,hi,Builtin.lenOf,hroom,hf,hs1,Addr.add_lit] at hst ⊢
 simp [hst]
theorem run_append_Q {t e:TypeId}{bytes:Nat}(hE:ElemOk P t e 1 bytes)(ty:TypeId){m g:Nat}{qv:Value}{l:List Value}(hq:QV e w m qv g l)(a:Addr)(c:Nat)(x:Value)(hx:w.cell? a=some x)(h1:x.oneCell'=true)(hm:m<=w.heap.size)
  (hlen:l.length+1<=1000000000) (hby:bytes<=100000):
  ∃ v' w' g',(Builtin.append_ #[t,t] ty #[qv,.slice (some a) 1 c]).run P w= .ok v' w'/\QV e w' m v' g' (l++[x])/\w.grownBy w' (some g)/\(g'=g∨g'=w.heap.size):=by
 obtain ⟨i,z,k1,k2,k3,k4,k5,k6,k7⟩:=hE.has
 have hgl:=hq.lt.2
 obtain ⟨off,cap,cur,rfl,q1,q2,q3,q4,q5,q6⟩:=hq
 by_cases hroom:l.length+1<=cap
 ·have hrun:=run_append_roomW (P:=P) (w:=w) t ty e i k1 k2 k4 g off l.length cap cur q2 a c x hx h1 hroom (by omega)
  have hcs:(cur.toList.take (off+l.length)++[x]++cur.toList.drop (off+l.length+1)).length=cur.size:=by
   have hcz:cur.toList.length=cur.size:=Array.length_toList
   rw [List.length_append,List.length_append,List.length_take,List.length_drop,List.length_singleton]
   omega
  refine ⟨_,_,g,hrun,⟨off,cap,_,by rw [List.length_append,List.length_singleton],q1,setRow_heap w g cur _ _ _ q2,by rw [List.length_append,List.length_singleton];exact hroom,q4,by rw [List.size_toArray,hcs];exact q5,fun j v hv=> ?_⟩,⟨rfl,rfl,rfl,by rw [size_setRow];exact Nat.le_refl _,fun k hk hne=> ?_⟩,.inl rfl⟩
  ·show (cur.toList.take (off+l.length)++[x]++cur.toList.drop (off+l.length+1))[off+j]? = some v
   have htl:(cur.toList.take (off+l.length)).length=off+l.length:=by
    have hcz:cur.toList.length=cur.size:=Array.length_toList
    rw [List.length_take]
    omega
   rw [List.append_assoc]
   by_cases hj:j<l.length
   ·rw [List.getElem?_append_left (by rw [htl];omega),List.getElem?_take,if_pos (by omega)]
    rw [List.getElem?_append_left hj] at hv
    exact q6 j v hv
   ·have hj2:j=l.length:=by
     have:=(List.getElem?_eq_some_iff.1 hv).1
     rw [List.length_append,List.length_singleton] at this
     omega
    subst hj2
    rw [List.getElem?_append_right (Nat.le_refl _),Nat.sub_self] at hv
    rw [List.getElem?_append_right (by rw [htl];exact Nat.le_refl _),htl,Nat.sub_self]
    exact hv
  ·show (w.setRow g _).heap[k]? = w.heap[k]?
   simp only [World.setRow,Array.getElem?_modify]
   rw [if_neg (fun e=>hne (by rw [e]))]
 ·have hcl:cap=l.length:=by omega
  have hbig:l.length+1<=maxLen:=by unfold maxLen;omega
  have hrun:=run_append_grow (P:=P) w t ty e i z k1 k2 k3 ⟨g,off,none⟩ l.length cap l (by rw [k4,Nat.mul_one]) (fun j v hv=>by
   rw [Addr.add_lit]
   show w.cell? ⟨g,off+j,none⟩=some v
   rw [Go.Proofs.YtmokmalepelinaaGreatDoor.Blk.cell (show Go.Proofs.YtmokmalepelinaaGreatDoor.Blk w g e cur from q2), ← Array.getElem?_toList]
   exact q6 j v hv) a 1 c [x] (by rw [k4];rfl) (fun j u hu=>by
   cases j with
   |zero=>
    simp only [List.getElem?_cons_zero,Option.some.injEq] at hu
    subst hu
    rw [show a.add 0=a from by unfold Addr.add;split<;>simp_all]
    exact hx
   |succ j=>simp at hu) (by omega) (by omega) (growslice_fits (by omega) (by rw [k5];have:=Nat.mul_le_mul hlen hby;omega))
  have hge:=grownCap_ge w (l.length+1) cap e
  have hcm:=grownCap_le_maxLen w (l.length+1) cap e hbig
  refine ⟨_,_,w.heap.size,hrun,⟨0,grownCap w (l.length+1) cap e,_,by rw [List.length_append,List.length_singleton],hm,heap_alloc_new w.drew _,by rw [List.length_append,List.length_singleton];exact hge,hcm, ?_,fun j v hv=> ?_⟩,⟨rfl,rfl,rfl, ?_,fun k hk hne=>Below.heap_alloc w.drew _ k hk⟩,.inr rfl⟩
  ·rw [Array.size_append,Array.size_append,size_zeroCells,k6,List.size_toArray,List.size_toArray,List.length_singleton]
   omega
  ·rw [Nat.zero_add,Array.toList_append,Array.toList_append]
   rw [List.getElem?_append_left (by have:=(List.getElem?_eq_some_iff.1 hv).1;simpa using this)]
   simpa using hv
  ·show w.heap.size<=(w.drew.alloc _).heap.size
   rw [World.size_alloc]
   exact Nat.le_succ _
theorem wpList_appQ {ops:Array Oper}{rest:List Oper}{o:Oper}{a:Act}{Q:Exit->Act->World->Prop}{t e:TypeId}{bytes:Nat}(hE:ElemOk P t e 1 bytes)(hgd:o.guard=none)(s x:Operand)
  (ho:o.op= .call {callee:= .builtin .append,args:= #[s,x],argTypes:= #[t,t] })
  {m g:Nat} {qv:Value} {l:List Value} (hs:a.eval s=qv) (hq:QV e w m qv g l) (ad:Addr) (c:Nat) (u:Value) (hx:a.eval x= .slice (some ad) 1 c) (hu:w.cell? ad=some u) (h1:u.oneCell'=true) (hm:m<=w.heap.size)
  (hlen:l.length+1<=1000000000) (hby:bytes<=100000)
  (h: ∀ v' w' g',QV e w' m v' g' (l++[u])->w.grownBy w' (some g)->(g'=g∨g'=w.heap.size)->wpList P ops Q rest (a.put o.dst v') w'):wpList P ops Q (o::rest) a w:=by
 refine wpList_plain hgd fun K hK'=> ?_
 obtain ⟨v',w',g',hrun,r1,r2,r3⟩:=run_append_Q hE o.type hq ad c u hu h1 hm hlen hby
 unfold Oper.wp execOp
 simp only [ho,resolve,invoke,builtin,Sem.run_bind,Sem.run_pure,Result.andThen_ok,List.map_toArray,List.map_cons,List.map_nil,hs,hx,hrun]
 exact hK' _ _ (h v' w' g' r1 r2 r3)
end
end Go.Proofs.YtmokmalepelinaaGreatDoor.K
namespace Go.Proofs.YtmokmalepelinaaGreatDoor.K
open Go.RowKit
def mcC (a b c:Nat)(R:Mch×List Nat):Mch×List Nat:=
 if R.1.nx a c<0 then (R.1.setNx a c (if a=0 then 0 else R.1.nx b c),R.2) else (R.1.setBk (R.1.nx a c).toNat (if a=0 then 0 else R.1.nx b c),R.2++[(R.1.nx a c).toNat])
def mcCs (a b:Nat):Nat->Mch×List Nat->Mch×List Nat
 |0,R=>R
 |k+1,R=>mcC a b k (mcCs a b k R)
def mcS (S:Mch)(a:Nat):Mch:=if a=0 then S else S.setEn a (S.en a++S.en (S.bk a).toNat)
def mcR:Nat->Mch->List Nat->Mch
 |0,S,_=>S
 |_+1,S,[]=>S
 |f+1,S,a::Q=>mcR f (mcCs a (S.bk a).toNat 256 (mcS S a,Q)).1 (mcCs a (S.bk a).toNat 256 (mcS S a,Q)).2
theorem mcR_nil (f:Nat)(S:Mch):mcR f S []=S:=by cases f<;>rfl
structure TP (T:Mch):Prop where
 nx: ∀ i c,i<T.n->c<256->T.nx i c<0∨(0<T.nx i c/\T.nx i c<T.n)
 inj: ∀ i c i' c',i<T.n->c<256->i'<T.n->c'<256->0<=T.nx i c->T.nx i c=T.nx i' c'->i=i'/\c=c'
theorem nd_len: ∀ (n:Nat) (l:List Nat),l.Nodup->(∀ j,j∈l->j<n)->l.length<=n
 |0,[],_,_=>Nat.le_refl _
 |0,a::r,_,h=>absurd (h a (List.mem_cons_self ..)) (by omega)
 |n+1,l,hd,h=>by
  by_cases hm:n∈l
  ·have:=nd_len n (l.erase n) (hd.erase n) fun j hj=>by
    have h1:=h j (List.mem_of_mem_erase hj)
    have h2:j≠n:=(hd.mem_erase_iff.1 hj).1
    omega
   rw [List.length_erase_of_mem hm] at this
   omega
  ·have:=nd_len n l hd fun j hj=>by
    have h1:=h j hj
    have h2:j≠n:=fun e=>hm (e▸hj)
    omega
   omega
structure MI (T:Mch) (K:Nat) (S:Mch) (D Q:List Nat):Prop where
 n:S.n=T.n
 nd:(D++Q).Nodup
 lt: ∀ j,j∈D++Q->j<T.n
 zero:0∈D++Q
 i1: ∀ i,i∈D→ ∀ c,c<256->0<=S.nx i c/\(S.nx i c).toNat∈D++Q
 i2: ∀ i,i ∉ D→ ∀ c,S.nx i c=T.nx i c
 i3: ∀ P a R,D++Q=P++a::R->a≠0->0<=S.bk a/\(S.bk a).toNat∈P
 i4: ∀ j,j∈D++Q->j≠0→ ∃ i,i∈D∧ ∃ c,c<256/\T.nx i c=(j:Int)
 e1: ∀ i,i ∉ D->S.en i=T.en i
 e2: ∀ i,i∈D->(S.en i).length<=100*D.length
 ev: ∀ i v,v∈S.en i->0<=v/\v<(K:Int)
structure MJ (T:Mch) (K:Nat) (S:Mch) (D:List Nat) (a b:Nat) (Q:List Nat) (k:Nat):Prop where
 n:S.n=T.n
 nd:(D++a::Q).Nodup
 lt: ∀ j,j∈D++a::Q->j<T.n
 zero:0∈D++a::Q
 bb:a≠0->b∈D
 i1: ∀ i,i∈D→ ∀ c,c<256->0<=S.nx i c/\(S.nx i c).toNat∈D++a::Q
 ia: ∀ c,c<k->0<=S.nx a c/\(S.nx a c).toNat∈D++a::Q
 ib: ∀ c,k<=c->S.nx a c=T.nx a c
 i2: ∀ i,i ∉ D->i≠a→ ∀ c,S.nx i c=T.nx i c
 i3: ∀ P x R,D++a::Q=P++x::R->x≠0->0<=S.bk x/\(S.bk x).toNat∈P
 i4: ∀ j,j∈D++a::Q->j≠0->(∃ i,i∈D∧ ∃ c,c<256/\T.nx i c=(j:Int))∨ ∃ c,c<k/\T.nx a c=(j:Int)
 e1: ∀ i,i ∉ D->i≠a->S.en i=T.en i
 e2: ∀ i,i∈D∨i=a->(S.en i).length<=100*(D.length+1)
 ev: ∀ i v,v∈S.en i->0<=v/\v<(K:Int)
theorem MI.open {T S:Mch}{K:Nat}{D Q:List Nat}{a:Nat}(hen: ∀ i,(T.en i).length<=100)(h:MI T K S D (a::Q)):MJ T K (mcS S a) D a (S.bk a).toNat Q 0:=by
 have had:a ∉ D:=fun hm=>(List.nodup_append.1 h.nd).2.2 a hm a (List.mem_cons_self ..) rfl
 have hnx:(mcS S a).nx=S.nx:=by unfold mcS;split<;>rfl
 have hbk:(mcS S a).bk=S.bk:=by unfold mcS;split<;>rfl
 have hb:a≠0->(S.bk a).toNat∈D:=fun ha=>(h.i3 D a Q rfl ha).2
 have hother: ∀ i,i≠a->(mcS S a).en i=S.en i:=fun i hi=>by
  unfold mcS
  split
  ·rfl
  ·show (if i=a then _ else S.en i)=_
   rw [if_neg hi]
 have hself:(mcS S a).en a=if a=0 then S.en a else S.en a++S.en (S.bk a).toNat:=by
  unfold mcS
  split
  ·rfl
  ·show (if a=a then _ else S.en a)=_
   rw [if_pos rfl]
 refine ⟨by unfold mcS;split<;>exact h.n,h.nd,h.lt,h.zero,hb,by rw [hnx];exact h.i1,fun c hc=>absurd hc (Nat.not_lt_zero _),by rw [hnx];exact fun c _=>h.i2 a had c,by rw [hnx];exact fun i hi _=>h.i2 i hi,by rw [hbk];exact h.i3,fun j hj h0=> .inl (h.i4 j hj h0),fun i hi hia=>by rw [hother i hia];exact h.e1 i hi,fun i hi=> ?_,fun i v hv=> ?_⟩
 ·by_cases hia:i=a
  ·subst hia
   rw [hself,h.e1 i had]
   have h1:=hen i
   split
   ·omega
   ·rename_i h0
    have h2:=h.e2 _ (hb h0)
    rw [List.length_append]
    omega
  ·rw [hother i hia]
   rcases hi with hi|hi
   ·have:=h.e2 i hi
    omega
   ·exact absurd hi hia
 ·by_cases hia:i=a
  ·subst hia
   rw [hself] at hv
   split at hv
   ·exact h.ev i v hv
   ·rcases List.mem_append.1 hv with hv|hv
    ·exact h.ev _ v hv
    ·exact h.ev _ v hv
  ·rw [hother i hia] at hv
   exact h.ev i v hv
theorem MJ.close {T S:Mch}{K:Nat}{D Q:List Nat}{a b:Nat}(h:MJ T K S D a b Q 256):MI T K S (D++[a]) Q:=by
 have e:(D++[a])++Q=D++a::Q:=by rw [List.append_assoc,List.singleton_append]
 refine ⟨h.n,by rw [e];exact h.nd,by rw [e];exact h.lt,by rw [e];exact h.zero,fun i hi c hc=> ?_,fun i hi c=> ?_,by rw [e];exact h.i3,fun j hj h0=> ?_,fun i hi=> ?_,fun i hi=> ?_,h.ev⟩
 ·rw [e]
  rcases List.mem_append.1 hi with hi|hi
  ·exact h.i1 i hi c hc
  ·rw [List.mem_singleton.1 hi]
   exact h.ia c hc
 ·rw [List.mem_append,List.mem_singleton,not_or] at hi
  exact h.i2 i hi.1 hi.2 c
 ·rw [e] at hj
  rcases h.i4 j hj h0 with ⟨i,hi,hc⟩|⟨c,hc,hcc⟩
  ·exact ⟨i,List.mem_append.2 (.inl hi),hc⟩
  ·exact ⟨a,List.mem_append.2 (.inr (List.mem_singleton.2 rfl)),c,hc,hcc⟩
 ·rw [List.mem_append,List.mem_singleton,not_or] at hi
  exact h.e1 i hi.1 hi.2
 ·rw [List.mem_append,List.mem_singleton] at hi
  rw [List.length_append,List.length_singleton]
  exact h.e2 i hi
theorem MJ.other {T S:Mch}{K:Nat}{D Q:List Nat}{a b k:Nat}(h:MJ T K S D a b Q k)(hk:k<256):0<=(if a=0 then (0:Int) else S.nx b k)/\(if a=0 then (0:Int) else S.nx b k).toNat∈D++a::Q:=by
 by_cases ha:a=0
 ·rw [if_pos ha]
  exact ⟨Int.le_refl _,h.zero⟩
 ·rw [if_neg ha]
  exact h.i1 b (h.bb ha) k hk
theorem MJ.aD {T S:Mch}{K:Nat}{D Q:List Nat}{a b k:Nat}(h:MJ T K S D a b Q k):a ∉ D:=fun hm=>(List.nodup_append.1 h.nd).2.2 a hm a (List.mem_cons_self ..) rfl
theorem MJ.fill {T S:Mch}{K:Nat}{D Q:List Nat}{a b k:Nat}(h:MJ T K S D a b Q k)(hk:k<256)(v:Int)(hv:0<=v/\v.toNat∈D++a::Q):MJ T K (S.setNx a k v) D a b Q (k+1):=by
 have hne: ∀ i c,i≠a->(S.setNx a k v).nx i c=S.nx i c:=fun i c hi=>by
  show (if i=a/\c=k then v else S.nx i c)=_
  rw [if_neg (fun e=>hi e.1)]
 have hda: ∀ i,i∈D->i≠a:=fun i hi e=>h.aD (e▸hi)
 refine ⟨h.n,h.nd,h.lt,h.zero,h.bb,fun i hi c hc=>by rw [hne i c (hda i hi)];exact h.i1 i hi c hc,fun c hc=> ?_,fun c hc=> ?_,fun i hi hia c=>by rw [hne i c hia];exact h.i2 i hi hia c,h.i3,fun j hj h0=>(h.i4 j hj h0).imp id fun ⟨c,hc,e⟩=>⟨c,by omega,e⟩,h.e1,h.e2,h.ev⟩
 ·show 0<=(if a=a/\c=k then v else S.nx a c)/\(if a=a/\c=k then v else S.nx a c).toNat∈_
  by_cases hck:c=k
  ·rw [if_pos ⟨rfl,hck⟩]
   exact hv
  ·rw [if_neg (fun e=>hck e.2)]
   exact h.ia c (by omega)
 ·show (if a=a/\c=k then v else S.nx a c)=_
  rw [if_neg (fun e=>by omega)]
  exact h.ib c (by omega)
theorem MJ.child {T S:Mch}{K:Nat}{D Q:List Nat}{a b k:Nat}(hT:TP T)(h:MJ T K S D a b Q k)(hk:k<256)(hx: ¬ S.nx a k<0)(v:Int)(hv:0<=v/\v.toNat∈D++a::Q):
  MJ T K (S.setBk (S.nx a k).toNat v) D a b (Q++[(S.nx a k).toNat]) (k+1)/\(S.nx a k).toNat<T.n:=by
 have hal:=h.lt a (List.mem_append.2 (.inr (List.mem_cons_self ..)))
 have hxe:=h.ib k (Nat.le_refl _)
 rw [hxe] at hx ⊢
 have hto:0<T.nx a k/\T.nx a k<T.n:=(hT.nx a k hal hk).resolve_left hx
 obtain ⟨t,ht⟩: ∃ t:Nat,T.nx a k=(t:Int):=Int.eq_ofNat_of_zero_le (by omega)
 rw [ht,Int.toNat_natCast]
 rw [ht] at hto
 have htL:t ∉ D++a::Q:=fun hm=>by
  rcases h.i4 t hm (by omega) with ⟨i,hi,c,hc,e⟩|⟨c,hc,e⟩
  ·have:=(hT.inj i c a k (h.lt i (List.mem_append.2 (.inl hi))) hc hal hk (by omega) (by rw [e,ht])).1
   exact h.aD (this▸hi)
  ·have:=(hT.inj a c a k hal (by omega) hal hk (by omega) (by rw [e,ht])).2
   omega
 have e:D++a::(Q++[t])=(D++a::Q)++[t]:=by rw [List.append_assoc,List.cons_append]
 have hmono: ∀ j,j∈D++a::Q->j∈D++a::(Q++[t]):=fun j hj=>by
  rw [e]
  exact List.mem_append.2 (.inl hj)
 refine ⟨⟨h.n, ?_,fun j hj=> ?_,hmono _ h.zero,h.bb,fun i hi c hc=>⟨(h.i1 i hi c hc).1,hmono _ (h.i1 i hi c hc).2⟩,fun c hc=> ?_,fun c hc=>h.ib c (by omega),h.i2,fun P x R hP hx0=> ?_,fun j hj h0=> ?_,h.e1,h.e2,h.ev⟩,by omega⟩
 ·rw [e]
  refine List.nodup_append.2 ⟨h.nd,List.pairwise_singleton _ _,fun j hj x hx=> ?_⟩
  rw [List.mem_singleton.1 hx]
  exact fun ee=>htL (ee▸hj)
 ·rw [e] at hj
  rcases List.mem_append.1 hj with hj|hj
  ·exact h.lt j hj
  ·rw [List.mem_singleton.1 hj]
   omega
 ·by_cases hck:c=k
  ·subst hck
   show 0<=S.nx a c/\(S.nx a c).toNat∈_
   rw [hxe,ht,Int.toNat_natCast,e]
   exact ⟨by omega,List.mem_append.2 (.inr (List.mem_singleton.2 rfl))⟩
  ·have:=h.ia c (by omega)
   exact ⟨this.1,hmono _ this.2⟩
 ·show 0<=(if x=t then v else S.bk x)/\(if x=t then v else S.bk x).toNat∈P
  rw [e] at hP
  rcases List.eq_nil_or_concat R with rfl|⟨R',r,rfl⟩
  ·obtain ⟨h1,h2⟩:=List.append_inj' hP (by simp)
   have h2:t=x:=(List.cons.inj h2).1
   rw [if_pos h2.symm, ← h1]
   exact hv
  ·rw [List.concat_eq_append, ← List.cons_append, ← List.append_assoc] at hP
   obtain ⟨h1,_⟩:=List.append_inj' hP (by simp)
   have hxL:x∈D++a::Q:=by rw [h1];simp
   have hxt: ¬ x=t:=fun ee=>htL (by rw [←ee];exact hxL)
   rw [if_neg hxt]
   exact h.i3 P x R' h1 hx0
 ·rw [e] at hj
  rcases List.mem_append.1 hj with hj|hj
  ·exact (h.i4 j hj h0).imp id fun ⟨c,hc,ee⟩=>⟨c,by omega,ee⟩
  ·rw [List.mem_singleton.1 hj]
   exact .inr ⟨k,by omega,ht⟩
theorem TP.mc0:TP mc0:=⟨fun i c _ _=> .inl (show (-1:Int)<0 by decide),fun i c i' c' _ _ _ _ h _=>absurd h (show ¬ (0:Int)≤ -1 by decide)⟩
theorem TP.add {S:Mch}(h:TP S){i c:Nat}(hi:i<S.n)(hc:c<256):TP (mcAdd S i c).1:=by
 unfold mcAdd
 by_cases hn:S.nx i c<0
 ·rw [if_pos hn]
  have e: ∀ j d,((S.setNx i c (S.n:Int)).grow).nx j d=if j=S.n then-1 else if j=i/\d=c then (S.n:Int) else S.nx j d:=fun _ _=>rfl
  have en:((S.setNx i c (S.n:Int)).grow).n=S.n+1:=rfl
  have old: ∀ j d,j<S.n->d<256->S.nx j d<0∨(0<S.nx j d/\S.nx j d<S.n):=h.nx
  show TP ((S.setNx i c (S.n:Int)).grow)
  refine ⟨fun j d hj hd=> ?_,fun j d j' d' hj hd hj' hd' h0 he=> ?_⟩
  ·rw [en] at hj ⊢
   rw [e]
   by_cases q1:j=S.n
   ·rw [if_pos q1]
    omega
   ·rw [if_neg q1]
    by_cases q2:j=i/\d=c
    ·rw [if_pos q2]
     omega
    ·rw [if_neg q2]
     have:=old j d (by omega) hd
     omega
  ·rw [en] at hj hj'
   rw [e] at h0
   rw [e,e] at he
   by_cases q1:j=S.n
   ·rw [if_pos q1] at h0
    omega
   ·rw [if_neg q1] at h0 he
    by_cases r1:j'=S.n
    ·rw [if_pos r1] at he
     rw [he] at h0
     omega
    ·rw [if_neg r1] at he
     by_cases q2:j=i/\d=c
     ·rw [if_pos q2] at he
      by_cases r2:j'=i/\d'=c
      ·exact ⟨q2.1.trans r2.1.symm,q2.2.trans r2.2.symm⟩
      ·rw [if_neg r2] at he
       have:=old j' d' (by omega) hd'
       omega
     ·rw [if_neg q2] at h0 he
      by_cases r2:j'=i/\d'=c
      ·rw [if_pos r2] at he
       have:=old j d (by omega) hd
       omega
      ·rw [if_neg r2] at he
       exact h.inj j d j' d' (by omega) hd (by omega) hd' h0 he
 ·rw [if_neg hn]
  exact h
theorem TP.walk: ∀ (l:List Int) (S:Mch) (i:Nat),(∀ c,c∈l->0<=c/\c<256)->TP S->WT S->i<S.n->TP (mcWalk l S i).1
 | [],_,_,_,h,_,_=>h
 |c::l,S,i,hl,h,hw,hi=>by
  have hc:=hl c (List.mem_cons_self ..)
  obtain ⟨h1,h2,_,_⟩:=mcAdd_ok (c:=c.toNat) hw hi
  exact TP.walk l _ _ (fun d hd=>hl d (List.mem_cons_of_mem _ hd)) (h.add hi (by omega)) h1 h2
theorem TP.pat {S:Mch}{k:Nat}{b:List Int}(hb: ∀ c,c∈b->0<=c/\c<256)(h:TP S)(hw:WT S):TP (mcPat S k b):=by
 have:=TP.walk b S 0 hb h hw hw.pos
 exact ⟨this.nx,this.inj⟩
theorem tree_ok: ∀ (l:List (List Int)) (k:Nat) (S:Mch),(∀ b,b∈l->b.length<=100∧ ∀ c,c∈b->0<=c/\c<256)->TP S->TR S k->TP (mcTree l k S)/\TR (mcTree l k S) (k+l.length)
 | [],_,_,_,h,ht=>⟨h,ht⟩
 |b::l,k,S,hl,h,ht=>by
  have hb:=hl b (List.mem_cons_self ..)
  have:=tree_ok l (k+1) (mcPat S k b) (fun d hd=>hl d (List.mem_cons_of_mem _ hd)) (h.pat hb.2 ht.wt) (ht.pat hb.1)
  rw [List.length_cons,show k+(l.length+1)=k+1+l.length by omega]
  exact this
def treeP (p:List Pattern):Mch:=mcTree (p.map (·.2.1)) 0 mc0
def machP (p:List Pattern):Mch:=mcR (treeP p).n (treeP p) [0]
theorem treeP_ok {p:List Pattern}(h:PtOk p):TP (treeP p)/\TR (treeP p) p.length:=by
 have:=tree_ok (p.map (·.2.1)) 0 mc0 (fun b hb=>by
  obtain ⟨x,hx,rfl⟩:=List.mem_map.1 hb
  exact ⟨h.tot x hx,h.by_ x hx⟩) TP.mc0 TR.mc0
 rw [List.length_map,Nat.zero_add] at this
 exact this
theorem MI.start {T:Mch}{K:Nat}(hp:1<=T.n)(hE:EN T K):MI T K T [] [0]:=by
 refine ⟨rfl,List.pairwise_singleton _ _,fun j hj=>by rw [List.mem_singleton.1 hj];omega,List.mem_singleton.2 rfl,fun i hi=>(by cases hi),fun _ _ _=>rfl,fun P a R hP h0=> ?_,fun j hj h0=>absurd (List.mem_singleton.1 hj) h0,fun _ _=>rfl,fun i hi=>(by cases hi),fun i v hv=>(hE i).2 v hv⟩
 have:a∈[0]:=by
  rw [show ([0]:List Nat)=[]++[0] from rfl,hP]
  simp
 exact absurd (List.mem_singleton.1 this) h0
end Go.Proofs.YtmokmalepelinaaGreatDoor.K
