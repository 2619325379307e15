/- The conjunctive queries of the builders, their cores: what is answered of them (closed runs). Written by program. -/
import Derived.Test.YtdlcolcidohbkaaGreatDoorPk
import Derived.Test.YtdlcolcidohbkaaGreatDoorPa
import Derived.KernelRfl
set_option linter.all false
set_option maxRecDepth 100000
set_option maxHeartbeats 4000000
noncomputable section
namespace Go.Proofs.YtdlcolcidohbkaaGreatDoor
open Go Go.Vse Go.Vse.Sm
def mg{α:Type}{l:List α}(n:Nat){a:α}(h:l[n]? =some a):a∈l:=Z39 h
def rb(r:Nat)(b:UInt8):UInt8:=if b=64 then UInt8.ofNat (49+r)else b
def rb_no{p:Str}(h:p.all (· != 64)=true)(r:Nat):p.map (rb r)=p:=by
  refine (Z68 fun b hb=> ?_).trans (List.map_id p);have:=Z50.1 h b hb;have h2:¬b=64:=by simpa using this
  simp[rb,h2]
abbrev Tr:=CQ×List Str
def cq0:CQ:=⟨[⟨[82],false,[.var [120],.var [121]]⟩],[],false,false⟩
def cq1:CQ:=⟨[⟨[82],false,[.var [120],.var [121]]⟩,⟨[83],false,[.var [121]]⟩],[],false,false⟩
def cq2:CQ:=⟨[⟨[82],false,[.var [120],.var [121]]⟩,⟨[83],false,[.var [120]]⟩],[],false,false⟩
def cq3:CQ:=⟨[⟨[82],false,[.var [120],.var [121]]⟩,⟨[75],false,[.var [121],.var [122]]⟩],[],false,false⟩
def cq4:CQ:=⟨[⟨[75],false,[.var [120],.var [121]]⟩,⟨[83],false,[.var [121]]⟩],[],false,false⟩
def cq5:CQ:=⟨[⟨[82],false,[.var [120],.var [121]]⟩,⟨[82],false,[.var [121],.var [122]]⟩],[],false,false⟩
def cq6:CQ:=⟨[⟨[82],false,[.var [120],.var [121]]⟩,⟨[82],false,[.var [121],.var [120]]⟩],[],false,false⟩
def cq7:CQ:=⟨[⟨[67],false,[.var [120],.var [121]]⟩,⟨[82],false,[.var [121],.var [122]]⟩],[],false,false⟩
def cq8:CQ:=⟨[⟨[82],false,[.var [120],.var [121]]⟩,⟨[83],true,[.var [121]]⟩],[],false,false⟩
def cq9:CQ:=⟨[⟨[83],false,[.var [120]]⟩,⟨[82],true,[.var [120],.cst 1]⟩],[],false,false⟩
def zyV:CQ:=⟨[⟨[83],false,[.var [120]]⟩,⟨[82],true,[.var [120],.cst 2]⟩],[],false,false⟩
def zyW:CQ:=⟨[⟨[83],false,[.var [120]]⟩,⟨[82],true,[.var [120],.cst 3]⟩],[],false,false⟩
def zyX:CQ:=⟨[⟨[67],false,[.var [120],.var [121]]⟩,⟨[83],false,[.var [121]]⟩,⟨[75],true,[.var [120],.var [121]]⟩],[],false,false⟩
def zyZ:CQ:=⟨[⟨[82],false,[.var [120],.var [121]]⟩,⟨[83],false,[.var [120]]⟩,⟨[83],false,[.var [121]]⟩],[],false,false⟩
def zy1:CQ:=⟨[⟨[75],false,[.var [120],.var [121]]⟩,⟨[75],false,[.var [122],.var [121]]⟩],[],false,false⟩
def zy2:CQ:=⟨[⟨[82],false,[.var [120],.cst 1]⟩],[],false,false⟩
def zy3:CQ:=⟨[⟨[82],false,[.var [120],.cst 2]⟩],[],false,false⟩
def zy4:CQ:=⟨[⟨[82],false,[.var [120],.cst 3]⟩],[],false,false⟩
def zy5:CQ:=⟨[⟨[83],false,[.var [120]]⟩,⟨[75],false,[.var [120],.cst 1]⟩],[],false,false⟩
def zy6:CQ:=⟨[⟨[83],false,[.var [120]]⟩,⟨[75],false,[.var [120],.cst 2]⟩],[],false,false⟩
def zy7:CQ:=⟨[⟨[83],false,[.var [120]]⟩,⟨[75],false,[.var [120],.cst 3]⟩],[],false,false⟩
def zy9:CQ:=⟨[⟨[82],false,[.var [120],.var [121]]⟩],[⟨3,.var [120],.var [121]⟩],false,false⟩
def zza:CQ:=⟨[⟨[82],false,[.var [120],.var [121]]⟩,⟨[83],false,[.var [122]]⟩],[⟨2,.var [121],.var [122]⟩],false,false⟩
def zzb:CQ:=⟨[⟨[83],false,[.var [120]]⟩,⟨[83],false,[.var [121]]⟩],[⟨4,.var [120],.var [121]⟩],false,false⟩
def zzc:CQ:=⟨[⟨[67],false,[.var [120],.var [121]]⟩,⟨[82],true,[.var [120],.var [121]]⟩],[],false,false⟩
def zzd:CQ:=⟨[⟨[82],false,[.var [120],.var [120]]⟩],[],false,false⟩
def zze:CQ:=⟨[⟨[83],false,[.var [120]]⟩],[⟨1,.var [120],.cst 1⟩],false,false⟩
def zzg:CQ:=⟨[⟨[83],false,[.var [120]]⟩],[⟨1,.var [120],.cst 2⟩],false,false⟩
def zzh:CQ:=⟨[⟨[83],false,[.var [120]]⟩],[⟨1,.var [120],.cst 3⟩],false,false⟩
def zzi:CQ:=⟨[⟨[75],false,[.var [120],.var [121]]⟩,⟨[82],false,[.var [121],.var [122]]⟩,⟨[83],false,[.var [122]]⟩],[],false,false⟩
def zzj:CQ:=⟨[⟨[82],false,[.var [120],.var [121]]⟩,⟨[82],false,[.var [120],.var [122]]⟩],[⟨3,.var [121],.var [122]⟩],false,false⟩
def zzk:CQ:=⟨[⟨[75],false,[.var [120],.cst 1]⟩,⟨[67],false,[.var [121],.var [120]]⟩],[],false,false⟩
def zzm:CQ:=⟨[⟨[75],false,[.var [120],.cst 2]⟩,⟨[67],false,[.var [121],.var [120]]⟩],[],false,false⟩
def zzo:CQ:=⟨[⟨[75],false,[.var [120],.cst 3]⟩,⟨[67],false,[.var [121],.var [120]]⟩],[],false,false⟩
def TB:List Tr:=[(cq0,[[120],[121]]),(cq1,[[120],[121]]),(cq2,[[120],[121]]),(cq3,[[120],[121],[122]]),(cq4,[[120],[121]]),(cq5,[[120],[121],[122]]),(cq6,[[120],[121]]),(cq7,[[120],[121],[122]]),(cq8,[[120],[121]]),(cq9,[[120]]),(zyV,[[120]]),(zyW,[[120]]),(zyX,[[120],[121]]),(zyZ,[[120],[121]]),(zy1,[[120],[121],[122]]),(zy2,[[120]]),(zy3,[[120]]),(zy4,[[120]]),(zy5,[[120]]),(zy6,[[120]]),(zy7,[[120]]),(zy9,[[120],[121]]),(zza,[[120],[121],[122]]),(zzb,[[120],[121]]),(zzc,[[120],[121]]),(zzd,[[120]]),(zze,[[120]]),(zzg,[[120]]),(zzh,[[120]]),(zzi,[[120],[121],[122]]),(zzj,[[120],[121],[122]]),(zzk,[[120],[121]]),(zzm,[[120],[121]]),(zzo,[[120],[121]])]
def cqN(i:Nat):CQ:=(TB[i]?.getD (cq0,[])).1
def hdC:Nat->List Str
 |0=>[]
 |1=>[[120]]
 |_=>[[121],[120]]
def ixY:List Nat:=[0,1,2,3,4,5,6,7,8,12,13,14,21,22,23,24,29,30,31,32,33]
def ixL:Nat->List Nat
 |0=>List.range 34
 |1=>List.range 34
 |_=>ixY
def exM:Nat->Nat
 |0=>5120834017984591518285829090186300613196220630694324190858186426053114492851070958908355261560111791778529658673967304464116303404192759161710116150563206869644130732123853170274406736615257458544150729484725371770540456646822636278431501377332217788379327498811204159490210213033929716380136212810272520416570031377242962983355288811354752728849472131599258421508813377989681707446707650099438950433054589904421630919256775971903243605024257923911370419329678742426062416551990710824504140703152167244425443750682205968547413840761429251418965978136415175408863685581936851588837368354146176141262524708768218991898559411251088638890691784843759
 |1=>5120834017984591518285829090186300613196220630694324190858186426053114492851070958908355261560111791778529658673967304464116303404192759161710116150563206869644130732123853170274406736615257458473452826119571808172843071592050920703044978624987752047656239463492314688054227973389475650445063513348153838918568423884305651198382441039276951155689448052595884630059410038362638283263150924901354113811509526942169784910904022706008541521638238369226101977670840500361003639183943896387312169727519038525768773830928321791082357373732671544057359127232324809679245808638965269373406960846370165608596521982395971102924786752123406788705316843528559
 |_=>5120834017984591518285829090186300613196220630694324190858186426053114492851070958908355261560111716859506101480512340715910660539042570386281672646776920076842097878375935080448462055601412961096535661552453608521795121850803040279953967121937721232302698013096511033715564356772119700349880826254626069719838395300158548598666804334183124668119904764661192862099290781671547441110767034078757370508807109566468563996765335616063995344077658685830788648211371155720555323072820709011261010476762696442089729954866279085573141989513256929221744123280084144371234414450403754406116530745753805515847927310039176361553746763784511066805305018949999
def exI(b:Nat)(i j:Nat):Bool:=Nat.testBit (exM b) (64*i+j)
def CQi(l:List Nat):List CQ:=l.map cqN
def zcC:F:= .sl 3 [[.s [82],.b false,.sl 3 [[.s [97],.i .i64 1,.b false],[.s [98],.i .i64 1,.b false]]],[.s [83],.b false,.sl 3 [[.s [97],.i .i64 1,.b false]]],[.s [75],.b false,.sl 3 [[.s [107],.i .i64 1,.b true],[.s [118],.i .i64 1,.b false]]],[.s [67],.b true,.sl 3 [[.s [97],.i .i64 1,.b false],[.s [98],.i .i64 1,.b false]]]]
def pa0:Str:=[82,40,120,44,32,121,41]
def pa1:Str:=[82,40,120,44,32,121,41,44,32,83,40,121,41]
def pa2:Str:=[82,40,120,44,32,121,41,44,32,83,40,120,41]
def pa3:Str:=[82,40,120,44,32,121,41,44,32,75,40,121,44,32,122,41]
def pa4:Str:=[75,40,120,44,32,121,41,44,32,83,40,121,41]
def pa5:Str:=[82,40,120,44,32,121,41,44,32,82,40,121,44,32,122,41]
def pa6:Str:=[82,40,120,44,32,121,41,44,32,82,40,121,44,32,120,41]
def pa7:Str:=[67,40,120,44,32,121,41,44,32,82,40,121,44,32,122,41]
def pa8:Str:=[82,40,120,44,32,121,41,44,32,110,111,116,32,83,40,121,41]
def pa9:Str:=[83,40,120,41,44,32,110,111,116,32,82,40,120,44,32,64,41]
def zEJ:Str:=[67,40,120,44,32,121,41,44,32,83,40,121,41,44,32,110,111,116,32,75,40,120,44,32,121,41]
def zEK:Str:=[82,40,120,44,32,121,41,44,32,83,40,120,41,44,32,83,40,121,41]
def zEM:Str:=[75,40,120,44,32,121,41,44,32,75,40,122,44,32,121,41]
def zEN:Str:=[82,40,120,44,32,64,41]
def zEO:Str:=[83,40,120,41,44,32,75,40,120,44,32,64,41]
def zET:Str:=[82,40,120,44,32,121,41,44,32,120,32,60,32,121]
def zEU:Str:=[82,40,120,44,32,121,41,44,32,83,40,122,41,44,32,121,32,33,61,32,122]
def zEW:Str:=[83,40,120,41,44,32,83,40,121,41,44,32,120,32,60,61,32,121]
def zEX:Str:=[67,40,120,44,32,121,41,44,32,110,111,116,32,82,40,120,44,32,121,41]
def zEZ:Str:=[82,40,120,44,32,120,41]
def zE0:Str:=[83,40,120,41,44,32,120,32,61,32,64]
def zE2:Str:=[75,40,120,44,32,121,41,44,32,82,40,121,44,32,122,41,44,32,83,40,122,41]
def zE4:Str:=[82,40,120,44,32,121,41,44,32,82,40,120,44,32,122,41,44,32,121,32,60,32,122]
def zE6:Str:=[75,40,120,44,32,64,41,44,32,67,40,121,44,32,120,41]
def poL:List (List F):=[[.s pa0],[.s pa1],[.s pa2],[.s pa3],[.s pa4],[.s pa5],[.s pa6],[.s pa7],[.s pa8],[.s pa9],[.s zEJ],[.s zEK],[.s zEM],[.s zEN],[.s zEO],[.s zET],[.s zEU],[.s zEW],[.s zEX],[.s zEZ],[.s zE0],[.s zE2],[.s zE4],[.s zE6]]
def ans17:Ans pr 17 [] (.sl 1 poL):=rA
def ans11:Ans pr 11 [] (.b true):=rA
def ans7:Ans pr 7 [] zcC:=rA
def Rd(L:List CQ)(p:Str)(r:Nat):Prop:=∃c∈L,Ans pr 48 [.s (p.map (rb r))] (.tu [.ag [.nils,.sl 2 [cqF c]],.i .i64 0])
def Rds(L:List CQ)(p:Str):Prop:=p≠[]/\p.length<1000/\∀r,r<3->Rd L p r
def RdX(L:List CQ)(x:List F):Prop:=∃p,x=[.s p]/\Rds L p
def rn{L:List CQ}{p:Str}(h1:p≠[])(h2:p.length<1000)(h:p.all (· != 64)=true){c:CQ}(n:Nat)(hc:L[n]? =some c)(q:Ans pr 48 [.s p] (.tu [.ag [.nils,.sl 2 [cqF c]],.i .i64 0])):RdX L [.s p]:=
  ⟨p,rfl,h1,h2,fun r _=>⟨c,mg n hc,by rw[rb_no h];exact q⟩⟩
def r3{L:List CQ}{p:Str}(h1:p≠[])(h2:p.length<1000)(a:Rd L p 0)(b:Rd L p 1)(c:Rd L p 2):RdX L [.s p]:=⟨p,rfl,h1,h2,fun r hr=>match r,hr with
 |0,_=>a
 |1,_=>b
 |2,_=>c⟩
def rp0:RdX (CQi (ixY)) [.s pa0]:=rn (by simp[pa0]) (by decide) (by decide) (c:=cq0) 0 rfl rA
def rp1:RdX (CQi (ixY)) [.s pa1]:=rn (by simp[pa1]) (by decide) (by decide) (c:=cq1) 1 rfl rA
def rp2:RdX (CQi (ixY)) [.s pa2]:=rn (by simp[pa2]) (by decide) (by decide) (c:=cq2) 2 rfl rA
def rp3:RdX (CQi (ixY)) [.s pa3]:=rn (by simp[pa3]) (by decide) (by decide) (c:=cq3) 3 rfl rA
def rp4:RdX (CQi (ixY)) [.s pa4]:=rn (by simp[pa4]) (by decide) (by decide) (c:=cq4) 4 rfl rA
def rp5:RdX (CQi (ixY)) [.s pa5]:=rn (by simp[pa5]) (by decide) (by decide) (c:=cq5) 5 rfl rA
def rp6:RdX (CQi (ixY)) [.s pa6]:=rn (by simp[pa6]) (by decide) (by decide) (c:=cq6) 6 rfl rA
def rp7:RdX (CQi (ixY)) [.s pa7]:=rn (by simp[pa7]) (by decide) (by decide) (c:=cq7) 7 rfl rA
def rp8:RdX (CQi (ixY)) [.s pa8]:=rn (by simp[pa8]) (by decide) (by decide) (c:=cq8) 8 rfl rA
def rp9:RdX (CQi (ixL 0)) [.s pa9]:=r3 (by simp[pa9]) (by decide) ⟨cq9,mg 9 rfl,rA⟩ ⟨zyV,mg 10 rfl,rA⟩ ⟨zyW,mg 11 rfl,rA⟩
def rp10:RdX (CQi (ixL 0)) [.s zEJ]:=rn (by simp[zEJ]) (by decide) (by decide) (c:=zyX) 12 rfl rA
def rp11:RdX (CQi (ixL 0)) [.s zEK]:=rn (by simp[zEK]) (by decide) (by decide) (c:=zyZ) 13 rfl rA
def rp12:RdX (CQi (ixL 0)) [.s zEM]:=rn (by simp[zEM]) (by decide) (by decide) (c:=zy1) 14 rfl rA
def rp13:RdX (CQi (ixL 0)) [.s zEN]:=r3 (by simp[zEN]) (by decide) ⟨zy2,mg 15 rfl,rA⟩ ⟨zy3,mg 16 rfl,rA⟩ ⟨zy4,mg 17 rfl,rA⟩
def rp14:RdX (CQi (ixL 0)) [.s zEO]:=r3 (by simp[zEO]) (by decide) ⟨zy5,mg 18 rfl,rA⟩ ⟨zy6,mg 19 rfl,rA⟩ ⟨zy7,mg 20 rfl,rA⟩
def rp15:RdX (CQi (ixL 0)) [.s zET]:=rn (by simp[zET]) (by decide) (by decide) (c:=zy9) 21 rfl rA
def rp16:RdX (CQi (ixL 0)) [.s zEU]:=rn (by simp[zEU]) (by decide) (by decide) (c:=zza) 22 rfl rA
def rp17:RdX (CQi (ixL 0)) [.s zEW]:=rn (by simp[zEW]) (by decide) (by decide) (c:=zzb) 23 rfl rA
def rp18:RdX (CQi (ixL 0)) [.s zEX]:=rn (by simp[zEX]) (by decide) (by decide) (c:=zzc) 24 rfl rA
def rp19:RdX (CQi (ixL 0)) [.s zEZ]:=rn (by simp[zEZ]) (by decide) (by decide) (c:=zzd) 25 rfl rA
def rp20:RdX (CQi (ixL 0)) [.s zE0]:=r3 (by simp[zE0]) (by decide) ⟨zze,mg 26 rfl,rA⟩ ⟨zzg,mg 27 rfl,rA⟩ ⟨zzh,mg 28 rfl,rA⟩
def rp21:RdX (CQi (ixL 0)) [.s zE2]:=rn (by simp[zE2]) (by decide) (by decide) (c:=zzi) 29 rfl rA
def rp22:RdX (CQi (ixL 0)) [.s zE4]:=rn (by simp[zE4]) (by decide) (by decide) (c:=zzj) 30 rfl rA
def rp23:RdX (CQi (ixL 0)) [.s zE6]:=r3 (by simp[zE6]) (by decide) ⟨zzk,mg 31 rfl,rA⟩ ⟨zzm,mg 32 rfl,rA⟩ ⟨zzo,mg 33 rfl,rA⟩
def RdX.up{x:List F}(h:RdX (CQi ixY) x):RdX (CQi (ixL 0)) x:=by
 obtain⟨p,rfl,h1,h2,h3⟩ :=h;refine⟨p,rfl,h1,h2,fun r hr=> ?_⟩;obtain⟨c,hc,q⟩ :=h3 r hr;obtain⟨i,hi,rfl⟩ :=Z12.1 hc;exact⟨_,List.mem_map_of_mem (Z174.2 (of_decide_eq_true (Z50.1 (show(ixY.all fun i=>decide (i<34))=true by decide) i hi))),q⟩
def rdY:∀x∈poL.take 9,RdX (CQi ixY) x:=allL (P:=RdX (CQi ixY)) (l:=poL.take 9) ⟨rp0,rp1,rp2,rp3,rp4,rp5,rp6,rp7,rp8,trivial⟩
def rdO:∀x∈poL,RdX (CQi (ixL 0)) x:=allL (P:=RdX (CQi (ixL 0))) (l:=poL) ⟨rp0.up,rp1.up,rp2.up,rp3.up,rp4.up,rp5.up,rp6.up,rp7.up,rp8.up,rp9,rp10,rp11,rp12,rp13,rp14,rp15,rp16,rp17,rp18,rp19,rp20,rp21,rp22,rp23,trivial⟩
end Go.Proofs.YtdlcolcidohbkaaGreatDoor
