/- The conjunctive queries of the builders, their cores: what is answered of them (closed runs). Written by program. -/
import Derived.Test.YtdlcolcidohbkaaGreatDoorPk
import Derived.Test.YtdlcolcidohbkaaGreatDoorPa
import Derived.KernelRfl
import Derived.Test.YtdlcolcidohbkaaGreatDoorPl
set_option linter.all false
set_option maxRecDepth 100000
set_option maxHeartbeats 4000000
namespace Go.Proofs.YtdlcolcidohbkaaGreatDoor
open Go Go.Vse Go.Vse.Sm
structure Bun(t:Tr)(bs:List Str):Prop where
 vr:Ans pr 106 [.ag (cqF t.1)] (zah t.2)
 bd:∀a∈t.1.as,a.neg=false->∃l,l.length<=3/\Ans pr 106 [.ag [.sl 3 [atF a],.nils]] (zah l)/\∀s,Trm.var s∈a.ts->s∈l
 c0:Ans pr 183 [.sl 1 [[.nils],[zah t.2]]] (zah t.2)
 c1:Ans pr 183 [.sl 1 [[.sl 1 [[.s [120]]]],[zah t.2]]] (zah ([120]::t.2))
 c2:[121]∈t.2->Ans pr 183 [.sl 1 [[.sl 1 [[.s [121]],[.s [120]]]],[zah t.2]]] (zah ([121]::[120]::t.2))
 rv:Ans pr 25 [.ag (cqF t.1)] (zah t.2)
 bo:Ans pr 24 [.ag (cqF t.1)] (zah bs)
 ty:Ans pr 22 [zcC,.ag (cqF t.1)] (.b true)
 tx:Ans pr 23 [zcC,.ag (cqF t.1),.s [120]] (.i .i64 1)
 t2:∃z:Nat,z<=1/\Ans pr 23 [zcC,.ag (cqF t.1),.s [121]] (.i .i64 z)
def Bn(t:Tr):Prop:=∃bs,Bun t bs/\bs.length<=8/\(∀s∈t.2,s∈bs)/\∀s∈bs,s∈t.2
def bn0:Bn (cq0,[[120],[121]]):=⟨[[120],[121]],⟨rA,allL (l:=cq0.as) ⟨fun _=>⟨[[120],[121]],by decide,rA,by simp⟩,trivial⟩,rA,rA,fun _=>rA,rA,rA,rA,rA,⟨1,by decide,rA⟩⟩,by decide,by decide,by decide⟩
def bn1:Bn (cq1,[[120],[121]]):=⟨[[120],[121]],⟨rA,allL (l:=cq1.as) ⟨fun _=>⟨[[120],[121]],by decide,rA,by simp⟩,fun _=>⟨[[121]],by decide,rA,by simp⟩,trivial⟩,rA,rA,fun _=>rA,rA,rA,rA,rA,⟨1,by decide,rA⟩⟩,by decide,by decide,by decide⟩
def bn2:Bn (cq2,[[120],[121]]):=⟨[[120],[121]],⟨rA,allL (l:=cq2.as) ⟨fun _=>⟨[[120],[121]],by decide,rA,by simp⟩,fun _=>⟨[[120]],by decide,rA,by simp⟩,trivial⟩,rA,rA,fun _=>rA,rA,rA,rA,rA,⟨1,by decide,rA⟩⟩,by decide,by decide,by decide⟩
def bn3:Bn (cq3,[[120],[121],[122]]):=⟨[[120],[121],[122]],⟨rA,allL (l:=cq3.as) ⟨fun _=>⟨[[120],[121]],by decide,rA,by simp⟩,fun _=>⟨[[121],[122]],by decide,rA,by simp⟩,trivial⟩,rA,rA,fun _=>rA,rA,rA,rA,rA,⟨1,by decide,rA⟩⟩,by decide,by decide,by decide⟩
def bn4:Bn (cq4,[[120],[121]]):=⟨[[120],[121]],⟨rA,allL (l:=cq4.as) ⟨fun _=>⟨[[120],[121]],by decide,rA,by simp⟩,fun _=>⟨[[121]],by decide,rA,by simp⟩,trivial⟩,rA,rA,fun _=>rA,rA,rA,rA,rA,⟨1,by decide,rA⟩⟩,by decide,by decide,by decide⟩
def bn5:Bn (cq5,[[120],[121],[122]]):=⟨[[120],[121],[122]],⟨rA,allL (l:=cq5.as) ⟨fun _=>⟨[[120],[121]],by decide,rA,by simp⟩,fun _=>⟨[[121],[122]],by decide,rA,by simp⟩,trivial⟩,rA,rA,fun _=>rA,rA,rA,rA,rA,⟨1,by decide,rA⟩⟩,by decide,by decide,by decide⟩
def bn6:Bn (cq6,[[120],[121]]):=⟨[[120],[121]],⟨rA,allL (l:=cq6.as) ⟨fun _=>⟨[[120],[121]],by decide,rA,by simp⟩,fun _=>⟨[[121],[120]],by decide,rA,by simp⟩,trivial⟩,rA,rA,fun _=>rA,rA,rA,rA,rA,⟨1,by decide,rA⟩⟩,by decide,by decide,by decide⟩
def bn7:Bn (cq7,[[120],[121],[122]]):=⟨[[120],[121],[122]],⟨rA,allL (l:=cq7.as) ⟨fun _=>⟨[[120],[121]],by decide,rA,by simp⟩,fun _=>⟨[[121],[122]],by decide,rA,by simp⟩,trivial⟩,rA,rA,fun _=>rA,rA,rA,rA,rA,⟨1,by decide,rA⟩⟩,by decide,by decide,by decide⟩
def bn8:Bn (cq8,[[120],[121]]):=⟨[[120],[121]],⟨rA,allL (l:=cq8.as) ⟨fun _=>⟨[[120],[121]],by decide,rA,by simp⟩,fun h=>absurd h (by decide),trivial⟩,rA,rA,fun _=>rA,rA,rA,rA,rA,⟨1,by decide,rA⟩⟩,by decide,by decide,by decide⟩
def bn9:Bn (cq9,[[120]]):=⟨[[120]],⟨rA,allL (l:=cq9.as) ⟨fun _=>⟨[[120]],by decide,rA,by simp⟩,fun h=>absurd h (by decide),trivial⟩,rA,rA,fun h=>absurd h (by decide),rA,rA,rA,rA,⟨0,by decide,rA⟩⟩,by decide,by decide,by decide⟩
def bn10:Bn (zyV,[[120]]):=⟨[[120]],⟨rA,allL (l:=zyV.as) ⟨fun _=>⟨[[120]],by decide,rA,by simp⟩,fun h=>absurd h (by decide),trivial⟩,rA,rA,fun h=>absurd h (by decide),rA,rA,rA,rA,⟨0,by decide,rA⟩⟩,by decide,by decide,by decide⟩
def bn11:Bn (zyW,[[120]]):=⟨[[120]],⟨rA,allL (l:=zyW.as) ⟨fun _=>⟨[[120]],by decide,rA,by simp⟩,fun h=>absurd h (by decide),trivial⟩,rA,rA,fun h=>absurd h (by decide),rA,rA,rA,rA,⟨0,by decide,rA⟩⟩,by decide,by decide,by decide⟩
def bn12:Bn (zyX,[[120],[121]]):=⟨[[120],[121]],⟨rA,allL (l:=zyX.as) ⟨fun _=>⟨[[120],[121]],by decide,rA,by simp⟩,fun _=>⟨[[121]],by decide,rA,by simp⟩,fun h=>absurd h (by decide),trivial⟩,rA,rA,fun _=>rA,rA,rA,rA,rA,⟨1,by decide,rA⟩⟩,by decide,by decide,by decide⟩
def bn13:Bn (zyZ,[[120],[121]]):=⟨[[120],[121]],⟨rA,allL (l:=zyZ.as) ⟨fun _=>⟨[[120],[121]],by decide,rA,by simp⟩,fun _=>⟨[[120]],by decide,rA,by simp⟩,fun _=>⟨[[121]],by decide,rA,by simp⟩,trivial⟩,rA,rA,fun _=>rA,rA,rA,rA,rA,⟨1,by decide,rA⟩⟩,by decide,by decide,by decide⟩
def bn14:Bn (zy1,[[120],[121],[122]]):=⟨[[120],[121],[122]],⟨rA,allL (l:=zy1.as) ⟨fun _=>⟨[[120],[121]],by decide,rA,by simp⟩,fun _=>⟨[[122],[121]],by decide,rA,by simp⟩,trivial⟩,rA,rA,fun _=>rA,rA,rA,rA,rA,⟨1,by decide,rA⟩⟩,by decide,by decide,by decide⟩
def bn15:Bn (zy2,[[120]]):=⟨[[120]],⟨rA,allL (l:=zy2.as) ⟨fun _=>⟨[[120]],by decide,rA,by simp⟩,trivial⟩,rA,rA,fun h=>absurd h (by decide),rA,rA,rA,rA,⟨0,by decide,rA⟩⟩,by decide,by decide,by decide⟩
def bn16:Bn (zy3,[[120]]):=⟨[[120]],⟨rA,allL (l:=zy3.as) ⟨fun _=>⟨[[120]],by decide,rA,by simp⟩,trivial⟩,rA,rA,fun h=>absurd h (by decide),rA,rA,rA,rA,⟨0,by decide,rA⟩⟩,by decide,by decide,by decide⟩
def bn17:Bn (zy4,[[120]]):=⟨[[120]],⟨rA,allL (l:=zy4.as) ⟨fun _=>⟨[[120]],by decide,rA,by simp⟩,trivial⟩,rA,rA,fun h=>absurd h (by decide),rA,rA,rA,rA,⟨0,by decide,rA⟩⟩,by decide,by decide,by decide⟩
def bn18:Bn (zy5,[[120]]):=⟨[[120]],⟨rA,allL (l:=zy5.as) ⟨fun _=>⟨[[120]],by decide,rA,by simp⟩,fun _=>⟨[[120]],by decide,rA,by simp⟩,trivial⟩,rA,rA,fun h=>absurd h (by decide),rA,rA,rA,rA,⟨0,by decide,rA⟩⟩,by decide,by decide,by decide⟩
def bn19:Bn (zy6,[[120]]):=⟨[[120]],⟨rA,allL (l:=zy6.as) ⟨fun _=>⟨[[120]],by decide,rA,by simp⟩,fun _=>⟨[[120]],by decide,rA,by simp⟩,trivial⟩,rA,rA,fun h=>absurd h (by decide),rA,rA,rA,rA,⟨0,by decide,rA⟩⟩,by decide,by decide,by decide⟩
def bn20:Bn (zy7,[[120]]):=⟨[[120]],⟨rA,allL (l:=zy7.as) ⟨fun _=>⟨[[120]],by decide,rA,by simp⟩,fun _=>⟨[[120]],by decide,rA,by simp⟩,trivial⟩,rA,rA,fun h=>absurd h (by decide),rA,rA,rA,rA,⟨0,by decide,rA⟩⟩,by decide,by decide,by decide⟩
def bn21:Bn (zy9,[[120],[121]]):=⟨[[120],[121]],⟨rA,allL (l:=zy9.as) ⟨fun _=>⟨[[120],[121]],by decide,rA,by simp⟩,trivial⟩,rA,rA,fun _=>rA,rA,rA,rA,rA,⟨1,by decide,rA⟩⟩,by decide,by decide,by decide⟩
def bn22:Bn (zza,[[120],[121],[122]]):=⟨[[120],[121],[122]],⟨rA,allL (l:=zza.as) ⟨fun _=>⟨[[120],[121]],by decide,rA,by simp⟩,fun _=>⟨[[122]],by decide,rA,by simp⟩,trivial⟩,rA,rA,fun _=>rA,rA,rA,rA,rA,⟨1,by decide,rA⟩⟩,by decide,by decide,by decide⟩
def bn23:Bn (zzb,[[120],[121]]):=⟨[[120],[121]],⟨rA,allL (l:=zzb.as) ⟨fun _=>⟨[[120]],by decide,rA,by simp⟩,fun _=>⟨[[121]],by decide,rA,by simp⟩,trivial⟩,rA,rA,fun _=>rA,rA,rA,rA,rA,⟨1,by decide,rA⟩⟩,by decide,by decide,by decide⟩
def bn24:Bn (zzc,[[120],[121]]):=⟨[[120],[121]],⟨rA,allL (l:=zzc.as) ⟨fun _=>⟨[[120],[121]],by decide,rA,by simp⟩,fun h=>absurd h (by decide),trivial⟩,rA,rA,fun _=>rA,rA,rA,rA,rA,⟨1,by decide,rA⟩⟩,by decide,by decide,by decide⟩
def bn25:Bn (zzd,[[120]]):=⟨[[120]],⟨rA,allL (l:=zzd.as) ⟨fun _=>⟨[[120]],by decide,rA,by simp⟩,trivial⟩,rA,rA,fun h=>absurd h (by decide),rA,rA,rA,rA,⟨0,by decide,rA⟩⟩,by decide,by decide,by decide⟩
def bn26:Bn (zze,[[120]]):=⟨[[120]],⟨rA,allL (l:=zze.as) ⟨fun _=>⟨[[120]],by decide,rA,by simp⟩,trivial⟩,rA,rA,fun h=>absurd h (by decide),rA,rA,rA,rA,⟨0,by decide,rA⟩⟩,by decide,by decide,by decide⟩
def bn27:Bn (zzg,[[120]]):=⟨[[120]],⟨rA,allL (l:=zzg.as) ⟨fun _=>⟨[[120]],by decide,rA,by simp⟩,trivial⟩,rA,rA,fun h=>absurd h (by decide),rA,rA,rA,rA,⟨0,by decide,rA⟩⟩,by decide,by decide,by decide⟩
def bn28:Bn (zzh,[[120]]):=⟨[[120]],⟨rA,allL (l:=zzh.as) ⟨fun _=>⟨[[120]],by decide,rA,by simp⟩,trivial⟩,rA,rA,fun h=>absurd h (by decide),rA,rA,rA,rA,⟨0,by decide,rA⟩⟩,by decide,by decide,by decide⟩
def bn29:Bn (zzi,[[120],[121],[122]]):=⟨[[120],[121],[122]],⟨rA,allL (l:=zzi.as) ⟨fun _=>⟨[[120],[121]],by decide,rA,by simp⟩,fun _=>⟨[[121],[122]],by decide,rA,by simp⟩,fun _=>⟨[[122]],by decide,rA,by simp⟩,trivial⟩,rA,rA,fun _=>rA,rA,rA,rA,rA,⟨1,by decide,rA⟩⟩,by decide,by decide,by decide⟩
def bn30:Bn (zzj,[[120],[121],[122]]):=⟨[[120],[121],[122]],⟨rA,allL (l:=zzj.as) ⟨fun _=>⟨[[120],[121]],by decide,rA,by simp⟩,fun _=>⟨[[120],[122]],by decide,rA,by simp⟩,trivial⟩,rA,rA,fun _=>rA,rA,rA,rA,rA,⟨1,by decide,rA⟩⟩,by decide,by decide,by decide⟩
def bn31:Bn (zzk,[[120],[121]]):=⟨[[120],[121]],⟨rA,allL (l:=zzk.as) ⟨fun _=>⟨[[120]],by decide,rA,by simp⟩,fun _=>⟨[[121],[120]],by decide,rA,by simp⟩,trivial⟩,rA,rA,fun _=>rA,rA,rA,rA,rA,⟨1,by decide,rA⟩⟩,by decide,by decide,by decide⟩
def bn32:Bn (zzm,[[120],[121]]):=⟨[[120],[121]],⟨rA,allL (l:=zzm.as) ⟨fun _=>⟨[[120]],by decide,rA,by simp⟩,fun _=>⟨[[121],[120]],by decide,rA,by simp⟩,trivial⟩,rA,rA,fun _=>rA,rA,rA,rA,rA,⟨1,by decide,rA⟩⟩,by decide,by decide,by decide⟩
def bn33:Bn (zzo,[[120],[121]]):=⟨[[120],[121]],⟨rA,allL (l:=zzo.as) ⟨fun _=>⟨[[120]],by decide,rA,by simp⟩,fun _=>⟨[[121],[120]],by decide,rA,by simp⟩,trivial⟩,rA,rA,fun _=>rA,rA,rA,rA,rA,⟨1,by decide,rA⟩⟩,by decide,by decide,by decide⟩
def bnA:∀t∈TB,Bn t:=allL (l:=TB) ⟨bn0,bn1,bn2,bn3,bn4,bn5,bn6,bn7,bn8,bn9,bn10,bn11,bn12,bn13,bn14,bn15,bn16,bn17,bn18,bn19,bn20,bn21,bn22,bn23,bn24,bn25,bn26,bn27,bn28,bn29,bn30,bn31,bn32,bn33,trivial⟩
end Go.Proofs.YtdlcolcidohbkaaGreatDoor
