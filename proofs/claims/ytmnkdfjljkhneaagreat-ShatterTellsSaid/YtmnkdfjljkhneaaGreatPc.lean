/- slices.Replace of one element by some, in place: the walk over the function. Conditions: none. -/
import Derived.Test.YtmnkdfjljkhneaaGreatProg
import Derived.Test.YtmnkdfjljkhneaaGreatHb
import Derived.WalkKit
import Derived.ProofKit
import Derived.Deep.RegionLaw
import Derived.Lib.Overlaps
import Derived.KernelRfl
import Derived.IntWalk
import Derived.Test.YtmnkdfjljkhneaaGreatPb
import Derived.Test.YtmnkdfjljkhneaaGreatAll
set_option linter.all false
set_option maxRecDepth 100000
set_option maxHeartbeats 4000000
section
namespace Go.Proofs.YtmnkdfjljkhneaaGreat
open Go Go.RowKit
theorem zNc{P:Program}{ops:Array Oper}{o:Oper}{a:Act}{w w':World}{v:Value}{K:Act->World->Prop}{Q:Exit->Act->World->Prop}{E:Prop}
  (hg:o.guard=none)(d s:Operand)(dT sT:TypeId)(hop:o.op=Op.call {callee:=Callee.builtin Builtin.copy,args:= #[d,s],argTypes:= #[dT,sT]})
  (dv sv:Value)(hd:a.eval d=dv)(hs:a.eval s=sv)(hrun:(Builtin.copy_ #[dT,sT] o.type #[dv,sv]).run P w= .ok v w')(hK:K (a.put o.dst v) w'):
  if Region.wanted o (yielded ops a.tmps)=true then Oper.wp P o a w K Q else E:=by
 have hw:Region.wanted o (yielded ops a.tmps)=true:=by simp[Region.wanted,hg]
 rw[if_pos hw];unfold Oper.wp;simp[execOp,hop,resolve,invoke,builtin,hd,hs,hrun,Result.andThen];exact hK
theorem repB(w w1 w2:World)(b bv m k i C Cv:Nat)(hi:i+1<m)(hk:2<=k)(hm:m<=1000)(hk2:k<=1000)(hC:m+k - 1<=C)
  (hov:(callFunc 108 #[.slice (some ⟨b,(i+k)*2,none⟩) (m - (i+1)) (C - (i+k)),.slice (some ⟨bv,0,none⟩) k Cv]).run Tryz.prog w.drew= .ok (.value (.bool false)) w.drew)
  (hcp1:(Builtin.copy_ #[24,24] 3 #[.slice (some ⟨b,(i+k)*2,none⟩) (m - (i+1)) (C - (i+k)),.slice (some ⟨b,(i+1)*2,none⟩) (m - (i+1)) (C - (i+1))]).run Tryz.prog w.drew.drew= .ok (.int .i64 ((m - (i+1):Nat):Int)) w1)
  (hcp2:(Builtin.copy_ #[24,24] 3 #[.slice (some ⟨b,i*2,none⟩) (i+k+(m - (i+1)) - i) (C - i),.slice (some ⟨bv,0,none⟩) k Cv]).run Tryz.prog w1= .ok (.int .i64 ((k:Nat):Int)) w2):
  Calls Tryz.prog 64 #[.slice (some ⟨b,0,none⟩) m C,.int .i64 ((i:Nat):Int),.int .i64 ((i+1:Nat):Int),.slice (some ⟨bv,0,none⟩) k Cv] w fun e w'=>e= .returned (.slice (some ⟨b,0,none⟩) (i+k+(m - (i+1))) C)/\w'=w2:=by
 have hw:IntKind.i64.wrap ((i:Int)+(k:Int))=(i:Int)+k:=IntWalk.i64_in _ (by omega);have hto:((i:Int)+(k:Int)).toNat=i+k:=by omega
 have hne:¬C=i+k:=by omega
 have hne2:¬C=i+1:=by omega
 have h0:(0:Int)<=(i:Int)+k:=by omega
 have h01:(0:Int)<=(i:Int)+1:=by omega
 have hle1:(i:Int)+1<=m:=by omega
 have hto1:((i:Int)+1).toNat=i+1:=by omega
 have hle:(i:Int)+k<=i+k+((m - (i+1):Nat):Int):=by omega
 go_enter Tryz.func64,Tryz.ntmps64
 go_wp2
 go_region
 go_wp2
 go_region_law (refine zNc rfl (.tmp 126) (.tmp 129) 24 24 rfl _ _ (by simp[Act.eval,Act.put]) (by simp[Act.eval,Act.put]) hcp1 ?_)
 go_wp2
 go_ret
 exact⟨rfl,rfl⟩
def zJO:Tryz.prog.underlying 24=some (.slice 32):=by kernel_rfl
def szo32:((Tryz.prog.info? 32).map (·.size)).isSome=true:=by kernel_rfl
def zMZ:Go.Vse.za2 Tryz.prog 32=some 2:=by kernel_rfl
def zL6:Go.Vse.zDs Tryz.prog 64 2 24:=by
  intro w w1 w2 b bv m k i C Cv hi hk hm hk2 hC hap h1 h2;obtain⟨hne,tA,kA,tB,kB,hsa,hsb,hkB,hfa,hfe⟩ :=hap;have e1:m+k - 1 - (i+k)=m - (i+1):=by omega
  have e2:m+k - 1=i+k+(m - (i+1)):=by omega
  rw[e1]at h1;rw[e2]at h2|-;refine repB w w1 w2 b bv m k i C Cv hi hk hm hk2 hC ?_ h1 h2;rw[run_callFunc_extern Tryz.func108 (by kernel_rfl) (by kernel_rfl) (by kernel_rfl) (e:=Extern.SlicesOverlaps.overlaps Tryz.f108.params Tryz.f108.resultTypes) rfl];obtain⟨i',hi'⟩ :=Option.isSome_iff_exists.1 szo32;obtain⟨inf,hinf,_⟩ :=Option.map_eq_some_iff.1 hi';have:=Go.Lib.run_overlaps_apart (P:=Tryz.prog) w.drew 24 4 32 zJO inf.size (by intro w;simp[sizeOf,typeInfo,hinf]) ⟨b,(i+k)*2,none⟩ ⟨bv,0,none⟩ (m - (i+1)) (C - (i+k)) k Cv hne tA tB kA kB hsa hsb hkB hfa hfe;exact (congrArg (Result.andThen · _) this).trans rfl
end Go.Proofs.YtmnkdfjljkhneaaGreat
end
section
namespace Go.Proofs.YtmnkdfjljkhneaaGreat
open Go Go.Vse Go.Vse.Sm
def zCe(f:Go.Vse.A->Option D)(es:Nat)(x n:Go.Vse.A):O.res f (.cpy es x n)=(f x).bind fun x=>(f n).bind fun n=>some (.cpy es x n):=rfl
def zJi{pr:Pr}{s:St}{Q:St->Prop}{dst:Option Nat}{l:List Go.Vse.Op}{es:Nat}{x n:Go.Vse.A}:wpO pr (⟨dst,none,.cpy es x n⟩ ::l) s Q↔oB (((O.cpy es x n).res (zab s.tm)).bind (opv s.h.get s.c)) fun r=>zay r.c r.wr=true/\wpO pr l (s.aft dst r.d r.wr r.c) Q:=zdq rfl
def zHm{pr:Pr}{s:St}{Q:St->Prop}{dst:Option Nat}{L:List (List Nat×List Nat)}{mask:Nat}{l:List (Go.Vse.Op×Nat)}{es:Nat}{x n:Go.Vse.A}:wpE pr L ((⟨dst,none,.cpy es x n⟩,mask)::l) s Q↔oB (((O.cpy es x n).res (zab s.tm)).bind (opv s.h.get s.c)) fun r=>zay r.c r.wr=true/\zc1 mask L r.rd (r.wr.map (·.1))/\wpE pr (L++[(r.rd,r.wr.map (·.1))]) l (s.ae dst r.d r.wr r.c) Q:=zcG rfl
theorem zOx{h:Nat->Option Ob}{c es byt id lim i:Nat}{z:List F}{els:List (List D)}{ro:Nat}{k:Nat}(ho:h id=some (.arr es ro els))(hi:i<=els.length)(hk:0<k)(hl:lim<i+k)(hb:(i+k)*byt<=zak)(hm:i+k<=zak)(hkm:k<=zak):
  opv h c (.apz es byt z (.sl id 0 i es lim true) (.f (.i .i64 (k:Int))))=
   some {d:= .sl c 0 (i+k) es (i+k) false,rd:=[id],wr:=[(c,some (.arr es 0 (els.take i++List.replicate k (z.map D.f))))],c:=c+1}:=by
 have h1:¬k=0:=by omega
 have h2:¬i+k<=lim:=by omega
 simp only[opv,zbY];unfold zb6;have hkb:k*byt<=zak:=Z3 (Z9 byt (by omega)) hb;simp[hm,hb,h1,h2,ho,hi,hkm,hkb]
theorem zAt{h:Nat->Option Ob}{c es id off m lim:Nat}{ex:Bool}{e:D}{els old:List (List D)}{len ro:Nat}{rd:List Nat}(hs:zjk es h m e=some (els,len,rd))(ho:h id=some (.arr es ro old))(hle:off<=old.length)(hro:ro<=off)
  (hk:zcM old (old.take off++els.take (Nat.min len m)++old.drop (off+Nat.min len m))=true):
  opv h c (.cpy es (.sl id off m es lim ex) e)=some {d:= .f (.i .i64 (Nat.min len m)),rd:=id::rd,wr:=[(id,some (.arr es ro (old.take off++els.take (Nat.min len m)++old.drop (off+Nat.min len m))))],c}:=by
 simp only[opv,hs,ho];rw[if_pos ⟨trivial,trivial,hle,.inl hro,hk⟩]
theorem zw5{h:Nat->Option Ob}{es id off len m lim ro:Nat}{ex:Bool}{els:List (List D)}(ho:h id=some (.arr es ro els))(hle:off+len<=els.length):
  zjk es h m (.sl id off len es lim ex)=some ((els.drop off).take len,((els.drop off).take len).length,[id]):=by
 simp only[zjk,elemsOf,ho];rw[if_pos ⟨trivial,trivial,hle⟩]
theorem zE4{h:T Ob}{id vid vro vlim n m k i C:Nat}{vex:Bool}{els vels:List (List D)}(ho:h.get id=some (.arr 2 0 els))(hv:h.get vid=some (.arr 2 vro vels))(hm:els.length=m)(hk:vels.length=k)(hi:i+1<m)(hk2:2<=k)(hm1:m<=1000)(hk1:k<=1000)(hid:id<n)(hvid:vid<n)(hl2:∀x∈els,x.length=2)(hv2:∀x∈vels,x.length=2)(hC1:m<=C)(hC2:C<m+k - 1):
  ∃q,zsd pr g64 [.sl id 0 m 2 C true,.f (.i .i64 ((i:Nat):Int)),.f (.i .i64 ((i+1:Nat):Int)),.sl vid 0 k 2 vlim vex] h n q/\(q.d= .sl (n+13) 0 (m+k - 1) 2 (m+k - 1) false/\(∀x,q.h.get x=if x=n+13 then some (.arr 2 0 (els.take i++vels++els.drop (i+1)))else h.get x)/\n+13<q.c/\q.lw=n):=by
 refine zpN (R:=fun d h' c' lw=>d= .sl (n+13) 0 (m+k - 1) 2 (m+k - 1) false/\(∀x,h'.get x=if x=n+13 then some (.arr 2 0 (els.take i++vels++els.drop (i+1)))else h.get x)/\n+13<c'/\lw=n) ?_;obtain⟨r,hr⟩ :∃r,r=m - (i+1):=⟨_,rfl⟩
 obtain⟨j,hj⟩ :∃j,j=i+1:=⟨_,rfl⟩
 have hsum:m+k - 1=i+(k+r):=by omega
 rw[hsum,<-hj];obtain⟨N,hN⟩ :∃N,N=n+13:=⟨_,rfl⟩
 have hne:¬id=N:=by omega
 have hnv:¬vid=N:=by omega
 have hij:¬(i:Int)=j:=by omega
 have hjm:¬(j:Int)=m:=by omega
 have l1:i<=j:=by omega
 have l2:j<=m:=by omega
 have l3:i<=m:=by omega
 have hmj:m - j=r:=by omega
 obtain⟨a,ha⟩ :∃a,a=i+k:=⟨_,rfl⟩
 obtain⟨t,ht⟩ :∃t,t=i+k+r:=⟨_,rfl⟩
 obtain⟨u,hu⟩ :∃u,u=k+r:=⟨_,rfl⟩
 have w1:IntKind.i64.wrap ((i:Int)+k)=(a:Int):=by rw[wrap_i64 _ (by omega) (by omega)];omega
 have w2:IntKind.i64.wrap ((a:Int)+r)=(t:Int):=by rw[wrap_i64 _ (by omega) (by omega)];omega
 have w3:IntKind.i64.wrap ((t:Int) - i)=(u:Int):=by rw[wrap_i64 _ (by omega) (by omega)];omega
 rw[<-hu];have hgt:(C:Int)<t:=by omega
 have hCt:C<t:=by omega
 have l4:i<=i+u:=by omega
 have l5:a<=i+u:=by omega
 have vcap:∀(h:Nat->Option Ob) c,opv h c (.cap (.sl id 0 m 2 C true))=some {d:= .f (.i .i64 (C:Int)),c:=c}:=fun h c=>by simp[opv,zsG,okF]
 have eN:n+1+1+1+1+1+1+1+1+1+1+1+1+1=N:=by omega
 have Z:=zOx (h:=h.get) (c:=N) (es:=2) (byt:=48) (lim:=C) (z:=[.nils,.nils]) (k:=u) ho (i:=i) (by omega) (by omega) (by omega) (by simp[zak];omega) (by simp[zak];omega) (by simp[zak];omega);generalize hzz:[F.nils,F.nils].map D.f=zz at Z;have hr1:(els.take i++List.replicate u zz).take i=els.take i:=by rw[Z27 (by simp;omega),List.take_take,Nat.min_self]
 have hz2:∀q,∀x∈List.replicate q zz,x.length=2:=fun q x hx=>by rw[(List.mem_replicate.1 hx).2,<-hzz];rfl
 have hok:∀l,zcM (els.take i++List.replicate u zz) l=true:=fun l=>by
  unfold zcM;rw[zgd (es:=2) (by decide) fun x hx=>(Z4.1 hx).elim (fun hx=>hl2 x (Z13 hx)) (hz2 _ x)];rfl
 have hiu:i+u - a=r:=by omega
 have hmk:Nat.min k u=k:=Nat.min_eq_left (by omega);have hmr:Nat.min r r=r:=Nat.min_self _;have hrw1:els.take i++List.replicate u zz=els.take i++List.replicate u zz:=rfl;have hB:∀c,opv (h.set N (.arr 2 0 (els.take i++List.replicate u zz))).get c (.cpy 2 (.sl N i u 2 (i+u) false) (.sl vid 0 k 2 vlim vex))=some {d:= .f (.i .i64 (k:Int)),rd:=[N,vid],wr:=[(N,some (.arr 2 0 (els.take i++vels++List.replicate r zz)))],c:=c}:=fun c=>by
  have e1:(h.set N (.arr 2 0 (els.take i++List.replicate u zz))).get vid=some (.arr 2 vro vels):=by rw[Vse.T.zad,if_neg hnv];exact hv
  have e2:(h.set N (.arr 2 0 (els.take i++List.replicate u zz))).get N=some (.arr 2 0 (els.take i++List.replicate u zz)):=by rw[Vse.T.zad,if_pos rfl]
  have:=zAt (c:=c) (off:=i) (m:=u) (lim:=i+u) (ex:=false) (zw5 (m:=u) (off:=0) (lim:=vlim) (ex:=vex) e1 (len:=k) (by omega)) e2 (by simp;omega) (Nat.zero_le _) (hok _);have e3:(vels.drop 0).take k=vels:=by rw[Z34,Z11 (by omega)]
  have e4:(els.take i++List.replicate u zz).drop (i+k)=List.replicate r zz:=by
   rw[List.drop_append];have:(els.take i).length=i:=by simp;omega
   rw[this,Z24 (by omega),Z28,List.drop_replicate]
   congr 1;omega
  rw[e3,hk,hmk,hr1,e4,Z11 (show vels.length<=k by omega)]at this;exact this
 have hCp:∀c,opv ((h.set N (.arr 2 0 (els.take i++List.replicate u zz))).set N (.arr 2 0 (els.take i++vels++List.replicate r zz))).get c (.cpy 2 (.sl N a r 2 (i+u) false) (.sl id j r 2 C true))=some {d:= .f (.i .i64 (r:Int)),rd:=[N,id],wr:=[(N,some (.arr 2 0 (els.take i++vels++els.drop j)))],c:=c}:=fun c=>by
  have e1:((h.set N (.arr 2 0 (els.take i++List.replicate u zz))).set N (.arr 2 0 (els.take i++vels++List.replicate r zz))).get id=some (.arr 2 0 els):=by rw[Vse.T.zad,if_neg hne,Vse.T.zad,if_neg hne];exact ho
  have e2:((h.set N (.arr 2 0 (els.take i++List.replicate u zz))).set N (.arr 2 0 (els.take i++vels++List.replicate r zz))).get N=some (.arr 2 0 (els.take i++vels++List.replicate r zz)):=by rw[Vse.T.zad,if_pos rfl]
  have hl:(els.take i++vels).length=a:=by simp;omega
  have:=zAt (c:=c) (off:=a) (m:=r) (lim:=i+u) (ex:=false) (zw5 (m:=r) (off:=j) (lim:=C) (ex:=true) e1 (len:=r) (by omega)) e2 (by simp;omega) (Nat.zero_le _) (by
   unfold zcM;rw[zgd (es:=2) (by decide) fun x hx=>(Z4.1 hx).elim (fun hx=>(Z4.1 hx).elim (fun hx=>hl2 x (Z13 hx)) (hv2 x)) (hz2 _ x)];rfl)
  have e3:(els.drop j).take r=els.drop j:=Z11 (by simp;omega);have e4:(els.take i++vels++List.replicate r zz).take a=els.take i++vels:=by
   rw[Z27 (by omega),Z11 (by omega)]
  have e5:(els.take i++vels++List.replicate r zz).drop (a+r)=[]:=Z24 (by simp;omega);have e6:(els.drop j).length=r:=by simp;omega
  have e7:(els.drop j).take r=els.drop j:=e3;rw[e3,e6,hmr,e4,e5,Z22,e7]at this;exact this
 clear hok hr1;generalize els.take i++List.replicate u zz=E1 at*;generalize els.take i++vels++List.replicate r zz=E2 at*;generalize els.take i++vels++els.drop j=E3 at*;simp only[g64,rU];simp[rW,st0,zae,w1,w2,w3,hij,hjm,l1,l2,l3,zhH,zfz,ho,hv,zzd,ztU,vcap,hmj,hgt,zzc,ztT,Z];rw[<-hN];refine zaL ?_;simp[rW,st0,zae,w1,w2,w3,hij,hjm,l1,l2,l3,l4,l5,zhH,zfz,ho,hv,zzd,ztU,vcap,hmj,hgt,zzc,ztT,Z,zJi,zHm,zCe,hB,hCp,hiu,hne,hnv,eN];refine zaL ?_;simp[rW,st0,zae,w1,w2,w3,hij,hjm,l1,l2,l3,l4,l5,zhH,zfz,ho,hv,zzd,ztU,vcap,hmj,hgt,zzc,ztT,Z,zJi,zHm,zCe,hB,hCp,hiu,hne,hnv,eN,zsP];refine⟨by omega,fun x=> ?_,by omega,?_⟩
 .by_cases hx:x=N
  .simp[hx]
  .simp[hx]
 .simp (disch:=omega) only[zb7,zcw]
theorem zMk{h:T Ob}{id vid vro vlim n m k i:Nat}{vex:Bool}{els vels:List (List D)}(ho:h.get id=some (.arr 2 0 els))(hv:h.get vid=some (.arr 2 vro vels))(hm:els.length=m)(hk:vels.length=k)(hi:i+1=m)(hk2:2<=k)(hm1:m<=1000)(hk1:k<=1000)(hid:id<n)(hvid:vid<n)(hl2:∀x∈els,x.length=2):
  ∃q,zsd pr g64 [.sl id 0 m 2 m false,.f (.i .i64 ((i:Nat):Int)),.f (.i .i64 ((i+1:Nat):Int)),.sl vid 0 k 2 vlim vex] h n q/\(q.d= .sl n 0 (m+k - 1) 2 (m+k - 1) false/\(∀x,q.h.get x=if x=n then some (.arr 2 0 (els.take i++vels++els.drop (i+1)))else if x=id then none else h.get x)/\n<q.c/\q.lw=id):=by
 refine zpN (R:=fun d h' c' lw=>d= .sl n 0 (m+k - 1) 2 (m+k - 1) false/\(∀x,h'.get x=if x=n then some (.arr 2 0 (els.take i++vels++els.drop (i+1)))else if x=id then none else h.get x)/\n<c'/\lw=id) ?_;have hsum:m+k - 1=i+k:=by omega
 rw[hsum,Z24 (show els.length<=i+1 by omega),Z22,hi];have hne:¬id=n:=by omega
 have him:¬(i:Int)=m:=by omega
 have l1:i<=m:=by omega
 have hA:∀rd,zb6 2 48 h.get n (.sl id 0 i 2 m false) vels rd=some {d:= .sl n 0 (i+k) 2 (i+k) false,rd:=id::rd,wr:=[(id,none),(n,some (.arr 2 0 (els.take i++vels)))],c:=n+1}:=fun rd=>by
  have h0:¬vels.length=0:=by omega
  have h1:¬0+i+vels.length<=m:=by omega
  have h2:¬i=els.length:=by omega
  have m1:(i+k<=zak)=True:=zaV (by omega);have m2:((i+k)*48<=zak)=True:=zaV (by omega);have hok:zcM els (els.take i++vels)=true:=by unfold zcM;rw[zgd (es:=2) (by decide) hl2];rfl
  rw[zpz,if_neg h0,ho];simp only[hk,Z25]at h1|-;have h3:¬i=m:=by omega
  have h4:m<=i+k:=by omega
  have h5:i<=m:=by omega
  simp[h1,h3,h4,h5,m1,m2,hok,hm]
 have hd1:vels.take k=vels:=Z11 (by omega);have hlt:¬((i:Int)+k<m):=by omega
 simp only[g64,rU];simp -implicitDefEqProofs [rulN,Function.comp_def,Nat.blt_eq,zy7,zy1,zy2,zyZ,zyW,zyX,zyV,zy3,zy5,zy6,zy4,zza,zzb,zy9,st0,zae,him,l1,zhH,zfz,ho,hv,hA,hd1,hne,hk,hlt,zsP];have hnb:¬n<id:=by omega
 refine⟨by omega,?_,fun _=>rfl⟩;simp[zcA,hid,hnb]
def zLo:zgj Tryz.prog 64:=⟨Tryz.f64,Tryz.func64,rfl,by decide⟩
theorem zOL{h:T Ob}{id vid vro vlim n i:Nat}{vex:Bool}{els vels:List (List D)}(ho:h.get id=some (.arr 2 0 els))(hv:h.get vid=some (.arr 2 vro vels))(hi:i<els.length)(hk2:2<=vels.length)(hm1:els.length<=1000)(hk1:vels.length<=1000)(hne:id≠vid)(hid:id<n)(hvid:vid<n)(hl2:∀x∈els,x.length=2)(hv2:∀x∈vels,x.length=2):
  ∃q,zdG Tryz.prog 64 [.sl id 0 els.length 2 els.length false,.f (.i .i64 ((i:Nat):Int)),.f (.i .i64 ((i+1:Nat):Int)),.sl vid 0 vels.length 2 vlim vex] h n q/\SpR 2 [.sl id 0 els.length 2 els.length false,.f (.i .i64 ((i:Nat):Int)),.f (.i .i64 ((i+1:Nat):Int)),.sl vid 0 vels.length 2 vlim vex] h n q:=by
 by_cases him:i+1=els.length
 .obtain⟨q,hq,hd,hh,hc,hl⟩ :=zMk (vlim:=vlim) (vex:=vex) ho hv rfl rfl him hk2 hm1 hk1 hid hvid hl2;have hcl:=zdG.zp5 ztB Tryz.func64 (by decide) c64 hq;refine⟨⟨.sl n 0 (els.length+vels.length - 1) 2 (els.length+vels.length - 1) false,(h.del id).set n (.arr 2 0 (els.take i++vels++els.drop (i+1))),q.c,id,q.mx⟩,hcl.widen hd.symm (fun x=> ?_) (Z2 _) (Z2 _) (by show id<=q.lw;omega) hcl.2.2.1,_,_,_,_,_,_,_,_,_,_,_,_,_,rfl,ho,hv,hi,hm1,hk2,hk1,hne,hid,hvid,Z2 _,hc,hcl.2.2.1,rfl⟩;rw[hh,Vse.T.zad,Vse.T.zgC]
 .have hlt:i+1<els.length:=by omega
  have hg:∀C,∃p:Nat×Nat,els.length<=C->C<els.length+vels.length - 1->∃q,zdG Tryz.prog 64 [.sl id 0 els.length 2 C true,.f (.i .i64 ((i:Nat):Int)),.f (.i .i64 ((i+1:Nat):Int)),.sl vid 0 vels.length 2 vlim vex] h n q/\(q.d= .sl (n+13) 0 (els.length+vels.length - 1) 2 (els.length+vels.length - 1) false/\(∀x,q.h.get x=if x=n+13 then some (.arr 2 0 (els.take i++vels++els.drop (i+1)))else h.get x)/\n+13<q.c/\q.lw=n)/\q.c<=p.1/\q.mx<=p.2:=fun C=>by
   by_cases hC:els.length<=C/\C<els.length+vels.length - 1
   .obtain⟨q,hq,hp⟩ :=zE4 (vlim:=vlim) (vex:=vex) ho hv rfl rfl hlt hk2 hm1 hk1 hid hvid hl2 hv2 hC.1 hC.2;exact⟨(q.c,q.mx),fun _ _=>⟨q,zdG.zp5 ztB Tryz.func64 (by decide) c64 hq,hp,Z2 _,Z2 _⟩⟩
   .exact⟨(0,0),fun a b=>absurd ⟨a,b⟩ hC⟩
  obtain⟨G,hG⟩ :=Classical.skolem.1 hg;obtain⟨M1,hM1⟩ :=zpH (fun C=>(G C).1) (els.length+vels.length - 1);obtain⟨M2,hM2⟩ :=zpH (fun C=>(G C).2) (els.length+vels.length - 1);obtain⟨cc,hcc⟩ :∃cc,cc=M1+n+14:=⟨_,rfl⟩
  obtain⟨mx,hmx⟩ :∃mx,mx=cc+M2:=⟨_,rfl⟩
  have hu:∀C,els.length<=C->C<els.length+vels.length - 1->∃q,zdG Tryz.prog 64 [.sl id 0 els.length 2 C true,.f (.i .i64 ((i:Nat):Int)),.f (.i .i64 ((i+1:Nat):Int)),.sl vid 0 vels.length 2 vlim vex] h n q/\q.d= .sl (n+13) 0 (els.length+vels.length - 1) 2 (els.length+vels.length - 1) false/\(∀x,q.h.get x=if x=n+13 then some (.arr 2 0 (els.take i++vels++els.drop (i+1)))else h.get x)/\q.c=cc/\q.lw=id/\q.mx=mx:=fun C h1 h2=>by
   obtain⟨q,hq,⟨hd,hh,hc,hl⟩,b1,b2⟩ :=hG C h1 h2;have:=hM1 C h2;have:=hM2 C h2;exact⟨⟨q.d,q.h,cc,id,mx⟩,hq.widen rfl (fun _=>rfl) (by simp;omega) (by simp;omega) (by simp;omega) (by simp;omega),hd,hh,rfl,rfl,rfl⟩
  refine⟨⟨.sl (n+13) 0 (els.length+vels.length - 1) 2 (els.length+vels.length - 1) false,(h.del id).set (n+13) (.arr 2 0 (els.take i++vels++els.drop (i+1))),cc,id,mx⟩,?_,_,_,_,_,_,_,_,_,_,_,_,_,_,rfl,ho,hv,hi,hm1,hk2,hk1,hne,hid,hvid,by omega,by omega,by omega,rfl⟩;refine⟨zLo,by simp;omega,by simp;omega,fun amb ρ c w vs hs hfree hargs=> ?_⟩;simp only[zav]at hargs;obtain⟨v0,_,rfl,r0,v1,_,rfl,r1,v2,_,rfl,r2,v3,_,rfl,r3,rfl⟩ :=hargs;have hcn:¬c (n+13):=hfree (n+13) (by omega) (by simp;omega);have r0':=r0;simp only[Rel]at r0';obtain⟨hcid,a,C,rfl,k1,k2,k3,k4⟩ :=r0';have r3':=r3;simp only[Rel]at r3';obtain⟨hcv,a2,Cv,rfl,m1,m2,m3,m4⟩ :=r3';simp only[Rel,zas]at r1 r2;subst r1;subst r2;have hg0:((h.del id).set (n+13) (Ob.arr 2 0 (els.take i++vels++els.drop (i+1)))).get=upd (upd h.get id none) (n+13) (some (.arr 2 0 (els.take i++vels++els.drop (i+1)))):=by
   funext x
   simp[Vse.T.zad,Vse.T.zgC,upd]
  have hw:∀x,(c x\/x=n+13)->UX c n cc x:=fun x hx=>hx.elim .inl fun e=> .inr ⟨by omega,by omega⟩
  by_cases hC:els.length+vels.length - 1<=C
  .obtain⟨b,w1,w2,hb',rfl,c1,c2,hB,ρ',p1,p2,p3⟩ :=zB1 (P:=Tryz.prog) (ty:=3) (td:=24) (es:=2) hs zJO zMZ ho hv hne hlt hk2 (by decide) hcn hC r0 r3;obtain⟨b',cs,elem,fr,hbb,d1,d2,d3,d4,d5⟩ :=hs.row ho;rw[hb']at hbb;cases hbb;obtain⟨bv,csv,elemv,frv,hbv,e1,e2,e3,e4,e5⟩ :=hs.row hv;have hav:=(m4 bv hbv).1 (by omega);rw[Nat.zero_mul]at hav;subst hav;obtain⟨_,es3,bn,ks,kn⟩ :=k4 b hb';have hbn:bn=cs.size:=by
    unfold zcF at ks;rw[d1]at ks;simp at ks;exact ks.2.symm
   have hap:Apart w b bv ((i+vels.length)*2):=by
    refine⟨fun e=>hne (hs.inj id vid b hb' (e▸hbv)),elem,cs.size,elemv,csv.size,?_,?_,by omega,?_,?_⟩
    .unfold World.shape?;rw[d1]
    .unfold World.shape?;rw[e1]
    .unfold World.frozen?;simp only[d1];have:=d2.1 ((i+vels.length)*2) (by omega);simp only[Bool.and_eq_false_iff,decide_eq_false_iff_not];omega
    .unfold World.frozen?;simp only[d1];have:¬(fr.1<=cs.size/\cs.size<fr.2):=fun hx=>by
      have:=d2.2 hx;rw[zgd (es:=2) (by decide) hl2]at this;cases this
     simp only[Bool.and_eq_false_iff,decide_eq_false_iff_not];omega
   refine (zL6 w w1 w2 b bv els.length vels.length i C Cv hlt hk2 hm1 hk1 hC hap c1 c2).mono ?_;rintro e w' ⟨rfl,rfl⟩;refine⟨_,rfl,hB,ρ',?_,?_,?_⟩
   .simp only[hg0];exact Rel.keep ⟨fun _ _ _ h e=>⟨e,h⟩,fun _ _ _ h=>h,fun _ _ h=>h,hw⟩ _ _ p1
   .simp only[hg0];exact p2.widen hw
   .simp only[hg0];exact (p3.widen hw).mono fun x _ hx=>by subst hx;exact⟨Z2 _,by omega⟩
  .obtain⟨q,hq,hd,hh,hc,hl,hx⟩ :=hu C k1 (by omega);have r0x:Rel w.heap (zat amb h.get ρ) ρ c (.sl id 0 els.length 2 C true) (.slice (some a) els.length C):=by
    simp only[Rel];exact⟨hcid,a,C,rfl,k1,by omega,fun _=>by omega,k4⟩
   obtain⟨_,_,_,h4⟩ :=hq;refine (h4 amb ρ c w _ hs (by rw[hx];exact hfree) (by simp only[zav];exact⟨_,_,rfl,r0x,_,_,rfl,by simp only[Rel,zas],_,_,rfl,by simp only[Rel,zas],_,_,rfl,r3,rfl⟩)).mono ?_;rintro e w' ⟨v,he,hB,ρ',p1,p2,p3⟩;obtain⟨s2,v2⟩ :=p2.drop id (fun x=>x=id) rfl;have hgq:upd (upd h.get id none) (n+13) (some (.arr 2 0 (els.take i++vels++els.drop (i+1))))=upd q.h.get id none:=by
    funext x
    unfold upd;rw[hh]
    by_cases h1:x=n+13
    .subst h1;have:¬n+13=id:=by omega
     simp[this,upd]
    .by_cases h2:x=id
     .subst h2;simp[h1]
     .simp[h1,h2]
   rw[hc]at p1 s2 v2 p3;rw[hd]at p1;rw[hl,hx]at p3;refine⟨v,he,hB,upd ρ' id none,?_,?_,?_⟩
   .simp only[hg0,hgq];exact Rel.keep v2.keep _ _ p1
   .simp only[hg0,hgq];exact s2
   .simp only[hg0,hgq];exact (p3.mono fun x _ hy=>hy).trans (v2.mono fun x _ hy=>by subst hy;exact⟨Z2 _,by show x<mx;omega⟩)
def zvM{f:Nat}{args:List D}{h:T Ob}{n:Nat}{q:CR}(hf:pr.fn f=none)(he:pr.ext f args=none)(hq:pr.exq f args h n=some q):Con pr f args h n q:=
 ⟨1,fun m hm=>by
  obtain⟨m,rfl⟩ :∃m',m=m'+1:=⟨m - 1,by omega⟩
  simp only[zcL,hf,he];exact hq⟩
def exq64{args:List D}{h:T Ob}{n:Nat}(hx:∃q,zdG Tryz.prog 64 args h n q/\SpR 2 args h n q):∃q,Con pr 64 args h n q/\SpR 2 args h n q:=by
 have hx':∃q,zdG Tryz.prog 64 args h n q/\(64=19/\SpS args h n q\/64=64/\SpR 2 args h n q):=by
  obtain⟨q,h1,h2⟩ :=hx;exact⟨q,h1,.inr ⟨rfl,h2⟩⟩
 have hs:=Classical.choose_spec hx';refine⟨Classical.choose hx',zvM (by kernel_rfl) (by kernel_rfl) ?_,?_⟩
 .show znk 64 args h n=_;unfold znk;rw[dif_pos hx']
 .rcases hs.2 with⟨e,_⟩ |⟨_,e⟩
  .exact absurd e (by decide)
  .exact e
def exq19{args:List D}{h:T Ob}{n:Nat}(hx:∃q,zdG Tryz.prog 19 args h n q/\SpS args h n q):∃q,Con pr 19 args h n q/\SpS args h n q:=by
 have hx':∃q,zdG Tryz.prog 19 args h n q/\(19=19/\SpS args h n q\/19=64/\SpR 2 args h n q):=by
  obtain⟨q,h1,h2⟩ :=hx;exact⟨q,h1,.inl ⟨rfl,h2⟩⟩
 have hs:=Classical.choose_spec hx';refine⟨Classical.choose hx',zvM (by kernel_rfl) (by kernel_rfl) ?_,?_⟩
 .show znk 19 args h n=_;unfold znk;rw[dif_pos hx']
 .rcases hs.2 with⟨_,e⟩ |⟨e,_⟩
  .exact e
  .exact absurd e (by decide)
theorem eff64{h:T Ob}{id vid vro vlim n i:Nat}{vex:Bool}{els vels:List (List D)}(ho:h.get id=some (.arr 2 0 els))(hv:h.get vid=some (.arr 2 vro vels))(hi:i<els.length)(hk2:2<=vels.length)(hm1:els.length<=1000)(hk1:vels.length<=1000)(hne:id≠vid)(hid:id<n)(hvid:vid<n)(hl2:∀x∈els,x.length=2)(hv2:∀x∈vels,x.length=2):
  Eff pr 64 [.sl id 0 els.length 2 els.length false,.f (.i .i64 ((i:Nat):Int)),.f (.i .i64 ((i+1:Nat):Int)),.sl vid 0 vels.length 2 vlim vex] h n fun d h' c'=>
   ∃N,n<=N/\N<c'/\d= .sl N 0 (els.length+vels.length - 1) 2 (els.length+vels.length - 1) false/\∀x,h'.get x=if x=N then some (.arr 2 0 (els.take i++vels++els.drop (i+1)))else if x=id then none else h.get x:=by
 obtain⟨q,hq,id',lim,ex,els',i',vid',vro',vlim',vex',vels',c,mx,N,ha,g1,g2,hi',-,-,-,-,-,-,hN,hNc,hcm,rfl⟩ :=exq64 (zOL (vlim:=vlim) (vex:=vex) ho hv hi hk2 hm1 hk1 hne hid hvid hl2 hv2);simp only[List.cons.injEq,D.sl.injEq,D.f.injEq,F.i.injEq,true_and,and_true]at ha;obtain⟨⟨rfl,-⟩,h2,-,rfl,-⟩ :=ha;have h3:i'=i:=by omega
 subst h3;rw[ho]at g1;rw[hv]at g2;cases g1;cases g2;refine⟨_,hq,⟨N,hN,hNc,rfl,fun x=> ?_⟩,by show n<=c;omega,hcm⟩;simp only[Vse.T.zad,Vse.T.zgC]
def fn92:pr.fn 92=some g92:=by kernel_rfl
theorem sl3{h:Nat->Option Ob}{id len es lim l r m ro:Nat}{ex:Bool}{els:List (List D)}(ho:h id=some (.arr es ro els))(h1:l<=r)(h2:r<=m)(h3:m<=len)(h4:len<=lim):
  sliceB es h (.sl id 0 len es lim ex) (some (.f (.i .i64 (l:Int)))) (some (.f (.i .i64 (r:Int)))) (some (.f (.i .i64 (m:Int))))=some (.sl id l (r - l) es m true,[id]):=by
 have:r<=lim\/r<=len:=by omega
 have h5:m<=lim:=by omega
 simp[sliceB,ho,zbn,zbY,h1,h2,h5,this]
def slm(es:Nat)(h:Nat->Option Ob)(x:D)(lo hi mx:Option D)(c:Nat){d:D}{rd:List Nat}(e:sliceB es h x lo hi mx=some (d,rd)):opv h c (.slc es x lo hi mx)=some {d:=d,rd:=rd,c:=c}:=by
 simp[opv,e]
def zK:List D:=[.f (.i .i64 0),.f (.s []),.f (.i .i64 0),.f (.i .i64 0),.f (.s []),.f (.s []),.f (.i .i64 0),.f (.i .i64 0),.f (.s [])]
theorem eff92{h:T Ob}{Y i c:Nat}{L tail:List (List D)}(ho:h.get Y=some (.arr 9 0 (L++tail)))(hi:i<L.length)(hl:L.length+tail.length<=10000)(hw:∀x∈L++tail,x.length=9)(hY:Y<c):
  Eff pr 92 [.sl Y 0 L.length 9 (L.length+tail.length) false,.f (.i .i64 ((i:Nat):Int)),.f (.i .i64 ((i:Int)+1))] h c fun d h' c'=>d= .sl Y 0 (L.take i++L.drop (i+1)).length 9 (L.length+tail.length) false/\∀x,h'.get x=if x=Y then some (.arr 9 0 (L.take i++L.drop (i+1)++zK::tail))else h.get x:=by
 refine zci zbi fn92 ?_;obtain⟨m,hm⟩ :∃m,m=L.length:=⟨_,rfl⟩
 obtain⟨j,hj⟩ :∃j,j=i+1:=⟨_,rfl⟩
 have hlen:(L.take i++L.drop (i+1)).length=m - 1:=by simp;omega
 rw[hlen];have hij:((i:Int)+1)=(j:Int):=by omega
 rw[hij,<-hm];obtain⟨lim,hlim⟩ :∃lim,lim=m+tail.length:=⟨_,rfl⟩
 rw[<-hlim];have hne:¬(i:Int)=j:=by omega
 have h8:hd8 (L++tail)=false:=zgd (es:=9) (by decide) hw;have e1:sliceB 9 h.get (.sl Y 0 m 9 lim false) (some (.f (.i .i64 (i:Int)))) (some (.f (.i .i64 (j:Int)))) (some (.f (.i .i64 (m:Int))))=some (.sl Y i (j - i) 9 m true,[Y]):=sl3 ho (by omega) (by omega) (Z2 _) (by omega);have l1:i<=lim:=by omega
 have l1':i<=m:=by omega
 have l2:j<=m:=by omega
 have hel:((L++tail).drop j).take (m - j)=L.drop j:=by
  rw[List.drop_append,Z27 (by simp;omega),Z11 (by simp;omega)]
 have l3:j+(m - j)<=L.length+tail.length:=by omega
 obtain⟨R,hR⟩ :∃R,R=L.take i++L.drop j++(L++tail).drop (m - 1):=⟨_,rfl⟩
 have hRw:∀x∈R,x.length=9:=fun x hx=>by
  rw[hR]at hx;rcases Z4.1 hx with hx|hx
  .rcases Z4.1 hx with hx|hx
   .exact hw x (List.mem_append_left _ (Z13 hx))
   .exact hw x (List.mem_append_left _ (Z21 hx))
  .exact hw x (Z21 hx)
 have hA:∀c rd,Y<c->∃r,zb6 9 104 h.get c (.sl Y 0 i 9 lim false) (L.drop j) rd=some r/\r.d= .sl Y 0 (m - 1) 9 lim false/\r.c=c/\zay c r.wr=true/\(∀x,(wrT h r.wr).get x=if x=Y then some (.arr 9 0 R)else h.get x)/\(∀x∈r.wr.map (·.1),x=Y):=fun c rd hYc=>by
  rw[zpz]
  by_cases h0:(L.drop j).length=0
  .rw[if_pos h0];have hjm:j=m:=by simp at h0;omega
   have him:m - 1=i:=by omega
   refine⟨_,rfl,by rw[him],rfl,rfl,fun x=> ?_,by simp⟩;have:R=L++tail:=by
    rw[hR,hjm,hm,List.drop_length,Z22,<-hm,him];have e:L.take i=(L++tail).take i:=by rw[Z27 (by omega)]
    rw[e,List.take_append_drop]
   rw[this]
   by_cases hx:x=Y
   .subst hx;simp[wrT,ho]
   .simp[wrT,hx]
  .rw[if_neg h0,ho];have hlj:(L.drop j).length=m - j:=by simp;omega
   have c1:0+i<=(L++tail).length:=by simp;omega
   have c2:0+i+(L.drop j).length<=lim:=by omega
   have c3:0+i+(L.drop j).length<=(L++tail).length:=by simp;omega
   have c4:zcM (L++tail) ((L++tail).take (0+i)++L.drop j++(L++tail).drop (0+i+(L.drop j).length))=true:=by unfold zcM;rw[h8];rfl
   simp only[c1,c2,c3,c4,true_and,and_true,if_true,Nat.zero_le];refine⟨_,rfl,?_,rfl,?_,fun x=> ?_,by simp⟩
   .have:i+(L.drop j).length=m - 1:=by omega
    rw[this]
   .simp only[zay,Bool.and_true];simpa [Nat.blt_eq]using hYc
   .have e1:0+i+(L.drop j).length=m - 1:=by omega
    have e2:(L++tail).take (0+i)=L.take i:=by rw[Z25,Z27 (by omega)]
    rw[e1,e2,<-hR];simp[wrT,Vse.T.zad]
 have hRl:R.length=m+tail.length:=by rw[hR];simp;omega
 have hRt:R.take (m - 1)=L.take i++L.drop j:=by
  rw[hR,Z27 (by simp;omega),Z11 (by simp;omega)]
 have hRd:R.drop m=tail:=by
  rw[hR,List.drop_append,Z24 (by simp;omega),Z28,List.drop_drop];have:(m - 1)+(m - (L.take i++L.drop j).length)=m:=by simp;omega
  rw[this,hm,List.drop_left]
 have e2:∀(h':Nat->Option Ob),h' Y=some (.arr 9 0 R)->sliceB 9 h' (.sl Y 0 (m - 1) 9 lim false) (some (.f (.i .i64 ((m - 1:Nat):Int)))) (some (.f (.i .i64 (m:Int)))) none=some (.sl Y (m - 1) 1 9 lim false,[Y]):=fun h' hh=>by
  have h1:m - 1<=m:=by omega
  have h2:m<=lim:=by omega
  have h3:m - (m - 1)=1:=by omega
  simp[sliceB,hh,zbn,zbY,h1,h2,h3]
 have hc1:m - 1+1=m:=by omega
 have hc2:m<=R.length:=by omega
 have hc3:∀l,zcM R l=true:=fun l=>by unfold zcM;rw[zgd (es:=9) (by decide) hRw];rfl
 simp only[g92,rU];simp[rW,st0,zae,slm,e1,hne,ho];refine zaL ?_;have hml:m<=L.length+tail.length:=by omega
 simp -implicitDefEqProofs [rulN,Function.comp_def,Nat.blt_eq,zy7,zy1,zy2,zyZ,zyW,zyX,zyV,zy3,zy5,zy6,zy4,zza,zzb,zy9,st0,zae,zhH,zfz,ho,l1,l1',l2,l3,hel,hne,hml];obtain⟨r,hr,hrd,hrc,hrw,hrh,-⟩ :=hA (c+1+1+1+1+1+1) [Y] (by omega);have hrY:=hrh Y;rw[if_pos rfl]at hrY;rw[hr,zgK];have hcl:=hc3 (R.take (m - 1)++List.replicate 1 zK++R.drop (m - 1+1));rw[hRt,hc1,hRd]at hcl;have h8R:hd8 R=false:=zgd (es:=9) (by decide) hRw;have hzk:[D.f (.i .i64 0),.f (.s []),.f (.i .i64 0),.f (.i .i64 0),.f (.s []),.f (.s []),.f (.i .i64 0),.f (.i .i64 0),.f (.s [])]=zK:=rfl;rw[hrc];refine⟨hrw,?_⟩;simp[rW,hrd,hrc,e2 _ hrY,zzM,zpM,hrY,hc1,hc2,hRt,hRd,hcl,hzk,h8R,zbl,<-hj];refine⟨by omega,fun x=> ?_⟩
 by_cases hx:x=Y
 .simp[hx]
 .have:=hrh x;rw[if_neg hx]at this;simp[hx,this]
theorem zAJ{n es byt:Nat}{z:List F}(hf:pr.fn n=some (gCl es byt z))(hb:byt<=1000){X:F}{rows:List (List F)}(hX:X= .sl es rows\/X= .nils/\rows=[])(hl:rows.length<=1000000){h:T Ob}{c:Nat}:
  Eff pr n [.f X] h c fun d h' c'=>Frm h h' c/\((X= .nils/\rows=[]/\d= .f .nils)\/(X= .sl es rows/\∃id ex,d= .sl id 0 rows.length es rows.length ex/\(rows≠[]->ex=false)/\h'.get id=some (.arr es 0 (fD rows))/\c<=id/\id<c')):=by
 refine zci zbi hf ?_;unfold gCl;simp only[rU];rcases hX with rfl|⟨rfl,rfl⟩
 .have hm:rows.length*byt<=1000000*1000:=Nat.mul_le_mul hl hb;have m1:(rows.length<=zak)=True:=zaV (by omega);have m2:(rows.length*byt<=zak)=True:=zaV (by omega)
  by_cases h0:rows=[]
  .subst h0;simp[rW,st0,zae,zpp,zbl];refine⟨fun x hx=> ?_,rfl⟩;have:¬x=c:=by omega
   simp[Vse.T.zad,this]
  .simp[rW,st0,zae,zpp,h0,m1,m2,zbl];refine⟨fun x hx=> ?_,rfl⟩;have h1:¬x=c:=by omega
   have h2:¬x=c+1:=by omega
   simp[Vse.T.zad,h1,h2]
 .simp[rW,st0,zae,zDh,zbl];exact fun _ _=>rfl
def zO4(l:List Trm)(hl:l.length<=1000000)(hn:l≠[]){h:T Ob}{c:Nat}:Eff pr 60 [.f (zaW l)] h c fun d h' c'=>Frm h h' c/\∃x,d= .sl x 0 l.length 4 l.length false/\h'.get x=some (.arr 4 0 (zbv l))/\c<=x/\x<c':=by
 have hne:l.map (fun t=>tmF t)≠[]:=by simpa using hn
 obtain⟨q,h1,⟨h2,h3⟩,h4,h5⟩ :=zAJ (z:=[.s [],.i .i64 0,.i .i64 0,.s []]) (byt:=48) fn60 (by omega) (zhL 4 (l.map tmF)) (by simpa using hl) (h:=h) (c:=c);refine⟨q,h1,⟨h2,?_⟩,h4,h5⟩;rcases h3 with⟨-,e,-⟩ |⟨-,id,ex,e1,e2,e3,e4,e5⟩
 .exact absurd e hne
 .rw[e2 hne]at e1;rw[Z18]at e1;exact⟨id,e1,e3,e4,e5⟩
def CsE(h:T Ob)(lo c:Nat)(d:D)(q:CQ):Prop:=(d= .f .nils/\q.cs=[]/\q.ne=false)\/∃Y ex,d= .sl Y 0 q.cs.length 9 q.cs.length ex/\h.get Y=some (.arr 9 0 (q.cs.map cmD))/\(q.cs=[]->q.ne=true)/\(q.cs≠[]->ex=false)/\lo<=Y/\Y<c/\q.cs.length<=10000
def zhz{h:T Ob}{lo c:Nat}{d:D}{q:CQ}(H:CsE h lo c d q):CsD h lo c d q:=by
 rcases H with H|⟨Y,ex,h1,h2,h3,h4,h5,h6,h7⟩
 .exact .inl H
 .exact .inr ⟨Y,[],ex,by simpa using h1,by simpa using h2,h3,h4,h5,h6,by simp,h7⟩
def zlo{h h':T Ob}{lo lo' c c':Nat}{d:D}{q:CQ}(H:CsE h lo c d q)(hh:∀x,lo<=x->x<c->h'.get x=h.get x)(hl:lo'<=lo)(hc:c<=c'):CsE h' lo' c' d q:=by
 rcases H with H|⟨Y,ex,rfl,hY,h3,h4,h1,h2,h5⟩
 .exact .inl H
 .exact .inr ⟨Y,ex,rfl,by rw[hh Y h1 h2];exact hY,h3,h4,by omega,by omega,h5⟩
def zO2(q:CQ)(hl:q.cs.length<=10000){h:T Ob}{c:Nat}:Eff pr 59 [.f (zaC q)] h c fun d h' c'=>Frm h h' c/\CsE h' c c' d q:=by
 obtain⟨r,h1,⟨h2,h3⟩,h4,h5⟩ :=zAJ (rows:=q.cs.map cmF) (X:=zaC q) (z:=[.i .i64 0,.s [],.i .i64 0,.i .i64 0,.s [],.s [],.i .i64 0,.i .i64 0,.s []]) (byt:=104) fn59 (by omega) (by
  unfold zaC csF;split
  .rename_i hh;rw[hh.2];exact .inl rfl
  .exact zhL 9 _) (by simp;omega) (h:=h) (c:=c)
 refine⟨r,h1,⟨h2,?_⟩,h4,h5⟩;have hfd:fD (q.cs.map cmF)=q.cs.map cmD:=by
  unfold fD;rw[Z33];exact List.map_congr_left fun k _=>ziN k
 rcases h3 with⟨e1,e2,e3⟩ |⟨e0,id,ex,e1,e2,e3,e4,e5⟩
 .have hc:q.cs=[]:=by simpa using e2
  refine .inl ⟨e3,hc,?_⟩;unfold zaC csF at e1;rw[hc]at e1;cases hne:q.ne with
  |false=>rfl
  |true=>rw[hne]at e1;simp at e1
 .refine .inr ⟨id,ex,?_,?_,fun hc=> ?_,fun hc=>e2 (by simpa using hc),e4,e5,by simpa using hl⟩
  .rw[e1];simp
  .rw[e3,hfd]
  .unfold zaC csF at e0;rw[hc]at e0;cases hne:q.ne with
   |true=>rfl
   |false=>rw[hne]at e0;simp[slc]at e0
def atR(a:Atm)(x:Nat):List D:=[.f (.s a.r),.f (.b a.neg),.sl x 0 a.ts.length 4 a.ts.length false]
structure AsD(h:T Ob)(lo c:Nat)(d:D)(l:List Atm)(xs:List Nat):Prop where
 ln:xs.length=l.length
 nd:xs.Nodup
 rg:∀x∈xs,lo<=x/\x<c
 rw:∀k (hk:k<l.length) (hx:k<xs.length),h.get xs[k]=some (.arr 4 0 (zbv l[k].ts))
 gr:Gro h lo c 3 d (List.zipWith atR l xs)
 oi:∀B,d.oid=some B->B∉xs
def AsD.up{h h':T Ob}{lo lo' c c':Nat}{d:D}{l:List Atm}{xs:List Nat}(H:AsD h lo c d l xs)(hh:∀x,lo<=x->x<c->h'.get x=h.get x)(hl:lo'<=lo)(hc:c<=c'):AsD h' lo' c' d l xs:=by
 refine⟨H.ln,H.nd,fun x hx=>by have:=H.rg x hx;omega,fun k hk hx=> ?_,?_,H.oi⟩
 .have:=H.rg _ (Z1 hx);rw[hh _ this.1 this.2];exact H.rw k hk hx
 .rcases H.gr with h1|⟨id,ro,h1,h2,h3,h4,h5,h6⟩
  .exact .inl h1
  .exact .inr ⟨id,ro,h1,h2,by rw[hh id h5 h6];exact h3,h4,by omega,by omega⟩
def MQ(h:T Ob)(lo c:Nat)(dA dC:D)(q:CQ):Prop:=∃xs,AsD h lo c dA q.as xs/\CsD h lo c dC q/\∀Y,dC.oid=some Y->Y∉xs/\dA.oid≠some Y
def XK1(h0:T Ob)(q:CQ)(c0 n:Nat)(s:St):Prop:=∃(P:Nat) (B dC:D) (xs:List Nat),(s.tm.get 2=some (.ptr (c0+1) 2 0 0)/\s.tm.get 3=some (.ptr P 2 0 0)/\s.tm.get 11=some (.f (zaB q))/\s.tm.get 12=some (.f (.i .i64 q.as.length))/\s.tm.get 13=some (.f (.i .i64 n)))/\s.h.get (c0+1)=some (.arr 2 0 [[.f .nils,.f .nils]])/\s.h.get P=some (.arr 2 0 [[B,dC]])/\CsE s.h (c0+2) P dC (cop q)/\AsD s.h (P+1) s.c B (q.as.take n) xs/\P<s.c/\c0+2<=P/\Frm h0 s.h c0
def zfg{h:T Ob}{lo c:Nat}{d:D}{q:CQ}(H:CsD h lo c d q):d.cells=some [d]:=by
 rcases H with⟨rfl,-⟩ |⟨Y,tail,ex,rfl,-⟩ <;>rfl
def zpP{h:T Ob}{lo c:Nat}{d:D}{q:CQ}(H:CsD h lo c d q){x:Nat}(hx:d.oid=some x):lo<=x/\x<c:=by
 rcases H with⟨rfl,-⟩ |⟨Y,tail,ex,rfl,-,-,-,h1,h2,-⟩
 .simp[D.oid]at hx
 .simp[D.oid]at hx;omega
def MQ.nil{h:T Ob}{lo c:Nat}{q:CQ}(h1:q.as=[])(h2:q.cs=[])(h3:q.ne=false):MQ h lo c (.f .nils) (.f .nils) q:=
 ⟨[],⟨by simp[h1],by simp,by simp,fun k hk=>by simp[h1]at hk,.inl ⟨rfl,by simp⟩,by simp[D.oid]⟩,.inl ⟨rfl,h2,h3⟩,by simp[D.oid]⟩
def zl4{h:T Ob}{lo c:Nat}{d:D}{l:List Atm}{xs:List Nat}(H:AsD h lo c d l xs)(hd:d.isF=true):d= .f .nils/\l=[]:=by
 rcases H.gr with⟨h1,h2⟩ |⟨id,ro,h1,-⟩
 .refine⟨h1,Z17.1 ?_⟩;have e:(List.zipWith atR l xs).length=0:=by rw[h2];rfl
  rw[List.length_zipWith,H.ln,Nat.min_self]at e;exact e
 .rw[h1]at hd;cases hd
def zhg{h:T Ob}{lo c:Nat}{d:D}{q:CQ}(H:CsD h lo c d q)(hd:d.isF=true):d= .f .nils/\q.cs=[]/\q.ne=false:=by
 rcases H with⟨h1,h2,h3⟩ |⟨Y,tail,ex,h1,-⟩
 .exact⟨h1,h2,h3⟩
 .rw[h1]at hd;cases hd
def zAF(q:CQ)(hq:CqG q){h:T Ob}{c0:Nat}:Eff pr 26 [.ag [.f (zaB q),.f (zaC q)]] h c0 fun d h' c'=>Frm h h' c0/\∃dA dC,d= .ag [dA,dC]/\MQ h' c0 c' dA dC (cop q)/\CsE h' c0 c' dC (cop q):=by
 refine zci zbi fn26 ?_;simp only[g26,rU];simp[rW,st0,zae,zaF,zaH];refine zcz rfl rfl (zO2 q (by have:=hq.sc;omega)) ?_;rintro dC h' c' lw mx ⟨hf,hO⟩ hcc;simp only[rG]at hf hO hcc;have e0:=hf c0 (by omega);have e1:=hf (c0+1) (by omega);have n01:¬(c0=c0+1):=by omega
 simp[Vse.T.zad,n01]at e0 e1;have hcd:=zfg (zhz hO);have n0:¬(c0=c'):=by omega
 have n1:¬(c0+1=c'):=by omega
 have hfr:Frm h h' c0:=fun x hx=>by
  rw[hf x (by omega)];have a1:¬x=c0:=by omega
  have a2:¬x=c0+1:=by omega
  simp[Vse.T.zad,a1,a2]
 simp[rW,e0,e1,hcd,n0,n1,za1];refine zdi q.as.length (XK1 h q c0) (fun x s=>x= .exit 0/\XK1 h q c0 q.as.length s) ?_ ?_ _ ?_ ?_
 .rintro n s hn ⟨P,B,dC,xs,⟨h2,h3,h11,h12,h13⟩,gz,gP,hC,hA,hPc,hP2,hF⟩;have hw:=zao n (by have:=hq.sa;omega);have hx:q.as[n]? =some q.as[n]:=Z0 hn;have hst:=hq.st _ (Z1 hn);have htn:=hq.tn _ (Z1 hn);have htk:=Z6 hn;generalize hAn:q.as[n]=A at hx hst htk htn;simp[rW,h2,h3,h11,h12,h13,gz,gP,hn,zbh,hx,hAn,atE,zaR];refine zcz rfl rfl (zO4 A.ts (by omega) htn) ?_;rintro d H2 c2 lw2 mx2 ⟨hf2,X,rfl,gX,hX1,hX2⟩ hcc2;simp only[rG]at hf2 hcc2 hX1 hX2;have eP:=hf2 P (by omega);have eQ:=hf2 s.c (by omega);have e1:=hf2 (c0+1) (by omega);have nP:¬(P=s.c):=by omega
  have nP':¬(s.c=P):=by omega
  have n1:¬(c0+1=s.c):=by omega
  have np1:¬(c0+1=P):=by omega
  simp[Vse.T.zad,nP,n1,gP,gz]at eP eQ e1;have hlow:∀j,j<s.c->H2.get j=s.h.get j:=fun j hj=>by
   have:=hf2 j (by omega);have nj:¬j=s.c:=by omega
   simpa [Vse.T.zad,nj]using this
  have hrl:(List.zipWith atR (q.as.take n) xs).length<=12:=by
   have:=hq.sa;simp;omega
  have nP2:¬(P=c2):=by omega
  have n1c:¬(c0+1=c2):=by omega
  simp[rW,h2,h3,h11,h12,h13,eP,eQ,e1,nP,nP',nP2,n1c,zaR,zmB];refine⟨by omega,?_⟩;have hB2:∀x,B.oid=some x->P+1<=x/\x<s.c:=fun x hx=>zbW hA.gr hx
  refine zey (zaS (c':=c2+1) hA.gr (by omega) fun x h1 h2=> ?_) (by omega) (by simp only[Z23,List.length_nil];omega) (by omega) ?_
  .have nx:¬(x=s.c):=by omega
   have nx2:¬(x=c2):=by omega
   simp[Vse.T.zad,nx,nx2];exact hlow x h2
  intro r hr1 hr2 hr3 hr4 hr5;have hPr:=hr4 P (by omega) (za5 hA.gr (by omega));have h1r:=hr4 (c0+1) (by omega) (za5 hA.gr (by omega));simp[Vse.T.zad,nP,n1,nP2,n1c,eP,e1]at hPr h1r;have hr6:∀x,x<c2->x≠s.c->B.oid≠some x->(wrT _ r.wr).get x=H2.get x:=fun x h1 h2 h3=>by
   have nx2:¬(x=c2):=by omega
   rw[hr4 x (by omega) h3];simp[Vse.T.zad,h2,nx2]
  refine⟨hr1,?_⟩;simp[rW,hPr,za3 hr2,nP2,n1c];refine⟨by omega,?_⟩;have hlnx:(q.as.take n).length=xs.length:=hA.ln.symm;have hnl:xs.length=n:=by rw[hA.ln];simp;omega
  refine⟨P,r.d,dC,xs++[X],?_,?_,?_,?_,?_,?_,hP2,?_⟩
  .simp[rW,h2,h3,h11,h12,h13,hw]
  .simp[rW,h1r,np1]
  .simp[rW,hPr]
  .refine zlo hC (fun x h1 h2=> ?_) (Z2 _) (Z2 _);have nx:¬(x=P):=by omega
   simp[rW,nx];rw[hr6 x (by omega) (by omega) (za5 hA.gr (by omega)),hlow x (by omega)]
  .rw[htk];refine⟨by simp;omega,?_,fun x hx=> ?_,fun k hk hkx=> ?_,?_,fun Bx hBx hm=> ?_⟩
   .refine List.nodup_append.2 ⟨hA.nd,by simp,fun x hx y hy=> ?_⟩;have h1:=hA.rg x hx;have h2:y=X:=by simpa using hy
    omega
   .simp[rW,];rcases Z4.1 hx with hx|hx
    .have:=hA.rg x hx;omega
    .have:x=X:=by simpa using hx
     omega
   .by_cases hkn:k<n
    .have hk1:k< (q.as.take n).length:=by simp;omega
     have hk2:k<xs.length:=by omega
     have h1:=hA.rg _ (Z1 hk2);have h2:=hA.rw k hk1 hk2;rw[List.getElem_append_left hk1,List.getElem_append_left hk2];have nx:¬(xs[k]=P):=by omega
     simp[rW,nx];rw[hr6 _ (by omega) (by omega) (fun e=>hA.oi _ e (Z1 hk2)),hlow _ (by omega)];simpa [List.getElem_take]using h2
    .have hk3:k=n:=by simp at hk;omega
     subst hk3;have g1:(q.as.take k++[A])[k]=A:=by rw[List.getElem_append_right (by simp;omega)];simp
     have g2:(xs++[X])[k]=X:=by rw[List.getElem_append_right (by omega)];simp
     rw[g1,g2];have nx:¬(X=P):=by omega
     simp[rW,nx];rw[hr6 _ (by omega) (by omega) (fun e=>by have:=hB2 _ e;omega)];exact gX
   .have e:List.zipWith atR (q.as.take n++[A]) (xs++[X])=List.zipWith atR (q.as.take n) xs++[[.f (.s A.r),.f (.b A.neg),.sl X 0 A.ts.length 4 A.ts.length false]]:=by
     rw[List.zipWith_append hlnx];rfl
    rw[e];refine zaS hr2 (by simp[rW,]) fun x h1 h2=> ?_
    have nx:¬(x=P):=by omega
    simp[rW,nx]
   .rcases hr5 Bx hBx with h1|h1
    .rcases Z4.1 hm with hm|hm
     .have:=hA.rg Bx hm;omega
     .have:Bx=X:=by simpa using hm
      omega
    .rcases Z4.1 hm with hm|hm
     .exact hA.oi Bx h1 hm
     .have:=hB2 Bx h1;have:Bx=X:=by simpa using hm
      omega
  .simp[rW,];omega
  .intro x hx;have nx:¬(x=P):=by omega
   simp[rW,nx];rw[hr6 x (by omega) (by omega) (za5 hA.gr (by omega)),hlow x (by omega)];exact hF x hx
 .rintro s ⟨P,B,dC,xs,⟨h2,h3,h11,h12,h13⟩,gz,gP,hC,hA,hPc,hP2,hF⟩;simp[rW,h2,h3,h11,h12,h13];refine⟨P,B,dC,xs,?_,gz,gP,hC,hA,hPc,hP2,hF⟩;simp[rW,h2,h3,h11,h12,h13]
 .refine⟨c',.f .nils,dC,[],?_,?_,?_,?_,?_,?_,by omega,?_⟩
  .simp[rW,]
  .simp[rW,e1,n1]
  .simp[rW,]
  .refine zlo hO (fun x h1 h2=> ?_) (by omega) (Z2 _);have nx:¬(x=c'):=by omega
   simp[rW,nx]
  .exact⟨by simp,by simp,by simp,by simp,.inl ⟨rfl,by simp⟩,by simp[D.oid]⟩
  .simp[rW,]
  .intro x hx;have nx:¬(x=c'):=by omega
   simp[rW,nx];exact hfr x hx
 .rintro x s ⟨rfl,P,B,dC,xs,⟨h2,h3,h11,h12,h13⟩,gz,gP,hC,hA,hPc,hP2,hF⟩;rw[Z7]at hA;have nP1:¬(P=c0+1):=by omega
  simp[rW,h2,h3,h11,h12,h13,gz,gP,nP1,za3 hA.gr,zfg (zhz hC),zbl];have hupd:∀x,x≠c0+1->(s.h.set (c0+1) (.arr 2 0 [[B,dC]])).get x=s.h.get x:=fun x hx=>by simp[Vse.T.zad,hx]
  refine⟨by omega,⟨fun x hx=> ?_,B,dC,⟨rfl,rfl⟩,⟨xs,?_,?_,fun Y hY=> ?_⟩,?_⟩,fun _ hb hc'=>⟨fun _ _=>rfl,_,_,⟨(zl4 hA hb).1,(zhg (zhz hC) hc').1⟩,⟨MQ.nil (zl4 hA hb).2 (zhg (zhz hC) hc').2.1 (zhg (zhz hC) hc').2.2,.inl ⟨rfl,(zhg (zhz hC) hc').2⟩⟩⟩⟩
  .rw[hupd x (by omega)];exact hF x hx
  .exact hA.up (fun x h1 h2=>hupd x (by omega)) (by omega) (Z2 _)
  .exact zhz (zlo hC (fun x h1 h2=>hupd x (by omega)) (by omega) (by omega))
  .have h1:=zpP (zhz hC) hY;exact⟨fun hm=>by have:=hA.rg Y hm;omega,fun e=>by have:=zbW hA.gr e;omega⟩
  .exact zlo hC (fun x h1 h2=>hupd x (by omega)) (by omega) (by omega)
def zOZ(q:CQ)(hq:CqG q){h:T Ob}{c0:Nat}:Eff pr 26 [.ag [.f (zaB q),.f (zaC q)]] h c0 fun d h' c'=>Frm h h' c0/\∃dA dC,d= .ag [dA,dC]/\MQ h' c0 c' dA dC (cop q):=by
 obtain⟨r,h1,⟨h2,dA,dC,h3,h4,-⟩,h5⟩ :=zAF q hq (h:=h) (c0:=c0);exact⟨r,h1,⟨h2,dA,dC,h3,h4⟩,h5⟩
end Go.Proofs.YtmnkdfjljkhneaaGreat
end
