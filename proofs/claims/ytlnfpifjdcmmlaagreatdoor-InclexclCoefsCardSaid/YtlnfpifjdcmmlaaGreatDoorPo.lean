/- The builders of the law ContainmentTells: And, head. -/
import Derived.Test.YtlnfpifjdcmmlaaGreatDoorPm
import Derived.Test.YtlnfpifjdcmmlaaGreatDoorFct
import Derived.KernelRfl
import Derived.IntWalk
import Derived.Test.YtlnfpifjdcmmlaaGreatDoorPn
set_option linter.all false
set_option maxRecDepth 100000
set_option maxHeartbeats 4000000
noncomputable section
section
namespace Go.Proofs.YtlnfpifjdcmmlaaGreatDoor
open Go Go.Vse Go.Vse.Sm
def fn19:pr.fn 19=some g19:=by kernel_rfl
def zgM(a:Int)(m:Nat)(hm:m<2147483648):∃r:Nat,r<=m/\za3 .and (.i .i64 a) (.i .i64 m)=some (.i .i64 r):=by
 refine⟨(BitVec.ofInt 64 a&&& BitVec.ofInt 64 m).toNat,?_,?_⟩
 .rw[BitVec.toNat_and];refine Z4 Nat.and_le_right ?_;rw[BitVec.toNat_ofInt];omega
 .have hle:(BitVec.ofInt 64 a&&& BitVec.ofInt 64 m).toNat<=m:=by
   rw[BitVec.toNat_and];refine Z4 Nat.and_le_right ?_;rw[BitVec.toNat_ofInt];omega
  have e:za3 .and (.i .i64 a) (.i .i64 m)=some (.i .i64 (IntKind.i64.wrap ((BitVec.ofInt 64 a&&& BitVec.ofInt 64 m).toNat:Int))):=rfl;rw[e,wrap_i64 _ (by omega) (by omega)]
def zfR(x:F):Prop:=x= .nils\/∃zs:List Int,x= .sl 1 (zs.map fun z=>[.i .i64 z])
def zgW(a b:Nat)(hb:b≠0):za3 .rem (.i .i64 a) (.i .i64 b)=some (.i .i64 ((a%b:Nat):Int)):=by
 rw[zFN _ _ (by omega)];rfl
def fn18:pr.fn 18=some g18:=by kernel_rfl
def fn37:pr.fn 37=some g37:=by kernel_rfl
def fn9:pr.fn 9=some g9:=by kernel_rfl
def zMD(f:A->Option D)(x:A):(O.s2b x).res f=(f x).bind fun y=>some (.s2b y):=rfl
def zMa(f:A->Option D)(x:A):(O.b2s x).res f=(f x).bind fun y=>some (.b2s y):=rfl
def o_s2b{pr:Pr}{s:St}{Q:St->Prop}{dst:Option Nat}{l:List Go.Vse.Op}{x:A}:wpO pr (⟨dst,none,.s2b x⟩ ::l) s Q↔oB (((O.s2b x).res (zad s.tm)).bind (opv s.h.get s.c)) fun r=>zao r.c r.wr=true/\wpO pr l (s.aft dst r.d r.wr r.c) Q:=zc1 rfl
def o_b2s{pr:Pr}{s:St}{Q:St->Prop}{dst:Option Nat}{l:List Go.Vse.Op}{x:A}:wpO pr (⟨dst,none,.b2s x⟩ ::l) s Q↔oB (((O.b2s x).res (zad s.tm)).bind (opv s.h.get s.c)) fun r=>zao r.c r.wr=true/\wpO pr l (s.aft dst r.d r.wr r.c) Q:=zc1 rfl
def byE(l:Str):List (List D):=l.map fun x=>[D.f (.i .u8 x.toNat)]
def v_s2b{h:Nat->Option Ob}{c:Nat}{l:Str}(hl:l≠[]):opv h c (.s2b (.f (.s l)))=some {d:= .sl c 0 l.length 1 l.length false,wr:=[(c,some (.arr 1 0 (byE l)))],c:=c+1}:=by
 simp[opv,hl,byE]
theorem zDl:∀l:Str,zdo (byE l)=some l
 |[]=>rfl
 |x::l=>by
  have:=zDl l;simp only[byE,Z11,zdo]at this|-;rw[this];simp
def v_b2s{h:Nat->Option Ob}{c id len lim:Nat}{ex:Bool}{l:Str}(hg:h id=some (.arr 1 0 (byE l)))(hl:l.length=len):opv h c (.b2s (.sl id 0 len 1 lim ex))=some {d:= .f (.s l),rd:=[id],c:=c}:=by
 have h1:(byE l).length=l.length:=by simp[byE]
 have h2:elemsOf 1 h (.sl id 0 len 1 lim ex)=some (byE l,[id]):=by
  rw[zlK,hg,zcN,zh4,if_pos ⟨rfl,rfl,by omega⟩,Z35,<-hl,<-h1,Z8]
 simp only[opv,h2,zDl]
def zHj(a b:Nat)(hb:b≠0)(ha:a<1000000):za3 .quo (.i .i64 a) (.i .i64 b)=some (.i .i64 ((a/b:Nat):Int)):=by
 have:=Nat.div_le_self a b;rw[zFM _ _ (by omega),show(a:Int).tdiv b=((a/b:Nat):Int)from rfl];generalize a/b=q at*;rw[wrap_i64 _ (by omega) (by omega)]
def zFi(a b:Nat)(ha:a<1000000)(hb:b<1000000):IntKind.i64.wrap ((a:Int)+b)=((a+b:Nat):Int):=by
 rw[wrap_i64 _ (by omega) (by omega)];omega
def ans18{x:F}(hx:zfR x)(i:Nat)(hi:i<1000):∃n:Nat,n<100000/\Ans pr 18 [x,.i .i64 i] (.i .i64 n):=by
 obtain⟨r0,hr0,he0⟩ :=zgM i 65535 (by omega);have he0':za3 .and (.i .i64 i) (.i .i64 65535)=some (.i .i64 r0):=he0;have nil:zbn (.f .nils)=some 0:=rfl
 by_cases hz:x= .nils\/x= .sl 1 []
 .refine⟨r0,by omega,zco fn18 ?_⟩;simp only[g18,rU];rcases hz with rfl|rfl
  .simp[rW,st0,zaj,he0']
  .simp[rW,st0,zaj,he0',F.d]
 .rcases hx with rfl|⟨zs,rfl⟩
  .exact absurd (.inl rfl) hz
  .have hz:zs≠[]:=fun e=>hz (.inr (by rw[e];rfl))
   have hlen:0<zs.length:=List.length_pos_iff.2 hz;have hn0:¬zs.length=0:=by omega
   have hni:¬((zs.length:Int)=0):=by omega
   have hmod:i%zs.length<zs.length:=Nat.mod_lt _ hlen;have hrem:=zgW i zs.length hn0;have hquo:=zHj i zs.length hn0 (by omega);have hdl:i/zs.length<=i:=Nat.div_le_self _ _;generalize i%zs.length=m at hmod hrem;generalize i/zs.length=d at hquo hdl;obtain⟨r,hr,he⟩ :=zgM zs[m] 65535 (by omega);have he':za3 .and (.i .i64 zs[m]) (.i .i64 65535)=some (.i .i64 r):=he;have hx:zs[m]? =some zs[m]:=Z0 hmod;have hw:=zFi r d (by omega) (by omega);refine⟨r+d,by omega,zco fn18 ?_⟩;simp only[g18,rU];simp[rW,st0,zaj,hni,hn0,F.d];refine zaL ?_;simp[rW,st0,zaj,hrem,hquo,hmod,he',hx,hw,F.d]
def bin8(a b:Int):za3 .eql (.i .u8 a) (.i .u8 b)=some (.b (a==b)):=rfl
def zzd{R:Str}(h:R≠[]):hd8 (byE R)=true:=by
 cases R with
 |nil=>exact absurd rfl h
 |cons a l=>rfl
def JR(r z:Nat)(p:Str)(n:Nat)(s:St):Prop:=(s.tm.get 1=some (.f (.i .i64 z))/\s.tm.get 4=some (.ptr 0 2 0 0)/\s.tm.get 5=some (.sl 1 0 p.length 1 p.length false)/\s.tm.get 6=some (.f (.i .i64 n))/\s.h.get 0=some (.arr 2 0 [[.f .nils,.f .nils]])/\s.h.get 1=some (.arr 1 0 (byE ((p.take n).map (rb r)++p.drop n))))/\2<=s.c
def ans37(p:Str)(z:Nat)(c:CQ)(hp:p≠[])(hl:p.length<1000)(h:Ans pr 16 [.s (p.map (rb (z%3)))] (.tu [.ag [.nils,.sl 2 [cqF c]],.i .i64 0])):Ans pr 37 [.s p,.i .i64 z] (.ag (cqF c)):=by
 refine zco fn37 ?_;simp only[g37,rU];have hs2b:=fun h c=>v_s2b (h:=h) (c:=c) hp
 have hrem:=zgW z 3 (by omega);rw[show((3:Nat):Int)=3 from rfl]at hrem;have hr3:z%3<3:=Nat.mod_lt _ (by omega);generalize z%3=r at h hrem hr3;have q76:=fun k=>zaB (k:=k) h
 have hbl:∀n,((p.take n).map (rb r)++p.drop n).length=p.length:=fun n=>by simp;omega
 simp[rW,st0,zaj,o_s2b,zMD,hs2b];refine zeF p (fun(x:Unit) _=>x) () (fun n _ s=>JR r z p n s) (fun x s=>x= .exit 0/\JR r z p p.length s) ?_ ?_ _ ?_ ?_
 .rintro n a s hn - ⟨⟨h1,h4,h5,h6,g0,g1⟩,hc⟩;have hw:=zaq n (by omega);have hL:=hbl n;have hx:((p.take n).map (rb r)++p.drop n)[n]? =some p[n]:=by
   rw[List.getElem?_append_right (by simp;omega)];simp[hn,Nat.min_eq_left (Nat.le_of_lt hn)]
  have hnx:(p.take (n+1)).map (rb r)++p.drop (n+1)=((p.take n).map (rb r)++p.drop n).set n (rb r p[n]):=by
   have e:n - (List.map (rb r) (List.take n p)).length=0:=by simp;omega
   rw[List.set_append_right _ _ (by simp;omega),e,Z7 hn,List.drop_eq_getElem_cons hn,Z21,Z33];rfl
  generalize hR:(p.take n).map (rb r)++p.drop n=R at*;have hbe:(byE R)[n]? =some [D.f (.i .u8 p[n].toNat)]:=by simp[byE,hx]
  have hbn:(byE R).length=p.length:=by simp[byE,hL]
  have hbg:∀h:n< (byE R).length,(byE R)[n]=[D.f (.i .u8 p[n].toNat)]:=fun h=>by
   rw[Z0 h]at hbe;exact Option.some.inj hbe
  have hst:(byE R).set n [D.f (.i .u8 (rb r p[n]).toNat)]=byE (R.set n (rb r p[n])):=by
   unfold byE;rw[List.map_set]
  have hR0:R≠[]:=fun e=>by rw[e]at hL;simp at hL;omega
  have h81:=zzd hR0
  by_cases h64:p[n]=64
  .have hcv:IntKind.u8.wrap (49+(r:Int))=((rb r 64).toNat:Int):=by
    obtain rfl|rfl|rfl:r=0\/r=1\/r=2:=by omega
    all_goals rfl
   have hv:IntKind.i64.wrap (49+(r:Int))=49+(r:Int):=wrap_i64 _ (by omega) (by omega);rw[h64]at hbg hst hnx;have h82:=zzd (R:=R.set n (rb r 64)) (by simpa using hR0);simp[rW,h1,h4,h5,h6,g0,g1,hn,hbg,hbn,hrem,hv,hcv,bin8,hst,h81,h82];refine⟨by omega,⟨?_,?_⟩⟩
   .simp[rW,h1,h4,h5,h6,g0,g1,hw,hnx];rw[<-hnx,List.map_take]
   .simp[rW,hc]
  .have hne:¬((p[n].toNat:Int)=64):=fun e=>h64 (UInt8.toNat_inj.1 (by have:UInt8.toNat 64=64:=rfl;omega))
   have hrb:rb r p[n]=p[n]:=by unfold rb;rw[if_neg h64]
   rw[hrb,<-Option.some.inj ((Z0 (by omega)).symm.trans hx),List.set_getElem_self]at hnx;simp[rW,h1,h4,h5,h6,g0,g1,hn,hbg,hbn,h64,bin8,hne];refine⟨?_,?_⟩
   .simp[rW,h1,h4,h5,h6,g0,g1,hw,hnx];rw[<-hnx,List.map_take]
   .simp[rW,hc]
 .rintro s ⟨⟨h1,h4,h5,h6,g0,g1⟩,hc⟩;simp[rW,h1,h4,h5,h6,g0,g1];refine⟨?_,?_⟩
  .simp[rW,h1,h4,h5,h6,g0,g1]
  .simp[rW,hc]
 .refine⟨?_,?_⟩
  .simp[rW,]
  .simp[rW,]
 .rintro x s ⟨rfl,⟨h1,h4,h5,h6,g0,g1⟩,hc⟩;rw[Z8,List.drop_length,Z23]at g1;have hb2s:=fun(h:Nat->Option Ob) c (hg:h 1=some (.arr 1 0 (byE (p.map (rb r)))))=>v_b2s (c:=c) (lim:=p.length) (ex:=false) hg (len:=p.length) (by simp)
  have n0:¬(0=s.c):=by omega
  have n0':¬(s.c=0):=by omega
  simp only[cqE]at q76|-;simp[rW,h1,h4,h5,h6,g0,g1,o_b2s,zMa,hb2s,q76,n0,n0',zcH,zcI]
def fn20:pr.fn 20=some g20:=by kernel_rfl
def pick{L:List (List F)}(h:∀x∈L,RdX x){j:Nat}(hj:j<L.length)(z:Nat):∃c∈CQl,∃p,L[j]? =some [.s p]/\Ans pr 37 [.s p,.i .i64 z] (.ag (cqF c)):=by
 obtain⟨p,e,h1,h2,h3⟩ :=h L[j] (Z2 hj);obtain⟨c,hc,q⟩ :=h3 (z%3) (Nat.mod_lt _ (by omega));exact⟨c,hc,p,by rw[Z0 hj,e],ans37 p z c h1 h2 q⟩
def ans19(n:Int):∃c∈CQl,Ans pr 19 [.i .i64 n] (.ag (cqF c)):=by
 obtain⟨r,hr,he⟩ :=zgM n 65535 (by omega);obtain⟨z,hz⟩ :∃z:Int,za3 .shr (.i .i64 n) (.i .u64 6)=some (.i .i64 z):=⟨_,rfl⟩
 obtain⟨k,hk,hke⟩ :=zgM z 7 (by omega);have he':za3 .and (.i .i64 n) (.i .i64 65535)=some (.i .i64 r):=he;have hke':za3 .and (.i .i64 z) (.i .i64 7)=some (.i .i64 k):=hke;have hrem:=zgW r 24 (by omega);rw[show((24:Nat):Int)=24 from rfl]at hrem;have hpl:paL.length=24:=rfl;have hj:r%24<paL.length:=by rw[hpl];exact Nat.mod_lt _ (by omega)
 generalize r%24=j at hrem hj;obtain⟨c,hc,p,hp,h38⟩ :=pick rdA hj k;have hp2:∀h:j<paL.length,paL[j]=[.s p]:=fun h=>by
  rw[Z0 h]at hp;exact Option.some.inj hp
 simp only[cqE]at h38;rw[hpl]at hj;have q37:=fun k=>zaB (k:=k) ans36
 have q38:=fun k=>zaB (k:=k) h38
 refine⟨c,hc,zco fn19 ?_⟩;simp only[g19,rU];simp -implicitDefEqProofs [rR,st0,zaj,q37,he',hz,hke',hrem,hp,hpl,hp2,hj,q38,cqE,zcH,zcI]
def ans20(n:Nat):∃c∈CQl,Ans pr 20 [.i .i64 n] (.ag (cqF c)):=by
 obtain⟨r,hr,he⟩ :=zgM n 65535 (by omega);obtain⟨z,hz⟩ :∃z:Int,za3 .shr (.i .i64 n) (.i .u64 6)=some (.i .i64 z):=⟨_,rfl⟩
 obtain⟨k,hk,hke⟩ :=zgM z 7 (by omega);have he':za3 .and (.i .i64 n) (.i .i64 65535)=some (.i .i64 r):=he;have hke':za3 .and (.i .i64 z) (.i .i64 7)=some (.i .i64 k):=hke;have hrem:=zgW r 18 (by omega);rw[show((18:Nat):Int)=18 from rfl]at hrem;have hpl:poL.length=18:=rfl;have hj:r%18<poL.length:=by rw[hpl];exact Nat.mod_lt _ (by omega)
 generalize r%18=j at hrem hj;obtain⟨c,hc,p,hp,h38⟩ :=pick rdO hj k;have hp2:∀h:j<poL.length,poL[j]=[.s p]:=fun h=>by
  rw[Z0 h]at hp;exact Option.some.inj hp
 simp only[cqE]at h38;rw[hpl]at hj;have q77:=fun k=>zaB (k:=k) ans38
 have q38:=fun k=>zaB (k:=k) h38
 refine⟨c,hc,zco fn20 ?_⟩;simp only[g20,rU];simp -implicitDefEqProofs [rR,st0,zaj,q77,he',hz,hke',hrem,hp,hpl,hp2,hj,q38,cqE,zcH,zcI]
def atZ{x:F}(hx:zfR x):∃z:Nat->Nat,∀i,i<1000->z i<100000/\Ans pr 18 [x,.i .i64 i] (.i .i64 (z i)):=by
 have:∀i:Nat,∃n:Nat,i<1000->n<100000/\Ans pr 18 [x,.i .i64 i] (.i .i64 n):=fun i=>by
  by_cases hi:i<1000
  .obtain⟨n,h⟩ :=ans18 hx i hi;exact⟨n,fun _=>h⟩
  .exact⟨0,fun h=>absurd h hi⟩
 exact Classical.skolem.1 this
def zlO{x:F}(hx:zfR x):x.d= .f x:=by
 rcases hx with rfl|⟨zs,rfl⟩
 .rfl
 .rfl
def zHh{h:T Ob}{lo c id:Nat}{l:List Str}(hl:l≠[])(hg:h.get id=some (.arr 1 0 (zbi l)))(h1:lo<=id)(h2:id<c):Own h lo c (.sl id 0 l.length 1 l.length true) (zaQ l):=by
 refine⟨.inr ⟨_,_,_,_,_,_,rfl⟩,rfl,fun x hx=> ?_,fun h' hh k=>⟨[id],?_⟩⟩
 .simp only[D.oid,Z46]at hx;omega
 .rw[zfW,hh id rfl,hg,zcN,zfA];simp only[true_and,Z26,zbW,Z3,if_true,Z35,zhA,zg4,zcN];rw[ztA hl]
def XQ(x:F)(hd:List Str)(L:List CQ)(P:Nat)(s:St):Prop:=∃d dh,(s.tm.get 0=some (.f x)/\s.tm.get 2=some (.ptr 0 2 0 0)/\s.tm.get 3=some (.ptr 1 2 0 0)/\s.h.get 0=some (.arr 2 0 [[.f .nils,.f .nils]])/\s.h.get 1=some (.arr 2 0 [[dh,d]]))/\2<=P/\P<=s.c/\Own s.h 2 P dh (zaQ hd)/\Gro s.h P s.c 2 d (zcZ L)
def b13:C:= .seq (oD [oM 12 4,oM 13 0,oR 14 (.callp 18 [(.t 13),(.k (.i .i64 1))]),oR 15 (.bin .rem (.t 14) (.k (.i .i64 3))),oR 16 (.bin .leq (.t 12) (.t 15))] 16 .skip (.exit 0))
 (.seq (.blk 1 (.dreg [(oF 19 1 3,0),(oK 20 1 19,0),(oM 21 0,3),(oM 22 4,7),(oR 23 (.bin .add (.k (.i .i64 2)) (.t 22)),7),(oR 24 (.callp 18 [(.t 21),(.t 23)]),3),(oR 25 (.callp 20 [(.t 24)]),3),(oR 26 (.bsf 2 [.nils,.nils] 1 [(0,(.t 25))]),3),(oR 27 (.app 2 48 (.t 20) (.t 26)),0),(oF 28 1 3,0),(oS 1 28 27,0)]))
 (.reg [oM 17 4,oR 18 (.bin .add (.t 17) (.k (.i .i64 1))),oM 4 18]))
def zn3(cf:Nat->CQ)(n:Nat):(List.range (n+1)).map cf=(List.range n).map cf++[cf n]:=by
 rw[List.range_succ,Z21];rfl
def lp13{x:F}(hx:zfR x){z:Nat->Nat}(hz:∀i,i<1000->z i<100000/\Ans pr 18 [x,.i .i64 i] (.i .i64 (z i))){cf:Nat->CQ}(hcf:∀i,i<10->Ans pr 20 [.i .i64 (z (2+i))] (.ag (cqF (cf i)))){hd:List Str}{P:Nat}{Q:Ex->St->Prop}(s:St)(h:XQ x hd [] P s)(h4:s.tm.get 4=some (.f (.i .i64 0)))(hQ:∀s,XQ x hd ((List.range (z 1%3+1)).map cf) P s->Q (.exit 0) s):WL pr b13 s Q:=by
 have h36:Ans pr 18 [x,.i .i64 1] (.i .i64 (z 1)):=(hz 1 (by omega)).2;have q36:=fun k=>zaB (k:=k) h36
 have hrem:=zgW (z 1) 3 (by omega);rw[show((3:Nat):Int)=3 from rfl]at hrem;have hm:z 1%3<3:=Nat.mod_lt _ (by omega);generalize z 1%3=m at hrem hm hQ;refine zcL (fun k s=>∃n:Nat,(k=m+1 - n/\n<=m+1)/\XQ x hd ((List.range n).map cf) P s/\s.tm.get 4=some (.f (.i .i64 n))) (fun e s=>e= .exit 0/\XQ x hd ((List.range (m+1)).map cf) P s) ?_ (m+1) _ ⟨0,⟨rfl,by omega⟩,h,h4⟩ (by rintro e s ⟨rfl,h⟩;exact hQ s h);clear h h4 hQ s;rintro k s ⟨n,⟨rfl,hn⟩,⟨d,dh,⟨h0,h2,h3,g0,g1⟩,hP,hPc,hO,hg⟩,h4⟩;unfold b13;simp only[rU]
 by_cases hle:n<=m
 .have h36n:=(hz (2+n) (by omega)).2;rw[Int.natCast_add,show((2:Nat):Int)=2 from rfl]at h36n;have q36n:=fun k=>zaB (k:=k) h36n
  have q39:=fun k=>zaB (k:=k) (hcf n (by omega))
  have hw:=zaq n (by omega);have hw2:IntKind.i64.wrap (2+(n:Int))=2+(n:Int):=wrap_i64 _ (by omega) (by omega);simp only[cqE]at q39;simp[rW,h0,h2,h3,g0,g1,h4,q36,hrem,hle];refine zaL ?_;simp[rW,h0,h2,h3,g0,g1,h4,hw2,q36n,q39,cqE,zcH,zcI];refine zfC (zbr hg (by omega) fun _ _ _=>rfl) (by omega) (by rw[zdD];simp;omega) (by omega) ?_;intro r hr1 hr2 hr3 hr4 hr5;have e0:=hr4 0 (by omega) (zbN hg (by omega));have e1:=hr4 1 (by omega) (zbN hg (by omega));rw[g0]at e0;rw[g1]at e1;refine⟨hr1,?_⟩;simp[rW,e1,zbO hr2];rw[zcf];refine⟨m+1 - (n+1),by omega,n+1,⟨rfl,by omega⟩,⟨r.d,dh,?_,hP,?_,?_,?_⟩,?_⟩
  .simp[rW,h0,h2,h3,e0,e1]
  .simp[rW,];omega
  .refine hO.up (fun y hy=> ?_) (Z3 _) (Z3 _);have hy2:=hO.2.2.1 y hy;have e:=hr4 y (by omega) (zbN hg (by omega));have ny:¬(y=1):=by omega
   simp[rW,ny,e]
  .rw[zn3,zhq];refine zbr hr2 (by simp[rW,];omega) fun y h1 h2=> ?_
   have ny:¬(y=1):=by omega
   simp[rW,ny]
  .simp[rW,hw]
 .have e:n=m+1:=by omega
  subst e;have hl:¬((m:Int)+1<=m):=by omega
  simp[rW,h0,h2,h3,g0,g1,h4,q36,hrem,hl];refine⟨d,dh,?_,hP,?_,?_,?_⟩
  .simp[rW,h0,h2,h3,g0,g1]
  .simp[rW,];exact hPc
  .simp[rW,];exact hO
  .simp[rW,];exact hg
def zBl{x:F}{hd:List Str}{L:List CQ}{P:Nat}{s:St}(h:XQ x hd L P s):∃d dh,(s.tm.get 2=some (.ptr 0 2 0 0)/\s.tm.get 3=some (.ptr 1 2 0 0)/\s.h.get 0=some (.arr 2 0 [[.f .nils,.f .nils]])/\s.h.get 1=some (.arr 2 0 [[dh,d]]))/\d.cells=some [d]/\dh.cells=some [dh]/\(∃rd,frz (s.h.set 0 (.arr 2 0 [[dh,d]])).get 11 d=some (qsF L,rd))/\(∃rd,frz (s.h.set 0 (.arr 2 0 [[dh,d]])).get 11 dh=some (zaQ hd,rd))/\2<=s.c:=by
 obtain⟨d,dh,⟨h0,h2,h3,g0,g1⟩,hP,hPc,hO,hg⟩ :=h;have hh2:∀y,y≠0->(s.h.set 0 (.arr 2 0 [[dh,d]])).get y=s.h.get y:=fun y hy=>by simp[Vse.T.zab,hy]
 exact⟨d,dh,⟨h2,h3,g0,g1⟩,zbO hg,hO.2.1,zh7 (k:=10) (zbr (h':=s.h.set 0 (.arr 2 0 [[dh,d]])) hg (Z3 _) (fun y h1 _=>hh2 y (by omega))) (zmx _ 9 _) (by simp[zcZ]),hO.2.2.2 _ (fun y hy=>hh2 y (by have:=hO.2.2.1 y hy;omega)) 9,by omega⟩
def clF{cf:Nat->CQ}(h:∀i,cf i∈CQl)(n:Nat):∀c∈(List.range n).map cf,CqN 1 c:=by
 intro c hc;obtain⟨i,_,rfl⟩ :=Z13.1 hc;exact cqAll _ (h i)
def QN(l:List CQ):Prop:=l≠[]/\l.length<=3/\∀c∈l,CqN 1 c
def ans9{x:F}(hx:zfR x):∃hd l,hd.length<10/\QN l/\Ans pr 9 [x] (.ag [zaQ hd,qsF l]):=by
 obtain⟨z,hz⟩ :=atZ hx;obtain⟨cf,hcf⟩ :=Classical.skolem.1 fun i=>ans20 (z (2+i))
 have h0:Ans pr 18 [x,.i .i64 0] (.i .i64 (z 0)):=(hz 0 (by omega)).2;have q0:=fun k=>zaB (k:=k) h0
 have hrem:=zgW (z 0) 2 (by omega);rw[show((2:Nat):Int)=2 from rfl]at hrem;have hr2:z 0%2<2:=Nat.mod_lt _ (by omega);generalize z 0%2=r at hrem hr2;have hm:z 1%3<3:=Nat.mod_lt _ (by omega);have hc2:(D.f x).cells=some [.f x]:=by rcases hx with rfl|⟨zs,rfl⟩ <;>rfl
 refine⟨if r=1 then[[120]]else[],(List.range (z 1%3+1)).map cf,by split<;>simp,⟨by simp,by simp;omega,clF (fun i=>(hcf i).1) _⟩,zco fn9 ?_⟩;simp only[g9,rU]
 by_cases h1:r=1
 .have h1':((r:Int)=1):=by omega
  rw[if_pos h1];simp[rW,st0,zaj,zlO hx,q0,hrem,h1',hc2];refine lp13 hx hz (fun i _=>(hcf i).2) (P:=3) (hd:=[[120]]) _ ⟨.f .nils,.sl 2 0 1 1 1 true,?_,by omega,?_,zHh (l:=[[120]]) (by simp) (by simp[rW,zbi]) (by omega) (by omega),.inl ⟨rfl,rfl⟩⟩ ?_ fun s h=> ?_
  .simp[rW,]
  .simp[rW,]
  .simp[rW,]
  .obtain⟨d,dh,⟨h2,h3,g0,g1⟩,c1,c2,⟨rd,z1⟩,⟨rd2,z2⟩,hc⟩ :=zBl h;simp[rW,h2,h3,g0,g1,c1,c2,z1,z2];omega
 .have h1':¬((r:Int)=1):=by omega
  rw[if_neg h1];simp[rW,st0,zaj,zlO hx,q0,hrem,h1',hc2];refine lp13 hx hz (fun i _=>(hcf i).2) (P:=2) (hd:=[]) _ ⟨.f .nils,.f .nils,?_,by omega,?_,zlR (rows:=[]) (.inl ⟨rfl,rfl⟩),.inl ⟨rfl,rfl⟩⟩ ?_ fun s h=> ?_
  .simp[rW,]
  .simp[rW,]
  .simp[rW,]
  .obtain⟨d,dh,⟨h2,h3,g0,g1⟩,c1,c2,⟨rd,z1⟩,⟨rd2,z2⟩,hc⟩ :=zBl h;simp[rW,h2,h3,g0,g1,c1,c2,z1,z2];omega
def fn8:pr.fn 8=some g8:=by kernel_rfl
def fn4:pr.fn 4=some g4:=by kernel_rfl
def b8B:C:=(.seq (oD [oM 6 4,oM 7 0,oR 8 (.callp 18 [(.t 7),(.k (.i .i64 0))]),oR 9 (.bin .rem (.t 8) (.k (.i .i64 3))),oR 10 (.bin .leq (.t 6) (.t 9))] 10 .skip (.exit 0))
 (.seq (.blk 1 (.dreg [(oF 13 1 3,0),(oK 14 1 13,0),(oM 15 0,3),(oM 16 4,7),(oR 17 (.bin .add (.k (.i .i64 1)) (.t 16)),7),(oR 18 (.callp 18 [(.t 15),(.t 17)]),3),(oR 19 (.callp 19 [(.t 18)]),3),(oR 20 (.bsf 2 [.nils,.nils] 1 [(0,(.t 19))]),3),(oR 21 (.app 2 48 (.t 14) (.t 20)),0),(oF 22 1 3,0),(oS 1 22 21,0)]))
 (.reg [oM 11 4,oR 12 (.bin .add (.t 11) (.k (.i .i64 1))),oM 4 12])))
def lpB{x:F}(hx:zfR x){z:Nat->Nat}(hz:∀i,i<1000->z i<100000/\Ans pr 18 [x,.i .i64 i] (.i .i64 (z i))){cf:Nat->CQ}(hcf:∀i,i<10->Ans pr 19 [.i .i64 (z (1+i))] (.ag (cqF (cf i)))){hd:List Str}{P:Nat}{Q:Ex->St->Prop}(s:St)(h:XQ x hd [] P s)(h4:s.tm.get 4=some (.f (.i .i64 0)))(hQ:∀s,XQ x hd ((List.range (z 0%3+1)).map cf) P s->Q (.exit 0) s):WL pr b8B s Q:=by
 have h36:Ans pr 18 [x,.i .i64 0] (.i .i64 (z 0)):=(hz 0 (by omega)).2;have q36:=fun k=>zaB (k:=k) h36
 have hrem:=zgW (z 0) 3 (by omega);rw[show((3:Nat):Int)=3 from rfl]at hrem;have hm:z 0%3<3:=Nat.mod_lt _ (by omega);generalize z 0%3=m at hrem hm hQ;refine zcL (fun k s=>∃n:Nat,(k=m+1 - n/\n<=m+1)/\XQ x hd ((List.range n).map cf) P s/\s.tm.get 4=some (.f (.i .i64 n))) (fun e s=>e= .exit 0/\XQ x hd ((List.range (m+1)).map cf) P s) ?_ (m+1) _ ⟨0,⟨rfl,by omega⟩,h,h4⟩ (by rintro e s ⟨rfl,h⟩;exact hQ s h);clear h h4 hQ s;rintro k s ⟨n,⟨rfl,hn⟩,⟨d,dh,⟨h0,h2,h3,g0,g1⟩,hP,hPc,hO,hg⟩,h4⟩;unfold b8B;simp only[rU]
 by_cases hle:n<=m
 .have h36n:=(hz (1+n) (by omega)).2;rw[Int.natCast_add,show((1:Nat):Int)=1 from rfl]at h36n;have q36n:=fun k=>zaB (k:=k) h36n
  have q39:=fun k=>zaB (k:=k) (hcf n (by omega))
  have hw:=zaq n (by omega);have hw2:IntKind.i64.wrap (1+(n:Int))=1+(n:Int):=wrap_i64 _ (by omega) (by omega);simp only[cqE]at q39;simp[rW,h0,h2,h3,g0,g1,h4,q36,hrem,hle];refine zaL ?_;simp[rW,h0,h2,h3,g0,g1,h4,hw2,q36n,q39,cqE,zcH,zcI];refine zfC (zbr hg (by omega) fun _ _ _=>rfl) (by omega) (by rw[zdD];simp;omega) (by omega) ?_;intro r hr1 hr2 hr3 hr4 hr5;have e0:=hr4 0 (by omega) (zbN hg (by omega));have e1:=hr4 1 (by omega) (zbN hg (by omega));rw[g0]at e0;rw[g1]at e1;refine⟨hr1,?_⟩;simp[rW,e1,zbO hr2];rw[zcf];refine⟨m+1 - (n+1),by omega,n+1,⟨rfl,by omega⟩,⟨r.d,dh,?_,hP,?_,?_,?_⟩,?_⟩
  .simp[rW,h0,h2,h3,e0,e1]
  .simp[rW,];omega
  .refine hO.up (fun y hy=> ?_) (Z3 _) (Z3 _);have hy2:=hO.2.2.1 y hy;have e:=hr4 y (by omega) (zbN hg (by omega));have ny:¬(y=1):=by omega
   simp[rW,ny,e]
  .rw[zn3,zhq];refine zbr hr2 (by simp[rW,];omega) fun y h1 h2=> ?_
   have ny:¬(y=1):=by omega
   simp[rW,ny]
  .simp[rW,hw]
 .have e:n=m+1:=by omega
  subst e;have hl:¬((m:Int)+1<=m):=by omega
  simp[rW,h0,h2,h3,g0,g1,h4,q36,hrem,hl];refine⟨d,dh,?_,hP,?_,?_,?_⟩
  .simp[rW,h0,h2,h3,g0,g1]
  .simp[rW,];exact hPc
  .simp[rW,];exact hO
  .simp[rW,];exact hg
def ans8{x:F}(hx:zfR x):∃l,QN l/\Ans pr 8 [x] (.ag [.nils,qsF l]):=by
 obtain⟨z,hz⟩ :=atZ hx;obtain⟨cf,hcf⟩ :=Classical.skolem.1 fun i=>ans19 (z (1+i))
 have hm:z 0%3<3:=Nat.mod_lt _ (by omega);have hc2:(D.f x).cells=some [.f x]:=by rcases hx with rfl|⟨zs,rfl⟩ <;>rfl
 refine⟨(List.range (z 0%3+1)).map cf,⟨by simp,by simp;omega,clF (fun i=>(hcf i).1) _⟩,zco fn8 ?_⟩;simp only[g8,rU];simp[rW,st0,zaj,zlO hx,hc2];refine lpB hx hz (fun i _=>(hcf i).2) (P:=2) (hd:=[]) _ ⟨.f .nils,.f .nils,?_,by omega,?_,zlR (rows:=[]) (.inl ⟨rfl,rfl⟩),.inl ⟨rfl,rfl⟩⟩ ?_ fun s h=> ?_
 .simp[rW,]
 .simp[rW,]
 .simp[rW,]
 .obtain⟨d,dh,⟨h2,h3,g0,g1⟩,c1,c2,⟨rd,z1⟩,⟨rd2,z2⟩,hc⟩ :=zBl h;simp[rW,h2,h3,g0,g1,c1,c2,z1,z2];exact⟨by omega,rfl⟩
def zyc(a:Int):∃r:Nat,r<=3/\za3 .and (.i .u8 a) (.i .u8 3)=some (.i .u8 r):=by
 refine⟨(BitVec.ofInt 8 a&&& BitVec.ofInt 8 3).toNat,?_,?_⟩
 .rw[BitVec.toNat_and];exact Nat.and_le_right
 .have hle:(BitVec.ofInt 8 a&&& BitVec.ofInt 8 3).toNat<=3:=by
   rw[BitVec.toNat_and];exact Nat.and_le_right
  have e:za3 .and (.i .u8 a) (.i .u8 3)=some (.i .u8 (IntKind.u8.wrap ((BitVec.ofInt 8 a&&& BitVec.ofInt 8 3).toNat:Int))):=rfl;rw[e];generalize (BitVec.ofInt 8 a&&& BitVec.ofInt 8 3).toNat=r at hle;obtain rfl|rfl|rfl|rfl:r=0\/r=1\/r=2\/r=3:=by omega
  all_goals rfl
def hdL:Nat->List Str
 |2=>[[120]]
 |3=>[[121],[120,95,49]]
 |_=>[]
def ans4{x:F}(hx:zfR x)(p:Bool)(h:Int):∃r l,r<=3/\QN l/\Ans pr 4 [x,.b p,.i .u8 h] (.ag [zaQ (hdL r),qsF l]):=by
 obtain⟨r,hr,he⟩ :=zyc h;obtain⟨l8,hl8,a8⟩ :=ans8 hx;obtain⟨hd9,l9,hd9l,hl9,a9⟩ :=ans9 hx;have q8:=fun k=>zaB (k:=k) a8
 have q9:=fun k=>zaB (k:=k) a9
 have hc2:(D.f x).cells=some [.f x]:=by rcases hx with rfl|⟨zs,rfl⟩ <;>rfl
 have m1:(1<=zal)=True:=zcj (by omega);have m2:(16<=zal)=True:=zcj (by omega);cases p with
 |false=>
  refine⟨r,l8,hr,hl8,zco fn4 ?_⟩;simp only[g4,rU];obtain rfl|rfl|rfl|rfl:r=0\/r=1\/r=2\/r=3:=by omega
  all_goals simp[rW,st0,zaj,zlO hx,hc2,q8,he,zka,zgO,zbY]
  all_goals rfl
 |true=>
  refine⟨r,l9,hr,hl9,zco fn4 ?_⟩;simp only[g4,rU];obtain rfl|rfl|rfl|rfl:r=0\/r=1\/r=2\/r=3:=by omega
  all_goals simp[rW,st0,zaj,zlO hx,hc2,q8,q9,he,zka,zgO,zbY]
  all_goals rfl
def fn3:pr.fn 3=some g3:=by kernel_rfl
def zF_d(Z:List Int):(zF Z).d= .f (zF Z):=ziN ..
def zNp(Z:List Int):zbn (.f (zF Z))=some Z.length:=by simp[zF,zgi]
def zF_ia(Z:List Int)(n:Nat):iaB 1 (.f (zF Z)) n=(Z[n]?).map fun z=>D.fptr [F.i .i64 z]:=by simp[zF,zhz,Function.comp_def]
def zzJ{M:List CQ}{n:Nat}(hn:n<M.length)(h:Nat->Option Ob):sliceB 2 h (.f (qsF M)) (some (.f (.i .i64 (n:Nat)))) (some (.f (.i .i64 ((n+1:Nat):Int)))) none=some (.f (.sl 2 [cqF M[n]]),[]):=by
 have hne:M≠[]:=fun e=>by rw[e]at hn;simp at hn
 rw[<-zzF hne];have h0:0<=(n:Int):=by omega
 have h0':0<=((n+1:Nat):Int):=by omega
 have h2:n+1<=(M.map fun c=>cqF c).length:=by rw[Z19];omega
 have h3:((M.map fun c=>cqF c).drop n).take (n+1 - n)=[cqF M[n]]:=by
  rw[show n+1 - n=1 by omega,List.drop_eq_getElem_cons (by rw[Z19];exact hn)];simp
 simp only[sliceB,za4,zbu,if_pos h0,if_pos h0',Int.toNat_natCast];rw[if_pos ⟨trivial,by omega,h2⟩,h3]
def zCt{Z:List Int}{n:Nat}(hn:n<Z.length):(Z.take (n+1)).sum=(Z.take n).sum+Z[n]:=by
 rw[Z7 hn,List.sum_append];simp
theorem zAi:∀{Z:List Int} (n:Nat),(∀z∈Z,-7<=z/\z<=7)->-(7*(n:Int))<=(Z.take n).sum/\(Z.take n).sum<=7*n
 |_,0,_=>by simp
 |[],n+1,_=>by simp;omega
 |z::Z,n+1,h=>by
  have h1:=zAi (Z:=Z) n fun y hy=>h y (by simp[hy])
  have h2:=h z (by simp);simp only[List.take_succ_cons,List.sum_cons]
  push_cast
  omega
def zAD:C:=(.seq (oD [oM 50 13,oM 51 12,oR 52 (.bin .lss (.t 50) (.t 51))] 52 .skip (.exit 2))
 (.seq (.blk 3 (.seq (.dreg [(oF 55 0 7,0),(oK 56 1 55,0),(oM 57 8,3),(oM 58 12,7),(oM 59 12,15),(oR 60 (.bin .add (.t 59) (.k (.i .i64 1))),15),(oR 61 (.slc 2 (.t 57) (some (.t 58)) (some (.t 60)) none),3),(oR 62 (.bld [.nils,.nils] [(0,1,(.t 56)),(1,1,(.t 61))]),0),(oF 63 0 7,255),(oK 64 1 63,255),(oM 65 8,1023),(oM 66 13,2047),(oM 67 13,4095),(oR 68 (.bin .add (.t 67) (.k (.i .i64 1))),4095),(oR 69 (.slc 2 (.t 65) (some (.t 66)) (some (.t 68)) none),1023),(oR 70 (.bld [.nils,.nils] [(0,1,(.t 64)),(1,1,(.t 69))]),255),(oR 71 (.callp 6 [(.t 62),(.t 70)]),0)])
 (.cond (.t 71) (oZ [oR 6 (.mv (.k (.b false)))]
 .ret) .skip)))
 (.reg [oM 53 13,oR 54 (.bin .add (.t 53) (.k (.i .i64 1))),oM 13 54])))
def LW3(hd:List Str)(l M:List CQ)(Z:List Int)(s:St):Prop:=s.tm.get 7=some (.ptr 0 2 0 0)/\s.tm.get 8=some (.f (qsF M))/\s.tm.get 9=some (.f (zF Z))/\s.h.get 0=some (.arr 2 0 [[.f (zaQ hd),.f (qsF l)]])
theorem wl3_2{hd:List Str}{l M:List CQ}{Z:List Int}{n:Nat}{sm:Int}(hh:hd.length<=10)(hL:LatL hd M Z)(hn:n<M.length){K:Ex->St->Prop}(s:St)(h1:LW3 hd l M Z s)(h2:s.tm.get 11=some (.f (.i .i64 sm))/\s.tm.get 12=some (.f (.i .i64 (n:Nat)))/\s.tm.get 13=some (.f (.i .i64 0)))(hc:1<=s.c)
  (hK:∀s,LW3 hd l M Z s->(s.tm.get 11=some (.f (.i .i64 sm))/\s.tm.get 12=some (.f (.i .i64 (n:Nat))))->1<=s.c->K (.exit 2) s):WL pr zAD s K:=by
 refine zd5 n (fun k s=>LW3 hd l M Z s/\(s.tm.get 11=some (.f (.i .i64 sm))/\s.tm.get 12=some (.f (.i .i64 (n:Nat)))/\s.tm.get 13=some (.f (.i .i64 (k:Nat))))/\1<=s.c) (fun e s=>e= .exit 2/\LW3 hd l M Z s/\(s.tm.get 11=some (.f (.i .i64 sm))/\s.tm.get 12=some (.f (.i .i64 (n:Nat))))/\1<=s.c) ?_ ?_ s ⟨h1,h2,hc⟩ (by rintro e s ⟨rfl,a,b,c⟩;exact hK s a b c)
 .clear h1 h2 hc hK s;rintro k s hk ⟨⟨h7,h8,h9,g0⟩,⟨h11,h12,h13⟩,hc⟩;unfold zAD;simp only[rU];have hle:=hL.le;have hw:=zaq k (by omega);have hw2:=zaq n (by omega);have hkM:k<M.length:=by omega
  have s1:=fun h=>zzJ hn h
  have s2:=fun h=>zzJ hkM h
  have hd0:=hL.ds n k hn hk;unfold eqR at hd0;have q6:=fun j=>zaB (k:=j) (ans6 hd hd [M[n]] [M[k]] (by omega) (by omega) ⟨by simpa using hL.sm _ (Z2 hn),by simp⟩ ⟨by simpa using hL.sm _ (Z2 hkM),by simp⟩)
  rw[hd0]at q6;simp only[zzI,cqE]at q6 s1 s2
  push_cast at s1 s2 hw hw2
  have hk':(k:Int)<n:=by omega
  simp[rW,h7,h8,h9,g0,h11,h12,h13,hk,hk'];refine zaL ?_;have n0:¬(0=s.c):=by omega
  simp[rW,h7,h8,h9,g0,h11,h12,h13,hw,hw2,s1,s2,zgO,q6];unfold LW3;simp[rW,h7,h8,h9,g0]
 .rintro s ⟨⟨h7,h8,h9,g0⟩,⟨h11,h12,h13⟩,hc⟩;unfold zAD;simp only[rU];simp[rW,h7,h8,h9,g0,h11,h12,h13];refine⟨?_,hc⟩;unfold LW3;simp[rW,h7,h8,h9,g0]
def ans3{x:F}(hx:zfR x)(p:Bool)(h:Int):Ans pr 3 [x,.b p,.i .u8 h] (.b true):=by
 refine zco fn3 ?_;simp only[g3,rU];obtain⟨r,l,hr,⟨hl0,hl3,hlq⟩,a4⟩ :=ans4 hx p h;have hh:(hdL r).length<=10:=by
  obtain rfl|rfl|rfl|rfl:r=0\/r=1\/r=2\/r=3:=by omega
  all_goals decide
 have q4:=fun k=>zaB (k:=k) a4
 have q5:=fun k=>zaB (k:=k) (ans5 (hdL r) l hh hl3 hlq)
 have q7:=fun k=>zaB (k:=k) ans7
 have hL:=zLA (hd:=hdL r) hl0 hl3 hlq;have hc2:(D.f x).cells=some [.f x]:=by rcases hx with rfl|⟨zs,rfl⟩ <;>rfl
 generalize (zjY (hdL r) l).1=M at hL q5;generalize (zjY (hdL r) l).2=Z at hL q5;generalize hdL r=hd at*;have hMp:0<M.length:=List.length_pos_iff.2 hL.ne;have e1:¬((M.length:Int)≠Z.length):=by have:=hL.ln;omega
 have e2:¬((M.length:Int)<1):=by omega
 have hle:=hL.le;have hln:=hL.ln;simp -implicitDefEqProofs [rW,st0,zaj,zlO hx,hc2,q4,q5,zgO,zbY,zka,zF_d,zgz,zNp,hln];refine⟨by omega,?_⟩;refine zd5 M.length (fun n s=>LW3 hd l M Z s/\(s.tm.get 11=some (.f (.i .i64 (Z.take n).sum))/\s.tm.get 12=some (.f (.i .i64 (n:Nat))))/\1<=s.c) (fun e s=>e= .exit 0/\s.tm.get 11=some (.f (.i .i64 1))) ?_ ?_ _ ⟨?_,?_,?_⟩ ?_
 .rintro n s hn ⟨⟨h7,h8,h9,g0⟩,⟨h11,h12⟩,hc⟩;have hw:=zaq n (by omega);have hnz:n<Z.length:=by omega
  have hz:Z[n]? =some Z[n]:=Z0 hnz;have hst:=zCt hnz;have hb:=zAi n hL.bd;have hbz:=hL.bd _ (Z2 hnz);generalize hA:Z[n]=z at hz hst hbz;have hw2:IntKind.i64.wrap ((Z.take n).sum+z)=(Z.take (n+1)).sum:=by rw[hst];exact IntWalk.i64_in _ (by omega)
  simp[rW,h7,h8,h9,g0,h11,h12,hn,zgz,zF_ia,hz,hA,hnz,hw2];refine wl3_2 (hd:=hd) (l:=l) (M:=M) (Z:=Z) (n:=n) (sm:=(Z.take (n+1)).sum) hh hL hn _ ?_ ?_ ?_ ?_
  .unfold LW3;simp[rW,h7,h8,h9,g0]
  .simp[rW,h12]
  .simp[rW,hc]
  rintro s ⟨h7,h8,h9,g0⟩ ⟨h11,h12⟩ hc;simp[rW,h7,h8,h9,g0,h11,h12,hw];refine⟨?_,hc⟩;unfold LW3;simp[rW,h7,h8,h9,g0]
 .rintro s ⟨⟨h7,h8,h9,g0⟩,⟨h11,h12⟩,hc⟩;have e:(Z.take M.length).sum=1:=by rw[hln,Z8];exact hL.su
  rw[e]at h11;simp[rW,h7,h8,h9,g0,h11,h12,zgz]
 .unfold LW3;simp[rW,]
 .simp[rW,]
 .simp[rW,]
 .rintro e s ⟨rfl,h11⟩;simp[rW,h11,q7]
end Go.Proofs.YtlnfpifjdcmmlaaGreatDoor
end
