/- The program's equivalent, and the search for an equivalent meet. -/
import Derived.Test.YtlnfpifjdcmmlaaGreatDoorPm
import Derived.KernelRfl
import Derived.IntWalk
set_option linter.all false
set_option maxRecDepth 100000
set_option maxHeartbeats 4000000
section
namespace Go.Proofs.YtlnfpifjdcmmlaaGreatDoor
open Go Go.Vse Go.Vse.Sm
def fn14:pr.fn 14=some g14:=by kernel_rfl
def fn13:pr.fn 13=some g13:=by kernel_rfl
def eqR(hd:List Str)(a b:CQ):Bool:=zmt hd hd [a] [b]&&zmt hd hd [b] [a]
def zBh(hd:List Str)(a b:CQ):eqR hd a b=eqR hd b a:=Bool.and_comm _ _
def zzI(a:CQ):qsF [a]= .sl 2 [cqF a]:=rfl
def ans14(a b:CQ)(hd:List Str)(ha:CqSm a)(hb:CqSm b)(hh:hd.length<1000):Ans pr 14 [.ag (cqF a),.ag (cqF b),zaQ hd] (.b (eqR hd a b)):=by
 refine zco fn14 ?_;simp only[g14,rU];have q:=fun k=>zaB (k:=k) (ans6 hd hd [a] [b] hh hh ⟨by simpa using ha,by simp⟩ ⟨by simpa using hb,by simp⟩)
 unfold eqR;simp only[zzI,cqE]at q;have m1:(1<=zal)=True:=zcj (by omega);have m2:(48<=zal)=True:=zcj (by omega);simp[rW,st0,zaj,cqE,zcH,zcI,zgs,zfT,zgO,zbY,q,m1,m2]
theorem ro13(hd:List Str)(c d:CQ)(hc:CqSm c)(hdd:CqSm d)(hh:hd.length<1000){h:T Ob}{k X Y:Nat}{y:D}(gX:h.get X=some (.arr 2 0 [cqD d]))(gY:h.get Y=some (.arr 2 0 [[.f (zaQ hd),y]]))(hX:X<k)(hY:Y<k):
  RO pr 13 [.ag (cqD c),.ptr X 2 0 0,.ptr Y 2 0 0] h k (.f (.b (eqR hd c d))):=by
 refine zcr zaS fn13 rfl ?_;simp only[g13,rU];have nX:¬X=k:=by omega
 have nY:¬Y=k:=by omega
 have q:=fun j=>zaB (k:=j) (ans14 c d hd hc hdd hh)
 simp only[cqE]at q;unfold cqD at gX;simp[rW,st0,zaj,cqD,gX,gY,nX,nY,zcH,zcI,zgs,zfT,zbY,q,zaK];simp (disch:=omega) only[zaV,za7]
theorem ro12g(l:List CQ)(p:CQ->Bool)(hl:l.length<100000){h:T Ob}{lo c0 c g:Nat}{d:D}{cap:List D}(hg:zdr h lo c0 2 d (zcZ l))(hcl:∀n (hn:n<l.length),RO pr g (.ag (cqD l[n])::cap) h c (.f (.b (p l[n])))):
  RO pr 12 [d,.fn g [] cap] h c (.f (.i .i64 (ixP l p))):=by
 refine zcr zaS fn12 rfl ?_;simp only[g12,rU];have hlen:zbn d=some l.length:=by rw[zmF hg,zdD]
 simp[rW,st0,zaj,hlen];refine zeU l p (fun n s=>s.tm.get 0=some (d)/\s.tm.get 1=some (.fn g [] cap)/\s.tm.get 7=some (.f (.i .i64 l.length))/\s.tm.get 8=some (.f (.i .i64 n))/\s.h=h/\s.c=c/\s.lw=c) (fun x s=>x= .exit 0/\s.lw=c) (fun n y s=>y= .ret/\s.tm.get 4=some (.f (.i .i64 n))/\s.lw=c) ?_ ?_ _ ?_ ?_ ?_
 .rintro n s hn ⟨h0,h1,h7,h8,eh,ec,el⟩;have hw:=zaq n (by omega);have hp:=hcl n hn;have hn2:n< (zcZ l).length:=by rw[zdD];exact hn
  have ht:(zcZ l)[n]? =some (cqD l[n]):=by simp[zcZ,hn,cqD]
  obtain⟨X,hi,gX⟩ :∃X,iaB 2 d n=some (.ptr X 2 n 0)/\h.get X=some (.arr 2 0 (zcZ l)):=by
   rcases hg with⟨-,h2⟩ |⟨id,rfl,h2,h3,h5,h6⟩
   .rw[h2]at hn2;simp at hn2
   .exact⟨id,by simp[zrh,hn2],h3⟩
  have ht2:∀h:n< (zcZ l).length,(zcZ l)[n]=cqD l[n]:=fun h=>by
   rw[Z0 h]at ht;exact Option.some.inj ht
  have gX':s.h.get X=some (.arr 2 0 (zcZ l)):=by rw[eh];exact gX
  generalize hA:l[n]=A at hp ht ht2|-;unfold cqD at ht ht2;simp[rW,h0,h1,h7,h8,hn,hi,gX',ht,ht2,hn2];refine zbB (d:= .f (.b (p A))) ?_ ?_ ?_
  .simp only[rG];rw[eh,ec];exact hp
  .simp only[rG];omega
  .intro mx;cases hb:p A with
   |true=>simp[rW,h0,h1,h7,h8,el]
   |false=>simp[rW,h0,h1,h7,h8,hw,eh,ec,el]
 .rintro s ⟨h0,h1,h7,h8,eh,ec,el⟩;simp[rW,h0,h1,h7,h8,el]
 .simp[rW,st0,zaj]
 .rintro h z s ⟨rfl,el⟩;rw[zhN h];simp[rW,zaK,el]
 .rintro n hn hp hm z s ⟨rfl,h4,el⟩;rw[zgy hn hp hm];simp[rW,h4,zaK,el]
theorem zza{h:T Ob}{lo c es byt:Nat}{d:D}{els:List (List D)}{e:List D}{rd:List Nat}{K:Rs->Prop}(hg:zdr h lo c es d els)(hlen:els.length+1<=1000000)(hb:byt<=1000)
  (hK:∀r:Rs,zao r.c r.wr=true->r.d= .sl c 0 (els.length+1) es (els.length+1) false->r.c=c+1->(wrT h r.wr).get c=some (.arr es 0 (els++[e]))->(∀id,id<c->d.oid≠some id->(wrT h r.wr).get id=h.get id)->K r):oB (zbj es byt h.get c d [e] rd) K:=by
 have hm:∀n,n<=1000000->n<=zal:=fun n hn=>by have:=zcj (n:=n) (by omega);simpa using this
 have hmb:∀n,n<=1000000->n*byt<=zal:=fun n hn=>by
  have:n*byt<=1000000*1000:=Nat.mul_le_mul hn hb;have h2:=zcj (n:=n*byt) (by omega);simpa using h2
 rcases hg with⟨rfl,rfl⟩ |⟨id,rfl,he,ho,hl,hc⟩
 .rw[zh0,if_neg (by simp),if_pos ⟨hm _ (by simp),hmb _ (by simp)⟩,zjt];refine hK _ (by simp[zao,Nat.blt_eq]) rfl rfl (by simp[wrT,Vse.T.zab]) fun i hi _=> ?_
  have:i≠c:=by omega
  simp[wrT,Vse.T.zab,this]
 .have h1:¬(els.length+1<=els.length):=by omega
  have h2:=hm (els.length+1) hlen;have h3:=hmb (els.length+1) hlen;have e:zbj es byt h.get c (.sl id 0 els.length es els.length false) [e] rd=some {d:= .sl c 0 (els.length+1) es (els.length+1) false,rd:=id::rd,wr:=[(id,none),(c,some (.arr es 0 (els++[e])))],c:=c+1}:=by
   rw[zlD,if_neg (by simp),ho];simp[om,apO,h1,h2,h3]
  rw[e,zjt];refine hK _ (by simp[zao,Nat.blt_eq];omega) rfl rfl (by simp[wrT,Vse.T.zab]) fun i hi hne=> ?_
  have h1:i≠c:=by omega
  have h2:i≠id:=fun e=>hne (by rw[e];rfl)
  simp[wrT,Vse.T.zab,Vse.T.zem,h1,h2]
def zdn(l:List CQ)(set:Nat):Nat->List CQ
 |0=>[]
 |n+1=>if set.testBit n then zdn l set n++(l[n]?).toList else zdn l set n
def sgN(set:Nat):Nat->Int
 |0=> -1
 |n+1=>if set.testBit n then -(sgN set n)else sgN set n
theorem zlt(set:Nat):∀n,sgN set n=1\/sgN set n= -1
 |0=> .inr rfl
 |n+1=>by
  unfold sgN;rcases zlt set n with h|h<;>rw[h]<;>split<;>simp
theorem zkq(l:List CQ)(set:Nat):∀n,(zdn l set n).length<=n
 |0=>Z3 _
 |n+1=>by
  have:=zkq l set n;unfold zdn;split
  .have h2:(l[n]?).toList.length<=1:=by cases l[n]? <;>simp
   rw[Z17];omega
  .omega
theorem zix{l:List CQ}{set:Nat}:∀n,∀c∈zdn l set n,c∈l
 |0,c,h=>by simp[zdn]at h
 |n+1,c,h=>by
  unfold zdn at h;split at h
  .rcases Z5.1 h with h|h
   .exact zix n c h
   .simp only[Option.mem_toList,Option.mem_def]at h;exact Z40 h
  .exact zix n c h
theorem zvi{l:List CQ}{set:Nat}:∀{n:Nat},n<=l.length->zdn l set n=[]->∀i,i<n->set.testBit i=false
 |0,_,_,i,hi=>by omega
 |n+1,hn,h,i,hi=>by
  unfold zdn at h;cases hb:set.testBit n with
  |true=>
   rw[hb,if_pos rfl]at h;have h2:=(List.append_eq_nil_iff.1 h).2;rw[Z0 (by omega)]at h2;simp at h2
  |false=>
   rw[hb]at h;simp only[Bool.false_eq_true,if_false]at h
   by_cases e:i=n
   .rw[e];exact hb
   .exact zvi (by omega) h i (by omega)
def zIe{l:List CQ}{set:Nat}(h0:0<set)(h1:set<2 ^ l.length):zdn l set l.length≠[]:=fun h=>by
 have hz:=zvi (Z3 _) h;have:set=0:=Nat.eq_of_testBit_eq fun i=>by
  rw[Nat.zero_testBit]
  by_cases hi:i<l.length
  .exact hz i hi
  .exact Nat.testBit_lt_two_pow (Z16 h1 (Nat.pow_le_pow_right (by omega) (by omega)))
 omega
def zDt(hd:List Str)(c:CQ):CQ:=ziO hd c.as.length (cop c)
theorem zuu(hd:List Str):∀k (c:CQ),CqSm c->CqSm (ziO hd k c)
 |0,_,h=>h
 |k+1,c,h=>by
  refine zuu hd k _ ?_;unfold zwc;split
  .exact zr9 h _ _
  .exact h
def zA9{hd:List Str}{c:CQ}(h:CqSm c):CqSm (zDt hd c):=zuu hd _ _ (zr5 h)
def zj2(hd:List Str)(l:List CQ)(set:Nat):CQ:=zDt hd (zgP hd (zdn l set l.length))
def zsH{hd:List Str}{l:List CQ}(hl:l.length<=3)(hq:∀c∈l,CqN 1 c)(set:Nat):CqSm (zj2 hd l set):=by
 have h1:=zkq l set l.length;exact zA9 ((zr4 (hd:=hd) fun c hc=>hq c (zix _ c hc)).g (by omega)).toCqSm
def zsB(hd:List Str)(l:List CQ)(st:List CQ×List Int)(set:Nat):List CQ×List Int:=
 match st.1.findIdx? (fun c=>eqR hd c (zj2 hd l set))with
 |some i=>(st.1,st.2.set i (st.2.getD i 0+sgN set l.length))
 |none=>(st.1++[zj2 hd l set],st.2++[sgN set l.length])
def ze1(hd:List Str)(l:List CQ):Nat->List CQ×List Int
 |0=>([],[])
 |k+1=>zsB hd l (ze1 hd l k) (k+1)
structure LatI(k:Nat)(st:List CQ×List Int):Prop where
 ln:st.1.length=st.2.length
 le:st.1.length<=k
 sm:∀c∈st.1,CqSm c
 bd:∀z∈st.2,-(k:Int)<=z/\z<=k
theorem zlP{hd:List Str}{l:List CQ}(hl:l.length<=3)(hq:∀c∈l,CqN 1 c):∀k,LatI k (ze1 hd l k)
 |0=>⟨rfl,Z3 _,by simp[ze1],by simp[ze1]⟩
 |k+1=>by
  have ih:=zlP (hd:=hd) hl hq k;have hm:=zsH (hd:=hd) hl hq (k+1);have hs:=zlt (k+1) l.length;unfold ze1 zsB;generalize ze1 hd l k=st at ih|-;generalize zj2 hd l (k+1)=m at hm|-;generalize sgN (k+1) l.length=sg at hs|-;cases hf:st.1.findIdx? (fun c=>eqR hd c m)with
  |none=>
   refine⟨by simp[ih.ln],by have:=ih.le;simp;omega,fun c hc=> ?_,fun z hz=> ?_⟩
   .rcases Z5.1 hc with h|h
    .exact ih.sm c h
    .rw[Z32.1 h];exact hm
   .rcases Z5.1 hz with h|h
    .have:=ih.bd z h;omega
    .rw[Z32.1 h];omega
  |some i=>
   refine⟨by simp[ih.ln],by have:=ih.le;simp;omega,ih.sm,fun z hz=> ?_⟩;rcases List.mem_or_eq_of_mem_set hz with h|h
   .have:=ih.bd z h;omega
   .rw[Z27]at hf;obtain⟨hi,-⟩ :=hf;have hi2:i<st.2.length:=by rw[<-ih.ln];exact hi
    have h3:=ih.bd _ (Z2 hi2);have h4:st.2.getD i 0=st.2[i]:=by simp[hi2]
    rw[h,h4];omega
def zjY(hd:List Str)(l:List CQ):List CQ×List Int:=ze1 hd l (2 ^ l.length - 1)
theorem zvo:∀(Z:List Int) (i:Nat) (s:Int),i<Z.length->(Z.set i (Z.getD i 0+s)).sum=Z.sum+s
 |[],i,s,h=>by simp at h
 |z::Z,0,s,h=>by simp;omega
 |z::Z,i+1,s,h=>by
  have:=zvo Z i s (by simpa using h);simp only[List.set_cons_succ,List.sum_cons,List.getD_cons_succ,this];omega
def sgT(n:Nat):Nat->Int
 |0=>0
 |k+1=>sgT n k+sgN (k+1) n
structure LatD(hd:List Str)(l:List CQ)(k:Nat)(st:List CQ×List Int):Prop where
 ds:∀i j (hi:i<st.1.length) (hj:j<i),eqR hd st.1[i] (st.1[j]'(by omega))=false
 sm:st.2.sum=sgT l.length k
 ne:0<k->st.1≠[]
theorem zzo{hd:List Str}{l:List CQ}(hl:l.length<=3)(hq:∀c∈l,CqN 1 c):∀k,LatD hd l k (ze1 hd l k)
 |0=>⟨fun i j hi=>by simp[ze1]at hi,rfl,fun h=>by omega⟩
 |k+1=>by
  have ih:=zzo (hd:=hd) hl hq k;have hI:=zlP (hd:=hd) hl hq k;unfold ze1 zsB;generalize ze1 hd l k=st at ih hI|-;generalize zj2 hd l (k+1)=m;cases hf:st.1.findIdx? (fun c=>eqR hd c m)with
  |none=>
   rw[Z44]at hf;refine⟨fun i j hi hj=> ?_,?_,fun _=>by simp⟩
   .simp only at hi|-
    by_cases h:i<st.1.length
    .rw[List.getElem_append_left h,List.getElem_append_left (by omega)];exact ih.ds i j h hj
    .have hi2:i=st.1.length:=by simp at hi;omega
     subst hi2;rw[List.getElem_append_right (Z3 _),List.getElem_append_left hj];simp only[Nat.sub_self,List.getElem_cons_zero];rw[zBh];exact hf _ (Z2 hj)
   .simp only[List.sum_append,ih.sm,sgT];simp
  |some i=>
   rw[Z27]at hf;obtain⟨hi,-⟩ :=hf;exact⟨ih.ds,by simp only[zvo _ _ _ (by rw[<-hI.ln];exact hi),ih.sm,sgT],fun _ e=>by simp only at e;rw[e]at hi;simp at hi⟩
def sgT_1{n:Nat}(h0:0<n)(h:n<=3):sgT n (2 ^ n - 1)=1:=by
 obtain rfl|rfl|rfl:n=1\/n=2\/n=3:=by omega
 all_goals decide
structure LatL(hd:List Str)(M:List CQ)(Z:List Int):Prop where
 ln:M.length=Z.length
 le:M.length<=7
 sm:∀c∈M,CqSm c
 bd:∀z∈Z,-7<=z/\z<=7
 ds:∀i j (hi:i<M.length) (hj:j<i),eqR hd M[i] (M[j]'(by omega))=false
 su:Z.sum=1
 ne:M≠[]
def zLA{hd:List Str}{l:List CQ}(h0:l≠[])(hl:l.length<=3)(hq:∀c∈l,CqN 1 c):LatL hd (zjY hd l).1 (zjY hd l).2:=by
 have hlp:0<l.length:=List.length_pos_iff.2 h0;have h1:=zlP (hd:=hd) hl hq (2 ^ l.length - 1);have h2:=zzo (hd:=hd) hl hq (2 ^ l.length - 1);have h3:=sgT_1 hlp hl;have h4:2 ^ l.length<=2 ^ 3:=Nat.pow_le_pow_right (by omega) hl;have h5:2 ^ 1<=2 ^ l.length:=Nat.pow_le_pow_right (by omega) hlp;change LatI _ (zjY hd l)at h1;change LatD hd l _ (zjY hd l)at h2;exact⟨h1.ln,by have:=h1.le;omega,h1.sm,fun z hz=>by have:=h1.bd z hz;omega,h2.ds,by rw[h2.sm,h3],h2.ne (by omega)⟩
def fn5:pr.fn 5=some g5:=by kernel_rfl
def bit_F(s i:Nat)(hs:s<8)(hi:i<3):∃z:Int,za3 .shr (.i .i64 (s:Int)) (.i .i64 (i:Int))=some (.i .i64 z)/\za3 .and (.i .i64 z) (.i .i64 1)=some (.i .i64 (if s.testBit i=true then 1 else 0)):=by
 obtain rfl|rfl|rfl|rfl|rfl|rfl|rfl|rfl:s=0\/s=1\/s=2\/s=3\/s=4\/s=5\/s=6\/s=7:=by omega
 all_goals
  obtain rfl|rfl|rfl:i=0\/i=1\/i=2:=by omega
  all_goals exact⟨_,rfl,rfl⟩
def o_un{pr:Pr}{s:St}{Q:St->Prop}{dst:Option Nat}{l:List Go.Vse.Op}{x:Go.Vse.A}:wpO pr (⟨dst,none,.un .neg x⟩ ::l) s Q↔oB (((O.un .neg x).res (zad s.tm)).bind (opv s.h.get s.c)) fun r=>zao r.c r.wr=true/\wpO pr l (s.aft dst r.d r.wr r.c) Q:=zc1 rfl
def zMB(f:Go.Vse.A->Option D)(x:Go.Vse.A):O.res f (.un .neg x)=(f x).bind fun x=>some (.un .neg x):=rfl
def v_neg(h:Nat->Option Ob)(c:Nat){n:Int}(hn:n=1\/n= -1):opv h c (.un .neg (.f (.i .i64 n)))=some {d:= .f (.i .i64 (-n)),c:=c}:=by
 rcases hn with rfl|rfl<;>rfl
def zgj(l:List (Nat×Option Ob)):zcW 0 l=0:=Nat.le_zero.1 (zcm 0 l)
def zE(Z:List Int):List (List D):=Z.map fun z=>[.f (.i .i64 z)]
def zdR(Z:List Int):(zE Z).length=Z.length:=by simp[zE]
def zze(Z:List Int):hd8 (zE Z)=false:=by
 cases Z with
 |nil=>rfl
 |cons z Z=>rfl
def LP(hd:List Str)(l:List CQ)(st:List CQ×List Int)(set:Nat)(d5 d6:D)(s:St):Prop:=(s.tm.get 1=some (.ptr 0 2 0 0)/\s.tm.get 5=some (d5)/\s.tm.get 6=some (d6)/\s.tm.get 7=some (.f (.i .i64 (set:Nat)))/\s.h.get 0=some (.arr 2 0 [[.f (zaQ hd),.f (qsF l)]]))/\zdr s.h 1 s.c 2 d5 (zcZ st.1)/\zdr s.h 1 s.c 1 d6 (zE st.2)/\(∀Y,d5.oid=some Y->d6.oid≠some Y)/\1<=s.c/\s.lw=0
def zAF:C:=(oZ [oR 30 (.bin .lss (.t 29) (.t 28))]
 (.seq (.cond (.t 30) .skip (.exit 2))
 (.seq (.blk 3 (oZ [oM 31 29,oI 32 2 27 29,oL 33 2 32,oR 11 (.new [.nils,.nils]),oM 10 31,oS 2 11 33]
 (oD [oM 34 7,oM 35 10,oR 36 (.bin .shr (.t 34) (.t 35)),oR 37 (.bin .and (.t 36) (.k (.i .i64 1))),oR 38 (.bin .eql (.t 37) (.k (.i .i64 1)))] 38 (oZ [oM 39 8,oL 40 2 11,oR 41 (.bsf 2 [.nils,.nils] 1 [(0,(.t 40))]),oR 42 (.app 2 48 (.t 39) (.t 41)),oM 8 42]
 (.reg [oM 43 9,oR 44 (.un .neg (.t 43)),oM 9 44])) .skip)))
 (.reg [oR 45 (.bin .add (.t 29) (.k (.i .i64 1))),oM 29 45]))))
def b5_R:C:= .seq (.dreg [(oM 46 8,0),(oF 47 0 1,1),(oK 48 1 47,1),(oR 49 (.callp 11 [(.t 46),(.t 48)]),0),(oF 50 0 1,15),(oK 51 1 50,15),(oR 52 (.callp 10 [(.t 49),(.t 51)]),0),(oR 12 (.new [.nils,.nils]),127),(oS 2 12 52,0)])
 (oZ [oM 53 5,oR 54 (.mkf 13 [] [(.t 12),(.t 1)]),oR 55 (.call 12 [(.t 53),(.t 54)]),oM 13 55]
 (.seq (oD [oM 56 13,oR 57 (.bin .lss (.t 56) (.k (.i .i64 0)))] 57 (oZ [oM 58 5,oR 59 (.len (.t 58)),oM 13 59]
 (oZ [oM 60 5,oL 61 2 12,oR 62 (.bsf 2 [.nils,.nils] 1 [(0,(.t 61))]),oR 63 (.app 2 48 (.t 60) (.t 62)),oM 5 63]
 (.reg [oM 64 6,oR 65 (.bsf 1 [.i .i64 0] 1 [(0,(.k (.i .i64 0)))]),oR 66 (.app 1 8 (.t 64) (.t 65)),oM 6 66]))) .skip)
 (.reg [oM 67 6,oM 68 13,oI 69 1 67 68,oK 70 1 69,oM 71 9,oR 72 (.bin .add (.t 70) (.t 71)),oI 73 1 67 68,oS 1 73 72])))
theorem wl5_2{hd:List Str}{l:List CQ}{st:List CQ×List Int}{set:Nat}{d5 d6:D}(hl:l.length<=3)(hs:set<8){K:Ex->St->Prop}(s:St)(h1:LP hd l st set d5 d6 s)(h2:s.tm.get 8=some (.f .nils)/\s.tm.get 9=some (.f (.i .i64 (-1)))/\s.tm.get 27=some (.f (qsF l))/\s.tm.get 28=some (.f (.i .i64 l.length))/\s.tm.get 29=some (.f (.i .i64 0)))
  (hK:∀s d8 P,LP hd l st set d5 d6 s->(s.tm.get 8=some (d8)/\s.tm.get 9=some (.f (.i .i64 (sgN set l.length))))->zdr s.h P s.c 2 d8 (zcZ (zdn l set l.length))->1<=P->(∀Y,d5.oid=some Y->Y<P)->(∀Y,d6.oid=some Y->Y<P)->K (.exit 2) s):WL pr zAF s K:=by
 obtain⟨⟨h1,h5,h6,h7,g0⟩,hg5,hg6,hd,hc,hlw⟩ :=h1;refine zd5 l.length (fun n s'=>(s'.tm.get 1=some (.ptr 0 2 0 0)/\s'.tm.get 5=some (d5)/\s'.tm.get 6=some (d6)/\s'.tm.get 7=some (.f (.i .i64 (set:Nat))))/\Frm s.h s'.h s.c/\s.c<=s'.c/\s'.lw=0/\∃d8,(s'.tm.get 8=some (d8)/\s'.tm.get 9=some (.f (.i .i64 (sgN set n)))/\s'.tm.get 27=some (.f (qsF l))/\s'.tm.get 28=some (.f (.i .i64 l.length))/\s'.tm.get 29=some (.f (.i .i64 n)))/\zdr s'.h s.c s'.c 2 d8 (zcZ (zdn l set n)))
  (fun e s'=>e= .exit 2/\(s'.tm.get 1=some (.ptr 0 2 0 0)/\s'.tm.get 5=some (d5)/\s'.tm.get 6=some (d6)/\s'.tm.get 7=some (.f (.i .i64 (set:Nat))))/\Frm s.h s'.h s.c/\s.c<=s'.c/\s'.lw=0/\∃d8,(s'.tm.get 8=some (d8)/\s'.tm.get 9=some (.f (.i .i64 (sgN set l.length))))/\zdr s'.h s.c s'.c 2 d8 (zcZ (zdn l set l.length))) ?_ ?_ s ?_ ?_
 .obtain⟨h0,e0⟩ :∃h0,h0=s.h:=⟨_,rfl⟩
  obtain⟨c0,ec⟩ :∃c0,c0=s.c:=⟨_,rfl⟩
  rw[<-e0,<-ec];rw[<-ec]at hc;clear h1 h5 h6 h7 g0 hg5 hg6 hd hlw h2 hK e0 ec s;rintro n s hn ⟨⟨h1,h5,h6,h7⟩,hf,hcc,hlw,d8,⟨h8,h9,h27,h28,h29⟩,hg⟩;unfold zAF;simp only[rU];have hw:=zaq n (by omega);have hx:l[n]? =some l[n]:=Z0 hn;obtain⟨z,b1,b2⟩ :=bit_F set n hs (by omega);have hvn:=fun h c=>v_neg h c (zlt set n)
  have hsl:=zkq l set n;have m1:(1<=zal)=True:=zcj (by omega);have m2:(48<=zal)=True:=zcj (by omega);generalize hA:l[n]=c at hx;cases hb:set.testBit n with
  |false=>
   rw[hb]at b2;simp only[Bool.false_eq_true,if_false]at b2;have e1:zdn l set (n+1)=zdn l set n:=by simp[zdn,hb]
   have e2:sgN set (n+1)=sgN set n:=by simp[sgN,hb]
   simp[rW,h1,h5,h6,h7,h8,h9,h27,h28,h29,hn,zlT,hx,hA,cqE,zcH,zcI,zgs,zfT,b1,b2,hw,hlw,zgj,e1,e2];refine⟨fun y hy=> ?_,by omega,zga hg (by omega) fun y h1 h2=> ?_⟩
   .have n1:¬y=s.c:=by omega
    simp[Vse.T.zab,n1,hf y hy]
   .have n1:¬y=s.c:=by omega
    simp[Vse.T.zab,n1]
  |true=>
   rw[hb]at b2;simp only[if_true]at b2;have e1:zdn l set (n+1)=zdn l set n++[c]:=by simp[zdn,hb,hx]
   have e2:sgN set (n+1)= -(sgN set n):=by simp[sgN,hb]
   simp[rW,h1,h5,h6,h7,h8,h9,h27,h28,h29,hn,zlT,hx,hA,cqE,zcH,zcI,zgs,zfT,b1,b2,hw,hlw,zgj,m1,m2,e1,e2,o_un,zMB,hvn];refine zpz (zga (c':=s.c+1) hg (by omega) fun y h1 h2=> ?_) (by omega) (by rw[zdD];simp;omega) (by omega) ?_
   .have n1:¬y=s.c:=by omega
    simp[Vse.T.zab,n1]
   intro r hr1 hr2 hr3 hr4 hr5;refine⟨hr1,fun y hy=> ?_,by omega,by rw[zhq];exact hr2⟩;have n1:¬y=s.c:=by omega
   rw[hr4 y (by omega) fun e=>by have:=zc0 hg e;omega];simp[Vse.T.zab,n1,hf y hy]
 .rintro s' ⟨⟨h1,h5,h6,h7⟩,hf,hcc,hlw,d8,⟨h8,h9,h27,h28,h29⟩,hg⟩;unfold zAF;simp only[rU];simp[rW,h1,h5,h6,h7,h8,h9,h27,h28,h29,hlw];exact⟨hf,hcc,hg⟩
 .simp[rW,h2,hlw,h1,h5,h6,h7];exact⟨fun _ _=>rfl,_,⟨rfl,rfl⟩,.inl ⟨rfl,rfl⟩⟩
 .rintro e s' ⟨rfl,⟨h1,h5,h6,h7⟩,hf,hcc,hlw,d8,hr,hg⟩;refine hK s' d8 s.c ⟨⟨h1,h5,h6,h7,?_⟩,?_,?_,hd,by omega,hlw⟩ hr hg hc (fun Y hY=>(zc0 hg5 hY).2) fun Y hY=>(zc0 hg6 hY).2
  .rw[hf 0 (by omega)];exact g0
  .exact zga hg5 hcc fun y _ h2=>hf y h2
  .exact zga hg6 hcc fun y _ h2=>hf y h2
def zyN(l:List CQ):(zcZ l).take l.length=zcZ l:=by rw[<-zdD l,Z8]
def zzF{l:List CQ}(h:l≠[]):F.sl 2 (l.map fun c=>cqF c)=qsF l:=zd7 (by simpa using h)
def ziG{h h':T Ob}{lo c c' es:Nat}{d:D}{els:List (List D)}(hg:zdr h lo c es d els)(hh:∀Y,d.oid=some Y->h'.get Y=h.get Y)(hc:c<=c'):zdr h' lo c' es d els:=by
 rcases hg with hg|⟨id,rfl,h2,h3,h5,h6⟩
 .exact .inl hg
 .exact .inr ⟨id,rfl,h2,by rw[hh id rfl];exact h3,h5,by omega⟩
theorem r5{hd:List Str}{l:List CQ}{k:Nat}{d5 d6 d8:D}{P:Nat}(hh:hd.length<=10)(hl:l.length<=3)(hq:∀c∈l,CqN 1 c)(hk:k+1<2 ^ l.length){K:Ex->St->Prop}(s:St)(h1:LP hd l (ze1 hd l k) (k+1) d5 d6 s)(h2:s.tm.get 8=some (d8)/\s.tm.get 9=some (.f (.i .i64 (sgN (k+1) l.length))))
  (hg8:zdr s.h P s.c 2 d8 (zcZ (zdn l (k+1) l.length)))(hP:1<=P)(hP5:∀Y,d5.oid=some Y->Y<P)(hP6:∀Y,d6.oid=some Y->Y<P)
  (hK:∀s d5 d6,LP hd l (ze1 hd l (k+1)) (k+1) d5 d6 s->K .nrm s):wpC pr b5_R s K:=by
 obtain⟨⟨h1,h5,h6,h7,g0⟩,hg5,hg6,hdj,hc,hlw⟩ :=h1;obtain⟨h8,h9⟩ :=h2;unfold b5_R;simp only[rU];have hI:=zlP (hd:=hd) hl hq k;have hmp:=zsH (hd:=hd) hl hq (k+1);have hsub:=zIe (l:=l) (set:=k+1) (by omega) hk;have hsl:=zkq l (k+1) l.length;have hM:=zr4 (hd:=hd) (l:=zdn l (k+1) l.length) fun c hc=>hq c (zix _ c hc)
 have q11:=fun j=>zaB (k:=j) (ans11 hd (zdn l (k+1) l.length) hh (by omega) fun c hc=>hq c (zix _ c hc))
 have q10:=fun j=>zaB (k:=j) (ans10 (zgP hd (zdn l (k+1) l.length)) hd (hM.g (by omega)).toCqSm (by omega))
 change ∀j,aB pr 10 [.ag (cqF (zgP hd (zdn l (k+1) l.length))),zaQ hd] j↔j (.ag (cqF (zj2 hd l (k+1))))at q10
 have hlat:ze1 hd l (k+1)=zsB hd l (ze1 hd l k) (k+1):=rfl;unfold zsB at hlat
 rw[hlat]at hK;generalize zj2 hd l (k+1)=m at hmp q10 hK;generalize zgP hd (zdn l (k+1) l.length)=cj at q10 q11;generalize zdn l (k+1) l.length=sub at*;generalize ze1 hd l k=st at*;rcases hg8 with⟨-,e⟩ |⟨id,rfl,hne,gid,hid1,hid2⟩
 .exact absurd e (by simpa [zcZ]using hsub)
 rw[zdD]at*;have hqn:=zzF hsub;have hk8:k<100:=by
  have:2 ^ l.length<=2 ^ 3:=Nat.pow_le_pow_right (by omega) hl;omega
 have n0:¬(id=0):=by omega
 have n0':¬(0=id):=by omega
 have nl:¬(sub.length=0):=fun e=>hsub (Z18.1 e)
 simp only[cqE]at q10 q11;simp[rW,h1,h5,h6,h7,g0,h8,h9];refine zaL ?_;simp[rW,h1,h5,h6,h7,g0,h8,h9,gid,zdD,zyN,zmx,hqn,nl,q11,q10,hid2,n0,n0',zcH,zcI,zgs,zfT,zbY];refine⟨by omega,by omega,?_⟩;refine zbB (d:= .f (.i .i64 (ixP st.1 fun c=>eqR hd c m))) ?_ ?_ ?_
 .simp only[rG];refine ro12g st.1 (fun c=>eqR hd c m) (by have:=hI.le;omega) (ziG (c':=s.c+1+1+1+1+1+1+1+1+1) hg5 (fun Y hY=> ?_) (by omega)) fun n hn=>ro13 hd _ m (hI.sm _ (Z2 hn)) hmp (by omega) (y:= .f (qsF l)) ?_ ?_ ?_ ?_
  .have h1:=zc0 hg5 hY;have h2:=hP5 Y hY;have n1:¬Y=id:=by omega
   have n2:¬Y=s.c+1+1+1+1+1+1+1:=by omega
   simp[Vse.T.zab,n1,n2]
  .simp[Vse.T.zab,cqD]
  .have n2:¬0=s.c+1+1+1+1+1+1+1:=by omega
   simp[Vse.T.zab,n0',g0]
  .omega
  .omega
 .simp only[rG];rw[hlw,zgj,zgj,zgj];omega
 intro mx;have hlen5:zbn d5=some st.1.length:=by rw[zmF hg5,zdD]
 cases hf:st.1.findIdx? (fun c=>eqR hd c m)with
 |none=>
  have hix:ixP st.1 (fun c=>eqR hd c m)= -1:=by unfold ixP;rw[hf]
  rw[hf]at hK;simp only at hK;have hsg:=zlt (k+1) l.length;generalize sgN (k+1) l.length=sg at*;have hw:IntKind.i64.wrap (0+sg)=sg:=by rw[Int.zero_add];exact IntWalk.i64_in _ (by omega)
  have hz:(zE st.2++[[.f (.i .i64 0)]])[st.2.length]? =some [D.f (.i .i64 0)]:=by
   rw[List.getElem?_append_right (by rw[zdR];omega),zdR,Nat.sub_self];rfl
  have hzl:st.2.length< (zE st.2++[[D.f (.i .i64 0)]]).length:=by simp[zdR]
  have hz2:∀h:st.2.length< (zE st.2++[[D.f (.i .i64 0)]]).length,(zE st.2++[[D.f (.i .i64 0)]])[st.2.length]=[D.f (.i .i64 0)]:=fun h=>by
   rw[Z0 h]at hz;exact Option.some.inj hz
  have hst:(zE st.2++[[D.f (.i .i64 0)]]).set st.2.length [.f (.i .i64 sg)]=zE (st.2++[sg]):=by
   rw[List.set_append_right _ _ (by rw[zdR];omega),zdR,Nat.sub_self];simp[zE]
  have hd8z:hd8 (zE st.2++[[D.f (.i .i64 0)]])=false:=by
   have:=zze (st.2++[0]);simpa [zE]using this
  rw[hI.ln]at hlen5;simp[rW,h1,h5,h6,h7,h9,hix,hlen5];refine zza (ziG (h':=((s.h.set id (.arr 2 sub.length (zcZ sub))).set (s.c+1+1+1+1+1+1+1) (.arr 2 0 [[.f .nils,.f .nils]])).set (s.c+1+1+1+1+1+1+1) (.arr 2 0 [[.f (za1 m),.f (zaX m)]])) (c':=s.c+1+1+1+1+1+1+1+1+1+1) hg5 (fun Y hY=> ?_) (by omega)) (by rw[zdD];have:=hI.le;omega) (by omega) ?_
  .have h1:=zc0 hg5 hY;have h2:=hP5 Y hY;have n1:¬Y=id:=by omega
   have n2:¬Y=s.c+1+1+1+1+1+1+1:=by omega
   simp[Vse.T.zab,n1,n2]
  intro r hr1 hr2 hr3 hr4 hr5;have hr6:∀y,y<s.c->y≠id->d5.oid≠some y->(wrT (((s.h.set id (.arr 2 sub.length (zcZ sub))).set (s.c+1+1+1+1+1+1+1) (.arr 2 0 [[.f .nils,.f .nils]])).set (s.c+1+1+1+1+1+1+1) (.arr 2 0 [[.f (za1 m),.f (zaX m)]])) r.wr).get y=s.h.get y:=fun y h1 h2 h3=>by
   rw[hr5 y (by omega) h3];have n2:¬y=s.c+1+1+1+1+1+1+1:=by omega
   simp[Vse.T.zab,h2,n2]
  refine⟨hr1,?_⟩;refine zza (ziG (h':=wrT (((s.h.set id (.arr 2 sub.length (zcZ sub))).set (s.c+1+1+1+1+1+1+1) (.arr 2 0 [[.f .nils,.f .nils]])).set (s.c+1+1+1+1+1+1+1) (.arr 2 0 [[.f (za1 m),.f (zaX m)]])) r.wr) (c':=r.c) hg6 (fun Y hY=> ?_) (by omega)) (by rw[zdR,<-hI.ln];have:=hI.le;omega) (by omega) ?_
  .have h1:=zc0 hg6 hY;have h2:=hP6 Y hY;exact hr6 Y (by omega) (by omega) fun e=>hdj Y e hY
  intro r2 hq1 hq2 hq3 hq4 hq5;refine⟨hq1,?_⟩;have m0:¬(0=r.c):=by omega
  simp[rW,h1,h5,h6,h7,h9,hix,hq2,hq4,hI.ln,zdR,hz,hz2,hzl,hw,hst,hd8z];refine⟨by omega,?_⟩;have hr7:∀y,y<s.c->y≠id->d5.oid≠some y->d6.oid≠some y->(wrT (wrT (((s.h.set id (.arr 2 sub.length (zcZ sub))).set (s.c+1+1+1+1+1+1+1) (.arr 2 0 [[.f .nils,.f .nils]])).set (s.c+1+1+1+1+1+1+1) (.arr 2 0 [[.f (za1 m),.f (zaX m)]])) r.wr) r2.wr).get y=s.h.get y:=fun y h1 h2 h3 h4=>by
   rw[hq5 y (by omega) h4,hr6 y h1 h2 h3]
  have e0:=hr7 0 (by omega) (by omega) (fun e=>by have:=zc0 hg5 e;omega) (fun e=>by have:=zc0 hg6 e;omega);rw[g0]at e0;refine hK _ r.d r2.d ⟨?_,?_,?_,?_,?_,?_⟩
  .simp[rW,h1,h5,h6,h7,e0,m0,hq2,zdR]
  .refine .inr ⟨s.c+1+1+1+1+1+1+1+1+1+1,?_,?_,?_,by omega,?_⟩
   .rw[hr2,zdD,zdD,Z17];rfl
   .rw[zhq];simp
   .have y1:¬(s.c+1+1+1+1+1+1+1+1+1+1=r.c):=by omega
    have y2:=hq5 (s.c+1+1+1+1+1+1+1+1+1+1) (by omega) fun e=>by have:=zc0 hg6 e;omega
    rw[hr4]at y2;simp[rW,y1];rw[y2,zhq]
   .simp[rW,];omega
  .refine .inr ⟨r.c,?_,?_,?_,by omega,?_⟩
   .rw[hq2,zdR,zdR,Z17];rfl
   .simp[zE]
   .have hw2:IntKind.i64.wrap sg=sg:=IntWalk.i64_in _ (by omega);simp[rW,hq2,hw2];simp[zE]
   .simp[rW,];omega
  .intro Y h1 h2;rw[hr2]at h1;rw[hq2]at h2;simp only[D.oid,Z46]at h1 h2;omega
  .simp[rW,];omega
  .simp[rW,hlw,zgj]
 |some i=>
  have hix:ixP st.1 (fun c=>eqR hd c m)=i:=by unfold ixP;rw[hf]
  rw[hf]at hK;simp only at hK;have hii:¬((i:Int)<0):=by omega
  rw[Z27]at hf;obtain⟨hi1,-⟩ :=hf;have hi2:i<st.2.length:=by rw[<-hI.ln];exact hi1
  rcases hg6 with⟨-,e⟩ |⟨id6,rfl,hne6,gid6,h61,h62⟩
  .have:st.2=[]:=by simpa [zE]using e
   rw[this]at hi2;simp at hi2
  have hz:(zE st.2)[i]? =some [.f (.i .i64 st.2[i])]:=by simp[zE,hi2]
  have hzl:i< (zE st.2).length:=by rw[zdR];exact hi2
  have hz2:∀h:i< (zE st.2).length,(zE st.2)[i]=[.f (.i .i64 st.2[i])]:=fun h=>by
   rw[Z0 h]at hz;exact Option.some.inj hz
  have hbz:=hI.bd _ (Z2 hi2);have hsg:=zlt (k+1) l.length;have hgd:st.2.getD i 0=st.2[i]:=by simp[hi2]
  rw[hgd]at hK;generalize hZ:st.2[i]=z at hz hz2 hbz hK;generalize sgN (k+1) l.length=sg at*;have hw:IntKind.i64.wrap (z+sg)=z+sg:=IntWalk.i64_in _ (by omega);have hst:(zE st.2).set i [.f (.i .i64 (z+sg))]=zE (st.2.set i (z+sg)):=by unfold zE;rw[List.map_set]
  have hn6:=hP6 id6 rfl;have x1:¬(id6=id):=by omega
  have x2:¬(id6=s.c+1+1+1+1+1+1+1):=by omega
  simp[rW,h1,h5,h6,h7,h9,hix,hii,gid6,hz,hz2,hzl,x1,x2,hw,hst,zze,zdR,hi2];refine⟨by omega,?_⟩;have y0:¬(0=id6):=by omega
  refine hK _ d5 (.sl id6 0 (zE st.2).length 1 (zE st.2).length false) ⟨?_,?_,?_,hdj,?_,?_⟩
  .simp[rW,h1,h5,h6,h7,g0,n0',y0,zdR]
  .refine ziG hg5 (fun Y hY=> ?_) ?_
   .have h1:=zc0 hg5 hY;have h2:=hP5 Y hY;have n1:¬Y=id:=by omega
    have n2:¬Y=s.c+1+1+1+1+1+1+1:=by omega
    have n3:¬Y=id6:=fun e=>hdj Y hY (by rw[e];rfl)
    simp[rW,n1,n2,n3]
   .simp[rW,];omega
  .refine .inr ⟨id6,?_,?_,?_,h61,?_⟩
   .rw[zdR,zdR,List.length_set]
   .intro e;have:=congrArg List.length e;rw[zdR,List.length_set]at this;have h0:st.2.length=0:=this;omega
   .simp[rW,]
   .simp[rW,];omega
  .simp[rW,]
  .simp[rW,hlw,zgj]
def shl_F(n:Nat)(h:n<=3):za3 .shl (.i .i64 1) (.i .i64 (n:Int))=some (.i .i64 ((2 ^ n:Nat):Int)):=by
 obtain rfl|rfl|rfl|rfl:n=0\/n=1\/n=2\/n=3:=by omega
 all_goals rfl
def zsm{h:T Ob}{lo c es:Nat}{d:D}{els:List (List D)}(hg:zdr h lo c es d els):Gro h lo c es d els:=by
 rcases hg with hg|⟨id,h1,h2,h3,h5,h6⟩
 .exact .inl hg
 .exact .inr ⟨id,0,h1,h2,h3,Nat.zero_le _,h5,h6⟩
def zF(Z:List Int):F:=slc 1 (Z.map fun z=>[F.i .i64 z])
def zNn{h:T Ob}{lo c:Nat}{d:D}{Z:List Int}(hg:zdr h lo c 1 d (zE Z)):∃rd,frz h.get 11 d=some (zF Z,rd):=by
 have hf:=ziF h.get 9 (Z.map fun z=>[F.i .i64 z]);rw[Z34]at hf;exact zh7 (k:=10) (zsm hg) hf (by simp[zE])
def zLO{h:T Ob}{lo c:Nat}{d:D}{M:List CQ}(hg:zdr h lo c 2 d (zcZ M)):∃rd,frz h.get 11 d=some (qsF M,rd):=
 zh7 (k:=10) (zsm hg) (zmx _ 9 _) (by simp[zcZ])
def rd_3(s:St)(u v w:Rv):resD s [u,v,w]=om (resV s u) fun x=>om (resV s v) fun y=>om (resV s w) fun z=>some (.tu [x,y,z]):=by
 simp only[resD,zat,om];cases resV s u<;>cases resV s v<;>cases resV s w<;>rfl
def ans5(hd:List Str)(l:List CQ)(hh:hd.length<=10)(hl:l.length<=3)(hq:∀c∈l,CqN 1 c):Ans pr 5 [.ag [zaQ hd,qsF l]] (.tu [qsF (zjY hd l).1,zF (zjY hd l).2,.i .i64 0]):=by
 refine zco fn5 ?_;simp only[g5,rU];have hsh:=shl_F l.length hl;have hp8:2 ^ l.length<=2 ^ 3:=Nat.pow_le_pow_right (by omega) hl;have hp1:0<2 ^ l.length:=Nat.two_pow_pos _;have h5:¬((l.length:Int)>5):=by omega
 obtain⟨N,hN⟩ :∃N,N=2 ^ l.length:=⟨_,rfl⟩
 rw[<-hN]at hsh hp8 hp1;unfold zjY;rw[<-hN];simp[rW,st0,zaj,zbY,zka,zgz,zgO,h5];refine zd5 (N - 1) (fun k s=>∃d5 d6,LP hd l (ze1 hd l k) (k+1) d5 d6 s) (fun e s=>e= .exit 0/\∃d5 d6,LP hd l (ze1 hd l (N - 1)) N d5 d6 s) ?_ ?_ _ ?_ ?_
 .rintro k s hk ⟨d5,d6,⟨h1,h5,h6,h7,g0⟩,hg5,hg6,hdj,hc,hlw⟩;have hlt:k+1<N:=by omega
  have hlt':((k:Int)+1)<N:=by omega
  push_cast at h7
  simp[rW,h1,h5,h6,h7,g0,zgz,hsh,hlt,hlt'];refine wl5_2 (hd:=hd) (l:=l) (st:=ze1 hd l k) (set:=k+1) (d5:=d5) (d6:=d6) hl (by omega) _ ⟨?_,?_,?_,hdj,?_,?_⟩ ?_ ?_
  .simp[rW,h1,h5,h6,h7,g0]
  .simp[rW,hg5]
  .simp[rW,hg6]
  .simp[rW,hc]
  .simp[rW,hlw]
  .simp[rW,]
  intro s d8 P b1 b2 b3 b4 b5 b6;rw[zjq,if_pos rfl,zlw];refine r5 hh hl hq (by omega) s b1 b2 b3 b4 b5 b6 ?_;rintro s d5 d6 ⟨⟨h1,h5,h6,h7,g0⟩,hg5,hg6,hdj,hc,hlw⟩;have hw:=zaq (k+1) (by omega)
  push_cast at h7 hw
  simp[rW,h1,h5,h6,h7,g0,hw];refine⟨d5,d6,⟨?_,?_,?_,hdj,?_,?_⟩⟩
  .simp[rW,h1,h5,h6,h7,g0]
  .simp[rW,hg5]
  .simp[rW,hg6]
  .simp[rW,hc]
  .simp[rW,hlw]
 .rintro s ⟨d5,d6,⟨h1,h5,h6,h7,g0⟩,hg5,hg6,hdj,hc,hlw⟩;have e:N - 1+1=N:=by omega
  rw[e]at h7;simp[rW,h1,h5,h6,h7,g0,zgz,hsh];refine⟨d5,d6,⟨?_,?_,?_,hdj,?_,?_⟩⟩
  .simp[rW,h1,h5,h6,h7,g0]
  .simp[rW,hg5]
  .simp[rW,hg6]
  .simp[rW,hc]
  .simp[rW,hlw]
 .refine⟨.f .nils,.f .nils,⟨?_,.inl ⟨rfl,rfl⟩,.inl ⟨rfl,rfl⟩,by simp[D.oid],?_,?_⟩⟩
  .simp[rW,]
  .simp[rW,]
  .simp[rW,zgj]
 .rintro e s ⟨rfl,d5,d6,⟨h1,h5,h6,h7,g0⟩,hg5,hg6,hdj,hc,hlw⟩;obtain⟨rd5,f5⟩ :=zLO hg5;obtain⟨rd6,f6⟩ :=zNn hg6;simp[rW,h5,h6,f5,f6,rd_3]
end Go.Proofs.YtlnfpifjdcmmlaaGreatDoor
end
