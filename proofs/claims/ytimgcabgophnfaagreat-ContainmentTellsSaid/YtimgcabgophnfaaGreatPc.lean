/- The variables of a query, the lists of indexes, trivially true comparisons: the program's answers. -/
import Derived.Test.YtimgcabgophnfaaGreatPb
import Derived.KernelRfl
import Derived.IntWalk
set_option linter.all false
section
namespace Go.Proofs.YtimgcabgophnfaaGreat
open Go Go.Vse Go.Vse.Sm
set_option maxRecDepth 100000
set_option maxHeartbeats 1000000
set_option linter.all false
theorem zlq(a b:List Trm)(x:List Str):zdp x (a++b)=zdp (zdp x a) b:=by simp[zdp]
theorem zpQ(c:CQ):(tsC c).foldl (fun l t=>zcA l (tv t)) []=vrs c:=by
 have h1:∀(l:List Atm) (x:List Str),zdp x (l.flatMap (·.ts))=l.foldl (fun l a=>zdp l a.ts) x:=by
  intro l
  induction l with
  |nil=>intro x;rfl
  |cons a l ih=>intro x;rw[List.flatMap_cons,zlq,ih];rfl
 have h2:∀(l:List Cm) (x:List Str),zdp x (l.flatMap ts2)=l.foldl (fun l k=>zcA (zcA l (tv k.l)) (tv k.r)) x:=by
  intro l
  induction l with
  |nil=>intro x;rfl
  |cons a l ih=>intro x;rw[List.flatMap_cons,zlq,ih];rfl
 show zdp [] (tsC c)=vrs c;unfold tsC vrs tsA;rw[zlq,h1,h2]
def VP(L:List Trm)(l:List Str)(n:Nat)(s:St):Prop:=∃d,s.tm.get 7=some (.f (zaX L))/\s.tm.get 8=some (.f (.i .i64 L.length))/\s.tm.get 9=some (.f (.i .i64 n))/\s.tm.get 3=some (d)/\Gro s.h 1 s.c 1 d (zbq l)/\1≤s.c
theorem stepV(l:List Str)(x:Str):zcA l x=if x≠[]/\¬(l.any (· ==x)=true)then l++[x]else l:=by
  unfold zcA
  by_cases h1:x=[]<;>by_cases h2:l.any (· ==x)=true<;>simp[h1,h2]
theorem zsL(c:CQ)(hc:zbu c):Ans pr 54 [.ag (cqF c)] (zas (vrs c)):=by
  refine za1 fn54 ?_;simp only[g54,rU];have q:=fun k=>zak (k:=k) (ans86 c hc)
  have hL:=zrF hc;have hv:=zpQ c;simp only[cqE]at q;generalize tsC c=L at q hL hv;simp[rW,st0,zae,cqE,zaV,zaW,q,zaS,zaQ];refine zd5 L (fun l t=>zcA l (tv t)) [] (fun n a s=>VP L a n s) (fun x s=>x= .exit 0/\∃n,VP L (vrs c) n s) ?_ ?_ _ ?_ ?_
  · rintro n a s hn ha ⟨d,h7,h8,h9,h3,hg,hc1⟩;have hw:=zao n (by omega);have hal:a.length≤168:=by
      have:=zh5 (L.take n) [];rw[show zdp [] (L.take n)=a from ha.symm]at this;simp at this;omega
    have qa:=fun k=>zak (k:=k) (zH6 a (tv L[n]) (by omega))
    rw[stepV];have m1:(1≤zaj)=True:=zaR (by omega);have m2:(16≤zaj)=True:=zaR (by omega);have m3:(a.length+1≤zaj)=True:=zaR (by omega);have m4:((a.length+1)*16≤zaj)=True:=zaR (by omega);have hlt:(a.length+1≤a.length)=False:=leF (by omega);generalize hT:L[n]=T at qa⊢
    by_cases hx:tv T=[]
    · simp[rW,h7,h8,h9,h3,zaQ,zbr,hn,hT,tmE,hx,VP,hw];exact zcb hg (by omega) fun id _ h2=>by rw[Vse.T.zab,if_neg (by omega),Vse.T.zab,if_neg (by omega)]
    · have hx':tv T≠[]:=hx;rcases hg with⟨rfl,hn0⟩ |⟨id,ro,rfl,hne,hid,hro,hlid,hidc⟩
      · have:=zi5 hn0;subst this;rw[(show zas []= .nils from rfl)]at qa;simp[rW,h7,h8,h9,h3,zaQ,zbr,hn,hT,tmE,hx,qa,m1,m2,VP,hw];exact .inr ⟨s.c+1,0,rfl,by simp[zbq],by simp[Vse.T.zab,zbq],Nat.zero_le _,by omega,by omega⟩
      · rw[zbn]at*;have hl0:a≠[]:=fun e=>hne (by rw[e];rfl)
        have hz:=zk9 hl0;have hic:¬id=s.c:=by omega
        have hci:¬s.c=id:=by omega
        have hidc':id<s.c+1:=by omega
        generalize a.any (· ==tv T)=b at qa⊢;cases b with
        | true=>
          by_cases hr:a.length≤ro
          · simp[rW,h7,h8,h9,h3,zaQ,zbr,hn,hT,tmE,hx,qa,VP,hw,hid,zbn,zeF,hz,zgQ,hic,hci,hidc',hr];exact .inr ⟨id,ro,by rw[zbn],hne,by simp[Vse.T.zab,hic,hid],by rw[zbn];exact hro,hlid,by omega⟩
          · simp[rW,h7,h8,h9,h3,zaQ,zbr,hn,hT,tmE,hx,qa,VP,hw,hid,zbn,zeF,hz,zgQ,hic,hci,hidc',hr];exact .inr ⟨id,a.length,by rw[zbn],hne,by simp[Vse.T.zab],by rw[zbn];omega,hlid,by omega⟩
        | false=>
          by_cases hr:a.length≤ro
          · simp[rW,h7,h8,h9,h3,zaQ,zbr,hn,hT,tmE,hx,qa,VP,hw,hid,zbn,zeF,hz,zgQ,hic,hci,hidc',hr,hro,m3,m4,hlt];exact⟨by omega,.inr ⟨s.c+1,ro,by simp[zbq],by simp[zbq],by simp[Vse.T.zab,zbq],by rw[zbn,List.length_append];omega,by omega,by omega⟩⟩
          · simp[rW,h7,h8,h9,h3,zaQ,zbr,hn,hT,tmE,hx,qa,VP,hw,hid,zbn,zeF,hz,zgQ,hic,hci,hidc',hr,hro,m3,m4,hlt];exact⟨by omega,.inr ⟨s.c+1,a.length,by simp[zbq],by simp[zbq],by simp[Vse.T.zab,zbq],by rw[zbn,List.length_append];omega,by omega,by omega⟩⟩
  · rintro s ⟨d,h7,h8,h9,h3,hg,hc1⟩;rw[hv]at hg;simp[rW,h7,h8,h9,h3,VP,hc1];exact⟨⟨_,rfl⟩,hg⟩
  · simp[rW,VP];exact .inl ⟨rfl,rfl⟩
  · rintro x s ⟨rfl,n,d,h7,h8,h9,h3,hg,hc1⟩;obtain⟨rd,hz⟩ :=zxN hg;simp[rW,h3,hz]
theorem zDp(h:Nat->Option Ob)(k:Nat)(l:List Nat):zaT (frz h (k+1)) (l.map fun n:Nat=>[D.f (.i .i64 (n:Int))])=some (l.map fun n:Nat=>[F.i .i64 (n:Int)],[]):=zzJ h k (fun n:Nat=>F.i .i64 (n:Int)) l
def iE(l:List Nat):List (List D):=l.map fun n:Nat=>[D.f (.i .i64 (n:Int))]
theorem zcE(l:List Nat):(iE l).length=l.length:=by simp[iE]
theorem zuM(l m:List Nat):iE l++iE m=iE (l++m):=by simp[iE]
theorem zuz{h:T Ob}{lo c:Nat}{d:D}{l:List Nat}(hg:Gro h lo c 1 d (iE l)):∃rd,frz h.get 12 d=some (zeU l,rd):=
 ziI (k:=11) hg (zDp _ 10 l) (by simp[iE])
theorem zsk(n:Nat):iE (List.range n)++[[D.f (.i .i64 (n:Int))]]=iE (List.range (n+1)):=by rw[List.range_succ,<-zuM];rfl
def AP(N n:Nat)(s:St):Prop:=∃d,s.tm.get 6=some (.f (.i .i64 N))/\s.tm.get 7=some (.f (.i .i64 n))/\s.tm.get 3=some (d)/\Gro s.h 0 s.c 1 d (iE (List.range n))
theorem ans28(c:CQ)(hl:c.as.length<1000):Ans pr 28 [zaC c] (zeU (List.range c.as.length)):=by
 refine za1 fn28 ?_;simp only[g28,rU];simp[rW,st0,zae,zaV,za2];refine zex c.as.length (fun n s=>AP c.as.length n s) (fun x s=>x= .exit 0/\AP c.as.length c.as.length s) ?_ ?_ _ ?_ ?_
 ·rintro n s hn ⟨d,h6,h7,h3,hg⟩;have hw:=zao n (by omega);simp[rW,h6,h7,h3,hn];refine zo4 hg (by omega) (by simp only[zcE,List.length_range];simp;omega) (by omega) ?_;intro r hr1 hr2 hr3 hr4 _ _;refine⟨hr1,?_⟩;simp[rW,h6,h7,h3,hw,AP];rw[<-zsk];exact hr2
 ·rintro s ⟨d,h6,h7,h3,hg⟩;simp[rW,h6,h7,h3,AP,hg]
 ·simp[rW,AP];exact .inl ⟨rfl,rfl⟩
 ·rintro x s ⟨rfl,d,h6,h7,h3,hg⟩;obtain⟨rd,hz⟩ :=zuz hg;simp[rW,h6,h7,h3,hz]
theorem ans29(c:CQ)(hl:c.cs.length<1000):Ans pr 29 [zaF c] (zeU (List.range c.cs.length)):=by
 refine za1 fn29 ?_;simp only[g29,rU];simp[rW,st0,zae,zaW,zbf];refine zex c.cs.length (fun n s=>AP c.cs.length n s) (fun x s=>x= .exit 0/\AP c.cs.length c.cs.length s) ?_ ?_ _ ?_ ?_
 ·rintro n s hn ⟨d,h6,h7,h3,hg⟩;have hw:=zao n (by omega);simp[rW,h6,h7,h3,hn];refine zo4 hg (by omega) (by simp only[zcE,List.length_range];simp;omega) (by omega) ?_;intro r hr1 hr2 hr3 hr4 _ _;refine⟨hr1,?_⟩;simp[rW,h6,h7,h3,hw,AP];rw[<-zsk];exact hr2
 ·rintro s ⟨d,h6,h7,h3,hg⟩;simp[rW,h6,h7,h3,AP,hg]
 ·simp[rW,AP];exact .inl ⟨rfl,rfl⟩
 ·rintro x s ⟨rfl,d,h6,h7,h3,hg⟩;obtain⟨rd,hz⟩ :=zuz hg;simp[rW,h6,h7,h3,hz]
theorem ans94(x:Cm)(hx:zb8 x):Ans pr 94 [.ag (cmF x)] (.b (zi6 x)):=by
 have q:=fun k=>zak (k:=k) (zkI x.l x.r hx.1 hx.2)
 have r:=fun k=>zak (k:=k) (zzb (tn x.l) (tn x.r))
 refine za1 fn94 ?_;simp only[g94,rU];unfold zi6;simp only[tmE,vF]at q r;generalize zbi x.l x.r=b at q⊢
 by_cases h4:tv x.l=[]
 ·have h4':=zpN hx.1 h4
  by_cases h5:tv x.r=[]
  ·have h5':=zpN hx.2 h5;simp only[h4,h5,h4',h5']at q;have e0:=zlB (tn x.l) (tn x.r);have e1:=zxj (tn x.l) (tn x.r);have e2:=zxi (tn x.l) (tn x.r);have e3:=zxe (tn x.l) (tn x.r);unfold zzq;generalize zdL (tn x.l) (tn x.r)=c at r e0 e1 e2 e3
   by_cases h1:x.op=1
   ·cases b<;>simp[rW,st0,zae,tmE,cmF,q,r,h1,h4,h5,h4',h5',<-e0]
   ·by_cases h2:x.op=2
    ·cases b<;>simp[rW,st0,zae,tmE,cmF,q,r,h2,h4,h5,h4',h5',<-e1]
    ·by_cases h3:x.op=3
     ·cases b<;>simp[rW,st0,zae,tmE,cmF,q,r,h3,h4,h5,h4',h5',<-e2]
     ·by_cases h6:x.op=4
      ·cases b<;>simp[rW,st0,zae,tmE,cmF,q,r,h6,h4,h5,h4',h5',<-e3]
      ·cases b<;>simp[rW,st0,zae,tmE,cmF,q,r,h1,h2,h3,h6,h4,h5,h4',h5']
  ·simp only[h4,h4']at q
   by_cases h1:x.op=1
   ·cases b<;>simp[rW,st0,zae,tmE,cmF,q,h1,h4,h4',h5]
   ·by_cases h6:x.op=4
    ·cases b<;>simp[rW,st0,zae,tmE,cmF,q,h6,h4,h4',h5]
    ·cases b<;>simp[rW,st0,zae,tmE,cmF,q,h1,h6,h4,h4',h5]
 ·by_cases h1:x.op=1
  ·cases b<;>simp[rW,st0,zae,tmE,cmF,q,h1,h4]
  ·by_cases h6:x.op=4
   ·cases b<;>simp[rW,st0,zae,tmE,cmF,q,h6,h4]
   ·cases b<;>simp[rW,st0,zae,tmE,cmF,q,h1,h6,h4]
theorem fn66:pr.fn 66=some g66:=by kernel_rfl
theorem fn65:pr.fn 65=some g65:=by kernel_rfl
theorem fn64:pr.fn 64=some g64:=by kernel_rfl
theorem fn63:pr.fn 63=some g63:=by kernel_rfl
theorem fn93:pr.fn 93=some g93:=by kernel_rfl
def tmD(u:Trm):List D:=[.f (.s (tv u)),.f (.i .i64 (tk u)),.f (.i .i64 (tn u)),.f (.s [])]
theorem zgC(l:List Trm)(n:Nat)(h:n<l.length):(zaB l)[n]? =some (tmD l[n]):=by
 simp[zaB,tmD,tmE,List.getElem?_eq_getElem h]
theorem zoh(v:Str):tv (.var v)=v:=rfl
theorem zoa(v:Str):tk (.var v)=0:=rfl
theorem zoe(v:Str):tn (.var v)=0:=rfl
theorem zBs(n:Int):tv (.cst n)=[]:=rfl
theorem zBq(n:Int):tk (.cst n)=1:=rfl
theorem zBr(n:Int):tn (.cst n)=n:=rfl
def bE(l:List Bool):List (List D):=l.map fun b=>[D.f (.b b)]
def vix(ns:List Str)(v:Str):Nat:=ns.findIdx (v== ·)
def zjH(j:Nat)(ns:List Str):List (F×D):=match ns with
 |[]=>[]
 |x::l=>(F.s x,D.f (.i .i64 (j:Int)))::zjH (j+1) l
def ixE(ns:List Str):List (F×D):=zjH 0 ns
theorem znF(v:Str):∀(ns:List Str) (j i:Nat),zcL 1 (.s v) (zjH j ns) i=some (if v∈ns then some (i+vix ns v,.f (.i .i64 ((j+vix ns v:Nat):Int)))else none)
 |[],_,_=>rfl
 |x::l,j,i=>by
  simp only[zjH,zcL,zhZ]
  by_cases h:v=x
  ·subst h;simp[vix,List.findIdx_cons]
  ·have hb:(v==x)=false:=by simpa using h
   have hb2:¬x=v:=fun e=>h e.symm
   simp only[hb];rw[znF v l (j+1) (i+1)]
   by_cases hm:v∈l
   ·simp only[hm,if_true,List.mem_cons,h,false_or,vix,List.findIdx_cons,hb,cond_false];rw[show i+1+List.findIdx (fun x=>v==x) l=i+(List.findIdx (fun x=>v==x) l+1) by omega,show j+1+List.findIdx (fun x=>v==x) l=j+(List.findIdx (fun x=>v==x) l+1) by omega]
   ·simp[hm,h]
theorem znE{v:Str}{ns:List Str}(h:v∈ns):zcL 1 (.s v) (ixE ns) 0=some (some (vix ns v,.f (.i .i64 (vix ns v:Int)))):=by
 rw[ixE,znF,if_pos h];simp
theorem zlD{v:Str}{ns:List Str}(h:v∉ns):zcL 1 (.s v) (ixE ns) 0=some none:=by
 rw[ixE,znF,if_neg h]
theorem zf5{v:Str}{ns:List Str}(h:v∈ns):vix ns v<ns.length:=by
 unfold vix;rw[List.findIdx_lt_length];exact⟨v,h,by simp⟩
theorem ziQ{v:Str}{ns:List Str}(h:v∈ns):ns[vix ns v]'(zf5 h)=v:=by
 have:=List.findIdx_getElem (w:=zf5 h) (p:=(v== ·)) (xs:=ns);simp only[beq_iff_eq]at this;exact this.symm
structure SAt(a b:CQ)(ns:List Str)(im:List Trm)(asg:List Bool)(dA dC dT:D)(h:T Ob)(c S M I A:Nat):Prop where
 gS:h.get S=some (.arr 11 0 [[.f (zas ns),.mp M,.sl I 0 ns.length 4 ns.length true,.sl A 0 ns.length 1 ns.length true,.f (zaC a),.f (zaF a),dA,dC,.f (zaC b),.f (zaF b),dT]])
 gM:h.get M=some (.map (ixE ns))
 gI:h.get I=some (.arr 4 0 (zaB im))
 gA:h.get A=some (.arr 1 0 (bE asg))
 lI:im.length=ns.length
 lA:asg.length=ns.length
 bS:S<c
 bM:M<c
 bI:I<c
 bA:A<c
def zdm(ns:List Str)(im:List Trm)(asg:List Bool):Trm->Trm×Bool
 | .cst n=>(.cst n,true)
 | .var v=>(im.getD (vix ns v) (.var []),asg.getD (vix ns v) false)
def InV(ns:List Str)(t:Trm):Prop:=zau t/\∀v,t= .var v->v∈ns
theorem SAt.up{a b:CQ}{ns:List Str}{im:List Trm}{asg:List Bool}{dA dC dT:D}{h h':T Ob}{c c' S M I A:Nat}(H:SAt a b ns im asg dA dC dT h c S M I A)(hf:∀id,id<c->h'.get id=h.get id)(hc:c≤c'):SAt a b ns im asg dA dC dT h' c' S M I A:=
 ⟨by rw[hf S H.bS];exact H.gS,by rw[hf M H.bM];exact H.gM,by rw[hf I H.bI];exact H.gI,by rw[hf A H.bA];exact H.gA,H.lI,H.lA,Nat.lt_of_lt_of_le H.bS hc,Nat.lt_of_lt_of_le H.bM hc,Nat.lt_of_lt_of_le H.bI hc,Nat.lt_of_lt_of_le H.bA hc⟩
theorem zGK{a b:CQ}{ns:List Str}{im:List Trm}{asg:List Bool}{dA dC dT:D}{h:T Ob}{c S M I A:Nat}(H:SAt a b ns im asg dA dC dT h c S M I A)(t:Trm)(ht:InV ns t):
  RO pr 66 [.ptr S 11 0 0,.ag (tmD t)] h c (.tu [.ag (tmD (zdm ns im asg t).1),.f (.b (zdm ns im asg t).2)]):=by
 obtain⟨gS,gM,gI,gA,lI,lA,hS,hM,hI,hA⟩ :=H;refine zc3 zbB fn66 (by simp[tmD,D.isF,D.zhA]) ?_;simp only[g66,rU];have nS:¬S=c:=by omega
 have nM:¬M=c:=by omega
 have nI:¬I=c:=by omega
 have nA:¬A=c:=by omega
 have nS1:¬S=c+1:=by omega
 have nM1:¬M=c+1:=by omega
 have nI1:¬I=c+1:=by omega
 have nA1:¬A=c+1:=by omega
 have nS1':¬c+1=S:=by omega
 have nA1':¬c+1=A:=by omega
 have nI1':¬c+1=I:=by omega
 cases t with
 |cst n=>
  simp[rW,st0,zae,tmD,zBs,zBq,zBr,zdm,za8];simp (disch:=omega) only[zbk,zbN]
 |var v=>
  have hv:v∈ns:=ht.2 v rfl;have hne:v≠[]:=ht.1;have hl:=zf5 hv;have hk:=znE hv;have e1:im.getD (vix ns v) (.var [])=im[vix ns v]:=by simp[List.getD,lI,hl]
  have e2:asg.getD (vix ns v) false=asg[vix ns v]:=by simp[List.getD,lA,hl]
  have e3:=zgC im (vix ns v) (by omega);have e4:(bE asg)[vix ns v]? =some [D.f (.b asg[vix ns v])]:=by simp[bE,lA,hl]
  simp only[zdm,e1,e2];simp only[tmD]at e3;simp[rW,st0,zae,tmD,zoh,zoa,zoe,hne];refine zay ?_;simp[rW,st0,zae,tmD,hne,gS,gM,nS,nM,nS1,nM1,hk];refine zay ?_;simp[rW,st0,zae,tmD,hne,gS,gI,gA,nS,nI,nA,nS1,nI1,nA1,nS1',nA1',nI1',hl,e3,e4,za8];simp (disch:=omega) only[zbk,zbN]
theorem zL9{α:Type}{l:List α}{p:α->Bool}(h:∀a∈l,p a=false):(l.all fun a=>!p a)=true:=by
 rw[List.all_eq_true];intro a ha;simp[h a ha]
theorem zL6{α:Type}{l:List α}{p:α->Bool}{n:Nat}(h:n<l.length)(h1:p l[n]=true):(l.all fun a=>!p a)=false:=by
 rw[List.all_eq_false];exact⟨l[n],List.getElem_mem h,by simp[h1]⟩
def atD(a:Atm):List D:=[.f (.s a.r),.f (.b a.neg),.f (zaX a.ts)]
def zin(ns:List Str)(im:List Trm)(asg:List Bool)(a b:Atm):Bool:=
 a.r==b.r&&(a.neg==b.neg&&(decide (a.ts.length=b.ts.length)&&(a.ts.zip b.ts).all fun p=>!((zdm ns im asg p.1).2&& !zbi (zdm ns im asg p.1).1 p.2)))
def zfv(im:List Trm)(asg:List Bool):Prop:=∀i,asg.getD i false=true->zau (im.getD i (.var []))
theorem zra{ns:List Str}{im:List Trm}{asg:List Bool}(h:zfv im asg){t:Trm}(ht:(zdm ns im asg t).2=true):zau (zdm ns im asg t).1:=by
 cases t with
 |cst n=>trivial
 |var v=>exact h _ ht
def F1(a b:Atm)(h:T Ob)(c S n:Nat)(s:St):Prop:=
 s.tm.get 0=some (.ptr S 11 0 0)/\s.tm.get 5=some (.ptr (c+1) 3 0 0)/\s.tm.get 33=some (.f (zaX a.ts))/\s.tm.get 34=some (.f (.i .i64 a.ts.length))/\s.tm.get 35=some (.f (.i .i64 n))/\s.h.get (c+1)=some (.arr 3 0 [atD b])/\(∀id,id<c->s.h.get id=h.get id)/\c+2≤s.c/\s.lw=c
theorem ro65{a b:CQ}{ns:List Str}{im:List Trm}{asg:List Bool}{dA dC dT:D}{h:T Ob}{c S M I A:Nat}(H:SAt a b ns im asg dA dC dT h c S M I A)(ho:zfv im asg)(x y:Atm)(hx:∀t∈x.ts,InV ns t)(hy:zcc y)(hxl:x.ts.length<1000):
  RO pr 65 [.ptr S 11 0 0,.ag (atD x),.ag (atD y)] h c (.f (.b (zin ns im asg x y))):=by
 refine zc3 zbB fn65 rfl ?_;simp only[g65,rU];unfold zin
 by_cases h1:x.r=y.r
 ·by_cases h2:x.neg=y.neg
  ·by_cases h3:x.ts.length=y.ts.length
   ·have h3':(x.ts.length:Int)=(y.ts.length:Int):=by omega
    generalize hr:((x.ts.zip y.ts).all fun p=>!((zdm ns im asg p.1).2&& !zbi (zdm ns im asg p.1).1 p.2))=r;simp[rW,st0,zae,atD,h1,h2,h3,zaQ];refine zd2 (x.ts.zip y.ts) (fun p=>(zdm ns im asg p.1).2&& !zbi (zdm ns im asg p.1).1 p.2) (fun n s=>F1 x y h c S n s) (fun x s=>x= .exit 0/\s.lw=c) (fun n x s=>x= .ret/\s.tm.get 6=some (.f (.b false))/\s.lw=c) ?_ ?_ _ ?_ ?_ ?_
    ·rintro n s hn ⟨h0,h5,h33,h34,h35,gq,hf,hc,hl⟩;have hn1:n<x.ts.length:=by simp at hn;omega
     have hn2:n<y.ts.length:=by omega
     have hw:=zao n (by omega);have htx:=hx _ (List.getElem_mem hn1);have hty:=hy.1 _ (List.getElem_mem hn2);simp only[List.getElem_zip];generalize hT:x.ts[n]=T at htx⊢;generalize hU:y.ts[n]=U at hty⊢;have hT':x.ts[n]? =some T:=by rw[List.getElem?_eq_getElem hn1,hT]
     have hU':y.ts[n]? =some U:=by rw[List.getElem?_eq_getElem hn2,hU]
     simp[rW,h0,h5,h33,h34,h35,hn1,hn2,zbr,hT',hT,tmE,h3];refine zcp (zGK (H.up ?_ ?_) T htx) ?_ ?_
     ·intro id hid;simp only[rG];simp[Vse.T.zab,show id≠s.c by omega,hf id hid]
     ·simp only[rG];omega
     ·simp only[rG];simp (disch:=omega) only[zbk,zbN];omega
     ·intro mx;have hcn:¬c+1=s.c:=by omega
      have hcm:¬c=s.c:=by omega
      have hF:∀id,id<c->¬id=s.c/\¬id=s.c+1:=fun id h=>by omega
      have hok:=zra (ns:=ns) ho (t:=T);simp only[atD]at gq;cases hb:(zdm ns im asg T).2 with
      |false=>
       simp[rW,h0,h5,h33,h34,h35,hb,tmD];refine zay ?_;simp[rW,h0,h5,h33,h34,h35,hb,hw,F1,atD,gq,hcn,hcm,h3];refine⟨fun id h=> ?_,by omega,?_⟩
       ·simp[(hF id h).1,(hF id h).2,hf id h]
       ·rw[hl];simp (disch:=omega) only[zbk,zbN]
      |true=>
       have q:=fun k=>zak (k:=k) (zkI (zdm ns im asg T).1 U (hok hb) hty)
       simp only[tmE]at q;generalize (zdm ns im asg T).1=W at q⊢;cases hs:zbi W U with
       |false=>
        rw[hs]at q;simp[rW,h0,h5,h33,h34,h35,hb,tmD];refine zay ?_;simp[rW,h0,h5,h33,h34,h35,hb,hw,F1,atD,gq,hcn,hcm,h3,zbr,hn2,hU',hU,tmE,q];rw[hl];simp (disch:=omega) only[zbk,zbN]
       |true=>
        rw[hs]at q;simp[rW,h0,h5,h33,h34,h35,hb,tmD];refine zay ?_;simp[rW,h0,h5,h33,h34,h35,hb,hw,F1,atD,gq,hcn,hcm,h3,zbr,hn2,hU',hU,tmE,q];refine⟨fun id h=> ?_,by omega,?_⟩
        ·simp[(hF id h).1,(hF id h).2,hf id h]
        ·rw[hl];simp (disch:=omega) only[zbk,zbN]
    ·rintro s ⟨h0,h5,h33,h34,h35,gq,hf,hc,hl⟩;simp[rW,h0,h5,h33,h34,h35,h3,hl]
    ·simp[rW,F1,atD,h3];refine⟨?_,?_⟩
     ·intro id hid;simp[show id≠c by omega,show id≠c+1 by omega]
     ·simp (disch:=omega) only[zbk,zbN]
    ·rintro h z s ⟨rfl,hl⟩;have:r=true:=by rw[<-hr];exact zL9 h
     simp[rW,za8,hl,this]
    ·rintro n hn hp hm z s ⟨rfl,h6,hl⟩;have:r=false:=by rw[<-hr];exact zL6 hn hp
     simp[rW,h6,hl,za8,this]
   ·have h3':¬(x.ts.length:Int)=(y.ts.length:Int):=by omega
    simp[rW,st0,zae,atD,h1,h2,h3,h3',zaQ,za8];simp (disch:=omega) only[zbk,zbN]
  ·have h2':(x.neg==y.neg)=false:=by simpa using h2
   simp[rW,st0,zae,atD,h1,h2,h2',zaQ,za8];simp (disch:=omega) only[zbk,zbN]
 ·have h1':(x.r==y.r)=false:=by simpa using h1
  simp[rW,st0,zae,atD,h1,h1',zaQ,za8];simp (disch:=omega) only[zbk,zbN]
theorem fn92:pr.fn 92=some g92:=by kernel_rfl
theorem fn61:pr.fn 61=some g61:=by kernel_rfl
theorem fn96:pr.fn 96=some g96:=by kernel_rfl
theorem fn129:pr.fn 129=some zAh:=by kernel_rfl
theorem fn95:pr.fn 95=some g95:=by kernel_rfl
theorem fn62:pr.fn 62=some g62:=by kernel_rfl
theorem fn67:pr.fn 67=some g67:=by kernel_rfl
theorem fn27:pr.fn 27=some g27:=by kernel_rfl
theorem ro64{a b:CQ}{ns:List Str}{im:List Trm}{asg:List Bool}{dA dC dT:D}{h:T Ob}{c S M I A B J:Nat}(H:SAt a b ns im asg dA dC dT h c S M I A)(ho:zfv im asg){i:Nat}(hi:i<a.as.length)(ha:∀t∈(a.as[i]).ts,InV ns t)(hal:(a.as[i]).ts.length<1000)(y:Atm)(hy:zcc y)
  (gB:h.get B=some (.arr 1 0 [[.ptr S 11 0 0]]))(gJ:h.get J=some (.arr 1 0 [[.f (.i .i64 (i:Int))]]))(hB:B<c)(hJ:J<c):
  RO pr 64 [.ag (atD y),.ptr B 1 0 0,.ptr J 1 0 0] h c (.f (.b (zin ns im asg a.as[i] y))):=by
 refine zc3 zbB fn64 rfl ?_;simp only[g64,rU];have gS:=H.gS;have nS:¬S=c:=by have:=H.bS;omega
 have nB:¬B=c:=by omega
 have nJ:¬J=c:=by omega
 simp[rW,st0,zae,atD];refine zbj ?_;simp[rW,st0,zae,gB,gJ,gS,nS,nB,nJ,zcI,hi,atE];refine zb6 (ro65 (H.up ?_ ?_) ho a.as[i] y ha hy hal) ?_ ?_ ?_
 ·intro id hid;simp only[rG];simp[Vse.T.zab,show id≠c by omega]
 ·simp only[rG];omega
 ·simp only[rG];simp (disch:=omega) only[zbk,zbN];omega
 ·simp[ckG,ck1]
 ·intro mx hmx;simp[rW,za8];simp (disch:=omega) only[zbk,zbN]
theorem ro93(cq:CQ)(p:Atm->Bool)(hl:cq.as.length<100000){h:T Ob}{c g:Nat}{cap:List D}(hcl:∀n (hn:n<cq.as.length),RO pr g (.ag (atD cq.as[n])::cap) h c (.f (.b (p cq.as[n])))):
  RO pr 93 [.f (zaC cq),.fn g [] cap] h c (.f (.i .i64 (ixP cq.as p))):=by
 refine zc3 zbB fn93 rfl ?_;simp only[g93,rU];simp[rW,st0,zae,za2];refine zd2 cq.as p (fun n s=>s.tm.get 0=some (.f (zaC cq))/\s.tm.get 1=some (.fn g [] cap)/\s.tm.get 7=some (.f (.i .i64 cq.as.length))/\s.tm.get 8=some (.f (.i .i64 n))/\s.h=h/\s.c=c/\s.lw=c) (fun x s=>x= .exit 0/\s.lw=c) (fun n y s=>y= .ret/\s.tm.get 4=some (.f (.i .i64 n))/\s.lw=c) ?_ ?_ _ ?_ ?_ ?_
 ·rintro n s hn ⟨h0,h1,h7,h8,eh,ec,el⟩;have hw:=zao n (by omega);have hp:=hcl n hn;generalize hA:cq.as[n]=A at hp⊢;have hA':cq.as[n]? =some A:=by rw[List.getElem?_eq_getElem hn,hA]
  simp[rW,h0,h1,h7,h8,hn,zcI,hA',hA,atE];refine zcp (d:= .f (.b (p A))) ?_ ?_ ?_
  ·simp only[rG];rw[eh,ec];exact hp
  ·simp only[rG];omega
  ·intro mx;cases hb:p A with
   |true=>simp[rW,h0,h1,h7,h8,el]
   |false=>simp[rW,h0,h1,h7,h8,hw,eh,ec,el]
 ·rintro s ⟨h0,h1,h7,h8,eh,ec,el⟩;simp[rW,h0,h1,h7,h8,el]
 ·simp[rW,st0,zae]
 ·rintro h z s ⟨rfl,el⟩;rw[zjt h];simp[rW,za8,el]
 ·rintro n hn hp hm z s ⟨rfl,h4,el⟩;rw[zic hn hp hm];simp[rW,h4,za8,el]
theorem ro63(cq:CQ)(p:Atm->Bool)(hl:cq.as.length<100000){h:T Ob}{c g:Nat}{cap:List D}(hcl:∀n (hn:n<cq.as.length),RO pr g (.ag (atD cq.as[n])::cap) h c (.f (.b (p cq.as[n])))):
  RO pr 63 [.f (zaC cq),.fn g [] cap] h c (.f (.b (cq.as.any p))):=by
 refine zc3 zbB fn63 rfl ?_;simp only[g63,rU];rw[<-zkk cq.as p];simp[rW,st0,zae];refine zcp (d:= .f (.i .i64 (ixP cq.as p))) ?_ ?_ ?_
 ·simp only[rG];exact ro93 cq p hl hcl
 ·simp only[rG];omega
 ·intro mx;simp[rW,za8]
def cmD(k:Cm):List D:= .f (.i .i64 k.op)::(tmD k.l++tmD k.r)
theorem ro129(cq:CQ)(p:Cm->Bool)(hl:cq.cs.length<100000){h:T Ob}{c g:Nat}{cap:List D}(hcl:∀n (hn:n<cq.cs.length),RO pr g (.ag (cmD cq.cs[n])::cap) h c (.f (.b (p cq.cs[n])))):
  RO pr 129 [.f (zaF cq),.fn g [] cap] h c (.f (.i .i64 (ixP cq.cs p))):=by
 refine zc3 zbB fn129 rfl ?_;simp only[zAh,rU];simp[rW,st0,zae,zbf];refine zd2 cq.cs p (fun n s=>s.tm.get 0=some (.f (zaF cq))/\s.tm.get 1=some (.fn g [] cap)/\s.tm.get 7=some (.f (.i .i64 cq.cs.length))/\s.tm.get 8=some (.f (.i .i64 n))/\s.h=h/\s.c=c/\s.lw=c) (fun x s=>x= .exit 0/\s.lw=c) (fun n y s=>y= .ret/\s.tm.get 4=some (.f (.i .i64 n))/\s.lw=c) ?_ ?_ _ ?_ ?_ ?_
 ·rintro n s hn ⟨h0,h1,h7,h8,eh,ec,el⟩;have hw:=zao n (by omega);have hp:=hcl n hn;generalize hA:cq.cs[n]=A at hp⊢;have hA':cq.cs[n]? =some A:=by rw[List.getElem?_eq_getElem hn,hA]
  simp[rW,h0,h1,h7,h8,hn,zcs,hA',hA,cmF,tmE];refine zcp (d:= .f (.b (p A))) ?_ ?_ ?_
  ·simp only[rG];rw[eh,ec];exact hp
  ·simp only[rG];omega
  ·intro mx;cases hb:p A with
   |true=>simp[rW,h0,h1,h7,h8,el]
   |false=>simp[rW,h0,h1,h7,h8,hw,eh,ec,el]
 ·rintro s ⟨h0,h1,h7,h8,eh,ec,el⟩;simp[rW,h0,h1,h7,h8,el]
 ·simp[rW,st0,zae]
 ·rintro h z s ⟨rfl,el⟩;rw[zjt h];simp[rW,za8,el]
 ·rintro n hn hp hm z s ⟨rfl,h4,el⟩;rw[zic hn hp hm];simp[rW,h4,za8,el]
theorem ro95(cq:CQ)(p:Cm->Bool)(hl:cq.cs.length<100000){h:T Ob}{c g:Nat}{cap:List D}(hcl:∀n (hn:n<cq.cs.length),RO pr g (.ag (cmD cq.cs[n])::cap) h c (.f (.b (p cq.cs[n])))):
  RO pr 95 [.f (zaF cq),.fn g [] cap] h c (.f (.b (cq.cs.any p))):=by
 refine zc3 zbB fn95 rfl ?_;simp only[g95,rU];rw[<-zkk cq.cs p];simp[rW,st0,zae];refine zcp (d:= .f (.i .i64 (ixP cq.cs p))) ?_ ?_ ?_
 ·simp only[rG];exact ro129 cq p hl hcl
 ·simp only[rG];omega
 ·intro mx;simp[rW,za8]
def zfw(x y:Cm):Bool:=y.op==x.op&&((zbi y.l x.l&&zbi y.r x.r)||((x.op==1||x.op==2)&&zbi y.l x.r&&zbi y.r x.l))
theorem ro96(x y:Cm)(hx:zb8 x)(hy:zb8 y){h:T Ob}{c K Y:Nat}(gK:h.get K=some (.arr 9 0 [cmD x]))(gY:h.get Y=some (.arr 1 0 [[.f (.b (x.op==1||x.op==2))]]))(hK:K<c)(hY:Y<c):
  RO pr 96 [.ag (cmD y),.ptr K 9 0 0,.ptr Y 1 0 0] h c (.f (.b (zfw x y))):=by
 refine zc3 zbB fn96 rfl ?_;simp only[g96,rU];have nK:¬K=c:=by omega
 have nY:¬Y=c:=by omega
 have q1:=fun k=>zak (k:=k) (zkI y.l x.l hy.1 hx.1)
 have q2:=fun k=>zak (k:=k) (zkI y.r x.r hy.2 hx.2)
 have q3:=fun k=>zak (k:=k) (zkI y.l x.r hy.1 hx.2)
 have q4:=fun k=>zak (k:=k) (zkI y.r x.l hy.2 hx.1)
 simp only[tmE]at q1 q2 q3 q4;unfold zfw;simp only[cmD,tmD,List.cons_append,List.nil_append]at gK;generalize hz:(x.op==1||x.op==2)=z at gY⊢;generalize zbi y.l x.l=b1 at q1⊢;generalize zbi y.r x.r=b2 at q2⊢;generalize zbi y.l x.r=b3 at q3⊢;generalize zbi y.r x.l=b4 at q4⊢
 by_cases h1:y.op=x.op
 ·cases b1<;>cases b2<;>cases z<;>cases b3<;>cases b4<;>(simp[rW,st0,zae,cmD,tmD,gK,gY,nK,nY,h1,q1,q2,q3,q4,za8]<;>simp (disch:=omega) only[zbk,zbN])
 ·have h1':(y.op==x.op)=false:=by simpa using h1
  simp[rW,st0,zae,cmD,tmD,gK,gY,nK,nY,h1,h1',za8];simp (disch:=omega) only[zbk,zbN]
def zix(b:CQ)(k:Cm):Bool:=zi6 k||b.cs.any (zfw k)
theorem ro67{a b:CQ}{ns:List Str}{im:List Trm}{asg:List Bool}{dA dC dT:D}{h:T Ob}{c S M I A:Nat}(H:SAt a b ns im asg dA dC dT h c S M I A)(hb:CqOk b)(k:Cm)(hk:zb8 k):
  RO pr 67 [.ptr S 11 0 0,.ag (cmD k)] h c (.f (.b (zix b k))):=by
 refine zc3 zbB fn67 rfl ?_;simp only[g67,rU];have gS:=H.gS;have nS:¬S=c:=by have:=H.bS;omega
 have nS1:¬S=c+1:=by have:=H.bS;omega
 have q:=fun j=>zak (k:=j) (ans94 k hk)
 simp only[cmF,tmE,List.cons_append,List.nil_append]at q;unfold zix;cases ht:zi6 k with
 |true=>
  rw[ht]at q;simp[rW,st0,zae,cmD,tmD,q,za8];simp (disch:=omega) only[zbk,zbN]
 |false=>
  rw[ht]at q;have key:∀(z:Bool),z=(k.op==1||k.op==2)->∀(H':T Ob) (c':Nat),H'.get c=some (.arr 9 0 [cmD k])->H'.get (c+1)=some (.arr 1 0 [[.f (.b z)]])->c+1<c'->RO pr 95 [.f (zaF b),.fn 96 [] [.ptr c 9 0 0,.ptr (c+1) 1 0 0]] H' c' (.f (.b (b.cs.any (zfw k)))):=by
   intro z hz H' c' g1 g2 hc;refine ro95 b (zfw k) (by have:=hb.lc;omega) fun n hn=> ?_
   rw[hz]at g2;exact ro96 k b.cs[n] hk (hb.cs _ (List.getElem_mem hn)) g1 g2 (by omega) (by omega)
  have fin:∀mx:Nat,True:=fun _=>trivial
  by_cases h1:k.op=1
  ·simp only[h1]at q;simp[rW,st0,zae,cmD,tmD,q,h1,gS,nS,nS1];refine zcp (d:= .f (.b (b.cs.any (zfw k)))) (key true (by simp[h1]) _ _ ?_ ?_ ?_) ?_ ?_
   ·simp only[rG];simp[Vse.T.zab,cmD,tmD,h1]
   ·simp only[rG];simp[Vse.T.zab]
   ·simp only[rG];omega
   ·simp only[rG];simp (disch:=omega) only[zbk,zbN];omega
   ·intro mx;generalize b.cs.any (zfw k)=r;simp[rW,za8];simp (disch:=omega) only[zbk,zbN]
  ·by_cases h2:k.op=2
   ·simp only[h2]at q;simp[rW,st0,zae,cmD,tmD,q,h2,gS,nS,nS1];refine zcp (d:= .f (.b (b.cs.any (zfw k)))) (key true (by simp[h2]) _ _ ?_ ?_ ?_) ?_ ?_
    ·simp only[rG];simp[Vse.T.zab,cmD,tmD,h2]
    ·simp only[rG];simp[Vse.T.zab]
    ·simp only[rG];omega
    ·simp only[rG];simp (disch:=omega) only[zbk,zbN];omega
    ·intro mx;generalize b.cs.any (zfw k)=r;simp[rW,za8];simp (disch:=omega) only[zbk,zbN]
   ·simp[rW,st0,zae,cmD,tmD,q,h1,h2,gS,nS,nS1];refine zcp (d:= .f (.b (b.cs.any (zfw k)))) (key false (by simp[h1,h2]) _ _ ?_ ?_ ?_) ?_ ?_
    ·simp only[rG];simp[Vse.T.zab,cmD,tmD]
    ·simp only[rG];simp[Vse.T.zab,h2]
    ·simp only[rG];omega
    ·simp only[rG];simp (disch:=omega) only[zbk,zbN];omega
    ·intro mx;generalize b.cs.any (zfw k)=r;simp[rW,za8];simp (disch:=omega) only[zbk,zbN]
def RdI(h:T Ob)(c:Nat)(d:D)(l:List Nat):Prop:=d= .f (zeU l)\/Held h 0 c 1 d (iE l)
theorem RdI.up{h h':T Ob}{c c':Nat}{d:D}{l:List Nat}(H:RdI h c d l)(hf:∀id,id<c->h'.get id=h.get id)(hc:c≤c'):RdI h' c' d l:=by
 rcases H with H|H|⟨id,ro,h1,h2,h3,h4,h5⟩
 ·exact .inl H
 ·exact .inr (.inl H)
 ·exact .inr (.inr ⟨id,ro,h1,h2,by rw[hf id h5];exact h3,h4,by omega⟩)
theorem RdI.len{h:T Ob}{c:Nat}{d:D}{l:List Nat}(H:RdI h c d l):zcr d=some l.length:=by
 rcases H with rfl|⟨rfl,hl⟩ |⟨id,ro,rfl,h2,h3,h4,h5⟩
 ·exact zi0 l
 ·have:l=[]:=by simpa [iE]using hl
  subst this;rfl
 ·simp[zcr,zcE]
theorem RdI.get{h:T Ob}{c:Nat}{d:D}{l:List Nat}(H:RdI h c d l){n:Nat}(hn:n<l.length):∃p rd,iaB 1 d n=some p/\zcn false 1 h.get p=some (.f (.i .i64 (l[n]:Int)),rd):=by
 rcases H with rfl|⟨rfl,hl⟩ |⟨id,ro,rfl,h2,h3,h4,h5⟩
 ·exact⟨.fptr [.i .i64 (l[n]:Int)],[],by simp[zrh,hn],by simp[zcn,zh2]⟩
 ·have:l=[]:=by simpa [iE]using hl
  subst this;simp at hn
 ·refine⟨.ptr id 1 n 0,[id],by simp[iaB,zcE,hn],?_⟩;simp[zcn,h3,zcQ,iE,List.getElem?_eq_getElem hn]
def okA(ns:List Str)(im:List Trm)(asg:List Bool)(a b:CQ)(i:Nat):Bool:=match a.as[i]? with
 |some x=>b.as.any (zin ns im asg x)
 |none=>true
def okK(ns:List Str)(im:List Trm)(asg:List Bool)(b:CQ)(k:Cm):Bool:=!((zdm ns im asg k.l).2&&((zdm ns im asg k.r).2&& !zix b ⟨k.op,(zdm ns im asg k.l).1,(zdm ns im asg k.r).1⟩))
def okC(ns:List Str)(im:List Trm)(asg:List Bool)(a b:CQ)(i:Nat):Bool:=match a.cs[i]? with
 |some k=>okK ns im asg b k
 |none=>true
def acc(ns:List Str)(im:List Trm)(asg:List Bool)(a b:CQ)(L K:List Nat):Bool:=L.all (okA ns im asg a b)&&K.all (okC ns im asg a b)
structure zfi(ns:List Str)(a:CQ):Prop where
 va:∀x∈a.as,∀t∈x.ts,InV ns t
 vc:∀k∈a.cs,InV ns k.l/\InV ns k.r
theorem ztz{α:Type}{l:List α}{p:α->Bool}(h:∀a∈l,(!p a)=false):l.all p=true:=by
 rw[List.all_eq_true];intro a ha;simpa using h a ha
theorem zty{α:Type}{l:List α}{p:α->Bool}{n:Nat}(h:n<l.length)(h1:(!p l[n])=true):l.all p=false:=by
 rw[List.all_eq_false];exact⟨l[n],List.getElem_mem h,by simpa using h1⟩
def A1(h:T Ob)(c S:Nat)(dL dK:D)(len n:Nat)(s:St):Prop:=
 s.tm.get 3=some (.ptr c 1 0 0)/\s.tm.get 2=some (dK)/\s.tm.get 16=some (dL)/\s.tm.get 17=some (.f (.i .i64 len))/\s.tm.get 18=some (.f (.i .i64 n))/\s.h.get c=some (.arr 1 0 [[.ptr S 11 0 0]])/\(∀id,id<c->s.h.get id=h.get id)/\c+1≤s.c/\s.lw=c
def A2(h:T Ob)(c S:Nat)(dK:D)(len n:Nat)(s:St):Prop:=
 s.tm.get 3=some (.ptr c 1 0 0)/\s.tm.get 31=some (dK)/\s.tm.get 32=some (.f (.i .i64 len))/\s.tm.get 33=some (.f (.i .i64 n))/\s.h.get c=some (.arr 1 0 [[.ptr S 11 0 0]])/\(∀id,id<c->s.h.get id=h.get id)/\c+1≤s.c/\s.lw=c
theorem ro27{a b:CQ}{ns:List Str}{im:List Trm}{asg:List Bool}{dA dC dT:D}{h:T Ob}{c S M I A:Nat}(H:SAt a b ns im asg dA dC dT h c S M I A)(ho:zfv im asg)(ha:CqOk a)(hb:CqOk b)(hv:zfi ns a)
  {L K:List Nat}{dL dK:D}(hL:RdI h c dL L)(hK:RdI h c dK K)(hLi:∀i∈L,i<a.as.length)(hKi:∀i∈K,i<a.cs.length)(hLl:L.length<100000)(hKl:K.length<100000):
  RO pr 27 [.ptr S 11 0 0,dL,dK] h c (.f (.b (acc ns im asg a b L K))):=by
 refine zc3 zbB fn27 rfl ?_;simp only[g27,rU];unfold acc;generalize hr1:L.all (okA ns im asg a b)=r1;generalize hr2:K.all (okC ns im asg a b)=r2;simp[rW,st0,zae,hL.len];refine zd2 L (fun i=>!okA ns im asg a b i) (fun n s=>A1 h c S dL dK L.length n s) (fun x s=>x= .exit 0/\∃n,A1 h c S dL dK L.length n s) (fun n x s=>x= .ret/\s.tm.get 6=some (.f (.b false))/\s.lw=c) ?_ ?_ _ ?_ ?_ ?_
 ·rintro n s hn ⟨h3,h2,h16,h17,h18,gc,hf,hc,hl⟩;have hw:=zao n (by omega);obtain⟨p,rd,hp1,hp2⟩ :=(hL.up (h':=s.h) hf (by omega:c≤s.c)).get hn;have hi:=hLi _ (List.getElem_mem hn);have e:okA ns im asg a b L[n]=b.as.any (zin ns im asg a.as[L[n]]):=by unfold okA;rw[List.getElem?_eq_getElem hi]
  rw[e];generalize L[n]=i at hp2 hi e⊢;have hA:=ha.as _ (List.getElem_mem hi);have hAv:=hv.va _ (List.getElem_mem hi);have gS:=H.gS;have hbS:=H.bS;rw[<-hf S hbS]at gS;have nS:¬S=s.c:=by omega
  have nc:¬c=s.c:=by omega
  have HS:SAt a b ns im asg dA dC dT s.h s.c S M I A:=H.up hf (by omega);have h63:∀(H':T Ob) (c':Nat),SAt a b ns im asg dA dC dT H' c' S M I A->H'.get c=some (.arr 1 0 [[.ptr S 11 0 0]])->H'.get s.c=some (.arr 1 0 [[.f (.i .i64 (i:Int))]])->s.c<c'->RO pr 63 [.f (zaC b),.fn 64 [] [.ptr c 1 0 0,.ptr s.c 1 0 0]] H' c' (.f (.b (b.as.any (zin ns im asg a.as[i])))):=
   fun H' c' HH g1 g2 hcc=>ro63 b (zin ns im asg a.as[i]) (by have:=hb.la;omega) fun m hm=>ro64 HH ho hi hAv (by have:=hA.2;omega) b.as[m] (hb.as _ (List.getElem_mem hm)) g1 g2 (by omega) hcc
  generalize b.as.any (zin ns im asg a.as[i])=z at h63⊢;simp[rW,h3,h2,h16,h17,h18,hn,hp1,hp2,gc,gS,nS,nc];refine zcp (h63 _ _ (HS.up ?_ ?_) ?_ ?_ ?_) ?_ ?_
  ·intro id hid;simp only[rG];simp[Vse.T.zab,show id≠s.c by omega]
  ·simp only[rG];omega
  ·simp only[rG];simp[Vse.T.zab,nc,gc]
  ·simp only[rG];simp[Vse.T.zab]
  ·simp only[rG];omega
  ·simp only[rG];simp (disch:=omega) only[zbk,zbN];omega
  ·intro mx;have hF:∀id,id<c->¬id=s.c:=fun id h=>by omega
   cases z with
   |true=>
    simp[rW,h3,h2,h16,h17,h18,hw,A1,nc,gc];refine⟨fun id h=> ?_,by omega,?_⟩
    ·simp[hF id h,hf id h]
    ·rw[hl];simp (disch:=omega) only[zbk,zbN]
   |false=>
    simp[rW,h3,h2,h16,h17,h18];rw[hl];simp (disch:=omega) only[zbk,zbN]
 ·rintro s ⟨h3,h2,h16,h17,h18,gc,hf,hc,hl⟩;simp[rW,h3,h2,h16,h17,h18,A1,gc,hc,hl];exact⟨⟨_,rfl⟩,fun id h=>hf id h⟩
 ·simp[rW,A1];refine⟨fun id h=> ?_,?_⟩
  ·intro e;omega
  ·simp (disch:=omega) only[zbk,zbN]
 ·rintro hall z s ⟨rfl,n,h3,h2,h16,h17,h18,gc,hf,hc,hl⟩;have e1:r1=true:=by rw[<-hr1];exact ztz hall
  subst e1;have hK':=hK.up (h':=s.h) hf (by omega:c≤s.c);simp[rW,h3,h2,h16,h17,h18,hK'.len];refine zd2 K (fun i=>!okC ns im asg a b i) (fun n s=>A2 h c S dK K.length n s) (fun x s=>x= .exit 2/\s.lw=c) (fun n x s=>x= .ret/\s.tm.get 6=some (.f (.b false))/\s.lw=c) ?_ ?_ _ ?_ ?_ ?_
  ·rintro n s hn ⟨h3,h31,h32,h33,gc,hf,hc,hl⟩;have hw:=zao n (by omega);obtain⟨p,rd,hp1,hp2⟩ :=(hK.up (h':=s.h) hf (by omega:c≤s.c)).get hn;have hi:=hKi _ (List.getElem_mem hn);have e:okC ns im asg a b K[n]=okK ns im asg b a.cs[K[n]]:=by unfold okC;rw[List.getElem?_eq_getElem hi]
   rw[e];generalize K[n]=i at hp2 hi e⊢;have hAv:=hv.vc _ (List.getElem_mem hi);generalize hk:a.cs[i]=k at hAv⊢;have hk':a.cs[i]? =some k:=by rw[List.getElem?_eq_getElem hi,hk]
   have gS:=H.gS;have hbS:=H.bS;rw[<-hf S hbS]at gS;have nS:¬S=s.c:=by omega
   have nc:¬c=s.c:=by omega
   have nc1:¬c=s.c+1:=by omega
   have nc2:¬c=s.c+1+1:=by omega
   have n2:¬s.c=s.c+1+1:=by omega
   have HS:SAt a b ns im asg dA dC dT s.h s.c S M I A:=H.up hf (by omega);have hF:∀id,id<s.c->¬id=s.c/\¬id=s.c+1/\¬id=s.c+1+1:=fun id h=>by omega
   have hF2:∀id,id<c->¬id=s.c/\¬id=s.c+1/\¬id=s.c+1+1:=fun id h=>by omega
   simp[rW,h3,h31,h32,h33,hn,hp1,hp2,gc,gS,nS,nc,zcs,hk',hk,cmF,tmE];refine zcp (zGK (HS.up ?_ ?_) k.l hAv.1) ?_ ?_
   ·intro id hid;simp only[rG];simp[Vse.T.zab,hF id hid]
   ·simp only[rG];omega
   ·simp only[rG];simp (disch:=omega) only[zbk,zbN];omega
   intro mx;simp[rW,h3,h31,h32,h33,gc,nc,nc1,tmD];refine zcp (zGK (HS.up ?_ ?_) k.r hAv.2) ?_ ?_
   ·intro id hid;simp only[rG];simp[Vse.T.zab,hF id hid]
   ·simp only[rG];omega
   ·simp only[rG];simp (disch:=omega) only[zbk,zbN];omega
   intro mx2;have hl1:=zra (ns:=ns) ho (t:=k.l);have hl2:=zra (ns:=ns) ho (t:=k.r);unfold okK;cases hb1:(zdm ns im asg k.l).2 with
   |false=>
    simp[rW,h3,h31,h32,h33,gc,nc,nc1,nc2,n2,tmD,hb1,A2,hw];refine⟨fun id h=> ?_,by omega,?_⟩
    ·simp[hF2 id h,hf id h]
    ·rw[hl];simp (disch:=omega) only[zbk,zbN]
   |true=>
    cases hb2:(zdm ns im asg k.r).2 with
    |false=>
     simp[rW,h3,h31,h32,h33,gc,nc,nc1,nc2,n2,tmD,hb1,hb2,A2,hw];refine⟨fun id h=> ?_,by omega,?_⟩
     ·simp[hF2 id h,hf id h]
     ·rw[hl];simp (disch:=omega) only[zbk,zbN]
    |true=>
     have h67:=fun(H':T Ob) (c':Nat) (HH:SAt a b ns im asg dA dC dT H' c' S M I A)=>ro67 HH hb ⟨k.op,(zdm ns im asg k.l).1,(zdm ns im asg k.r).1⟩ ⟨hl1 hb1,hl2 hb2⟩
     generalize (zdm ns im asg k.l).1=u1 at h67⊢;generalize (zdm ns im asg k.r).1=u2 at h67⊢;simp[rW,h3,h31,h32,h33,gc,nc,nc1,nc2,n2,tmD,hb1,hb2];refine zcp (h67 _ _ (HS.up ?_ ?_)) ?_ ?_
     ·intro id hid;simp only[rG];simp[Vse.T.zab,hF id hid]
     ·simp only[rG];omega
     ·simp only[rG];simp (disch:=omega) only[zbk,zbN];omega
     intro mx3;cases zix b ⟨k.op,u1,u2⟩with
     |true=>
      simp[rW,h3,h31,h32,h33,gc,nc,nc1,nc2,n2,A2,hw];refine⟨fun id h=> ?_,by omega,?_⟩
      ·simp[hF2 id h,hf id h]
      ·rw[hl];simp (disch:=omega) only[zbk,zbN]
     |false=>
      simp[rW,h3,h31,h32,h33,gc,nc,nc1,nc2,n2,A2,hw];rw[hl];simp (disch:=omega) only[zbk,zbN]
  ·rintro s ⟨h3,h31,h32,h33,gc,hf,hc,hl⟩;simp[rW,h3,h31,h32,h33,hl]
  ·simp[rW,h3,h2,h16,h17,h18,A2,gc,hc,hl];exact fun id h=>hf id h
  ·rintro hall z s ⟨rfl,hl⟩;have e1:r2=true:=by rw[<-hr2];exact ztz hall
   simp[rW,za8,hl,e1]
  ·rintro n hn hp hm z s ⟨rfl,h6,hl⟩;have e1:r2=false:=by rw[<-hr2];exact zty hn hp
   simp[rW,h6,hl,za8,e1]
 ·rintro n hn hp hm z s ⟨rfl,h6,hl⟩;have e1:r1=false:=by rw[<-hr1];exact zty hn hp
  simp[rW,h6,hl,za8,e1]
end Go.Proofs.YtimgcabgophnfaaGreat
end
