/- What the reference's small functions answer: comparison of strings, values, terms. -/
import Derived.Test.YtimgcabgophnfaaGreatHa
import Derived.Test.YtimgcabgophnfaaGreatPr
import Derived.KernelRfl
import Derived.IntWalk
set_option linter.all false
noncomputable section
section
namespace Go.Proofs.YtimgcabgophnfaaGreat
open Go Go.Vse Go.Vse.Sm
set_option maxRecDepth 100000
set_option maxHeartbeats 1000000
set_option linter.all false
theorem fn139:pr.fn 139=some zAk:=by kernel_rfl
theorem fn131:pr.fn 131=some zAj:=by kernel_rfl
theorem fn103:pr.fn 103=some zzP:=by kernel_rfl
theorem fn104:pr.fn 104=some zzQ:=by kernel_rfl
def zeo(a b:Str):Int:=if Go.Op.bytesLess a b=true then -1 else if a=b then 0 else 1
theorem zPm(a b:Str):Ans pr 139 [.s a,.s b] (.i .i64 (zeo a b)):=by
 refine za1 fn139 ?_;simp only[zAk,rU];unfold zeo
 by_cases h1:Go.Op.bytesLess a b=true
 ·simp -implicitDefEqProofs [rR,st0,zae,h1]
 ·by_cases h2:a=b
  ·simp -implicitDefEqProofs [rR,st0,zae,h1,h2]
  ·simp -implicitDefEqProofs [rR,st0,zae,h1,h2]
def zdL(a b:Int):Int:=if a=b then 0 else if a<b then -1 else 1
theorem zBN(a b:Int):Ans pr 131 [.ag (vF a),.ag (vF b)] (.i .i64 (zdL a b)):=by
 refine za1 fn131 ?_;simp only[zAj,rU];unfold zdL;have hl:Go.Op.bytesLess [] []=false:=rfl
 by_cases h1:a=b
 ·subst h1;simp -implicitDefEqProofs [rR,st0,zae,vF,hl]
 ·by_cases h2:a<b
  ·simp -implicitDefEqProofs [rR,st0,zae,vF,hl,h1,h2]
  ·simp -implicitDefEqProofs [rR,st0,zae,vF,hl,h1,h2]
theorem zIe(b:Str):Go.Op.bytesLess b []=false:=by cases b<;>rfl
theorem bl_n{b:Str}(h:b≠[]):Go.Op.bytesLess [] b=true:=by
 cases b with
 |nil=>exact absurd rfl h
 |cons=>rfl
def tv:Trm->Str
 | .var s=>s
 | .cst _=>[]
def tk:Trm->Int
 | .var _=>0
 | .cst _=>1
def tn:Trm->Int
 | .var _=>0
 | .cst n=>n
theorem tmE(t:Trm):tmF t=[.s (tv t),.i .i64 (tk t),.i .i64 (tn t),.s []]:=by cases t<;>rfl
def zaO:Trm->Trm->Int
 | .cst a,.cst b=>zdL a b
 | .cst _,.var _=> -1
 | .var _,.cst _=>1
 | .var a,.var b=>zeo a b
theorem zlw(a b:Trm)(ha:zau a)(hb:zau b):Ans pr 103 [.ag (tmF a),.ag (tmF b)] (.i .i64 (zaO a b)):=by
 refine za1 fn103 ?_;simp only[zzP,rU];cases a with
 |cst a=>
  cases b with
  |cst b=>
   have q:=fun k=>zak (k:=k) (zBN a b)
   simp only[vF]at q;simp -implicitDefEqProofs [rR,st0,zae,tmF,vF,zaO,q]
  |var b=>
   simp only[zau]at hb;simp -implicitDefEqProofs [rR,st0,zae,tmF,zaO,hb,bl_n hb]
 |var a=>
  cases b with
  |cst b=>
   simp only[zau]at ha;simp -implicitDefEqProofs [rR,st0,zae,tmF,zaO,ha,zIe]
  |var b=>
   simp only[zau]at ha hb
   by_cases h1:Go.Op.bytesLess a b=true
   ·simp -implicitDefEqProofs [rR,st0,zae,tmF,zaO,zeo,ha,hb,h1]
   ·by_cases h2:a=b
    ·simp -implicitDefEqProofs [rR,st0,zae,tmF,zaO,zeo,ha,hb,h1,h2]
    ·simp -implicitDefEqProofs [rR,st0,zae,tmF,zaO,zeo,ha,hb,h1,h2]
def zbi(a b:Trm):Bool:=zaO a b==0
theorem zjZ(a b:Trm)(ha:zau a)(hb:zau b):Ans pr 104 [.ag (tmF a),.ag (tmF b)] (.b (zbi a b)):=by
 unfold zbi;refine za1 fn104 ?_;simp only[zzQ,rU];have q:=fun k=>zak (k:=k) (zlw a b ha hb)
 simp only[tmE]at q;simp -implicitDefEqProofs [rR,st0,zae,tmE,q]
theorem fn98:pr.fn 98=some g98:=by kernel_rfl
theorem fn73:pr.fn 73=some g73:=by kernel_rfl
theorem fn102:pr.fn 102=some zzO:=by kernel_rfl
theorem fn100:pr.fn 100=some zzM:=by kernel_rfl
theorem fn130:pr.fn 130=some zAi:=by kernel_rfl
theorem fn101:pr.fn 101=some zzN:=by kernel_rfl
theorem fn112:pr.fn 112=some zzT:=by kernel_rfl
theorem fn99:pr.fn 99=some g99:=by kernel_rfl
theorem fn72:pr.fn 72=some g72:=by kernel_rfl
theorem fn32:pr.fn 32=some g32:=by kernel_rfl
theorem fn75:pr.fn 75=some g75:=by kernel_rfl
theorem fn34:pr.fn 34=some g34:=by kernel_rfl
theorem fn33:pr.fn 33=some g33:=by kernel_rfl
theorem fn74:pr.fn 74=some g74:=by kernel_rfl
theorem fn9:pr.fn 9=some g9:=by kernel_rfl
def zaX(l:List Trm):F:=slc 4 (l.map tmF)
theorem wrap_i64(n:Int)(h:0≤n)(h2:n<9223372036854775808):IntKind.i64.wrap n=n:=IntWalk.i64_in n (by omega)
theorem zao(n:Nat)(h:n<1000000):IntKind.i64.wrap ((n:Int)+1)=((n+1:Nat):Int):=wrap_i64 _ (by omega) (by omega)
theorem zaL(l:List Str):(zas l).d= .f (zas l):=zjD ..
theorem za7(l:List Str):zcr (.f (zas l))=some l.length:=by simp[zas,zgP]
theorem zb2(l:List Str)(n:Nat):iaB 1 (.f (zas l)) n=(l[n]?).map fun s=>D.fptr [.s s]:=by simp[zas,zii,Function.comp_def]
theorem zaS(l:List Trm):(zaX l).d= .f (zaX l):=zjD ..
theorem zaQ(l:List Trm):zcr (.f (zaX l))=some l.length:=by simp[zaX,zgP]
theorem zbr(l:List Trm)(n:Nat):iaB 4 (.f (zaX l)) n=(l[n]?).map fun t=>D.fptr (tmF t):=by simp[zaX,zii,Function.comp_def]
theorem zy9(l:List Str)(x:Str)(hl:l.length<1000000):Ans pr 73 [zas l,.s x] (.b (l.any (· ==x))):=by
  refine za1 fn73 ?_;simp only[g73,rU];simp -implicitDefEqProofs [rR,st0,zae,zaL];refine zd2 l (· ==x) (fun n s=>s.tm.get 0=some (.f (zas l))/\s.tm.get 1=some (.f (.s x))/\s.tm.get 5=some (.f (.i .i64 n))) (fun x s=>x= .exit 0) (fun n y s=>y= .ret/\s.tm.get 4=some (.f (.b true))) ?_ ?_ _ ?_ ?_ ?_
  · rintro n s hn ⟨h0,h1,h5⟩;have hw:=zao n (by omega)
    by_cases he:l[n]=x
    · simp -implicitDefEqProofs [rR,h0,h1,h5,za7,zb2,hn,he]
    · simp -implicitDefEqProofs [rR,h0,h1,h5,za7,zb2,hn,he,hw]
  · rintro s ⟨h0,h1,h5⟩;simp -implicitDefEqProofs [rR,h0,h1,h5,za7]
  · simp -implicitDefEqProofs [rR,st0,zae]
  · rintro h x s rfl;rw[ztB h];simp -implicitDefEqProofs [rR,st0]
  · rintro n hn hp _ x s ⟨rfl,h4⟩;rw[zpV hn hp];simp -implicitDefEqProofs [rR,h4]
theorem zO9(l:List Str)(x:Str)(hl:l.length<1000000):Ans pr 102 [zas l,.s x] (.b (l.any (· ==x))):=by
  refine za1 fn102 ?_;have h:=(show zzO=g73 from rfl)
  rw[h];simp only[g73,rU];simp -implicitDefEqProofs [rR,st0,zae,zaL];refine zd2 l (· ==x) (fun n s=>s.tm.get 0=some (.f (zas l))/\s.tm.get 1=some (.f (.s x))/\s.tm.get 5=some (.f (.i .i64 n))) (fun x s=>x= .exit 0) (fun n y s=>y= .ret/\s.tm.get 4=some (.f (.b true))) ?_ ?_ _ ?_ ?_ ?_
  · rintro n s hn ⟨h0,h1,h5⟩;have hw:=zao n (by omega)
    by_cases he:l[n]=x
    · simp -implicitDefEqProofs [rR,h0,h1,h5,za7,zb2,hn,he]
    · simp -implicitDefEqProofs [rR,h0,h1,h5,za7,zb2,hn,he,hw]
  · rintro s ⟨h0,h1,h5⟩;simp -implicitDefEqProofs [rR,h0,h1,h5,za7]
  · simp -implicitDefEqProofs [rR,st0,zae]
  · rintro h x s rfl;rw[ztB h];simp -implicitDefEqProofs [rR,st0]
  · rintro n hn hp _ x s ⟨rfl,h4⟩;rw[zpV hn hp];simp -implicitDefEqProofs [rR,h4]
def img(ns:List Str)(im:List Trm):Trm->Option Trm
  | .cst n=>some (.cst n)
  | .var s=>((ns.zip im).find? (·.1==s)).map (·.2)
theorem zzd(t:Trm)(ns:List Str)(im:List Trm)(ht:zau t)(hl:im.length≤ns.length)(hn:ns.length<1000000):Ans pr 98 [.ag (tmF t),zas ns,zaX im] (.tu [.ag (tmF ((img ns im t).getD t)),.b (img ns im t).isSome]):=by
 refine za1 fn98 ?_;simp only[g98,rU];cases t with
 |cst n=>simp -implicitDefEqProofs [rR,st0,zae,zaL,zaS,tmF,img]
 |var v=>
  have hx:v≠[]:=ht;have hzl:(ns.zip im).length=im.length:=by simp;omega
  simp -implicitDefEqProofs [rR,st0,zae,zaL,zaS,hx,(show tmF (.var v)=[.s v,.i .i64 0,.i .i64 0,.s []]from rfl)];refine zd2 (ns.zip im) (·.1==v) (fun n s=>s.tm.get 1=some (.f (zas ns))/\s.tm.get 2=some (.f (zaX im))/\s.tm.get 3=some (.ptr 0 4 0 0)/\s.tm.get 6=some (.ptr 1 4 0 0)/\s.tm.get 8=some (.f (.i .i64 n))/\s.h.get 0=some (.arr 4 0 [F.dL (tmF (.var v))])/\s.h.get 1=some (.arr 4 0 [F.dL (tmF (.var []))])/\2≤s.c)
   (fun x s=>x= .exit 0/\s.tm.get 3=some (.ptr 0 4 0 0)/\s.tm.get 6=some (.ptr 1 4 0 0)/\s.h.get 0=some (.arr 4 0 [F.dL (tmF (.var v))])/\s.h.get 1=some (.arr 4 0 [F.dL (tmF (.var []))])/\2≤s.c) (fun n y s=>y= .ret/\∃t,im[n]? =some t/\s.tm.get 6=some (.ptr 1 4 0 0)/\s.tm.get 7=some (.f (.b true))/\s.h.get 1=some (.arr 4 0 [F.dL (tmF t)])) ?_ ?_ _ ?_ ?_ ?_
  ·rintro n s hn ⟨h1,h2,h3,h6,h8,g0,g1,hc⟩;have hni:n<im.length:=by omega
   have hnn:n<ns.length:=by omega
   have hw:=zao n (by omega);simp only[List.getElem_zip]
   by_cases he:ns[n]=v
   ·simp -implicitDefEqProofs [rR,h1,h2,h3,h6,h8,g0,g1,za7,zb2,zaQ,zbr,hn,hni,hnn,he,tmE,tv];refine zay ?_;simp -implicitDefEqProofs [rR,h1,h2,h3,h6,h8,g0,g1,za7,zb2,zaQ,zbr,hn,hni,hnn,he,tmE,tv]
   ·simp -implicitDefEqProofs [rR,h1,h2,h3,h6,h8,g0,g1,za7,zb2,zaQ,zbr,hn,hni,hnn,he,hw,tmE,tv];refine zay ?_;simp -implicitDefEqProofs [rR,h1,h2,h3,h6,h8,g0,g1,za7,zb2,zaQ,zbr,hn,hni,hnn,he,hw,tmE,tv,hc]
  ·rintro s ⟨h1,h2,h3,h6,h8,g0,g1,hc⟩;simp -implicitDefEqProofs [rR,h1,h2,h3,h6,h8,g0,g1,za7,zaQ,hzl,tmF,hc]
  ·simp -implicitDefEqProofs [rR,st0,zae,tmF]
  ·rintro h x s ⟨rfl,h3,h6,g0,g1,hc⟩;have c1:1<s.c:=by omega
   simp -implicitDefEqProofs [rR,h3,h6,g0,g1,tmE,img,zMA h,tv,tk,tn,c1]
  ·rintro n hn hp hm x s ⟨rfl,t,ht',h6,h7,g1⟩;have hni:n<im.length:=by omega
   have:t=im[n]:=by rw[List.getElem?_eq_getElem hni]at ht';simpa using ht'.symm
   subst this;have hi:img ns im (.var v)=some im[n]:=by
    simp only[img];rw[zuq (ns.zip im) (fun x=>x.1==v) n hn hp hm];simp
   rw[hi];simp -implicitDefEqProofs [rR,h6,h7,g1,tmE]
theorem zlB(a b:Int):(zdL a b==0)=decide (a=b):=by
 unfold zdL
 by_cases h:a=b
 ·simp[h]
 ·simp only[h,if_false,decide_false];split<;>rfl
theorem zxj(a b:Int):(zdL a b != 0)=decide (a≠b):=by
 rw[bne,zlB];simp
theorem zxi(a b:Int):(zdL a b<0)=(a<b):=by
 unfold zdL
 by_cases h:a=b
 ·simp[h]
 ·simp only[h,if_false];split<;>simp_all
theorem zxe(a b:Int):(zdL a b≤0)=(a≤b):=by
 unfold zdL
 by_cases h:a=b
 ·simp[h]
 ·simp only[h,if_false];split
  ·simp;omega
  ·simp;omega
theorem zPk(op a b:Int):Ans pr 130 [.i .i64 op,.ag (vF a),.ag (vF b)] (.b (zzq op a b)):=by
 have q:=fun k=>zak (k:=k) (zBN a b)
 refine za1 fn130 ?_;simp only[zAi,rU];unfold zzq;simp only[vF]at q
 by_cases h1:op=1
 ·subst h1;simp -implicitDefEqProofs [rR,st0,zae,vF,q,zlB]
 ·by_cases h2:op=2
  ·subst h2;simp -implicitDefEqProofs [rR,st0,zae,vF,q,zxj]
  ·by_cases h3:op=3
   ·subst h3;simp -implicitDefEqProofs [rR,st0,zae,vF,q,zxi]
   ·by_cases h4:op=4
    ·subst h4;simp -implicitDefEqProofs [rR,st0,zae,vF,q,zxe]
    ·simp -implicitDefEqProofs [rR,st0,zae,vF,q,h1,h2,h3,h4]
def zb8(k:Cm):Prop:=zau k.l/\zau k.r
def zi6(k:Cm):Bool:=zbi k.l k.r&&(k.op==1||k.op==4)||decide (tv k.l=[])&&decide (tv k.r=[])&&zzq k.op (tn k.l) (tn k.r)
theorem zpN{t:Trm}(ht:zau t)(h:tv t=[]):tk t=1:=by
 cases t with
 |var s=>exact absurd h ht
 |cst n=>rfl
theorem zO6(x:Cm)(hx:zb8 x):Ans pr 100 [.ag (cmF x)] (.b (zi6 x)):=by
 have q:=fun k=>zak (k:=k) (zjZ x.l x.r hx.1 hx.2)
 have r:=fun k=>zak (k:=k) (zPk x.op (tn x.l) (tn x.r))
 refine za1 fn100 ?_;simp only[zzM,rU];unfold zi6;simp only[tmE,vF]at q r;generalize zbi x.l x.r=b at q⊢
 by_cases h4:tv x.l=[]
 ·have h4':=zpN hx.1 h4
  by_cases h5:tv x.r=[]
  ·have h5':=zpN hx.2 h5;simp only[h4,h5,h4',h5']at q;cases b with
   |true=>
    by_cases h2:x.op=1
    ·simp -implicitDefEqProofs [rR,st0,zae,tmE,cmF,q,h2,h4,h5,h4',h5']
    ·by_cases h3:x.op=4
     ·simp -implicitDefEqProofs [rR,st0,zae,tmE,cmF,q,h3,h4,h5,h4',h5']
     ·simp -implicitDefEqProofs [rR,st0,zae,tmE,cmF,q,h2,h3,h4,h5,h4',h5',r]
   |false=>simp -implicitDefEqProofs [rR,st0,zae,tmE,cmF,q,h4,h5,h4',h5',r]
  ·simp only[h4,h4']at q;cases b with
   |true=>
    by_cases h2:x.op=1
    ·simp -implicitDefEqProofs [rR,st0,zae,tmE,cmF,q,h2,h4,h5,h4']
    ·by_cases h3:x.op=4
     ·simp -implicitDefEqProofs [rR,st0,zae,tmE,cmF,q,h3,h4,h5,h4']
     ·simp -implicitDefEqProofs [rR,st0,zae,tmE,cmF,q,h2,h3,h4,h5,h4']
   |false=>simp -implicitDefEqProofs [rR,st0,zae,tmE,cmF,q,h4,h5,h4']
 ·cases b with
  |true=>
   by_cases h2:x.op=1
   ·simp -implicitDefEqProofs [rR,st0,zae,tmE,cmF,q,h2,h4]
   ·by_cases h3:x.op=4
    ·simp -implicitDefEqProofs [rR,st0,zae,tmE,cmF,q,h3,h4]
    ·simp -implicitDefEqProofs [rR,st0,zae,tmE,cmF,q,h2,h3,h4]
  |false=>simp -implicitDefEqProofs [rR,st0,zae,tmE,cmF,q,h4]
def zgs(x y:Cm):Bool:=x.op==y.op&&((zbi x.l y.l&&zbi x.r y.r)||((x.op==1||x.op==2)&&zbi x.l y.r&&zbi x.r y.l))
def zaF(c:CQ):F:=csF c
def zaC(c:CQ):F:=Sm.asF c
theorem zaW(c:CQ):(zaF c).d= .f (zaF c):=by
 unfold zaF csF;split
 ·rfl
 ·exact zjD ..
theorem zbf(c:CQ):zcr (.f (zaF c))=some c.cs.length:=by
 unfold zaF csF;split
 ·rename_i h;rw[h.2];rfl
 ·simp[zgP]
theorem zcs(c:CQ)(n:Nat):iaB 9 (.f (zaF c)) n=(c.cs[n]?).map fun t=>D.fptr (cmF t):=by
 unfold zaF csF;split
 ·rename_i h;rw[h.2];rfl
 ·simp[zii,Function.comp_def]
theorem zaV(c:CQ):(zaC c).d= .f (zaC c):=by
 unfold zaC Sm.asF;split
 ·rfl
 ·exact zjD ..
theorem za2(c:CQ):zcr (.f (zaC c))=some c.as.length:=by
 unfold zaC Sm.asF;split
 ·rename_i h;rw[h.2];rfl
 ·simp[zgP]
theorem zcI(c:CQ)(n:Nat):iaB 3 (.f (zaC c)) n=(c.as[n]?).map fun t=>D.fptr (atF t):=by
 unfold zaC Sm.asF;split
 ·rename_i h;rw[h.2];rfl
 ·simp[zii,Function.comp_def]
theorem cqE(c:CQ):cqF c=[zaC c,zaF c]:=rfl
theorem atE(a:Atm):atF a=[.s a.r,.b a.neg,zaX a.ts]:=rfl
theorem zO8(x:Cm)(c:CQ)(hx:zb8 x)(hc:∀y∈c.cs,zb8 y)(hl:c.cs.length<1000000):Ans pr 101 [.ag (cmF x),.ag (cqF c)] (.b (c.cs.any (zgs x))):=by
 refine za1 fn101 ?_;simp only[zzN,rU];simp -implicitDefEqProofs [rR,st0,zae,cqE,zaV,zaW,cmF,tmE];refine zd2 c.cs (zgs x) (fun n s=>s.tm.get 2=some (.ptr 0 9 0 0)/\s.tm.get 3=some (.ptr 1 2 0 0)/\s.tm.get 5=some (.f (.i .i64 n))/\s.h.get 0=some (.arr 9 0 [F.dL (cmF x)])/\s.h.get 1=some (.arr 2 0 [[.f (zaC c),.f (zaF c)]])/\2≤s.c) (fun x s=>x= .exit 0) (fun n y s=>y= .ret/\s.tm.get 4=some (.f (.b true))) ?_ ?_ _ ?_ ?_ ?_
 ·rintro n s hn ⟨h2,h3,h5,g0,g1,hc2⟩;have hw:=zao n (by omega);have hy:=hc _ (List.getElem_mem hn);have q1:=fun k=>zak (k:=k) (zjZ x.l (c.cs[n]).l hx.1 hy.1)
  have q2:=fun k=>zak (k:=k) (zjZ x.r (c.cs[n]).r hx.2 hy.2)
  have q3:=fun k=>zak (k:=k) (zjZ x.l (c.cs[n]).r hx.1 hy.2)
  have q4:=fun k=>zak (k:=k) (zjZ x.r (c.cs[n]).l hx.2 hy.1)
  simp only[tmE]at q1 q2 q3 q4;have c0:(0:Nat)≠s.c:=by omega
  have c1:(1:Nat)≠s.c:=by omega
  unfold zgs;generalize zbi x.l (c.cs[n]).l=b1 at q1⊢;generalize zbi x.r (c.cs[n]).r=b2 at q2⊢;generalize zbi x.l (c.cs[n]).r=b3 at q3⊢;generalize zbi x.r (c.cs[n]).l=b4 at q4⊢
  by_cases h1:x.op=(c.cs[n]).op
  ·have h1':(x.op==(c.cs[n]).op)=true:=by simpa using h1
   have c3:1≤s.c:=by omega
   by_cases hb:b1=true/\b2=true
   ·obtain⟨rfl,rfl⟩ :=hb;simp -implicitDefEqProofs [rR,h2,h3,h5,g0,g1,zbf,zcs,hn,hw,cmF,tmE,h1,q1,q2,c0,c1,hc2]
   ·have hb':(b1&&b2)=false:=by cases b1<;>cases b2<;>simp_all
    by_cases ho:(c.cs[n]).op=1\/(c.cs[n]).op=2
    ·cases b1 with
     |false=>
      rcases ho with ho|ho
      ·cases b3<;>cases b4<;>simp -implicitDefEqProofs [rR,h2,h3,h5,g0,g1,zbf,zcs,hn,hw,cmF,tmE,h1,ho,q1,q2,q3,q4,c0,c1,hc2,c3]
      ·cases b3<;>cases b4<;>simp -implicitDefEqProofs [rR,h2,h3,h5,g0,g1,zbf,zcs,hn,hw,cmF,tmE,h1,ho,q1,q2,q3,q4,c0,c1,hc2,c3]
     |true=>
      cases b2 with
      |true=>simp at hb'
      |false=>
       rcases ho with ho|ho
       ·cases b3<;>cases b4<;>simp -implicitDefEqProofs [rR,h2,h3,h5,g0,g1,zbf,zcs,hn,hw,cmF,tmE,h1,ho,q1,q2,q3,q4,c0,c1,hc2,c3]
       ·cases b3<;>cases b4<;>simp -implicitDefEqProofs [rR,h2,h3,h5,g0,g1,zbf,zcs,hn,hw,cmF,tmE,h1,ho,q1,q2,q3,q4,c0,c1,hc2,c3]
    ·have ho1:¬(c.cs[n]).op=1:=fun h=>ho (.inl h)
     have ho2:¬(c.cs[n]).op=2:=fun h=>ho (.inr h)
     cases b1 with
     |false=>simp -implicitDefEqProofs [rR,h2,h3,h5,g0,g1,zbf,zcs,hn,hw,cmF,tmE,h1,ho1,ho2,q1,q2,c0,c1,hc2,c3]
     |true=>
      cases b2 with
      |true=>simp at hb'
      |false=>simp -implicitDefEqProofs [rR,h2,h3,h5,g0,g1,zbf,zcs,hn,hw,cmF,tmE,h1,ho1,ho2,q1,q2,c0,c1,hc2,c3]
  ·have c3:1≤s.c:=by omega
   simp -implicitDefEqProofs [rR,h2,h3,h5,g0,g1,zbf,zcs,hn,hw,cmF,tmE,h1,c0,c1,hc2,c3]
 ·rintro s ⟨h2,h3,h5,g0,g1,hc2⟩;simp -implicitDefEqProofs [rR,h2,h3,h5,g0,g1,zbf]
 ·simp -implicitDefEqProofs [rR,st0,zae,cmF,tmE]
 ·rintro h x s rfl;rw[ztB h];simp -implicitDefEqProofs [rR,st0]
 ·rintro n hn hp _ x s ⟨rfl,h4⟩;rw[zpV hn hp];simp -implicitDefEqProofs [rR,h4]
def zfU:List Trm->List Trm->Int
 |a::l,b::m=>if zaO a b=0 then zfU l m else zaO a b
 |l,m=>(l.length:Int) - m.length
def zpU(a b:Atm):Int:=if zeo a.r b.r=0 then(if a.neg=b.neg then zfU a.ts b.ts else if b.neg=true then -1 else 1)else zeo a.r b.r
def zvb(_:Unit)(p:Trm×Trm):Unit⊕Int:=if zaO p.1 p.2=0 then .inl ()else .inr (zaO p.1 p.2)
theorem zla:∀(l m:List Trm),zfU l m=match zc1 zvb () (l.zip m)with
  | .inl _=>(l.length:Int) - m.length
  | .inr c=>c
 |[],m=>by simp[zfU,zc1]
 |a::l,[]=>by simp[zfU,zc1]
 |a::l,b::m=>by
  simp only[zfU,List.zip_cons_cons,zhy,zvb]
  by_cases h:zaO a b=0
  ·simp only[h,if_true,zla l m];cases zc1 zvb () (l.zip m)<;>simp;omega
  ·simp only[h,if_false]
def zcc(a:Atm):Prop:=(∀t∈a.ts,zau t)/\a.ts.length<1000
theorem zHw(a b:Nat)(ha:a<1000)(hb:b<1000):IntKind.i64.wrap ((a:Int) - b)=(a:Int) - b:=IntWalk.i64_in _ (by omega)
theorem zBM(a b:Atm)(ha:zcc a)(hb:zcc b):Ans pr 112 [.ag (atF a),.ag (atF b)] (.i .i64 (zpU a b)):=by
 have q:=fun k=>zak (k:=k) (zPm a.r b.r)
 refine za1 fn112 ?_;simp only[zzT,rU];unfold zpU
 by_cases h1:zeo a.r b.r=0
 ·rw[h1]at q
  by_cases h2:a.neg=b.neg
  ·have hw:=zHw a.ts.length b.ts.length ha.2 hb.2;simp -implicitDefEqProofs [rR,st0,zae,atE,zaS,q,h1,h2];refine zuv (a.ts.zip b.ts) zvb () (fun n _ s=>s.tm.get 2=some (.ptr 0 3 0 0)/\s.tm.get 3=some (.ptr 1 3 0 0)/\s.tm.get 6=some (.f (.i .i64 n))/\s.h.get 0=some (.arr 3 0 [F.dL (atF a)])/\s.h.get 1=some (.arr 3 0 [F.dL (atF b)])) (fun _ x s=>x= .exit 0/\s.tm.get 2=some (.ptr 0 3 0 0)/\s.tm.get 3=some (.ptr 1 3 0 0)/\s.h.get 0=some (.arr 3 0 [F.dL (atF a)])/\s.h.get 1=some (.arr 3 0 [F.dL (atF b)])) (fun c x s=>x= .ret/\s.tm.get 4=some (.f (.i .i64 c))) ?_ ?_ _ ?_ ?_ ?_
   ·rintro n _ s hn ⟨h2,h3,h6,g0,g1⟩;have hn1:n<a.ts.length:=by simp at hn;omega
    have hn2:n<b.ts.length:=by simp at hn;omega
    have hw:=zao n (by have:=ha.2;omega);have q2:=fun k=>zak (k:=k) (zlw a.ts[n] b.ts[n] (ha.1 _ (List.getElem_mem hn1)) (hb.1 _ (List.getElem_mem hn2)))
    simp only[List.getElem_zip,zvb];simp only[tmE]at q2
    by_cases hz:zaO a.ts[n] b.ts[n]=0
    ·rw[hz]at q2;simp -implicitDefEqProofs [rR,h2,h3,h6,g0,g1,atE,zaS,zaQ,zbr,hn1,hn2];refine zay ?_;simp -implicitDefEqProofs [rR,h2,h3,h6,g0,g1,atE,zaS,zaQ,zbr,hn1,hn2,tmE,q2,hz,hw]
    ·simp -implicitDefEqProofs [rR,h2,h3,h6,g0,g1,atE,zaS,zaQ,zbr,hn1,hn2];refine zay ?_;simp -implicitDefEqProofs [rR,h2,h3,h6,g0,g1,atE,zaS,zaQ,zbr,hn1,hn2,tmE,q2,hz,hw]
   ·rintro _ s ⟨h2,h3,h6,g0,g1⟩
    by_cases hl:a.ts.length≤b.ts.length
    ·have e:min a.ts.length b.ts.length=a.ts.length:=by omega
     simp -implicitDefEqProofs [rR,h2,h3,h6,g0,g1,atE,zaS,zaQ,e]
    ·have e:min a.ts.length b.ts.length=b.ts.length:=by omega
     have hl':b.ts.length<a.ts.length:=by omega
     simp -implicitDefEqProofs [rR,h2,h3,h6,g0,g1,atE,zaS,zaQ,e,hl']
   ·simp -implicitDefEqProofs [rR,st0,zae,atE,zaS,h2]
   ·rintro u h x s ⟨rfl,h2,h3,g0,g1⟩;rw[zla,h];simp -implicitDefEqProofs [rR,h2,h3,g0,g1,atE,zaS,zaQ,hw]
   ·rintro c h x s ⟨rfl,h4⟩;rw[zla,h];simp -implicitDefEqProofs [rR,h4]
  ·cases hn:b.neg with
   |true=>
    have hm:a.neg=false:=by cases hm:a.neg<;>simp_all
    simp -implicitDefEqProofs [rR,st0,zae,atE,zaS,q,h1,hn,hm]
   |false=>
    have hm:a.neg=true:=by cases hm:a.neg<;>simp_all
    simp -implicitDefEqProofs [rR,st0,zae,atE,zaS,q,h1,hn,hm]
 ·simp -implicitDefEqProofs [rR,st0,zae,atE,zaS,q,h1]
def zf6(a b:Atm):Bool:=zpU a b==0
theorem ans99(a b:Atm)(ha:zcc a)(hb:zcc b):Ans pr 99 [.ag (atF a),.ag (atF b)] (.b (zf6 a b)):=by
 have q:=fun k=>zak (k:=k) (zBM a b ha hb)
 refine za1 fn99 ?_;simp only[g99,rU];unfold zf6;simp only[atE]at q;simp -implicitDefEqProofs [rR,st0,zae,atE,zaS,q]
def imD(ns:List Str)(im:List Trm)(t:Trm):Trm:=(img ns im t).getD t
def isI(ns:List Str)(im:List Trm)(t:Trm):Bool:=(img ns im t).isSome
def xA(ns:List Str)(im:List Trm)(a:Atm):Atm:={r:=a.r,neg:=a.neg,ts:=a.ts.map (imD ns im)}
def xC(ns:List Str)(im:List Trm)(k:Cm):Cm:={op:=k.op,l:=imD ns im k.l,r:=imD ns im k.r}
def atP(b:CQ)(ns:List Str)(im:List Trm)(a:Atm):Bool:=!a.ts.all (isI ns im)||b.as.any (zf6 (xA ns im a))
def cmP(b:CQ)(ns:List Str)(im:List Trm)(k:Cm):Bool:=!(isI ns im k.l&&isI ns im k.r&& !zi6 (xC ns im k)&& !b.cs.any (zgs (xC ns im k)))
def zgn(a b:CQ)(ns:List Str)(im:List Trm):Bool:=a.as.all (atP b ns im)&&a.cs.all (cmP b ns im)
theorem zuP{ns:List Str}{im:List Trm}(him:∀t∈im,zau t){t:Trm}(ht:zau t):zau (imD ns im t):=by
 cases t with
 |cst n=>trivial
 |var s=>
  cases h:((ns.zip im).find? (·.1==s))with
  |none=>
   have:imD ns im (.var s)= .var s:=by simp only[imD,img,h,Option.map_none,Option.getD_none]
   rw[this];exact ht
  |some p=>
   have hm:=List.mem_of_find?_eq_some h;have:imD ns im (.var s)=p.2:=by simp only[imD,img,h,Option.map_some,Option.getD_some]
   rw[this];exact him _ (List.of_mem_zip hm).2
theorem xA_ok{ns:List Str}{im:List Trm}(him:∀t∈im,zau t){a:Atm}(ha:zcc a):zcc (xA ns im a):=by
 refine⟨fun t ht=> ?_,by simpa [xA]using ha.2⟩;simp only[xA,List.mem_map]at ht;obtain⟨u,hu,rfl⟩ :=ht;exact zuP him (ha.1 u hu)
structure CqOk(c:CQ):Prop where
 as:∀a∈c.as,zcc a
 cs:∀k∈c.cs,zb8 k
 la:c.as.length<1000
 lc:c.cs.length<1000
def zaB(l:List Trm):List (List D):=(l.map tmF).map fun a=>a.map D.f
theorem zhN(h:Nat->Option Ob)(k:Nat)(l:List Trm):zaT (frz h (k+1)) (zaB l)=some (l.map tmF,[]):=zjq h k _
theorem za4(l:List Trm):(zaB l).length=l.length:=by simp[zaB]
theorem zoc(l:List Trm)(t:Trm):zaB (l++[t])=zaB l++[(tmF t).map D.f]:=by simp[zaB]
theorem zvW{α β:Type}(l:List α)(f:α->β){n:Nat}(h:n<l.length):(l.take (n+1)).map f=(l.take n).map f++[f l[n]]:=by
 rw[List.take_add_one,List.getElem?_eq_getElem h,List.map_append,Option.toList_some,List.map_cons,List.map_nil]
theorem zvR{α:Type}(l:List α)(p:α->Bool){n:Nat}(h:n<l.length):(l.take (n+1)).all p=((l.take n).all p&&p l[n]):=by
 rw[List.take_add_one,List.getElem?_eq_getElem h,List.all_append,Option.toList_some,List.all_cons,List.all_nil,Bool.and_true]
theorem zvS{α:Type}(l:List α)(p:α->Bool){n:Nat}(h:n<l.length):(l.take (n+1)).any p=((l.take n).any p||p l[n]):=by
 rw[List.take_add_one,List.getElem?_eq_getElem h,List.any_append,Option.toList_some,List.any_cons,List.any_nil,Bool.or_false]
def J1(ca cb:List D)(ns:List Str)(im:List Trm)(i:Nat)(a:Atm)(m:Nat)(s:St):Prop:=
 ∃X,s.tm.get 2=some (.f (zas ns))/\s.tm.get 3=some (.f (zaX im))/\s.tm.get 4=some (.ptr 0 2 0 0)/\s.tm.get 5=some (.ptr 1 2 0 0)/\s.tm.get 9=some (.f (.i .i64 i))/\s.tm.get 10=some (.ptr X 3 0 0)/\s.tm.get 12=some (.f (.i .i64 m))/\s.tm.get 11=some (.f (.b ((a.ts.take m).all (isI ns im))))/\s.h.get 0=some (.arr 2 0 [ca])/\s.h.get 1=some (.arr 2 0 [cb])/\
 ∃d,s.h.get X=some (.arr 3 0 [[.f (.s a.r),.f (.b a.neg),d]])/\Grow s.h (X+1) s.c 4 d (zaB ((a.ts.take m).map (imD ns im)))/\2≤X/\X<s.c
def J2(ca cb:List D)(ns:List Str)(im:List Trm)(i:Nat)(a:Atm)(l:List Atm)(L:List Trm)(w:Bool)(k:Nat)(s:St):Prop:=
 ∃X n,n≤l.length/\k=l.length - n/\s.tm.get 2=some (.f (zas ns))/\s.tm.get 3=some (.f (zaX im))/\s.tm.get 4=some (.ptr 0 2 0 0)/\s.tm.get 5=some (.ptr 1 2 0 0)/\s.tm.get 9=some (.f (.i .i64 i))/\s.tm.get 10=some (.ptr X 3 0 0)/\s.tm.get 15=some (.f (.b (w||(l.take n).any (zf6 ⟨a.r,a.neg,L⟩))))/\s.tm.get 16=some (.f (.i .i64 n))/\s.h.get 0=some (.arr 2 0 [ca])/\s.h.get 1=some (.arr 2 0 [cb])/\
 ∃d,s.h.get X=some (.arr 3 0 [[.f (.s a.r),.f (.b a.neg),d]])/\Held s.h (X+1) s.c 4 d (zaB L)/\2≤X/\X<s.c
def R2(ca cb:List D)(ns:List Str)(im:List Trm)(i:Nat)(f:Bool)(x:Ex)(s:St):Prop:=
 x= .exit 4/\s.tm.get 2=some (.f (zas ns))/\s.tm.get 3=some (.f (zaX im))/\s.tm.get 4=some (.ptr 0 2 0 0)/\s.tm.get 5=some (.ptr 1 2 0 0)/\s.tm.get 9=some (.f (.i .i64 i))/\s.tm.get 15=some (.f (.b f))/\s.h.get 0=some (.arr 2 0 [ca])/\s.h.get 1=some (.arr 2 0 [cb])/\2≤s.c
theorem zH5(a b:CQ)(ns:List Str)(im:List Trm)(ha:CqOk a)(hb:CqOk b)(him:∀t∈im,zau t)(hl:im.length≤ns.length)(hns:ns.length<1000):
  Ans pr 72 [.ag (cqF a),.ag (cqF b),zas ns,zaX im] (.b (zgn a b ns im)):=by
 refine za1 fn72 ?_;simp only[g72,rU];simp -implicitDefEqProofs [rR,st0,zae,cqE,zaV,zaW,zaL,zaS];refine zd2 a.as (fun x=>!atP b ns im x) (fun n s=>s.tm.get 2=some (.f (zas ns))/\s.tm.get 3=some (.f (zaX im))/\s.tm.get 4=some (.ptr 0 2 0 0)/\s.tm.get 5=some (.ptr 1 2 0 0)/\s.tm.get 9=some (.f (.i .i64 n))/\s.h.get 0=some (.arr 2 0 [[.f (zaC a),.f (zaF a)]])/\s.h.get 1=some (.arr 2 0 [[.f (zaC b),.f (zaF b)]])/\2≤s.c)
  (fun x s=>x= .exit 0/\s.tm.get 2=some (.f (zas ns))/\s.tm.get 3=some (.f (zaX im))/\s.tm.get 4=some (.ptr 0 2 0 0)/\s.tm.get 5=some (.ptr 1 2 0 0)/\s.h.get 0=some (.arr 2 0 [[.f (zaC a),.f (zaF a)]])/\s.h.get 1=some (.arr 2 0 [[.f (zaC b),.f (zaF b)]])/\2≤s.c) (fun n y s=>y= .ret/\s.tm.get 8=some (.f (.b false))) ?_ ?_ _ ?_ ?_ ?_
 ·rintro n s hn ⟨h2,h3,h4,h5,h9,g0,g1,hc⟩;have hw:=zao n (by have:=ha.la;omega);have c0:(0:Nat)≠s.c:=by omega
  have c1:(1:Nat)≠s.c:=by omega
  have hat:=ha.as _ (List.getElem_mem hn);generalize hA:a.as[n]=A at hat⊢;have hA':a.as[n]? =some A:=by rw[List.getElem?_eq_getElem hn,hA]
  simp -implicitDefEqProofs [rR,h2,h3,h4,h5,h9,g0,g1,za2,zcI,hn,hA'];refine zay ?_;simp -implicitDefEqProofs [rR,h2,h3,h4,h5,h9,g0,g1,za2,zcI,hn,hA',atE,zaS,c0,c1];refine zex A.ts.length (J1 [.f (zaC a),.f (zaF a)] [.f (zaC b),.f (zaF b)] ns im n A) (fun x s'=>x= .exit 2/\J1 [.f (zaC a),.f (zaF a)] [.f (zaC b),.f (zaF b)] ns im n A A.ts.length s') ?_ ?_ _ ?_ ?_
  ·rintro m s' hm ⟨X,h2,h3,h4,h5,h9,h10,h12,h11,g0,g1,d,gx,hg,hx,hxc⟩;have hat':=hat.1 _ (List.getElem_mem hm);have hw:=zao m (by have:=hat.2;omega);have q:=fun k=>zak (k:=k) (zzd A.ts[m] ns im hat' hl (by omega))
   have c0:(0:Nat)≠s'.c:=by omega
   have c1:(1:Nat)≠s'.c:=by omega
   have cx:X≠s'.c:=by omega
   simp only[tmE]at q;have e2:=zvR A.ts (isI ns im) hm;generalize (A.ts.take m).all (isI ns im)=w at h11 e2;simp -implicitDefEqProofs [rulN,Function.comp_def,Nat.blt_eq,zKx,zKq,zKr,zKp,zKm,zKo,zKj,zKs,zKu,zKw,zKt,zKA,zKC,zKz,h2,h3,h4,h5,h9,h10,h12,h11,g0,g1,gx,zcI,zbr,zaQ,hA',atE,hm,tmE,zaL,zaS,q,c0,c1,cx];refine zMO (zMR hg ?_ (Nat.le_succ _)) (by omega) (by rw[za4];simp;have:=hat.2;omega) (by omega) ?_
   ·intro j hj;rw[Vse.T.zab,if_neg (by omega),Vse.T.zab,if_neg (by omega)]
   ·intro r hr1 hr2 hr3 hr4;have k0:=hr4 0 (by omega);have k1:=hr4 1 (by omega);have kx:=hr4 X (by omega);have e:zaB ((A.ts.take (m+1)).map (imD ns im))=zaB ((A.ts.take m).map (imD ns im))++[[D.f (F.s (tv (imD ns im A.ts[m]))),D.f (F.i IntKind.i64 (tk (imD ns im A.ts[m]))),D.f (F.i IntKind.i64 (tn (imD ns im A.ts[m]))),D.f (F.s [])]]:=by
     rw[zvW _ _ hm,zoc,tmE];rfl
    have hcl:=zAu hr2;have xc:X<r.c:=by omega
    have x0:X≠0:=by omega
    have x1:X≠1:=by omega
    refine⟨hr1,?_⟩;have hi:(img ns im A.ts[m]).isSome=isI ns im A.ts[m]:=rfl;cases w with
    |true=>
     simp -implicitDefEqProofs [rR,h2,h3,h4,h5,h9,h10,h12,h11,g0,g1,gx,k0,k1,kx,c0,c1,cx,hw,J1,hx,e2,e,hcl,xc,hi,x0,x1,x0.symm,x1.symm];rw[<-List.map_take,e];refine zxO hr2 fun j hj=> ?_
     rw[Vse.T.zab,if_neg (by omega)]
    |false=>
     simp -implicitDefEqProofs [rR,h2,h3,h4,h5,h9,h10,h12,h11,g0,g1,gx,k0,k1,kx,c0,c1,cx,hw,J1,hx,e2,e,hcl,xc,hi,x0,x1,x0.symm,x1.symm];rw[<-List.map_take,e];refine zxO hr2 fun j hj=> ?_
     rw[Vse.T.zab,if_neg (by omega)]
  ·rintro s' ⟨X,h2,h3,h4,h5,h9,h10,h12,h11,g0,g1,d,gx,hg,hx,hxc⟩;rw[List.take_length]at hg;simp -implicitDefEqProofs [rR,h2,h3,h4,h5,h9,h10,h12,h11,g0,g1,gx,zcI,zaQ,hA',atE,J1,hg,hx,hxc]
  ·simp -implicitDefEqProofs [rR,h2,h3,h4,h5,h9,g0,g1,J1,c0,c1,hA];exact Grow.nil
  ·rintro x s' ⟨rfl,X,h2,h3,h4,h5,h9,h10,h12,h11,g0,g1,d,gx,hg,hx,hxc⟩;rw[List.take_length]at hg h11;have hh:=hg.held;clear hg;have hxA:=xA_ok (ns:=ns) him hat
   unfold xA at hxA;have hP:atP b ns im A=(!A.ts.all (isI ns im)||b.as.any (zf6 ⟨A.r,A.neg,A.ts.map (imD ns im)⟩)):=rfl;rw[hP];generalize A.ts.map (imD ns im)=L at hh hxA⊢;generalize A.ts.all (isI ns im)=w at h11⊢;generalize hf0:(!w||b.as.any (zf6 ⟨A.r,A.neg,L⟩))=f;simp -implicitDefEqProofs [rR,h2,h3,h4,h5,h9,h10,h11,g0,g1,gx];refine zcu (J2 [.f (zaC a),.f (zaF a)] [.f (zaC b),.f (zaF b)] ns im n A b.as L (!w)) (R2 [.f (zaC a),.f (zaF a)] [.f (zaC b),.f (zaF b)] ns im n f) ?_ b.as.length _ ?_ ?_
   ·rintro k s ⟨X,m,hm,rfl,h2,h3,h4,h5,h9,h10,h15,h16,g0,g1,d,gx,hh,hx,hxc⟩;cases hf:(!w||(b.as.take m).any (zf6 ⟨A.r,A.neg,L⟩))with
    |true=>
     rw[hf]at h15;have hfe:f=true:=by
      rw[<-hf0];cases w with
      |false=>rfl
      |true=>
       simp only[Bool.not_true,Bool.false_or]at hf⊢;rw[List.any_eq_true]at hf⊢;obtain⟨y,hy,h⟩ :=hf;exact⟨y,List.mem_of_mem_take hy,h⟩
     rw[hfe]
     by_cases hml:m<b.as.length
     ·simp -implicitDefEqProofs [rR,h2,h3,h4,h5,h9,h10,h15,h16,g0,g1,gx,za2,hml,R2];omega
     ·simp -implicitDefEqProofs [rR,h2,h3,h4,h5,h9,h10,h15,h16,g0,g1,gx,za2,hml,R2];omega
    |false=>
     rw[hf]at h15
     by_cases hml:m<b.as.length
     ·have hw:=zao m (by have:=hb.la;omega);have q:=fun k=>zak (k:=k) (ans99 ⟨A.r,A.neg,L⟩ b.as[m] hxA (hb.as _ (List.getElem_mem hml)))
      simp only[atE]at q;have e2:=zvS b.as (zf6 ⟨A.r,A.neg,L⟩) hml;have e3:(!w||(b.as.take (m+1)).any (zf6 ⟨A.r,A.neg,L⟩))=zf6 ⟨A.r,A.neg,L⟩ b.as[m]:=by rw[e2,<-Bool.or_assoc,hf,Bool.false_or]
      rcases hh with⟨rfl,hL⟩ |⟨id,ro,rfl,hL,gi,hid,hic⟩
      ·have hL':L=[]:=by simpa [zaB]using hL
       subst hL';rw[(show zaX []= .nils from rfl)]at q;simp -implicitDefEqProofs [rR,h2,h3,h4,h5,h9,h10,h15,h16,g0,g1,gx,za2,hml];refine zay ?_;simp -implicitDefEqProofs [rR,h2,h3,h4,h5,h9,h10,h15,h16,g0,g1,gx,za2,zcI,hml,atE,zaS,q,hw];rw[zbh];refine⟨b.as.length - (m+1),by omega,X,m+1,by omega,rfl,?_⟩;simp -implicitDefEqProofs [rR,h2,h3,h4,h5,h9,h10,h15,h16,g0,g1,gx,e3,hx];exact⟨.inl ⟨rfl,rfl⟩,by omega⟩
      ·have hz:=fun h=>zhN h 9 L
       have hsl:F.sl 4 (L.map tmF)=zaX L:=zcX (by intro h;exact hL (by simp only[zaB,h,List.map_nil]));rw[za4]at*;have ht:(zaB L).take L.length=zaB L:=by rw[<-za4 L,List.take_length]
       simp -implicitDefEqProofs [rR,h2,h3,h4,h5,h9,h10,h15,h16,g0,g1,gx,za2,hml];refine zay ?_;simp -implicitDefEqProofs [rR,h2,h3,h4,h5,h9,h10,h15,h16,g0,g1,gx,gi,za2,zcI,hml,atE,zaS,q,hw,hz,hsl,ht,za4];have i0:id≠0:=by omega
       have i1:id≠1:=by omega
       have iX:id≠X:=by omega
       have ic:id<s.c+1+1+1+1+1+1:=by omega
       by_cases hro:L.length≤ro
       ·simp -implicitDefEqProofs [rR,hro];rw[zbh];refine⟨b.as.length - (m+1),by omega,X,m+1,by omega,rfl,?_⟩;simp -implicitDefEqProofs [rR,h2,h3,h4,h5,h9,h10,h15,h16,g0,g1,gx,e3,hx];exact⟨.inr ⟨id,ro,by rw[za4],hL,gi,hid,by omega⟩,by omega⟩
       ·simp -implicitDefEqProofs [rR,hro,ic];rw[zbh];refine⟨b.as.length - (m+1),by omega,X,m+1,by omega,rfl,?_⟩;simp -implicitDefEqProofs [rR,h2,h3,h4,h5,h9,h10,h15,h16,g0,g1,gx,e3,hx,i0,i1,iX,i0.symm,i1.symm,iX.symm];exact⟨.inr ⟨id,L.length,by rw[za4],hL,by simp[T.zab],hid,by omega⟩,by omega⟩
     ·have:m=b.as.length:=by omega
      subst this;rw[List.take_length,hf0]at hf;rw[hf];simp -implicitDefEqProofs [rR,h2,h3,h4,h5,h9,h10,h15,h16,g0,g1,gx,za2,R2];omega
   ·refine⟨X,0,Nat.zero_le _,by omega,?_⟩;simp -implicitDefEqProofs [rR,h2,h3,h4,h5,h9,h10,h11,g0,g1,gx,hh,hx,hxc]
   ·rintro x s ⟨rfl,h2,h3,h4,h5,h9,h15,g0,g1,hc⟩;cases f with
    |true=>simp -implicitDefEqProofs [rR,h2,h3,h4,h5,h9,h15,g0,g1,hc,hw]
    |false=>simp -implicitDefEqProofs [rR,h2,h3,h4,h5,h9,h15,g0,g1,hc]
 ·rintro s ⟨h2,h3,h4,h5,h9,g0,g1,hc⟩;simp -implicitDefEqProofs [rR,h2,h3,h4,h5,h9,g0,g1,za2,hc]
 ·simp -implicitDefEqProofs [rR,st0,zae,cqE,zaV,zaW,zaL,zaS]
 ·rintro hA x s ⟨rfl,h2,h3,h4,h5,g0,g1,hc⟩;have hAll:a.as.all (atP b ns im)=true:=by
   rw[List.all_eq_true];intro y hy;simpa using hA y hy
  have hp:zgn a b ns im=a.cs.all (cmP b ns im):=by unfold zgn;rw[hAll,Bool.true_and]
  rw[hp];simp -implicitDefEqProofs [rR,h2,h3,h4,h5,g0,g1];refine zd2 a.cs (fun k=>!cmP b ns im k) (fun n s=>s.tm.get 2=some (.f (zas ns))/\s.tm.get 3=some (.f (zaX im))/\s.tm.get 4=some (.ptr 0 2 0 0)/\s.tm.get 5=some (.ptr 1 2 0 0)/\s.tm.get 17=some (.f (.i .i64 n))/\s.h.get 0=some (.arr 2 0 [[.f (zaC a),.f (zaF a)]])/\s.h.get 1=some (.arr 2 0 [[.f (zaC b),.f (zaF b)]])/\2≤s.c) (fun x s=>x= .exit 6) (fun n y s=>y= .ret/\s.tm.get 8=some (.f (.b false))) ?_ ?_ _ ?_ ?_ ?_
  ·rintro n s hn ⟨h2,h3,h4,h5,h17,g0,g1,hc⟩;have hw:=zao n (by have:=ha.lc;omega);have c0:(0:Nat)≠s.c:=by omega
   have c1:(1:Nat)≠s.c:=by omega
   have hk:=ha.cs _ (List.getElem_mem hn);generalize hK':a.cs[n]=K at hk⊢;have q1:=fun k=>zak (k:=k) (zzd K.l ns im hk.1 hl (by omega))
   have q2:=fun k=>zak (k:=k) (zzd K.r ns im hk.2 hl (by omega))
   have hx:zb8 (xC ns im K):=⟨zuP him hk.1,zuP him hk.2⟩
   have q3:=fun k=>zak (k:=k) (zO6 _ hx)
   have q4:=fun k=>zak (k:=k) (zO8 _ b hx hb.cs (by have:=hb.lc;omega))
   have hP:cmP b ns im K= !(isI ns im K.l&&isI ns im K.r&& !zi6 (xC ns im K)&& !b.cs.any (zgs (xC ns im K))):=rfl;rw[hP];unfold isI;simp only[tmE,cmF,xC,imD,cqE,List.cons_append,List.nil_append]at q1 q2 q3 q4⊢;generalize (img ns im K.l).isSome=p1 at q1⊢;generalize (img ns im K.r).isSome=p2 at q2⊢;generalize zi6 ⟨K.op,(img ns im K.l).getD K.l,(img ns im K.r).getD K.r⟩ =p3 at q3⊢;generalize b.cs.any (zgs ⟨K.op,(img ns im K.l).getD K.l,(img ns im K.r).getD K.r⟩)=p4 at q4⊢;have c2:s.c≠0:=by omega
   have n10:¬s.c+1+1+1+1+1+1+1+1+1+1=s.c:=by omega
   have n11:¬s.c+1+1+1+1+1+1+1+1+1+1+1=s.c:=by omega
   cases p1 with
   |false=>
    simp -implicitDefEqProofs [rR,h2,h3,h4,h5,h17,g0,g1,zbf,zcs,hn,hK',cmF,tmE,zaL,zaS,q1,q2,c0,c1,c2];refine zay ?_;simp -implicitDefEqProofs [rR,h2,h3,h4,h5,h17,g0,g1,zbf,zcs,hn,hK',cmF,tmE,zaL,zaS,q1,q2,c0,c1,c2,n10,n11,hw]
   |true=>
    cases p2 with
    |false=>
     simp -implicitDefEqProofs [rR,h2,h3,h4,h5,h17,g0,g1,zbf,zcs,hn,hK',cmF,tmE,zaL,zaS,q1,q2,c0,c1,c2];refine zay ?_;simp -implicitDefEqProofs [rR,h2,h3,h4,h5,h17,g0,g1,zbf,zcs,hn,hK',cmF,tmE,zaL,zaS,q1,q2,c0,c1,c2,n10,n11,hw]
    |true=>
     cases p3 with
     |true=>
      simp -implicitDefEqProofs [rR,h2,h3,h4,h5,h17,g0,g1,zbf,zcs,hn,hK',cmF,tmE,zaL,zaS,q1,q2,c0,c1,c2];refine zay ?_;simp -implicitDefEqProofs [rR,h2,h3,h4,h5,h17,g0,g1,zbf,zcs,hn,hK',cmF,tmE,zaL,zaS,q1,q2,q3,c0,c1,c2,n10,n11,hw]
     |false=>
      cases p4 with
      |true=>
       simp -implicitDefEqProofs [rR,h2,h3,h4,h5,h17,g0,g1,zbf,zcs,hn,hK',cmF,tmE,zaL,zaS,q1,q2,c0,c1,c2];refine zay ?_;simp -implicitDefEqProofs [rR,h2,h3,h4,h5,h17,g0,g1,zbf,zcs,hn,hK',cmF,tmE,zaL,zaS,zaV,zaW,q1,q2,q3,q4,c0,c1,c2,n10,n11,hw]
      |false=>
       simp -implicitDefEqProofs [rR,h2,h3,h4,h5,h17,g0,g1,zbf,zcs,hn,hK',cmF,tmE,zaL,zaS,q1,q2,c0,c1,c2];refine zay ?_;simp -implicitDefEqProofs [rR,h2,h3,h4,h5,h17,g0,g1,zbf,zcs,hn,hK',cmF,tmE,zaL,zaS,zaV,zaW,q1,q2,q3,q4,c0,c1,c2,n10,n11,hw]
  ·rintro s ⟨h2,h3,h4,h5,h17,g0,g1,hc⟩;simp -implicitDefEqProofs [rR,h2,h3,h4,h5,h17,g0,g1,zbf]
  ·simp -implicitDefEqProofs [rR,h2,h3,h4,h5,g0,g1,hc]
  ·rintro h x s rfl;have:a.cs.all (cmP b ns im)=true:=by
    rw[List.all_eq_true];intro y hy;simpa using h y hy
   rw[this];simp -implicitDefEqProofs [rR,st0]
  ·rintro n hn hp _ x s ⟨rfl,h8⟩;have:a.cs.all (cmP b ns im)=false:=by
    rw[List.all_eq_false];exact⟨_,List.getElem_mem hn,by simpa using hp⟩
   rw[this];simp -implicitDefEqProofs [rR,h8]
 ·rintro n hn hp _ x s ⟨rfl,h8⟩;have:zgn a b ns im=false:=by
   unfold zgn;have:a.as.all (atP b ns im)=false:=by
    rw[List.all_eq_false];exact⟨_,List.getElem_mem hn,by simpa using hp⟩
   rw[this];rfl
  rw[this];simp -implicitDefEqProofs [rR,h8]
def zdv(a b:CQ)(ns:List Str)(tg:List Trm)(hd:List Str):Nat->List Trm->Option (List Trm)
  | k,im=>if zgn a b ns im=true then(match ns[im.length]? with
    |none=>some im
    | some x=>match k with
      |0=>none
      |k+1=>tg.findSome? fun t=>if(hd.any (· ==x)&&tv t != x)=true then none else zdv a b ns tg hd k (im++[t]))else none
def zfy:Option (List Trm)->F
 |none=> .tu [.nils,.b false]
 |some l=> .tu [zaX l,.b true]
theorem zh8(h:Nat->Option Ob)(l:List Trm):elemsOf 4 h (.f (zaX l))=some (zaB l,[]):=by
 cases l with
 |nil=>rfl
 |cons a l=>rfl
theorem zmM{l:List Trm}(h:l≠[]):F.sl 4 (l.map tmF)=zaX l:=zcX (by simpa using h)
def rsF:Option (List Trm)->F
 |none=> .nils
 |some l=>zaX l
def d32:List (Go.Vse.Op×Nat):=[(oL 56 2 6,0),(oL 57 2 7,1),(oM 58 2,3),(oM 60 3,7),(oM 62 4,15),(oM 63 14,31),(oI 64 4 62 63,15),(oL 65 4 64,15),(oM 68 4,255),(oM 69 5,511),(oR 59 (.bsl 4 [.s [],.i .i64 0,.i .i64 0,.s []] 0 []),1023),(oR 61 (.app 4 48 (.t 59) (.t 60)),1015),(oR 66 (.bsf 4 [.s [],.i .i64 0,.i .i64 0,.s []] 1 [(0,(.t 65))]),3855),(oR 67 (.app 4 48 (.t 61) (.t 66)),775),(oR 70 (.callp 32 [(.t 56),(.t 57),(.t 58),(.t 67),(.t 68),(.t 69)]),0),(oM 55 70,0),(oR 71 (.ext (.t 55) 0),0),(oR 72 (.ext (.t 55) 1),65536),(oM 15 71,131072),(oM 16 72,0)]
theorem zEO(a b:CQ)(ns:List Str)(tg:List Trm)(hd:List Str)(im:List Trm)(n:Nat)(hn:n<tg.length)(hl:im.length<1000)(r:Option (List Trm))(hr:Ans pr 32 [.ag (cqF a),.ag (cqF b),zas ns,zaX (im++[tg[n]]),zaX tg,zas hd] (zfy r))(S:St)
  (hS:S.tm.get 2=some (.f (zas ns))/\S.tm.get 3=some (.f (zaX im))/\S.tm.get 4=some (.f (zaX tg))/\S.tm.get 5=some (.f (zas hd))/\S.tm.get 6=some (.ptr 0 2 0 0)/\S.tm.get 7=some (.ptr 1 2 0 0)/\S.tm.get 14=some (.f (.i .i64 n))/\S.h.get 0=some (.arr 2 0 [[.f (zaC a),.f (zaF a)]])/\S.h.get 1=some (.arr 2 0 [[.f (zaC b),.f (zaF b)]])/\2≤S.c)(Q:Ex->St->Prop)(hQ:∀S',S'.tm.get 2=some (.f (zas ns))/\S'.tm.get 3=some (.f (zaX im))/\S'.tm.get 4=some (.f (zaX tg))/\S'.tm.get 5=some (.f (zas hd))/\S'.tm.get 6=some (.ptr 0 2 0 0)/\S'.tm.get 7=some (.ptr 1 2 0 0)/\S'.tm.get 14=some (.f (.i .i64 n))/\S'.h.get 0=some (.arr 2 0 [[.f (zaC a),.f (zaF a)]])/\S'.h.get 1=some (.arr 2 0 [[.f (zaC b),.f (zaF b)]])/\S'.tm.get 15=some (.f (rsF r))/\S'.tm.get 16=some (.f (.b r.isSome))/\2≤S'.c->Q .nrm S'):WD pr d32 S Q:=by
 obtain⟨h2,h3,h4,h5,h6,h7,h14,g0,g1,hc⟩ :=hS;unfold d32;simp only[rU];refine zay ?_;have q:=fun k=>zak (k:=k) hr
 have hr1:∃x y,zfy r= .tu [x,.b y]/\rsF r=x/\r.isSome=y/\x.d= .f x:=by
  cases r with
  |none=>exact⟨_,_,rfl,rfl,rfl,rfl⟩
  |some l=>exact⟨_,_,rfl,rfl,rfl,zaS l⟩
 obtain⟨x,y,e1,e2,e3,e4⟩ :=hr1;rw[e1]at q;rw[e2,e3]at hQ;have c0:(0:Nat)≠S.c:=by omega
 have c1:(1:Nat)≠S.c:=by omega
 simp only[cqE]at q;generalize hT:tg[n]=T at q
 by_cases him:im=[]
 ·subst him;rw[List.nil_append,(show zaX [T]= .sl 4 [tmF T]from rfl)]at q;simp only[tmE]at q;simp -implicitDefEqProofs [rR,h2,h3,h4,h5,h6,h7,h14,g0,g1,zbr,hn,hT,c0,c1,tmE,zh8,(show zaB []=[]from rfl),zaL,zaS,zaV,zaW,(zaR (by omega):(1≤zaj)=True),(zaR (by omega):(48≤zaj)=True),q];refine hQ _ ?_;simp -implicitDefEqProofs [rR,h2,h3,h4,h5,h6,h7,h14,g0,g1,c0,c1,e4]
  try omega
 ·obtain⟨M,hM⟩ :∃M,M=im++[T]:=⟨_,rfl⟩
  rw[<-hM]at q;have hMl:M.length=im.length+1:=by rw[hM];simp
  have hMn:M≠[]:=by rw[hM];simp
  have e:zaB im++[[D.f (.s (tv T)),D.f (.i .i64 (tk T)),D.f (.i .i64 (tn T)),D.f (.s [])]]=zaB M:=by rw[hM,zoc,tmE];rfl
  have hz:∀h,zaT (frz h 11) (zaB M)=some (M.map tmF,[]):=fun h=>zhN h 10 M
  have hs:=zmM hMn;have ht:(zaB M).take (im.length+1)=zaB M:=by rw[<-hMl,<-za4 M,List.take_length]
  have hne:zaB im≠[]:=by
   intro h;have:=za4 im;rw[h]at this;exact him (List.length_eq_zero_iff.1 this.symm)
  have m1:(im.length≤zaj)=True:=zaR (by omega);have m2:(im.length*48≤zaj)=True:=zaR (by omega);have m3:(im.length+1≤zaj)=True:=zaR (by omega);have m4:((im.length+1)*48≤zaj)=True:=zaR (by omega);simp -implicitDefEqProofs [rR,h2,h3,h4,h5,h6,h7,h14,g0,g1,zbr,hn,hT,c0,c1,tmE,zh8,hne,za4,zaL,zaS,zaV,zaW,m1,m2,m3,m4,e,hz,hs,ht,him,q,hMl,(leF (by omega):(im.length+1≤im.length)=False)];refine hQ _ ?_;simp -implicitDefEqProofs [rR,h2,h3,h4,h5,h6,h7,h14,g0,g1,c0,c1,e4]
  try omega
theorem ans32(a b:CQ)(ns:List Str)(tg:List Trm)(hd:List Str)(ha:CqOk a)(hb:CqOk b)(hns:ns.length<1000)(htg:∀t∈tg,zau t)(hl:tg.length<100000)(hh:hd.length<1000):
    ∀(k:Nat) (im:List Trm),(∀t∈im,zau t)->im.length+k=ns.length->Ans pr 32 [.ag (cqF a),.ag (cqF b),zas ns,zaX im,zaX tg,zas hd] (zfy (zdv a b ns tg hd k im)):=by
  intro k
  induction k with
  | zero=>
    intro im him hk;have hlen:im.length=ns.length:=by omega
    have q:=fun k=>zak (k:=k) (zH5 a b ns im ha hb him (by omega) hns)
    refine za1 fn32 ?_;simp only[g32,rU];unfold zdv;rw[List.getElem?_eq_none (by omega)];simp only[cqE]at q;cases hp:zgn a b ns im with
    | false=>
      rw[hp]at q;simp -implicitDefEqProofs [rR,st0,zae,cqE,zaV,zaW,zaL,zaS,q,zfy]
    | true=>
      rw[hp]at q;simp -implicitDefEqProofs [rR,st0,zae,cqE,zaV,zaW,zaL,zaS,q,zfy,zaQ,za7,hlen]
  | succ k ih=>
    intro im him hk;have hlen:im.length<ns.length:=by omega
    have hlen':¬((im.length:Int)=(ns.length:Int)):=by omega
    have q:=fun k=>zak (k:=k) (zH5 a b ns im ha hb him (by omega) hns)
    refine za1 fn32 ?_;simp only[g32,rU];unfold zdv;rw[List.getElem?_eq_getElem hlen];simp only[cqE]at q;cases hp:zgn a b ns im with
    | false=>
      rw[hp]at q;simp -implicitDefEqProofs [rR,st0,zae,cqE,zaV,zaW,zaL,zaS,q,zfy]
    | true=>
      rw[hp]at q;simp only[if_true];obtain⟨x,hx⟩ :∃x,x=ns[im.length]:=⟨_,rfl⟩
      rw[<-hx];generalize hres:(tg.findSome? fun t=>if(hd.any (· ==x)&&tv t != x)=true then none else zdv a b ns tg hd k (im++[t]))=res;simp -implicitDefEqProofs [rR,st0,zae,cqE,zaV,zaW,zaL,zaS,q,zaQ,za7,hlen'];refine zLc tg (fun t=>if(hd.any (· ==x)&&tv t != x)=true then none else zdv a b ns tg hd k (im++[t])) (fun n s=>s.tm.get 2=some (.f (zas ns))/\s.tm.get 3=some (.f (zaX im))/\s.tm.get 4=some (.f (zaX tg))/\s.tm.get 5=some (.f (zas hd))/\s.tm.get 6=some (.ptr 0 2 0 0)/\s.tm.get 7=some (.ptr 1 2 0 0)/\s.tm.get 14=some (.f (.i .i64 n))/\s.h.get 0=some (.arr 2 0 [[.f (zaC a),.f (zaF a)]])/\s.h.get 1=some (.arr 2 0 [[.f (zaC b),.f (zaF b)]])/\2≤s.c) (fun x s=>x= .exit 0) (fun r y s=>y= .ret/\s.tm.get 12=some (.f (zaX r))/\s.tm.get 13=some (.f (.b true))) ?_ ?_ _ ?_ ?_ ?_
      · rintro n s hn ⟨h2,h3,h4,h5,h6,h7,h14,g0,g1,hc⟩;have hw:=zao n (by omega);have q2:=fun k=>zak (k:=k) (zy9 hd x (by omega))
        have ht:=htg _ (List.getElem_mem hn);generalize hT:tg[n]=T at ht⊢;generalize hd.any (· ==x)=p1 at q2⊢
        by_cases hsk:(p1&&tv T != x)=true
        · simp only[hsk,if_true];simp only[Bool.and_eq_true,bne_iff_ne,ne_eq]at hsk;obtain⟨rfl,hv⟩ :=hsk;simp -implicitDefEqProofs [rR,h2,h3,h4,h5,h6,h7,h14,g0,g1,zaQ,zbr,zb2,hn];refine zay ?_;simp -implicitDefEqProofs [rR,h2,h3,h4,h5,h6,h7,h14,g0,g1,zaQ,zbr,zb2,hn,zaL,tmE,hlen,<-hx,q2,hT,hv,hw]
        · rw[if_neg hsk];have hr:=ih (im++[T]) (by intro u hu;rcases List.mem_append.1 hu with h|h;exact him u h;simp at h;rw[h];exact ht) (by simp;omega);cases p1 with
          | false=>
            simp -implicitDefEqProofs [rR,h2,h3,h4,h5,h6,h7,h14,g0,g1,zaQ,zbr,zb2,hn];refine zay ?_;simp -implicitDefEqProofs [rR,h2,h3,h4,h5,h6,h7,h14,g0,g1,zaQ,zbr,zb2,hn,zaL,tmE,hlen,<-hx,q2,hT];refine zeE (Q:=fun S=>WD pr _ S _) (P:=fun S=>S.tm.get 2=some (.f (zas ns))/\S.tm.get 3=some (.f (zaX im))/\S.tm.get 4=some (.f (zaX tg))/\S.tm.get 5=some (.f (zas hd))/\S.tm.get 6=some (.ptr 0 2 0 0)/\S.tm.get 7=some (.ptr 1 2 0 0)/\S.tm.get 14=some (.f (.i .i64 n))/\S.h.get 0=some (.arr 2 0 [[.f (zaC a),.f (zaF a)]])/\S.h.get 1=some (.arr 2 0 [[.f (zaC b),.f (zaF b)]])/\2≤S.c) ?_ ?_
            · simp -implicitDefEqProofs [rR,h2,h3,h4,h5,h6,h7,h14,g0,g1]
            · intro S hS;refine zEO a b ns tg hd im n hn (by omega) (zdv a b ns tg hd k (im++[T])) (by rw[hT];exact hr) S hS _ ?_;rintro S' ⟨h2,h3,h4,h5,h6,h7,h14,g0,g1,h15,h16,hc⟩;cases hres:zdv a b ns tg hd k (im++[T])with
              | none=>
                rw[hres]at h15 h16;simp -implicitDefEqProofs [rR,h2,h3,h4,h5,h6,h7,h14,g0,g1,h15,h16,hw,hc]
              | some l=>
                rw[hres]at h15 h16;simp -implicitDefEqProofs [rR,h2,h3,h4,h5,h6,h7,h14,g0,g1,h15,h16,hw,hc,rsF]
          | true=>
            have hv:tv T=x:=by simpa using hsk
            simp -implicitDefEqProofs [rR,h2,h3,h4,h5,h6,h7,h14,g0,g1,zaQ,zbr,zb2,hn];refine zay ?_;simp -implicitDefEqProofs [rR,h2,h3,h4,h5,h6,h7,h14,g0,g1,zaQ,zbr,zb2,hn,zaL,tmE,hlen,<-hx,q2,hT,hv];refine zeE (Q:=fun S=>WD pr _ S _) (P:=fun S=>S.tm.get 2=some (.f (zas ns))/\S.tm.get 3=some (.f (zaX im))/\S.tm.get 4=some (.f (zaX tg))/\S.tm.get 5=some (.f (zas hd))/\S.tm.get 6=some (.ptr 0 2 0 0)/\S.tm.get 7=some (.ptr 1 2 0 0)/\S.tm.get 14=some (.f (.i .i64 n))/\S.h.get 0=some (.arr 2 0 [[.f (zaC a),.f (zaF a)]])/\S.h.get 1=some (.arr 2 0 [[.f (zaC b),.f (zaF b)]])/\2≤S.c) ?_ ?_
            · simp -implicitDefEqProofs [rR,h2,h3,h4,h5,h6,h7,h14,g0,g1]
            · intro S hS;refine zEO a b ns tg hd im n hn (by omega) (zdv a b ns tg hd k (im++[T])) (by rw[hT];exact hr) S hS _ ?_;rintro S' ⟨h2,h3,h4,h5,h6,h7,h14,g0,g1,h15,h16,hc⟩;cases hres:zdv a b ns tg hd k (im++[T])with
              | none=>
                rw[hres]at h15 h16;simp -implicitDefEqProofs [rR,h2,h3,h4,h5,h6,h7,h14,g0,g1,h15,h16,hw,hc]
              | some l=>
                rw[hres]at h15 h16;simp -implicitDefEqProofs [rR,h2,h3,h4,h5,h6,h7,h14,g0,g1,h15,h16,hw,hc,rsF]
      · rintro s ⟨h2,h3,h4,h5,h6,h7,h14,g0,g1,hc⟩;simp -implicitDefEqProofs [rR,h2,h3,h4,h5,h6,h7,h14,g0,g1,zaQ]
      · simp -implicitDefEqProofs [rR,st0,zae,cqE,zaV,zaW,zaL,zaS]
      · rintro h y s rfl;have e:res=none:=hres.symm.trans h;rw[e];simp -implicitDefEqProofs [rR,st0,zfy]
      · rintro r h y s ⟨rfl,h12,h13⟩;have e:res=some r:=hres.symm.trans h;rw[e];simp -implicitDefEqProofs [rR,h12,h13,zfy,zaS]
end Go.Proofs.YtimgcabgophnfaaGreat
end
