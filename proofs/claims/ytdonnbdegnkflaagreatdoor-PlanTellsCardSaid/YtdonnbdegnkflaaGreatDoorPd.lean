/- The reference's Domain. -/
import Derived.Test.YtdonnbdegnkflaaGreatDoorPc
import Derived.KernelRfl
import Derived.IntWalk
import Derived.Test.YtdonnbdegnkflaaGreatDoorPb
set_option linter.all false
set_option maxRecDepth 100000
set_option maxHeartbeats 4000000
section
namespace Go.Proofs.YtdonnbdegnkflaaGreatDoor
open Go Go.Vse Go.Vse.Sm
def fn33:pr.fn 33=some g33:=by kernel_rfl
def fn12:pr.fn 12=some g12:=by kernel_rfl
def rlO(o:Option Rl):List F:=match o with
 |some r=>rlF r
 |none=>[.s [],.b false,.nils,.nils]
def ans33(l:List Rl)(nm:Str)(hl:l.length<1000)(hr:∀r∈l,RlK r):Ans pr 33 [zfv l,.s nm] (.ag (rlO (l.find? fun r=>r.nm==nm))):=by
 refine zdu fn33 ?_;simp only[g33,rU];simp -implicitDefEqProofs [rW,st0,zao,zfV];refine zlt l (fun r=>r.nm==nm) (fun n s=>(s.tm.get 0=some (.f (zfv l))/\s.tm.get 1=some (.f (.s nm))/\s.tm.get 4=some (.ptr 0 4 0 0)/\s.tm.get 5=some (.f (.i .i64 n))/\s.h.get 0=some (.arr 4 0 [[.f (.s []),.f (.b false),.f .nils,.f .nils]]))/\1<=s.c) (fun x s=>x= .exit 0/\(s.tm.get 4=some (.ptr 0 4 0 0)/\s.h.get 0=some (.arr 4 0 [[.f (.s []),.f (.b false),.f .nils,.f .nils]]))/\1<=s.c) (fun n y s=>y= .ret/\∃r,l[n]? =some r/\(s.tm.get 4=some (.ptr 0 4 0 0)/\s.h.get 0=some (.arr 4 0 [[.f (.s r.nm),.f (.b r.ce),.f r.co,.f (zkk r.tu)]]))) ?_ ?_ _ ?_ ?_ ?_
 .rintro n s hn ⟨⟨h0,h1,h4,h5,g0⟩,hlo⟩;have hw:=za5 n (by omega);have h00:0<s.c:=by omega
  have hx:l[n]? =some l[n]:=Z0 hn;generalize hA:l[n]=A at hx|-
  by_cases hb:A.nm=nm
  .simp -implicitDefEqProofs [rW,h0,h1,h4,h5,g0,hn,zrW,zn6,hx,hA,rlE,hb,h00]
  .simp -implicitDefEqProofs [rW,h0,h1,h4,h5,g0,hn,zrW,zn6,hx,hA,rlE,hb,hw];omega
 .rintro s ⟨⟨h0,h1,h4,h5,g0⟩,hlo⟩;simp -implicitDefEqProofs [rW,h0,h1,h4,h5,g0,zrW];omega
 .simp -implicitDefEqProofs [rW,]
 .rintro h z s ⟨rfl,⟨h4,g0⟩,hlo⟩;rw[zZH h];have h00:0<s.c:=by omega
  simp -implicitDefEqProofs [rW,h4,g0,rlO,h00]
 .rintro n hn hp hm z s ⟨rfl,r,hx,h4,g0⟩;rw[zss l _ n hn hp hm];have e:l[n]=r:=by
   rw[Z0 hn]at hx;exact Z53 hx
  rw[e];have hk:=hr r (Z39 hx);simp -implicitDefEqProofs [rW,h4,g0,rlO,rlE]
theorem zka:∀(l out:List Int),(zdw l out).length<=l.length+out.length
 |[],out=>by simp[zdw]
 |v::l,out=>by
  have h1:=zka l (ins out v);have h2:∀(m:List Int),(ins m v).length<=m.length+1:=by
   intro m
   induction m with
   |nil=>simp[ins]
   |cons w m ih=>
    unfold ins;split
    .simp;exact ih
    .split<;>simp
  have:=h2 out;show(zdw l (ins out v)).length<=_;simp only[Z23];omega
def zBu(ns:List Int)(v:Int):ins (zdw ns []) v=zdw (ns++[v]) []:=by
 rw[zuE];rfl
def RB(l:List Rl)(x:Str)(hd:List Str)(L:List CQ)(ns:List Int)(s:St):Prop:=(s.tm.get 0=some (.f (zfv l))/\s.tm.get 2=some (.f (.s x))/\s.tm.get 4=some (.ptr 0 2 0 0)/\s.tm.get 7=some (.f (zfD (zdw ns [])))/\s.h.get 0=some (.arr 2 0 [[.f (zbQ hd),.f (qsF L)]]))/\1<=s.c
def RB.up{l:List Rl}{x:Str}{hd:List Str}{L:List CQ}{ns:List Int}{s S:St}(H:RB l x hd L ns s)(hc:s.c<=S.c)(hh:S.h.get 0=s.h.get 0)(t0:S.tm.get 0=s.tm.get 0)(t2:S.tm.get 2=s.tm.get 2)(t4:S.tm.get 4=s.tm.get 4)(t7:S.tm.get 7=s.tm.get 7):RB l x hd L ns S:=by
 obtain⟨⟨h0,h2,h4,h7,g0⟩,hlo⟩ :=H;exact⟨⟨t0.trans h0,t2.trans h2,t4.trans h4,t7.trans h7,hh.trans g0⟩,by omega⟩
def F0(l:List Rl)(x:Str)(hd:List Str)(L:List CQ)(n:Nat)(s:St):Prop:=RB l x hd L (zeE l x (L.take n)) s/\s.tm.get 8=some (.f (.i .i64 n))
def F2(l:List Rl)(x:Str)(hd:List Str)(L:List CQ)(n:Nat)(q:CQ)(ns:List Int)(k:Nat)(s:St):Prop:=RB l x hd L (ns++(q.as.take k).flatMap (zdN l x)) s/\s.tm.get 8=some (.f (.i .i64 n))/\s.tm.get 9=some (.f (.i .i64 k))
def F4(l:List Rl)(x:Str)(hd:List Str)(L:List CQ)(n k:Nat)(ns:List Int)(a:Atm)(r:Rl)(A:Nat)(i:Nat)(s:St):Prop:=RB l x hd L (ns++zh4 r.tu x a.ts i) s/\(s.tm.get 8=some (.f (.i .i64 n))/\s.tm.get 9=some (.f (.i .i64 k))/\s.tm.get 10=some (.ptr A 3 0 0)/\s.tm.get 11=some (.ptr (A+1) 4 0 0)/\s.tm.get 12=some (.f (.i .i64 i)))/\s.h.get A=some (.arr 3 0 [atD a])/\s.h.get (A+1)=some (.arr 4 0 [[.f (.s r.nm),.f (.b r.ce),.f r.co,.f (zkk r.tu)]])/\1<=A/\A+1<s.c
def F6(l:List Rl)(x:Str)(hd:List Str)(L:List CQ)(n k:Nat)(ns:List Int)(a:Atm)(r:Rl)(A:Nat)(i m:Nat)(s:St):Prop:=RB l x hd L (ns++(r.tu.take m).filterMap fun t=>t.1[i]?) s/\(s.tm.get 8=some (.f (.i .i64 n))/\s.tm.get 9=some (.f (.i .i64 k))/\s.tm.get 10=some (.ptr A 3 0 0)/\s.tm.get 11=some (.ptr (A+1) 4 0 0)/\s.tm.get 12=some (.f (.i .i64 i))/\s.tm.get 13=some (.f (.i .i64 m)))/\s.h.get A=some (.arr 3 0 [atD a])/\s.h.get (A+1)=some (.arr 4 0 [[.f (.s r.nm),.f (.b r.ce),.f r.co,.f (zkk r.tu)]])/\1<=A/\A+1<s.c
def zFn:C:=(.seq (oD [oM 78 13,oF 79 3 11,oK 80 1 79,oR 81 (.len (.t 80)),oR 82 (.bin .lss (.t 78) (.t 81))] 82 .skip (.exit 6))
 (.seq (.blk 7 (oD [oM 85 12,oF 86 3 11,oK 87 1 86,oM 88 13,oI 89 4 87 88,oF 90 0 89,oK 91 1 90,oR 92 (.len (.t 91)),oR 93 (.bin .lss (.t 85) (.t 92))] 93 (.reg [oM 94 7,oF 95 3 11,oK 96 1 95,oM 97 13,oI 98 4 96 97,oF 99 0 98,oK 100 1 99,oM 101 12,oI 102 3 100 101,oL 103 3 102,oR 104 (.bsl 3 [.i .i64 0,.i .i64 0,.s []] 1 [(0,(.t 103))]),oR 105 (.callp 34 [(.t 94),(.t 104)]),oM 7 105]) .skip))
 (.reg [oM 83 13,oR 84 (.bin .add (.t 83) (.k (.i .i64 1))),oM 13 84])))
def m6(l:List Rl)(x:Str)(hd:List Str)(L:List CQ)(n k:Nat)(ns:List Int)(a:Atm)(r:Rl)(hr:RlK r)(A i:Nat)(hi3:i<3)(hns:ns.length<10000){Q:Ex->St->Prop}(s:St)(h:F6 l x hd L n k ns a r A i 0 s)(hQ:∀s,F6 l x hd L n k ns a r A i r.tu.length s->Q (.exit 6) s):WL pr zFn s Q:=by
 have htn:=hr.tn;refine zjr r.tu.length (F6 l x hd L n k ns a r A i) (fun e s=>e= .exit 6/\F6 l x hd L n k ns a r A i r.tu.length s) ?_ ?_ _ h (by rintro e s ⟨rfl,h⟩;exact hQ s h)
 .clear h hQ s;rintro m s hm ⟨hB,⟨h8,h9,h10,h11,h12,h13⟩,gA,gR,hA1,hAc⟩;unfold zFn;simp only[rU];have hw:=za5 m (by omega);have hx:r.tu[m]? =some r.tu[m]:=Z0 hm;have hk2:=Z6 hm;obtain⟨hp,ht10⟩ :=hr.tp _ (Z1 hm);have hfl:=List.length_filterMap_le (fun t:List Int×List F=>t.1[i]?) (r.tu.take m);rw[Z41]at hfl;generalize hT:r.tu[m]=t at hx hk2 hp ht10;obtain⟨vs,p⟩ :=t;obtain⟨p0,p1,p2,rfl,d0,d1,d2⟩ :=hp;have hsp:(r.tu.take (m+1)).filterMap (fun t:List Int×List F=>t.1[i]?)=(r.tu.take m).filterMap (fun t=>t.1[i]?)++[(vs,[p0,p1,p2])].filterMap fun t:List Int×List F=>t.1[i]? :=by
   rw[hk2,List.filterMap_append]
  generalize (r.tu.take m).filterMap (fun t:List Int×List F=>t.1[i]?)=na at*;have htu:tuF (vs,[p0,p1,p2])=[valsF vs,p0,p1,p2]:=rfl;obtain⟨⟨h0,h2,h4,h7,g0⟩,hlo⟩ :=id hB
  by_cases hi:i<vs.length
  .have hxi:vs[i]? =some vs[i]:=Z0 hi;generalize hV:vs[i]=v at hxi;have hsp2:[(vs,[p0,p1,p2])].filterMap (fun t:List Int×List F=>t.1[i]?)=[v]:=by simp[hxi]
   rw[hsp2]at hsp;have q34:=fun f=>zah (k:=f) (ans34 (zdw (ns++na) []) v (by have:=zka (ns++na) [];rw[Z16]at this;simp only[Z170]at this;omega))
   rw[zBu]at q34;have hv1:valsF [v]= .sl 3 [[.i .i64 1,.i .i64 v,.s []]]:=rfl;rw[hv1]at q34;have nA:¬A=s.c:=by omega
   have nR:¬A+1=s.c:=by omega
   have n0:¬0=s.c:=by omega
   simp -implicitDefEqProofs [rW,h0,h2,h4,h7,h11,h12,h13,gR,hm,zr1,zva,hx,hT,htu,zf5,zr2,hi,hxi,hV,vF,zAJ,q34,hw];refine⟨⟨⟨?_,?_,?_,?_,?_⟩,?_⟩,?_,?_,?_,hA1,?_⟩
   .simp -implicitDefEqProofs [rW,h0]
   .simp -implicitDefEqProofs [rW,h2]
   .simp -implicitDefEqProofs [rW,h4]
   .rw[hsp,<-Z32];simp -implicitDefEqProofs [rW,]
   .simp -implicitDefEqProofs [rW,n0,g0]
   .simp -implicitDefEqProofs [rW,]<;>omega
   .simp -implicitDefEqProofs [rW,h8,h9,h10,h11,h12,hw]
   .simp -implicitDefEqProofs [rW,nA,gA]
   .simp -implicitDefEqProofs [rW,nR,gR]
   .simp -implicitDefEqProofs [rW,]<;>omega
  .have hsp2:[(vs,[p0,p1,p2])].filterMap (fun t:List Int×List F=>t.1[i]?)=[]:=by
    have:vs[i]? =none:=Z97 (by omega);simp[this]
   rw[hsp2,Z22]at hsp;simp -implicitDefEqProofs [rW,h11,h12,h13,gR,hm,zr1,zva,hx,hT,htu,zf5,hi,hw];refine⟨?_,?_,?_,?_,hA1,?_⟩
   .rw[hsp];exact hB.up (by simp -implicitDefEqProofs [rW,]) (by simp -implicitDefEqProofs [rW,]) (by simp -implicitDefEqProofs [rW,]) (by simp -implicitDefEqProofs [rW,]) (by simp -implicitDefEqProofs [rW,]) (by simp -implicitDefEqProofs [rW,])
   .simp -implicitDefEqProofs [rW,h8,h9,h10,h11,h12,hw]
   .simp -implicitDefEqProofs [rW,gA]
   .simp -implicitDefEqProofs [rW,gR]
   .simp -implicitDefEqProofs [rW,]<;>omega
 .rintro s ⟨hB,⟨h8,h9,h10,h11,h12,h13⟩,gA,gR,hA1,hAc⟩;unfold zFn;simp only[rU];simp -implicitDefEqProofs [rW,h11,h13,gR,zr1];refine⟨?_,?_,?_,?_,hA1,?_⟩
  .exact hB.up (by simp -implicitDefEqProofs [rW,]) (by simp -implicitDefEqProofs [rW,]) (by simp -implicitDefEqProofs [rW,]) (by simp -implicitDefEqProofs [rW,]) (by simp -implicitDefEqProofs [rW,]) (by simp -implicitDefEqProofs [rW,])
  .simp -implicitDefEqProofs [rW,h8,h9,h10,h11,h12,h13]
  .simp -implicitDefEqProofs [rW,gA]
  .simp -implicitDefEqProofs [rW,gR]
  .simp -implicitDefEqProofs [rW,]<;>omega
def zFm:C:=(.seq (oD [oM 59 12,oF 60 2 10,oK 61 1 60,oR 62 (.len (.t 61)),oR 63 (.bin .lss (.t 59) (.t 62))] 63 .skip (.exit 4))
 (.seq (.blk 5 (.seq (oD [oF 66 2 10,oK 67 1 66,oM 68 12,oI 69 4 67 68,oF 70 0 69,oK 71 1 70,oM 72 2,oR 73 (.bin .neq (.t 71) (.t 72)),oM 74 73,oH 75 74 (.mv (.t 2)),oH 76 74 (.bin .eql (.t 75) (.k (.s []))),oR 77 (.pick (.t 74) (.k (.b true)) (.t 76))] 77 (.exit 5) .skip)
 (oZ [oR 13 (.mv (.k (.i .i64 0)))]
 (.blk 6 (.loop (.seq (oD [oM 78 13,oF 79 3 11,oK 80 1 79,oR 81 (.len (.t 80)),oR 82 (.bin .lss (.t 78) (.t 81))] 82 .skip (.exit 6))
 (.seq (.blk 7 (oD [oM 85 12,oF 86 3 11,oK 87 1 86,oM 88 13,oI 89 4 87 88,oF 90 0 89,oK 91 1 90,oR 92 (.len (.t 91)),oR 93 (.bin .lss (.t 85) (.t 92))] 93 (.reg [oM 94 7,oF 95 3 11,oK 96 1 95,oM 97 13,oI 98 4 96 97,oF 99 0 98,oK 100 1 99,oM 101 12,oI 102 3 100 101,oL 103 3 102,oR 104 (.bsl 3 [.i .i64 0,.i .i64 0,.s []] 1 [(0,(.t 103))]),oR 105 (.callp 34 [(.t 94),(.t 104)]),oM 7 105]) .skip))
 (.reg [oM 83 13,oR 84 (.bin .add (.t 83) (.k (.i .i64 1))),oM 13 84]))))))))
 (.reg [oM 64 12,oR 65 (.bin .add (.t 64) (.k (.i .i64 1))),oM 12 65])))
def m4(l:List Rl)(x:Str)(hd:List Str)(L:List CQ)(n k:Nat)(ns:List Int)(a:Atm)(ha:∀t∈a.ts,zaN t)(htl:a.ts.length<=2)(r:Rl)(hr:RlK r)(A:Nat)(hns:ns.length<1000){Q:Ex->St->Prop}(s:St)(h:F4 l x hd L n k ns a r A 0 s)(hQ:∀s,F4 l x hd L n k ns a r A a.ts.length s->Q (.exit 4) s):WL pr zFm s Q:=by
 refine zjr a.ts.length (F4 l x hd L n k ns a r A) (fun e s=>e= .exit 4/\F4 l x hd L n k ns a r A a.ts.length s) ?_ ?_ _ h (by rintro e s ⟨rfl,h⟩;exact hQ s h)
 .clear h hQ s;rintro i s hi ⟨hB,⟨h8,h9,h10,h11,h12⟩,gA,gR,hA1,hAc⟩;unfold zFm;simp only[rU];have hw:=za5 i (by omega);have hx:a.ts[i]? =some a.ts[i]:=Z0 hi;have hot:=ha _ (Z1 hi);have hsp:=zqu r.tu x a.ts i;have hcl:=zsm hr.tn x a.ts i;generalize hT:a.ts[i]=t at hx hot;rw[hx]at hsp;generalize zh4 r.tu x a.ts i=na at*;obtain⟨⟨h0,h2,h4,h7,g0⟩,hlo⟩ :=id hB;simp only[atD]at gA
  by_cases he:t= .var x
  .subst he;have hxe:x≠[]:=hot;rw[Z51 rfl]at hsp;simp -implicitDefEqProofs [rW,h2,h10,h11,h12,gA,hi,zez,ziB,hx,hT,tmE,zsV,zsS,zsU,hxe];refine m6 l x hd L n k (ns++na) a r hr A i (by omega) (by rw[Z16];omega) _ ⟨?_,?_,?_,?_,hA1,?_⟩ ?_
   .simp only[Z173,List.filterMap_nil,Z22];exact hB.up (by simp -implicitDefEqProofs [rW,]) (by simp -implicitDefEqProofs [rW,]) (by simp -implicitDefEqProofs [rW,]) (by simp -implicitDefEqProofs [rW,]) (by simp -implicitDefEqProofs [rW,]) (by simp -implicitDefEqProofs [rW,])
   .simp -implicitDefEqProofs [rW,h8,h9,h10,h11,h12]
   .simp -implicitDefEqProofs [rW,gA,atD]
   .simp -implicitDefEqProofs [rW,gR]
   .simp -implicitDefEqProofs [rW,]<;>omega
   .clear h0 h2 h4 h7 g0 hlo hB gA gR hAc h8 h9 h10 h11 h12;rintro s ⟨hB,⟨h8,h9,h10,h11,h12,h13⟩,gA,gR,-,hAc⟩;rw[Z7,Z32]at hB;simp -implicitDefEqProofs [rW,h12,hw];refine⟨?_,?_,?_,?_,hA1,?_⟩
    .rw[hsp];exact hB.up (by simp -implicitDefEqProofs [rW,]) (by simp -implicitDefEqProofs [rW,]) (by simp -implicitDefEqProofs [rW,]) (by simp -implicitDefEqProofs [rW,]) (by simp -implicitDefEqProofs [rW,]) (by simp -implicitDefEqProofs [rW,])
    .simp -implicitDefEqProofs [rW,h8,h9,h10,h11,hw]
    .simp -implicitDefEqProofs [rW,gA]
    .simp -implicitDefEqProofs [rW,gR]
    .simp -implicitDefEqProofs [rW,]<;>omega
  .rw[Z49 (by simpa using he),Z22]at hsp;cases t with
   |cst v=>
    by_cases hxe:x=[]
    .simp -implicitDefEqProofs [rW,h2,h10,h11,h12,gA,hi,zez,ziB,hx,hT,tmE,zHi,zHf,zHh,hxe,hw];rw[hxe]at hsp hB;refine⟨?_,?_,?_,?_,hA1,?_⟩
     .rw[hsp];exact hB.up (by simp -implicitDefEqProofs [rW,]) (by simp -implicitDefEqProofs [rW,]) (by simp -implicitDefEqProofs [rW,]) (by simp -implicitDefEqProofs [rW,]) (by simp -implicitDefEqProofs [rW,]) (by simp -implicitDefEqProofs [rW,])
     .simp -implicitDefEqProofs [rW,h8,h9,h10,h11,hw]
     .simp -implicitDefEqProofs [rW,gA,atD]
     .simp -implicitDefEqProofs [rW,gR]
     .simp -implicitDefEqProofs [rW,]<;>omega
    .have hxe2:¬[]=x:=fun e=>hxe e.symm
     simp -implicitDefEqProofs [rW,h2,h10,h11,h12,gA,hi,zez,ziB,hx,hT,tmE,zHi,zHf,zHh,hxe,hxe2,hw];refine⟨?_,?_,?_,?_,hA1,?_⟩
     .rw[hsp];exact hB.up (by simp -implicitDefEqProofs [rW,]) (by simp -implicitDefEqProofs [rW,]) (by simp -implicitDefEqProofs [rW,]) (by simp -implicitDefEqProofs [rW,]) (by simp -implicitDefEqProofs [rW,]) (by simp -implicitDefEqProofs [rW,])
     .simp -implicitDefEqProofs [rW,h8,h9,h10,h11,hw]
     .simp -implicitDefEqProofs [rW,gA,atD]
     .simp -implicitDefEqProofs [rW,gR]
     .simp -implicitDefEqProofs [rW,]<;>omega
   |var u=>
    have hux:u≠x:=fun e=>he (by rw[e])
    simp -implicitDefEqProofs [rW,h2,h10,h11,h12,gA,hi,zez,ziB,hx,hT,tmE,zsV,zsS,zsU,hux,hw];refine⟨?_,?_,?_,?_,hA1,?_⟩
    .rw[hsp];exact hB.up (by simp -implicitDefEqProofs [rW,]) (by simp -implicitDefEqProofs [rW,]) (by simp -implicitDefEqProofs [rW,]) (by simp -implicitDefEqProofs [rW,]) (by simp -implicitDefEqProofs [rW,]) (by simp -implicitDefEqProofs [rW,])
    .simp -implicitDefEqProofs [rW,h8,h9,h10,h11,hw]
    .simp -implicitDefEqProofs [rW,gA,atD]
    .simp -implicitDefEqProofs [rW,gR]
    .simp -implicitDefEqProofs [rW,]<;>omega
 .rintro s ⟨hB,⟨h8,h9,h10,h11,h12⟩,gA,gR,hA1,hAc⟩;unfold zFm;simp only[rU];simp only[atD]at gA;simp -implicitDefEqProofs [rW,h10,h12,gA,zez];refine⟨?_,?_,?_,?_,hA1,?_⟩
  .exact hB.up (by simp -implicitDefEqProofs [rW,]) (by simp -implicitDefEqProofs [rW,]) (by simp -implicitDefEqProofs [rW,]) (by simp -implicitDefEqProofs [rW,]) (by simp -implicitDefEqProofs [rW,]) (by simp -implicitDefEqProofs [rW,])
  .simp -implicitDefEqProofs [rW,h8,h9,h10,h11,h12]
  .simp -implicitDefEqProofs [rW,gA,atD]
  .simp -implicitDefEqProofs [rW,gR]
  .simp -implicitDefEqProofs [rW,]<;>omega
def zFk:C:=(.seq (oD [oM 23 9,oF 24 1 4,oK 25 1 24,oM 26 8,oI 27 2 25 26,oF 28 0 27,oK 29 1 28,oR 30 (.len (.t 29)),oR 31 (.bin .lss (.t 23) (.t 30))] 31 .skip (.exit 2))
 (.seq (.blk 3 (oZ [oF 34 1 4,oK 35 1 34,oM 36 8,oI 37 2 35 36,oF 38 0 37,oK 39 1 38,oM 40 9,oI 41 3 39 40,oL 42 3 41,oR 10 (.new [.s [],.b false,.nils]),oS 3 10 42]
 (oZ [oM 43 0,oF 44 0 10,oK 45 1 44,oR 46 (.callp 33 [(.t 43),(.t 45)]),oR 11 (.new [.s [],.b false,.nils,.nils]),oS 4 11 46]
 (.seq (oD [oF 47 1 10,oK 48 1 47,oM 49 48,oH 50 49 (.fa 2 (.t 10)),oH 51 49 (.ld false 1 (.t 50)),oH 52 49 (.len (.t 51)),oH 53 49 (.fa 0 (.t 11)),oH 54 49 (.fa 2 (.t 53)),oH 55 49 (.ld false 1 (.t 54)),oH 56 49 (.len (.t 55)),oH 57 49 (.bin .neq (.t 52) (.t 56)),oR 58 (.pick (.t 49) (.k (.b true)) (.t 57))] 58 (.exit 3) .skip)
 (oZ [oR 12 (.mv (.k (.i .i64 0)))]
 (.blk 4 (.loop (.seq (oD [oM 59 12,oF 60 2 10,oK 61 1 60,oR 62 (.len (.t 61)),oR 63 (.bin .lss (.t 59) (.t 62))] 63 .skip (.exit 4))
 (.seq (.blk 5 (.seq (oD [oF 66 2 10,oK 67 1 66,oM 68 12,oI 69 4 67 68,oF 70 0 69,oK 71 1 70,oM 72 2,oR 73 (.bin .neq (.t 71) (.t 72)),oM 74 73,oH 75 74 (.mv (.t 2)),oH 76 74 (.bin .eql (.t 75) (.k (.s []))),oR 77 (.pick (.t 74) (.k (.b true)) (.t 76))] 77 (.exit 5) .skip)
 (oZ [oR 13 (.mv (.k (.i .i64 0)))]
 (.blk 6 (.loop (.seq (oD [oM 78 13,oF 79 3 11,oK 80 1 79,oR 81 (.len (.t 80)),oR 82 (.bin .lss (.t 78) (.t 81))] 82 .skip (.exit 6))
 (.seq (.blk 7 (oD [oM 85 12,oF 86 3 11,oK 87 1 86,oM 88 13,oI 89 4 87 88,oF 90 0 89,oK 91 1 90,oR 92 (.len (.t 91)),oR 93 (.bin .lss (.t 85) (.t 92))] 93 (.reg [oM 94 7,oF 95 3 11,oK 96 1 95,oM 97 13,oI 98 4 96 97,oF 99 0 98,oK 100 1 99,oM 101 12,oI 102 3 100 101,oL 103 3 102,oR 104 (.bsl 3 [.i .i64 0,.i .i64 0,.s []] 1 [(0,(.t 103))]),oR 105 (.callp 34 [(.t 94),(.t 104)]),oM 7 105]) .skip))
 (.reg [oM 83 13,oR 84 (.bin .add (.t 83) (.k (.i .i64 1))),oM 13 84]))))))))
 (.reg [oM 64 12,oR 65 (.bin .add (.t 64) (.k (.i .i64 1))),oM 12 65]))))))))))
 (.reg [oM 32 9,oR 33 (.bin .add (.t 32) (.k (.i .i64 1))),oM 9 33])))
def m2(l:List Rl)(hl:l.length<1000)(hr:∀r∈l,RlK r)(x:Str)(hd:List Str)(L:List CQ)(n:Nat)(hn:n<L.length)(q:CQ)(hLn:L[n]? =some q)(hq:CqG q)(hqa:q.as.length<=3)(ns:List Int)(hns:ns.length<100){Q:Ex->St->Prop}(s:St)(h:F2 l x hd L n q ns 0 s)(hQ:∀s,F2 l x hd L n q ns q.as.length s->Q (.exit 2) s):WL pr zFk s Q:=by
 have hLg:L[n]=q:=by
  rw[Z0 hn]at hLn;exact Z53 hLn
 refine zjr q.as.length (F2 l x hd L n q ns) (fun e s=>e= .exit 2/\F2 l x hd L n q ns q.as.length s) ?_ ?_ _ h (by rintro e s ⟨rfl,h⟩;exact hQ s h)
 .clear h hQ s;rintro k s hk ⟨hB,h8,h9⟩;unfold zFk;simp only[rU];have hw:=za5 k (by omega);have hx:q.as[k]? =some q.as[k]:=Z0 hk;have hk2:=Z6 hk;have hok:=(hq.toCqSm.toCqOk.as _ (Z1 hk)).1;have hst:=hq.s2 _ (Z1 hk);have htn:=hq.tn _ (Z1 hk);have hnl:((q.as.take k).flatMap (zdN l x)).length<=18:=by
   have:=zj9 (zdN l x) 6 (q.as.take k) fun a ha=>zpa hr x a (hq.s2 _ (Z13 ha))
   rw[Z41]at this;omega
  generalize hA:q.as[k]=a at hx hk2 hok hst htn;have hsp:(q.as.take (k+1)).flatMap (zdN l x)=(q.as.take k).flatMap (zdN l x)++zdN l x a:=by
   rw[hk2,Z183];simp
  generalize (q.as.take k).flatMap (zdN l x)=na at*;obtain⟨⟨h0,h2,h4,h7,g0⟩,hlo⟩ :=id hB;have n0:¬0=s.c:=by omega
  have n0':¬0=s.c+1:=by omega
  have q33:=fun f=>zah (k:=f) (ans33 l a.r hl hr)
  cases hf:l.find? fun r=>r.nm==a.r with
  |none=>
   rw[hf]at q33;have e0:zdN l x a=[]:=by
    unfold zdN;rw[hf];split<;>rfl
   have hne:¬(a.ts.length:Int)=0:=by
    have:=Z129.2 htn;omega
   simp only[rlO]at q33;cases hneg:a.neg with
   |true=>
    simp -implicitDefEqProofs [rW,h0,h2,h4,h7,h8,h9,g0,n0,n0',hn,hLn,hLg,zpq,cqE,hk,zaV,zeH,hx,hA,atE,q33,zfV,hneg,hw];refine⟨?_,?_⟩
    .rw[hsp,e0,Z22];exact hB.up (by simp -implicitDefEqProofs [rW,]<;>omega) (by simp -implicitDefEqProofs [rW,n0,n0']) (by simp -implicitDefEqProofs [rW,]) (by simp -implicitDefEqProofs [rW,]) (by simp -implicitDefEqProofs [rW,]) (by simp -implicitDefEqProofs [rW,])
    .simp -implicitDefEqProofs [rW,h8,h9,hw]
   |false=>
    simp -implicitDefEqProofs [rW,h0,h2,h4,h7,h8,h9,g0,n0,n0',hn,hLn,hLg,zpq,cqE,hk,zaV,zeH,hx,hA,atE,q33,zfV,hneg,zez,hne,htn,hw];refine⟨?_,?_⟩
    .rw[hsp,e0,Z22];exact hB.up (by simp -implicitDefEqProofs [rW,]<;>omega) (by simp -implicitDefEqProofs [rW,n0,n0']) (by simp -implicitDefEqProofs [rW,]) (by simp -implicitDefEqProofs [rW,]) (by simp -implicitDefEqProofs [rW,]) (by simp -implicitDefEqProofs [rW,])
    .simp -implicitDefEqProofs [rW,h8,h9,hw]
  |some r=>
   rw[hf]at q33;simp only[rlO,rlE]at q33;have hrk:=hr r (List.mem_of_find?_eq_some hf);have htd:=zTm r.tu;cases hneg:a.neg with
   |true=>
    have e0:zdN l x a=[]:=by unfold zdN;rw[Z51 hneg]
    simp -implicitDefEqProofs [rW,h0,h2,h4,h7,h8,h9,g0,n0,n0',hn,hLn,hLg,zpq,cqE,hk,zaV,zeH,hx,hA,atE,q33,zfV,hrk.co,htd,hneg,hw];refine⟨?_,?_⟩
    .rw[hsp,e0,Z22];exact hB.up (by simp -implicitDefEqProofs [rW,]<;>omega) (by simp -implicitDefEqProofs [rW,n0,n0']) (by simp -implicitDefEqProofs [rW,]) (by simp -implicitDefEqProofs [rW,]) (by simp -implicitDefEqProofs [rW,]) (by simp -implicitDefEqProofs [rW,])
    .simp -implicitDefEqProofs [rW,h8,h9,hw]
   |false=>
    have hdm:zdN l x a=if a.ts.length≠cnF r.co then[]else zFv r.tu x a.ts:=by
     unfold zdN;rw[Z49 (by simp[hneg]),hf]
    by_cases hc:a.ts.length=cnF r.co
    .rw[Z49 (by simp[hc])]at hdm;have hc2:(a.ts.length:Int)=cnF r.co:=by omega
     simp -implicitDefEqProofs [rW,h0,h2,h4,h7,h8,h9,g0,n0,n0',hn,hLn,hLg,zpq,cqE,hk,zaV,zeH,hx,hA,atE,q33,zfV,hrk.co,hrk.cl,htd,hneg,zez,hc,hc2];refine m4 l x hd L n k (ns++na) a hok hst r hrk s.c (by rw[Z16];omega) _ ⟨?_,?_,?_,?_,hlo,?_⟩ ?_
     .have e0:ns++na++zh4 r.tu x a.ts 0=ns++na:=by simp[zh4]
      rw[e0];exact hB.up (by simp -implicitDefEqProofs [rW,]<;>omega) (by simp -implicitDefEqProofs [rW,n0,n0']) (by simp -implicitDefEqProofs [rW,]) (by simp -implicitDefEqProofs [rW,]) (by simp -implicitDefEqProofs [rW,]) (by simp -implicitDefEqProofs [rW,])
     .simp -implicitDefEqProofs [rW,h8,h9]
     .simp -implicitDefEqProofs [rW,atD,hneg]
     .simp -implicitDefEqProofs [rW,]
     .simp -implicitDefEqProofs [rW,]<;>omega
     .clear h0 h2 h4 h7 g0 hB h8 h9;rintro s ⟨hB,⟨h8,h9,h10,h11,h12⟩,-,-,-,-⟩;simp -implicitDefEqProofs [rW,h9,hw];refine⟨?_,?_⟩
      .rw[hsp,hdm,<-Z32];exact hB.up (by simp -implicitDefEqProofs [rW,]) (by simp -implicitDefEqProofs [rW,]) (by simp -implicitDefEqProofs [rW,]) (by simp -implicitDefEqProofs [rW,]) (by simp -implicitDefEqProofs [rW,]) (by simp -implicitDefEqProofs [rW,])
      .simp -implicitDefEqProofs [rW,h8,h9,hw]
    .rw[Z51 hc]at hdm;have hc2:¬(a.ts.length:Int)=cnF r.co:=by omega
     simp -implicitDefEqProofs [rW,h0,h2,h4,h7,h8,h9,g0,n0,n0',hn,hLn,hLg,zpq,cqE,hk,zaV,zeH,hx,hA,atE,q33,zfV,hrk.co,hrk.cl,htd,hneg,zez,hc,hc2,hw];refine⟨?_,?_⟩
     .rw[hsp,hdm,Z22];exact hB.up (by simp -implicitDefEqProofs [rW,]<;>omega) (by simp -implicitDefEqProofs [rW,n0,n0']) (by simp -implicitDefEqProofs [rW,]) (by simp -implicitDefEqProofs [rW,]) (by simp -implicitDefEqProofs [rW,]) (by simp -implicitDefEqProofs [rW,])
     .simp -implicitDefEqProofs [rW,h8,h9,hw]
 .rintro s ⟨hB,h8,h9⟩;unfold zFk;simp only[rU];obtain⟨⟨h0,h2,h4,h7,g0⟩,hlo⟩ :=id hB;simp -implicitDefEqProofs [rW,h4,h8,h9,g0,hn,hLn,hLg,zpq,cqE,zaV];refine⟨?_,?_⟩
  .exact hB.up (by simp -implicitDefEqProofs [rW,]) (by simp -implicitDefEqProofs [rW,]) (by simp -implicitDefEqProofs [rW,]) (by simp -implicitDefEqProofs [rW,]) (by simp -implicitDefEqProofs [rW,]) (by simp -implicitDefEqProofs [rW,])
  .simp -implicitDefEqProofs [rW,h8,h9]
def zFi:C:=(.seq (oD [oM 16 8,oF 17 1 4,oK 18 1 17,oR 19 (.len (.t 18)),oR 20 (.bin .lss (.t 16) (.t 19))] 20 .skip (.exit 0))
 (.seq (.blk 1 (oZ [oR 9 (.mv (.k (.i .i64 0)))]
 (.blk 2 (.loop (.seq (oD [oM 23 9,oF 24 1 4,oK 25 1 24,oM 26 8,oI 27 2 25 26,oF 28 0 27,oK 29 1 28,oR 30 (.len (.t 29)),oR 31 (.bin .lss (.t 23) (.t 30))] 31 .skip (.exit 2))
 (.seq (.blk 3 (oZ [oF 34 1 4,oK 35 1 34,oM 36 8,oI 37 2 35 36,oF 38 0 37,oK 39 1 38,oM 40 9,oI 41 3 39 40,oL 42 3 41,oR 10 (.new [.s [],.b false,.nils]),oS 3 10 42]
 (oZ [oM 43 0,oF 44 0 10,oK 45 1 44,oR 46 (.callp 33 [(.t 43),(.t 45)]),oR 11 (.new [.s [],.b false,.nils,.nils]),oS 4 11 46]
 (.seq (oD [oF 47 1 10,oK 48 1 47,oM 49 48,oH 50 49 (.fa 2 (.t 10)),oH 51 49 (.ld false 1 (.t 50)),oH 52 49 (.len (.t 51)),oH 53 49 (.fa 0 (.t 11)),oH 54 49 (.fa 2 (.t 53)),oH 55 49 (.ld false 1 (.t 54)),oH 56 49 (.len (.t 55)),oH 57 49 (.bin .neq (.t 52) (.t 56)),oR 58 (.pick (.t 49) (.k (.b true)) (.t 57))] 58 (.exit 3) .skip)
 (oZ [oR 12 (.mv (.k (.i .i64 0)))]
 (.blk 4 (.loop (.seq (oD [oM 59 12,oF 60 2 10,oK 61 1 60,oR 62 (.len (.t 61)),oR 63 (.bin .lss (.t 59) (.t 62))] 63 .skip (.exit 4))
 (.seq (.blk 5 (.seq (oD [oF 66 2 10,oK 67 1 66,oM 68 12,oI 69 4 67 68,oF 70 0 69,oK 71 1 70,oM 72 2,oR 73 (.bin .neq (.t 71) (.t 72)),oM 74 73,oH 75 74 (.mv (.t 2)),oH 76 74 (.bin .eql (.t 75) (.k (.s []))),oR 77 (.pick (.t 74) (.k (.b true)) (.t 76))] 77 (.exit 5) .skip)
 (oZ [oR 13 (.mv (.k (.i .i64 0)))]
 (.blk 6 (.loop (.seq (oD [oM 78 13,oF 79 3 11,oK 80 1 79,oR 81 (.len (.t 80)),oR 82 (.bin .lss (.t 78) (.t 81))] 82 .skip (.exit 6))
 (.seq (.blk 7 (oD [oM 85 12,oF 86 3 11,oK 87 1 86,oM 88 13,oI 89 4 87 88,oF 90 0 89,oK 91 1 90,oR 92 (.len (.t 91)),oR 93 (.bin .lss (.t 85) (.t 92))] 93 (.reg [oM 94 7,oF 95 3 11,oK 96 1 95,oM 97 13,oI 98 4 96 97,oF 99 0 98,oK 100 1 99,oM 101 12,oI 102 3 100 101,oL 103 3 102,oR 104 (.bsl 3 [.i .i64 0,.i .i64 0,.s []] 1 [(0,(.t 103))]),oR 105 (.callp 34 [(.t 94),(.t 104)]),oM 7 105]) .skip))
 (.reg [oM 83 13,oR 84 (.bin .add (.t 83) (.k (.i .i64 1))),oM 13 84]))))))))
 (.reg [oM 64 12,oR 65 (.bin .add (.t 64) (.k (.i .i64 1))),oM 12 65]))))))))))
 (.reg [oM 32 9,oR 33 (.bin .add (.t 32) (.k (.i .i64 1))),oM 9 33])))))))
 (.reg [oM 21 8,oR 22 (.bin .add (.t 21) (.k (.i .i64 1))),oM 8 22])))
def m0(l:List Rl)(hl:l.length<1000)(hr:∀r∈l,RlK r)(x:Str)(hd:List Str)(L:List CQ)(hL:L.length<=3)(hq:∀q∈L,CqG q/\q.as.length<=3){Q:Ex->St->Prop}(s:St)(h:F0 l x hd L 0 s)(hQ:∀s,F0 l x hd L L.length s->Q (.exit 0) s):WL pr zFi s Q:=by
 refine zjr L.length (F0 l x hd L) (fun e s=>e= .exit 0/\F0 l x hd L L.length s) ?_ ?_ _ h (by rintro e s ⟨rfl,h⟩;exact hQ s h)
 .clear h hQ s;rintro n s hn ⟨hB,h8⟩;unfold zFi;simp only[rU];have hw:=za5 n (by omega);have hx:L[n]? =some L[n]:=Z0 hn;have hk2:=Z6 hn;obtain⟨hG,ha3⟩ :=hq _ (Z1 hn);have hnl:(zeE l x (L.take n)).length<=54:=by
   have:=zj9 (zmz l x) 18 (L.take n) fun q hq2=>by
    have hq3:=hq q (Z13 hq2);have:=zj9 (zdN l x) 6 q.as fun a ha=>zpa hr x a (hq3.1.s2 _ ha)
    unfold zmz;omega
   rw[Z41]at this;unfold zeE;omega
  have hsp:zeE l x (L.take (n+1))=zeE l x (L.take n)++L[n].as.flatMap (zdN l x):=by
   rw[hk2];unfold zeE;rw[Z183];simp[zmz]
  generalize zeE l x (L.take n)=ns at*;obtain⟨⟨h0,h2,h4,h7,g0⟩,hlo⟩ :=id hB;simp -implicitDefEqProofs [rW,h4,h8,g0,hn,zAy];refine m2 l hl hr x hd L n hn L[n] hx hG ha3 ns (by omega) _ ⟨?_,?_⟩ ?_
  .simp only[Z173,Z166,Z22];exact hB.up (by simp -implicitDefEqProofs [rW,]) (by simp -implicitDefEqProofs [rW,]) (by simp -implicitDefEqProofs [rW,]) (by simp -implicitDefEqProofs [rW,]) (by simp -implicitDefEqProofs [rW,]) (by simp -implicitDefEqProofs [rW,])
  .simp -implicitDefEqProofs [rW,h8]
  .clear h0 h2 h4 h7 g0 hlo hB h8;rintro s ⟨hB,h8,h9⟩;rw[Z7,<-hsp]at hB;simp -implicitDefEqProofs [rW,h8,hw];refine⟨?_,?_⟩
   .exact hB.up (by simp -implicitDefEqProofs [rW,]) (by simp -implicitDefEqProofs [rW,]) (by simp -implicitDefEqProofs [rW,]) (by simp -implicitDefEqProofs [rW,]) (by simp -implicitDefEqProofs [rW,]) (by simp -implicitDefEqProofs [rW,])
   .simp -implicitDefEqProofs [rW,hw]
 .rintro s ⟨hB,h8⟩;unfold zFi;simp only[rU];obtain⟨⟨h0,h2,h4,h7,g0⟩,hlo⟩ :=id hB;simp -implicitDefEqProofs [rW,h4,h8,g0,zAy];refine⟨?_,?_⟩
  .exact hB.up (by simp -implicitDefEqProofs [rW,]) (by simp -implicitDefEqProofs [rW,]) (by simp -implicitDefEqProofs [rW,]) (by simp -implicitDefEqProofs [rW,]) (by simp -implicitDefEqProofs [rW,]) (by simp -implicitDefEqProofs [rW,])
  .simp -implicitDefEqProofs [rW,h8]
def F8(S:List Int)(n:Nat)(s:St):Prop:=∃dv,(s.tm.get 7=some (.f (zfD S))/\s.tm.get 14=some (dv)/\s.tm.get 15=some (.f (.i .i64 n)))/\Gro s.h 1 s.c 3 dv (vE (S.take n))/\1<=s.c
def zNG{h:T Ob}{lo c:Nat}{d:D}{l:List Int}(hg:Gro h lo c 3 d (vE l)):∃rd,frz h.get 12 d=some (iF l,rd):=by
 have e:vE l=(l.map vF).map fun a=>a.map D.f:=by simp[vE,vD,vF,Z67]
 rw[e]at hg;exact zwa (k:=11) hg (zrO _ 10 _) (by simp)
def zQL(l:List Rl)(hl:l.length<1000)(hr:∀r∈l,RlK r)(x:Str)(hd:List Str)(L:List CQ)(hL:L.length<=3)(hq:∀q∈L,CqG q/\q.as.length<=3)(hk:(zeE l x L).length<=12):Ans pr 12 [zfv l,.ag [zbQ hd,qsF L],.s x] (iF (zdw (zeE l x L) [])):=by
 refine zdu fn12 ?_;simp only[g12,rU];simp -implicitDefEqProofs [rW,st0,zao,zfV,za8,zsG];refine m0 l hl hr x hd L hL hq _ ⟨⟨?_,?_⟩,?_⟩ ?_
 .simp -implicitDefEqProofs [rW,zeE,zdw,zfD,slc]
 .simp -implicitDefEqProofs [rW,]
 .simp -implicitDefEqProofs [rW,]
 rintro s ⟨⟨⟨h0,h2,h4,h7,g0⟩,hlo⟩,h8⟩;rw[Z7]at h7;have hln:=zka (zeE l x L) [];simp only[Z170]at hln;generalize zdw (zeE l x L) []=S at h7 hln|-;clear h0 h2 h4 g0 h8;simp -implicitDefEqProofs [rW,h7];refine zjr S.length (F8 S) (fun e s=>e= .exit 8/\F8 S S.length s) ?_ ?_ _ ?_ ?_
 .clear h7 hlo s;rintro n s hn ⟨dv,⟨h7,h14,h15⟩,hg,hlo⟩;have hw:=za5 n (by omega);have hx:S[n]? =some S[n]:=Z0 hn;have hk2:=Z6 hn;generalize hV:S[n]=v at hx hk2;have e:vE (S.take (n+1))=vE (S.take n)++[[.f (.i .i64 1),.f (.i .i64 v),.f (.s [])]]:=by rw[hk2];simp[vE,vD]
  have hv1:valsF [v]= .sl 3 [[.i .i64 1,.i .i64 v,.s []]]:=rfl;simp -implicitDefEqProofs [rW,h7,h14,h15,hn,zh8,zn9,hx,hV,hv1];refine zrQ hg (by omega) (by rw[zfZ];simp;omega) (by omega) ?_;intro r hr1 hr2 hr3 hr4 hr5;refine⟨hr1,?_⟩;simp -implicitDefEqProofs [rW,h7,h15,hw];refine⟨r.d,⟨?_,?_,?_⟩,?_,?_⟩
  .simp -implicitDefEqProofs [rW,h7]
  .simp -implicitDefEqProofs [rW,]
  .simp -implicitDefEqProofs [rW,hw]
  .rw[e];simp -implicitDefEqProofs [rW,];exact hr2
  .simp -implicitDefEqProofs [rW,]<;>omega
 .rintro s ⟨dv,⟨h7,h14,h15⟩,hg,hlo⟩;simp -implicitDefEqProofs [rW,h7,h15,zh8];refine⟨dv,⟨?_,?_,?_⟩,?_,?_⟩
  .simp -implicitDefEqProofs [rW,h7]
  .simp -implicitDefEqProofs [rW,h14]
  .simp -implicitDefEqProofs [rW,h15]
  .rw[Z7]at hg;simp -implicitDefEqProofs [rW,];exact hg
  .simp -implicitDefEqProofs [rW,]<;>omega
 .refine⟨.f .nils,⟨?_,?_,?_⟩,.inl ⟨rfl,rfl⟩,?_⟩
  .simp -implicitDefEqProofs [rW,h7]
  .simp -implicitDefEqProofs [rW,]
  .simp -implicitDefEqProofs [rW,]
  .simp -implicitDefEqProofs [rW,]<;>omega
 .rintro e s ⟨rfl,dv,⟨h7,h14,h15⟩,hg,hlo⟩;rw[Z7]at hg;obtain⟨rd,hf⟩ :=zNG hg;simp -implicitDefEqProofs [rW,h14,hf]
def fn93:pr.fn 93=some g93:=by kernel_rfl
def fn52:pr.fn 52=some g52:=by kernel_rfl
def fn94:pr.fn 94=some g94:=by kernel_rfl
def fn53:pr.fn 53=some g53:=by kernel_rfl
def fn26:pr.fn 26=some g26:=by kernel_rfl
def ans93(l:List Str)(x:Str)(hl:l.length<1000000):Ans pr 93 [zbQ l,.s x] (.b (l.any (· ==x))):=by
  refine zdu fn93 ?_;simp only[g93,rU];simp -implicitDefEqProofs [rR,st0,zao,za8];refine zlt l (· ==x) (fun n s=>s.tm.get 0=some (.f (zbQ l))/\s.tm.get 1=some (.f (.s x))/\s.tm.get 5=some (.f (.i .i64 n))) (fun x s=>x= .exit 0) (fun n y s=>y= .ret/\s.tm.get 4=some (.f (.b true))) ?_ ?_ _ ?_ ?_ ?_
  . rintro n s hn ⟨h0,h1,h5⟩;have hw:=za5 n (by omega)
    by_cases he:l[n]=x
    . simp -implicitDefEqProofs [rR,h0,h1,h5,zpy,zrZ,hn,he]
    . simp -implicitDefEqProofs [rR,h0,h1,h5,zpy,zrZ,hn,he,hw]
  . rintro s ⟨h0,h1,h5⟩;simp -implicitDefEqProofs [rR,h0,h1,h5,zpy]
  . simp -implicitDefEqProofs [rR,st0,zao]
  . rintro h x s rfl;rw[zzM h];simp -implicitDefEqProofs [rR,st0]
  . rintro n hn hp _ x s ⟨rfl,h4⟩;rw[zvY hn hp];simp -implicitDefEqProofs [rR,h4]
def zQP(t:Trm)(ht:zaN t)(ps:List Str)(hl:ps.length<1000000):Ans pr 52 [.ag (tmF t),zbQ ps] (.b (grd ps t)):=by
 refine zdu fn52 ?_;simp only[g52,rU];cases t with
 |cst n=>simp -implicitDefEqProofs [rW,st0,zao,tmF,grd,za8]
 |var s=>
  have hs:s≠[]:=ht;have q:=fun k=>zah (k:=k) (ans93 ps s hl)
  simp -implicitDefEqProofs [rW,st0,zao,tmF,grd,za8,hs,q]
def zx7(a b:Trm)(ha:zaN a)(hb:zaN b):Ans pr 94 [.ag (tmF a),.ag (tmF b)] (.b (decide (a=b))):=by
 rw[<-zLe ha hb];unfold zHd;refine zdu fn94 ?_;simp only[g94,rU];have q:=fun k=>zah (k:=k) (zabZ a b ha hb)
 simp only[tmE]at q;simp -implicitDefEqProofs [rR,st0,zao,tmE,q]
def E53(q:CQ)(a b:Trm)(n:Nat)(s:St):Prop:=(s.tm.get 3=some (.ptr 0 2 0 0)/\s.tm.get 4=some (.ptr 1 4 0 0)/\s.tm.get 5=some (.ptr 2 4 0 0)/\s.tm.get 7=some (.f (.i .i64 n))/\s.h.get 0=some (.arr 2 0 [[.f (zgO q),.f (zgQ q)]])/\s.h.get 1=some (.arr 4 0 [tmD a])/\s.h.get 2=some (.arr 4 0 [tmD b]))/\3<=s.c
def zQS(q:CQ)(a b:Trm)(hq:CqG q)(ha:zaN a)(hb:zaN b):Ans pr 53 [.ag (cqF q),.ag (tmF a),.ag (tmF b)] (.b (excl q a b)):=by
 refine zdu fn53 ?_;simp only[g53,rU];simp only[tmE];unfold excl;simp -implicitDefEqProofs [rW,st0,zao,cqE,za1,za2];refine zlt q.cs (exk a b) (E53 q a b) (fun e s=>e= .exit 0) (fun n e s=>e= .ret/\s.tm.get 6=some (.f (.b true))) ?_ ?_ _ ?_ ?_ ?_
 .rintro n s hn ⟨⟨h3,h4,h5,h7,g0,g1,g2⟩,hlo⟩;have hw:=za5 n (by have:=hq.sc;omega);have hx:q.cs[n]? =some q.cs[n]:=Z0 hn;have hok:=hq.toCqSm.toCqOk.cs _ (Z1 hn);generalize hK:q.cs[n]=k at hx hok|-;obtain⟨o,l,r⟩ :=k;have n0:¬(0=s.c):=by omega
  have n1:¬(1=s.c):=by omega
  have n2:¬(2=s.c):=by omega
  have q1:=fun k=>zah (k:=k) (zx7 l a hok.1 ha)
  have q2:=fun k=>zah (k:=k) (zx7 r b hok.2 hb)
  have q3:=fun k=>zah (k:=k) (zx7 l b hok.1 hb)
  have q4:=fun k=>zah (k:=k) (zx7 r a hok.2 ha)
  simp only[tmE]at q1 q2 q3 q4;simp only[tmD]at g1 g2;unfold exk;generalize hb1:decide (l=a)=b1 at q1;generalize hb2:decide (r=b)=b2 at q2;generalize hb3:decide (l=b)=b3 at q3;generalize hb4:decide (r=a)=b4 at q4
  by_cases ho2:o=2
  .subst ho2;cases b1<;>cases b2<;>cases b3<;>cases b4<;>(simp -implicitDefEqProofs [rW,h3,h4,h5,h7,g0,g1,g2,hn,znY,zuk,hx,hK,zuj,cmD,tmD,n0,n1,n2,q1,q2,q3,q4,hb1,hb2,hb3,hb4,hw,E53];try omega)
  .by_cases ho3:o=3
   .subst ho3;cases b1<;>cases b2<;>cases b3<;>cases b4<;>(simp -implicitDefEqProofs [rW,h3,h4,h5,h7,g0,g1,g2,hn,znY,zuk,hx,hK,zuj,cmD,tmD,n0,n1,n2,q1,q2,q3,q4,hb1,hb2,hb3,hb4,hw,E53];try omega)
   .simp -implicitDefEqProofs [rW,h3,h4,h5,h7,g0,g1,g2,hn,znY,zuk,hx,hK,zuj,cmD,tmD,n0,n1,n2,ho2,ho3,hw,E53]
    try omega
 .rintro s ⟨⟨h3,h4,h5,h7,g0,g1,g2⟩,hlo⟩;simp -implicitDefEqProofs [rW,h3,h4,h5,h7,g0,g1,g2,znY]
 .simp -implicitDefEqProofs [rW,E53,tmD]
 .rintro h x s rfl;rw[zzM h];simp -implicitDefEqProofs [rW,st0]
 .rintro n hn hp _ x s ⟨rfl,h4⟩;rw[zvY hn hp];simp -implicitDefEqProofs [rW,h4]
def ans26(a b:CQ)(s t:Trm)(ps:List Str)(ha:CqG a)(hb:CqG b)(hs:zaN s)(ht:zaN t)(hl:ps.length<1000000):Ans pr 26 [.ag (cqF a),.ag (tmF s),.ag (cqF b),.ag (tmF t),zbQ ps] (.b (dif a s b t ps)):=by
  refine zdu fn26 ?_;simp only[g26,rU];have q1:=fun k=>zah (k:=k) (zQP s hs ps hl)
  have q2:=fun k=>zah (k:=k) (zQP t ht ps hl)
  have q3:=fun k=>zah (k:=k) (zQS b s t hb hs ht)
  have q4:=fun k=>zah (k:=k) (zQS a t s ha ht hs)
  have e:=@zRo a b s t ps;cases s with
  | cst m=>
    cases t with
    | cst n=>
      have q:=fun k=>zah (k:=k) (zE4 m n)
      simp only[vF]at q;have hc:=zDo m n;unfold dif;simp -implicitDefEqProofs [rW,st0,zao,tmF,cqE,za1,za2,za8,q,hc]
    | var n=>
      have hn:n≠[]:=ht;rw[e (.inr rfl)];simp only[tmF,cqE,grd]at q1 q2 q3 q4;unfold exP;cases h1:excl b (.cst m) (.var n)<;>rw[h1]at q3<;>cases h2:ps.any (· ==n)<;>rw[h2]at q2<;>simp -implicitDefEqProofs [rW,st0,zao,tmF,cqE,za1,za2,za8,hn,q1,q2,q3,q4,isV,grd,h1,h2]
  | var m=>
    have hm:m≠[]:=hs;rw[e (.inl rfl)];unfold exP;cases t with
    | cst n=>
      simp only[tmF,cqE,grd]at q1 q2 q3 q4;cases h1:excl a (.cst n) (.var m)<;>rw[h1]at q4<;>cases h2:ps.any (· ==m)<;>rw[h2]at q1<;>simp -implicitDefEqProofs [rW,st0,zao,tmF,cqE,za1,za2,za8,hm,q1,q2,q3,q4,isV,grd,h1,h2]
    | var n=>
      have hn:n≠[]:=ht;simp only[tmF,cqE,grd]at q1 q2 q3 q4;cases h1:excl a (.var n) (.var m)<;>rw[h1]at q4<;>cases h2:ps.any (· ==m)<;>rw[h2]at q1<;>cases h3:excl b (.var m) (.var n)<;>rw[h3]at q3<;>cases h4:ps.any (· ==n)<;>rw[h4]at q2<;>simp -implicitDefEqProofs [rW,st0,zao,tmF,cqE,za1,za2,za8,hm,hn,q1,q2,q3,q4,isV,grd,h1,h2,h3,h4]
def fn9:pr.fn 9=some g9:=by kernel_rfl
def zIJ(s:Sch):Prop:=zQG s/\∀k:Nat,k<s.co.length->Ans pr 25 [.ag (zgT s),.i .i64 k] (.b (zkd s k))
def J9(nm:Str)(co:List (Str×Int×Bool))(a b:CQ)(x y:Atm)(ps:List Str)(k:Nat)(s:St):Prop:=s.tm.get 5=some (.f (zbQ ps))/\s.tm.get 6=some (.ptr 0 3 0 0)/\s.tm.get 7=some (.ptr 1 2 0 0)/\s.tm.get 9=some (.ptr 2 2 0 0)/\s.tm.get 13=some (.ptr 13 3 0 0)/\s.tm.get 14=some (.ptr 15 3 0 0)/\s.tm.get 15=some (.f (.i .i64 k))/\s.h.get 0=some (.arr 3 0 [[.f (.s nm),.f (.b false),.f (zkX co)]])/\s.h.get 1=some (.arr 2 0 [[.f (zgO a),.f (zgQ a)]])/\s.h.get 2=some (.arr 2 0 [[.f (zgO b),.f (zgQ b)]])/\s.h.get 13=some (.arr 3 0 [atD x])/\s.h.get 15=some (.arr 3 0 [atD y])
def ans9(s:Sch)(hs:zIJ s)(a b:CQ)(i j:Int)(ps:List Str)(ha:CqG a)(hb:CqG b)(hl:ps.length<1000000):Ans pr 9 [.ag (zgT s),.ag (cqF a),.i .i64 i,.ag (cqF b),.i .i64 j,zbQ ps] (.b (ind s a i b j ps)):=by
 refine zdu fn9 ?_;simp only[g9,rU];obtain⟨⟨hcl,-⟩,h25⟩ :=hs;simp only[zgT,cqE]at h25|-
 by_cases hi0:i<0
 .have e:ind s a i b j ps=false:=by unfold ind;rw[Z49 (by omega)]
  rw[e];simp -implicitDefEqProofs [rW,st0,zao,zdZ,za1,za2,za8,zet,hi0]
 by_cases hj0:j<0
 .have e:ind s a i b j ps=false:=by unfold ind;rw[Z49 (by omega)]
  rw[e];simp -implicitDefEqProofs [rW,st0,zao,zdZ,za1,za2,za8,zet,hi0,hj0,zaV]
 by_cases hi1:(a.as.length:Int)<=i
 .have e:ind s a i b j ps=false:=by unfold ind;rw[Z49 (by omega)]
  rw[e];simp -implicitDefEqProofs [rW,st0,zao,zdZ,za1,za2,za8,zet,hi0,hi1,hj0,zaV]
 by_cases hj1:(b.as.length:Int)<=j
 .have e:ind s a i b j ps=false:=by unfold ind;rw[Z49 (by omega)]
  rw[e];simp -implicitDefEqProofs [rW,st0,zao,zdZ,za1,za2,za8,zet,hi0,hi1,hj0,hj1,zaV]
 obtain⟨n,rfl⟩ :∃n:Nat,i=n:=⟨i.toNat,by omega⟩
 obtain⟨m,rfl⟩ :∃m:Nat,j=m:=⟨j.toNat,by omega⟩
 have hn:n<a.as.length:=by omega
 have hm:m<b.as.length:=by omega
 have hxn:a.as[n]? =some a.as[n]:=Z0 hn;have hym:b.as[m]? =some b.as[m]:=Z0 hm;have hxo:=ha.toCqSm.toCqOk.as _ (Z1 hn);have hyo:=hb.toCqSm.toCqOk.as _ (Z1 hm);have e:ind s a n b m ps=zAi s a a.as[n] b b.as[m] ps:=by
  unfold ind;rw[Z51 (by omega)];simp only[Int.toNat_natCast,hxn,hym]
 rw[e];generalize hX:a.as[n]=x at hxn hxo|-;generalize hY:b.as[m]=y at hym hyo|-;have hnn:¬(n:Int)<0:=by omega
 have hmm:¬(m:Int)<0:=by omega
 have hn1:¬(a.as.length:Int)<=n:=by omega
 have hm1:¬(b.as.length:Int)<=m:=by omega
 have hn2:¬a.as.length<=n:=by omega
 have hm2:¬b.as.length<=m:=by omega
 obtain⟨nm,ce,co⟩ :=s;simp only at hcl h25|-;unfold zAi
 by_cases h1:ce=true
 .subst h1;simp only[true_or,Z60];simp -implicitDefEqProofs [rW,st0,zao,zdZ,za1,za2,za8,zet,hnn,hmm,hn1,hm1,hn2,hm2,zaV];refine zaC ?_;simp -implicitDefEqProofs [rW,st0,zao,hn,hm,zeH,hxn,hX,hym,hY,atE,zhP,zaV]
 obtain rfl:ce=false:=by simpa using h1
 by_cases h2:x.r=nm
 case neg=>
  rw[Z51 (.inr (.inl h2))];simp -implicitDefEqProofs [rW,st0,zao,zdZ,za1,za2,za8,zet,hnn,hmm,hn1,hm1,hn2,hm2,zaV];refine zaC ?_;simp -implicitDefEqProofs [rW,st0,zao,hn,hm,zeH,hxn,hX,hym,hY,atE,zhP,zaV,h2]
 by_cases h3:y.r=nm
 case neg=>
  rw[Z51 (.inr (.inr h3))];simp -implicitDefEqProofs [rW,st0,zao,zdZ,za1,za2,za8,zet,hnn,hmm,hn1,hm1,hn2,hm2,zaV];refine zaC ?_;simp -implicitDefEqProofs [rW,st0,zao,hn,hm,zeH,hxn,hX,hym,hY,atE,zhP,zaV,h2,h3]
 rw[Z49 (by simp[h2,h3])]
 by_cases h4:x.ts.length=co.length
 case neg=>
  have e4:¬(x.ts.length:Int)=co.length:=by omega
  rw[Z51 (.inl h4)];simp -implicitDefEqProofs [rW,st0,zao,zdZ,za1,za2,za8,zet,hnn,hmm,hn1,hm1,hn2,hm2,zaV];refine zaC ?_;simp -implicitDefEqProofs [rW,st0,zao,hn,hm,zeH,hxn,hX,hym,hY,atE,zhP,zez,zf2,zaV,h2,h3,e4]
 by_cases h5:y.ts.length=co.length
 case neg=>
  have e5:¬(y.ts.length:Int)=co.length:=by omega
  rw[Z51 (.inr h5)];simp -implicitDefEqProofs [rW,st0,zao,zdZ,za1,za2,za8,zet,hnn,hmm,hn1,hm1,hn2,hm2,zaV];refine zaC ?_;simp -implicitDefEqProofs [rW,st0,zao,hn,hm,zeH,hxn,hX,hym,hY,atE,zhP,zez,zf2,zaV,h2,h3,h4,e5]
 rw[Z49 (by simp[h4,h5])];simp -implicitDefEqProofs [rW,st0,zao,zdZ,za1,za2,za8,zet,hnn,hmm,hn1,hm1,hn2,hm2,zaV];refine zaC ?_;simp -implicitDefEqProofs [rW,st0,zao,hn,hm,zeH,hxn,hX,hym,hY,atE,zhP,zez,zf2,zaV,h2,h3,h4,h5];refine zlt (List.range co.length) (fun k=>zkd ⟨nm,false,co⟩ k&&zmr a x b y ps k) (J9 nm co a b x y ps) (fun e s=>e= .exit 0) (fun k e s=>e= .ret/\s.tm.get 12=some (.f (.b true))) ?_ ?_ _ ?_ ?_ ?_
 .rintro k s hk ⟨h5,h6,h7,h9,h13,h14,h15,g0,g1,g2,g13,g15⟩;rw[Z37]at hk;rw[List.getElem_range];have hw:=za5 k (by omega);have hkx:k<x.ts.length:=by omega
  have hky:k<y.ts.length:=by omega
  have hxk:x.ts[k]? =some x.ts[k]:=Z0 hkx;have hyk:y.ts[k]? =some y.ts[k]:=Z0 hky;have q25:=fun f=>zah (k:=f) (h25 k hk)
  have hxo2:=hxo.1 _ (Z1 hkx);have hyo2:=hyo.1 _ (Z1 hky);have ed:zmr a x b y ps k=dif a x.ts[k] b y.ts[k] ps:=by unfold zmr;rw[hxk,hyk]
  rw[ed];generalize hU:x.ts[k]=u at hxk hxo2|-;generalize hV:y.ts[k]=v at hyk hyo2|-;have q26:=fun f=>zah (k:=f) (ans26 a b u v ps ha hb hxo2 hyo2 hl)
  simp only[cqE,tmE]at q26;simp only[atD]at g13 g15;generalize hR:zkd ⟨nm,false,co⟩ k=rv at q25|-;generalize hD:dif a u b v ps=dv at q26|-;cases rv with
  |false=>
   simp -implicitDefEqProofs [rW,h5,h6,h7,h9,h13,h14,h15,g0,g1,g2,g13,g15,hk,zf2];refine zaC ?_;simp -implicitDefEqProofs [rW,h5,h6,h7,h9,h13,h14,h15,g0,g1,g2,g13,g15,hk,zdZ,q25,hw,J9,atD]
  |true=>
   cases dv with
   |false=>
    simp -implicitDefEqProofs [rW,h5,h6,h7,h9,h13,h14,h15,g0,g1,g2,g13,g15,hk,zf2];refine zaC ?_;simp -implicitDefEqProofs [rW,h5,h6,h7,h9,h13,h14,h15,g0,g1,g2,g13,g15,hk,hkx,hky,zdZ,ziB,hxk,hyk,hU,hV,tmE,za1,za2,za8,q25,q26,hw,J9,atD]
   |true=>
    simp -implicitDefEqProofs [rW,h5,h6,h7,h9,h13,h14,h15,g0,g1,g2,g13,g15,hk,zf2];refine zaC ?_;simp -implicitDefEqProofs [rW,h5,h6,h7,h9,h13,h14,h15,g0,g1,g2,g13,g15,hk,hkx,hky,zdZ,ziB,hxk,hyk,hU,hV,tmE,za1,za2,za8,q25,q26,hw]
 .rintro s ⟨h5,h6,h7,h9,h13,h14,h15,g0,g1,g2,g13,g15⟩;simp only[Z37]at h15;simp -implicitDefEqProofs [rW,h5,h6,h7,h9,h13,h14,h15,g0,g1,g2,g13,g15,zf2]
 .simp -implicitDefEqProofs [rW,J9,atD,h2,h3]
 .rintro h z s rfl;rw[zzM h];simp -implicitDefEqProofs [rW,]
 .rintro k hk hp hm z s ⟨rfl,h12⟩;rw[zvY hk hp];simp -implicitDefEqProofs [rW,h12]
def sR:Sch:=⟨[82],false,[([97],1,false),([98],1,false)]⟩
def sS:Sch:=⟨[83],false,[([97],1,false)]⟩
def sK:Sch:=⟨[75],false,[([107],1,true),([118],1,false)]⟩
def sC:Sch:=⟨[67],true,[([97],1,false),([98],1,false)]⟩
def sZ:Sch:=⟨[],false,[]⟩
def zlh:List Sch:=[sR,sS,sK,sC,sZ]
def okR0:Ans pr 22 [.ag (zgT sR)] (zg7 (zkG sR)):=zau (n:=1000) (zaB pr) (by kernel_rfl)
def okS0:Ans pr 22 [.ag (zgT sS)] (zg7 (zkG sS)):=zau (n:=1000) (zaB pr) (by kernel_rfl)
def okK0:Ans pr 22 [.ag (zgT sK)] (zg7 (zkG sK)):=zau (n:=1000) (zaB pr) (by kernel_rfl)
def okC0:Ans pr 22 [.ag (zgT sC)] (zg7 (zkG sC)):=zau (n:=1000) (zaB pr) (by kernel_rfl)
def okZ0:Ans pr 22 [.ag (zgT sZ)] (zg7 (zkG sZ)):=zau (n:=1000) (zaB pr) (by kernel_rfl)
def okR1:Ans pr 25 [.ag (zgT sR),.i .i64 0] (.b (zkd sR 0)):=zau (n:=1000) (zaB pr) (by kernel_rfl)
def okR2:Ans pr 25 [.ag (zgT sR),.i .i64 1] (.b (zkd sR 1)):=zau (n:=1000) (zaB pr) (by kernel_rfl)
def okS1:Ans pr 25 [.ag (zgT sS),.i .i64 0] (.b (zkd sS 0)):=zau (n:=1000) (zaB pr) (by kernel_rfl)
def okK1:Ans pr 25 [.ag (zgT sK),.i .i64 0] (.b (zkd sK 0)):=zau (n:=1000) (zaB pr) (by kernel_rfl)
def okK2:Ans pr 25 [.ag (zgT sK),.i .i64 1] (.b (zkd sK 1)):=zau (n:=1000) (zaB pr) (by kernel_rfl)
def okC1:Ans pr 25 [.ag (zgT sC),.i .i64 0] (.b (zkd sC 0)):=zau (n:=1000) (zaB pr) (by kernel_rfl)
def okC2:Ans pr 25 [.ag (zgT sC),.i .i64 1] (.b (zkd sC 1)):=zau (n:=1000) (zaB pr) (by kernel_rfl)
def two{P:Nat->Prop}(h0:P 0)(h1:P 1)(k:Nat)(hk:k<2):P k:=match k,hk with
 |0,_=>h0
 |1,_=>h1
def zKN:∀s∈zlh,zIJ s:=by
 intro s hs;simp only[zlh,Z5,Z164,or_false]at hs;rcases hs with rfl|rfl|rfl|rfl|rfl
 .exact⟨⟨by decide,okR0⟩,two okR1 okR2⟩
 .exact⟨⟨by decide,okS0⟩,fun k hk=>by(cases (show k=0 by(simp[sS]at hk;omega)));exact okS1⟩
 .exact⟨⟨by decide,okK0⟩,two okK1 okK2⟩
 .exact⟨⟨by decide,okC0⟩,two okC1 okC2⟩
 .exact⟨⟨by decide,okZ0⟩,fun k hk=>absurd hk (by simp[sZ])⟩
end Go.Proofs.YtdonnbdegnkflaaGreatDoor
end
