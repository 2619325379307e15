/- slices.CompactFunc of sorted values. -/
import Derived.Test.YtdonnbdegnkflaaGreatDoorPa
import Derived.KernelRfl
import Derived.IntWalk
set_option linter.all false
set_option maxRecDepth 100000
set_option maxHeartbeats 4000000
section
namespace Go.Proofs.YtdonnbdegnkflaaGreatDoor
open Go Go.Vse Go.Vse.Sm
def fn31:pr.fn 31=some g31:=by kernel_rfl
def fn32:pr.fn 32=some g32:=by kernel_rfl
def ro32(a b:Int){h:T Ob}{c:Nat}:RO pr 32 [.ag (vD a),.ag (vD b)] h c (.f (.b (decide (a=b)))):=by
 refine zjh zfb fn32 rfl ?_;simp only[g32,rU];have q1:=fun k=>zah (k:=k) (zE0 a b)
 simp only[vF]at q1;have hz:=zmi a b;generalize zcN a b=cz at q1 hz;simp -implicitDefEqProofs [rW,st0,zao,vD,q1,ze1];simp (disch:=omega) only[zr3,zrh];exact⟨hz,trivial⟩
def ddf(p:Int):List Int->List Int
 |[]=>[]
 |b::l=>if b=p then ddf b l else b::ddf b l
def dd:List Int->List Int
 |[]=>[]
 |a::l=>a::ddf a l
theorem zzY(x:Int):∀(m:List Int) (p:Int),ddf p (m++[x])=ddf p m++if x=m.getLastD p then[]else[x]
 |[],p=>by simp[ddf]
 |b::m,p=>by
  have ih:=zzY x m b;have e:(b::m).getLastD p=m.getLastD b:=by cases m<;>rfl
  rw[Z29,e];unfold ddf;split
  .exact ih
  .rw[ih];rfl
def zv2{l:List Int}{j:Nat}(h0:0<j)(hj:j<l.length):dd (l.take (j+1))=dd (l.take j)++if l[j]=l[j - 1]then[]else[l[j]]:=by
 rw[Z6 hj];cases l with
 |nil=>simp at hj
 |cons a l=>
  obtain⟨k,rfl⟩ :∃k,j=k+1:=⟨j - 1,by omega⟩
  rw[Z180,Z29];show a::ddf a (l.take k++[(a::l)[k+1]])=(a::ddf a (l.take k))++_;rw[zzY,Z29];have e:(l.take k).getLastD a=(a::l)[k+1 - 1]:=by
   have hk:k<=l.length:=by simp at hj;omega
   cases k with
   |zero=>simp
   |succ m=>
    have:l.take (m+1)=l.take m++[l[m]'(by omega)]:=Z6 (by omega);rw[this,List.getLastD_concat];simp
  rw[e]
def zwH{l:List Int}:(dd l).length<=l.length:=by
 have:∀(m:List Int) (p:Int),(ddf p m).length<=m.length:=by
  intro m
  induction m with
  |nil=>intro p;simp[ddf]
  |cons b m ih=>
   intro p;unfold ddf;have:=ih b;split<;>simp<;>omega
 cases l with
 |nil=>simp[dd]
 |cons a l=>have:=this l a;simp[dd];omega
theorem zuo{l:List Int}:∀{n:Nat},n<=l.length->(∀j (h0:0<j) (h1:j<n) (h2:j<l.length),l[j]≠l[j - 1])->dd (l.take n)=l.take n
 |0,_,_=>by simp[dd]
 |1,hn,_=>by
  cases l with
  |nil=>simp at hn
  |cons a l=>simp[dd,ddf]
 |n+2,hn,h=>by
  rw[zv2 (by omega) (by omega),zuo (n:=n+1) (by omega) fun j h0 h1 h2=>h j h0 (by omega) h2,Z49 (h (n+1) (by omega) (by omega) (by omega)),<-Z6 (by omega)]
def Dis(l:List Int)(m:Nat):Prop:=∀j (h0:0<j) (h1:j<m) (h2:j<l.length),l[j]≠l[j - 1]
def CP(h:T Ob)(c id:Nat)(l:List Int)(d:D)(h':T Ob):Prop:=∃rows,d= .sl id 0 (dd l).length 3 l.length false/\h'.get id=some (.arr 3 0 rows)/\rows.length=l.length/\rows.take (dd l).length=vE (dd l)/\∀x,x<c->x≠id->h'.get x=h.get x
def K5(h:T Ob)(l:List Int)(id c k0:Nat)(k':Nat)(s:St):Prop:=∃(j u:Nat) (R:List Int),k0+u+1=j/\j<=l.length/\k'=l.length - j/\(dd (l.take j)).length<j/\(s.tm.get 0=some (.sl id 0 l.length 3 l.length false)/\s.tm.get 1=some (.f (.fn 32))/\s.tm.get 5=some (.f (.i .i64 (dd (l.take j)).length))/\s.tm.get 6=some (.sl id k0 (l.length - k0) 3 l.length false)/\s.tm.get 7=some (.f (.i .i64 (u+1:Nat))))/\s.h.get id=some (.arr 3 0 (vE R))/\R.length=l.length/\R.take (dd (l.take j)).length=dd (l.take j)/\(∀q,j<=q+1->R[q]? =l[q]?)/\(∀x,x<c->x≠id->s.h.get x=h.get x)/\c<=s.c/\s.lw<=s.c
def K6(h:T Ob)(l:List Int)(id c:Nat)(s:St):Prop:=∃R:List Int,(s.tm.get 0=some (.sl id 0 l.length 3 l.length false)/\s.tm.get 5=some (.f (.i .i64 (dd l).length)))/\s.h.get id=some (.arr 3 0 (vE R))/\R.length=l.length/\R.take (dd l).length=dd l/\(∀x,x<c->x≠id->s.h.get x=h.get x)/\c<=s.c
theorem eff31(l:List Int)(hl:l.length<1000){h:T Ob}{c id:Nat}(gI:h.get id=some (.arr 3 0 (vE l)))(hid:id<c)(hne:l≠[]):
  Eff pr 31 [.sl id 0 l.length 3 l.length false,.f (.fn 32)] h c fun d h' c'=>CP h c id l d h':=by
 refine zl1 zfb fn31 ?_;simp only[g31,rU]
 by_cases h2:l.length<2
 .have h2':(l.length:Int)<2:=by omega
  simp -implicitDefEqProofs [rW,st0,zao,h2',zn0];have e:dd l=l:=by
   have:=zuo (l:=l) (n:=l.length) (Z2 _) fun j h0 h1 _=>by omega
   rwa[Z7]at this
  exact⟨_,by rw[e],gI,zfZ l,by rw[e,<-zfZ l,Z7],fun _ _ _=>rfl⟩
 .have h2':¬(l.length:Int)<2:=by omega
  simp -implicitDefEqProofs [rW,st0,zao,h2'];have hfin:∀n,n<l.length - 1->n+1<l.length:=fun n hn=>by omega
  refine zlt (List.range (l.length - 1)) (fun i=>decide (l[i+1]?.getD 0=l[i]?.getD 0)) (fun n s=>∃m:Nat,m=n+1/\(s.tm.get 0=some (.sl id 0 l.length 3 l.length false)/\s.tm.get 1=some (.f (.fn 32))/\s.tm.get 5=some (.f (.i .i64 m)))/\s.h=h/\c<=s.c/\s.lw=c/\Dis l m) (fun e s=>e= .exit 0/\(s.tm.get 0=some (.sl id 0 l.length 3 l.length false))/\s.h=h) (fun n e s=>e= .ret/\∃d,s.tm.get 4=some d/\CP h c id l d s.h) ?_ ?_ _ ?_ ?_ ?_
  .rintro n s hn ⟨m,hm,⟨h0,h1,h5⟩,eh,ec,el,hdis⟩;rw[Z37]at hn;rw[List.getElem_range];have hml:m<l.length:=by omega
   have hw:=za5 m (by omega);have hsub:IntKind.i64.wrap ((m:Int) - 1)=(n:Int):=by
    rw[zwd _ (by omega) (by omega)];omega
   have hnl:n<l.length:=by omega
   have r1:(vE l)[m]? =some (vD l[m]):=by simp[vE,hml]
   have r0:(vE l)[n]? =some (vD l[n]):=by simp[vE,hnl]
   have gS:s.h.get id=some (.arr 3 0 (vE l)):=by rw[eh];exact gI
   have hp:decide (l[n+1]?.getD 0=l[n]?.getD 0)=decide (l[m]=l[n]):=by
    rw[<-hm,Z0 hml,Z0 hnl];rfl
   rw[hp];have hRO:=fun(H':Vse.T Ob) (c':Nat)=>ro32 l[m] l[n] (h:=H') (c:=c')
   have hLm:l[m]? =some l[m]:=Z0 hml;have hLn:l[n]? =some l[n]:=Z0 hnl;have hdn:dd (l.take (m+1))=dd (l.take m)++if l[m]=l[m - 1]then[]else[l[m]]:=zv2 (by omega) hml
   have hmn:l[m - 1]=l[n]:=by simp[hm]
   rw[hmn]at hdn;have hdis2:l[m]≠l[n]->Dis l (m+1):=fun hne j h0 h1 h2=>by
    by_cases e:j=m
    .subst e;rw[hmn];exact hne
    .exact hdis j h0 (by omega) h2
   clear hmn;generalize l[m]=x at*;generalize l[n]=y at*;simp only[vD]at r1 r0 hRO;simp -implicitDefEqProofs [rW,h0,h1,h5,hml];refine zup ?_;simp -implicitDefEqProofs [rW,h0,h1,h5,hml,hnl,gS,hsub,r1,r0];refine zyz (d:= .f (.b (decide (x=y)))) (hRO _ _) ?_ ?_ ?_
   .simp only[rG];omega
   .simp[ckG,ck1]
   intro mx hmx;simp only[rG]at hmx
   by_cases hxy:x=y
   .subst hxy;rw[Z51 rfl,Z22]at hdn;have hm1:m<=l.length:=by omega
    have hm0:(0:Int)<=m:=by omega
    simp -implicitDefEqProofs [rW,h0,h1,h5,hw,zTf,zD9,gS,zfZ,hm1,hm0];refine zfU (K5 h l id c m) (fun e s=>e= .exit 2/\K6 h l id c s) ?_ (l.length - (m+1)) _ ?_ ?_
    .rintro k' s ⟨j,u,R,hj1,hj2,rfl,hlt,⟨h0,h1,h5,h6,h7⟩,gE,hRl,hRt,hRd,hf,hc3,hl3⟩;obtain⟨t,ht⟩ :∃t,t=u+1:=⟨_,rfl⟩
     rw[<-ht]at h7
     by_cases hjl:j<l.length
     .have hwj:=za5 t (by omega);have hks2:=zv2 (by omega) hjl;have htl:t<l.length - m:=by omega
      have hul:u<l.length - m:=by omega
      have hsub:IntKind.i64.wrap ((t:Int) - 1)=(u:Int):=by
       rw[zwd _ (by omega) (by omega)];omega
      have r1:(vE R)[m+t]? =some (vD l[j]):=by
       have:R[m+t]? =some l[j]:=by rw[show m+t=j by omega,hRd j (by omega)];exact Z0 hjl
       simp[vE,this]
      have r0:(vE R)[m+u]? =some (vD l[j - 1]):=by
       have:R[m+u]? =some l[j - 1]:=by rw[show m+u=j - 1 by omega,hRd (j - 1) (by omega)];exact Z0 (by omega)
       simp[vE,this]
      have hRO:=fun(H':Vse.T Ob) (c':Nat)=>ro32 l[j] l[j - 1] (h:=H') (c:=c')
      generalize l[j - 1]=Y at hks2 r0 hRO;have hjx:l[j]? =some l[j]:=Z0 hjl;generalize hX:l[j]=X at hks2 r1 hRO hjx;generalize hN:dd (l.take j)=N at*;have hwN:=za5 N.length (by omega);simp only[vD]at r1 r0 hRO;simp -implicitDefEqProofs [rW,h0,h1,h5,h6,h7,htl];refine zup ?_;simp -implicitDefEqProofs [rW,h0,h1,h5,h6,h7,htl,hul,gE,hsub,r1,r0];refine zyz (d:= .f (.b (decide (X=Y)))) (hRO _ _) ?_ ?_ ?_
      .simp only[rG];omega
      .simp[ckG,ck1]
      intro mx2 hmx2;simp only[rG]at hmx2
      by_cases hb:X=Y
      .rw[Z51 hb,Z22]at hks2;simp -implicitDefEqProofs [rW,h0,h1,h5,h6,h7,hb,hwj];rw[zev];refine⟨l.length - (j+1),by omega,j+1,u+1,R,by omega,hjl,rfl,by rw[hks2];omega,?_,?_,hRl,by rw[hks2];exact hRt,fun q hq=>hRd q (by omega),fun x h1 h2=> ?_,?_,?_⟩
       .rw[hks2];simp -implicitDefEqProofs [rW,h0,h1,h5,h6,h7,hwj,ht]
       .simp -implicitDefEqProofs [rW,gE]
       .simp -implicitDefEqProofs [rW,];exact hf x h1 h2
       .simp -implicitDefEqProofs [rW,]<;>omega
       .simp -implicitDefEqProofs [rW,]<;>omega
      .rw[Z49 hb]at hks2;have hNl:N.length<l.length:=by omega
       have hxN:(vE R)[N.length]? =some (vD (R[N.length]'(by omega))):=by
        have:N.length<R.length:=by omega
        simp[vE,this]
       have hset:(vE R).set N.length [.f (.i .i64 1),.f (.i .i64 X),.f (.s [])]=vE (R.set N.length X):=zvb R _ X;simp only[vD]at hxN;simp -implicitDefEqProofs [rW,h0,h1,h5,h6,h7,hb,hwj,hwN,gE,htl,hNl,hxN,r1,zre,hset];refine⟨by omega,?_⟩;rw[zev];have hl1:(N++[X]).length=N.length+1:=by simp
       refine⟨l.length - (j+1),by omega,j+1,u+1,R.set N.length X,by omega,hjl,rfl,by rw[hks2,hl1];omega,?_,?_,by simpa using hRl,?_,fun q hq=> ?_,fun x h1 h2=> ?_,?_,?_⟩
       .rw[hks2,hl1];simp -implicitDefEqProofs [rW,h0,h1,h5,h6,h7,ht]
       .simp -implicitDefEqProofs [rW,]
       .rw[hks2,hl1,Z105,List.take_set_of_le (Z2 _),hRt,Z140 (by omega)];rfl
       .rw[Z125 (by omega)];exact hRd q (by omega)
       .simp -implicitDefEqProofs [rW,h2];exact hf x h1 h2
       .simp -implicitDefEqProofs [rW,]<;>omega
       .simp -implicitDefEqProofs [rW,]
        repeat refine Z3 (zic _ _).1 ?_
        omega
     .have hje:j=l.length:=by omega
      have htl:¬t<l.length - m:=by omega
      subst hje;rw[Z7]at h5 hRt;simp -implicitDefEqProofs [rW,h0,h1,h5,h6,h7,htl];refine⟨R,?_,gE,hRl,hRt,hf,hc3⟩;simp -implicitDefEqProofs [rW,h0,h5]
    .have hdm:dd (l.take m)=l.take m:=zuo (by omega) hdis;have hlm:(l.take m).length=m:=by simp;omega
     refine⟨m+1,0,l,by omega,hml,rfl,?_,?_,?_,rfl,?_,fun q _=>rfl,fun x _ _=> ?_,?_,?_⟩
     .rw[hdn,hdm,hlm];omega
     .rw[hdn,hdm,hlm];simp -implicitDefEqProofs [rW,h0,h1,h5]
     .simp -implicitDefEqProofs [rW,gS]
     .rw[hdn,hdm,hlm]
     .simp -implicitDefEqProofs [rW,eh]
     .simp -implicitDefEqProofs [rW,]<;>omega
     .simp -implicitDefEqProofs [rW,]<;>omega
    .rintro e s ⟨rfl,R,⟨h0,h5⟩,gE,hRl,hRt,hf,hc3⟩;have hcl:=zwH (l:=l);have hsum:(dd l).length+(l.length - (dd l).length)=l.length:=by omega
     simp -implicitDefEqProofs [rW,h0,h5,gE,zTf,zD9,v_clr,zZx,hcl,hsum,hRl,zfZ,zre];have hdl:List.take (dd l).length (vE R)=vE (dd l):=by
      rw[show List.take (dd l).length (vE R)=vE (R.take (dd l).length) by simp[vE,Z149],hRt]
     rw[hdl];refine⟨by omega,_,rfl,by rw[TG,Z51 rfl],?_,?_,fun x h1 h2=> ?_⟩
     .simp[zfZ,hRl];omega
     .rw[Z27 (by rw[zfZ];exact Z2 _),<-zfZ (dd l),Z7]
     .rw[TG,Z49 h2];exact hf x h1 h2
   .simp -implicitDefEqProofs [rW,h0,h1,h5,hxy,hw];exact⟨by omega,eh,by omega,el,hm▸hdis2 hxy⟩
  .rintro s ⟨m,hm,⟨h0,h1,h5⟩,eh,ec,el,hdis⟩;rw[Z37]at hm;have e1:¬(m:Int)<l.length:=by omega
   simp -implicitDefEqProofs [rW,h0,h1,h5,e1];exact eh
  .refine⟨1,rfl,?_,rfl,?_,rfl,fun j h0 h1 _=>by omega⟩
   .simp -implicitDefEqProofs [rW,]
   .simp -implicitDefEqProofs [rW,]
  .rintro hno e s ⟨rfl,h0,eh⟩;have e:dd l=l:=by
    have:=zuo (l:=l) (n:=l.length) (Z2 _) fun j h0 h1 _=>by
     have:=hno (j - 1) (Z174.2 (by omega));have e1:j - 1+1=j:=by omega
     rw[e1,Z0 (by omega:j<l.length),Z0 (by omega:j - 1<l.length)]at this;simpa using this
    rwa[Z7]at this
   simp -implicitDefEqProofs [rW,h0,zn0];exact⟨vE l,by rw[e],by rw[eh];exact gI,zfZ l,by rw[e,<-zfZ l,Z7],fun x _ _=>by rw[eh]⟩
  .rintro n hn hp hm e s ⟨rfl,d,h4,hC⟩;simp -implicitDefEqProofs [rW,h4,zn0];exact⟨hC,fun _ hF=>by obtain⟨rows,e,-⟩ :=hC;rw[e]at hF;cases hF⟩
def zacf{h:T Ob}{c:Nat}:Eff pr 95 [.f .nils,.f (.i .i64 0),.f (.i .i64 0),.f (.fn 30)] h c fun _ h' _=>h'=h:=by
 refine zl1 zfb fn95 ?_;simp only[g95,rU];simp -implicitDefEqProofs [rW,st0,zao];refine zfU (fun _ s=>(s.tm.get 2=some (.f (.i .i64 0))/\s.tm.get 8=some (.f (.i .i64 1)))/\s.h=h/\s.lw=c) (fun x s=>x= .exit 0/\s.h=h) ?_ 0 _ ?_ ?_
 .rintro k s ⟨⟨h2,h8⟩,hsh,hsl⟩;simp -implicitDefEqProofs [rW,h2,h8];exact hsh
 .simp -implicitDefEqProofs [rW,];rfl
 .rintro x s ⟨rfl,hsh⟩;simp -implicitDefEqProofs [rW,zz3,hsh,zq3]
def zacd{h:T Ob}{c lm:Nat}:Eff pr 54 [.f .nils,.f (.i .i64 0),.f (.i .i64 0),.f (.i .i64 lm),.f (.fn 30)] h c fun _ h' _=>h'=h:=by
 refine zl1 zfb fn54 ?_;simp only[g54,rU];simp -implicitDefEqProofs [rW,st0,zao];refine zfU (fun _ s=>(s.tm.get 0=some (.f .nils)/\s.tm.get 1=some (.f (.i .i64 0))/\s.tm.get 2=some (.f (.i .i64 0))/\s.tm.get 4=some (.f (.fn 30)))/\s.h=h/\s.lw=c) (fun x s=>x= .ret/\s.h=h) ?_ 0 _ ?_ ?_
 .rintro k s ⟨⟨h0,h1,h2,h4⟩,hsh,hsl⟩;have hw:IntKind.i64.wrap 0=0:=rfl;simp -implicitDefEqProofs [rW,h0,h1,h2,h4,hw];refine zmR (h:=h) (c:=s.c) (by simp only[rG];exact hsh) (by simp only[rG]) zacf ?_;rintro d' h' c' lw mx rfl hcc;simp -implicitDefEqProofs [rW,]
 .simp -implicitDefEqProofs [rW,]
 .rintro x s ⟨rfl,hsh⟩;simp -implicitDefEqProofs [rW,zn0,hsh,zq3]
def zacb{h:T Ob}{c:Nat}:Eff pr 29 [.f .nils,.f (.fn 30)] h c fun _ h' _=>h'=h:=by
 refine zl1 zfb fn29 ?_;simp only[g29,rU];have hu:IntKind.u64.wrap 0=0:=rfl;simp -implicitDefEqProofs [rW,st0,zao,hu];refine zjm (ro55 (x:=0) (by omega)) ?_ ?_
 .simp only[rG];omega
 intro mx0;generalize Go.Sort.bitsLen 0=lm;simp -implicitDefEqProofs [rW,zao];refine zmR (h:=h) (c:=c) (by simp only[rG]) (by simp only[rG]) zacd ?_;rintro d' h' c' lw mx rfl hcc;simp -implicitDefEqProofs [rW,zz3,zq3]
def zacc{h:T Ob}{c:Nat}:Eff pr 31 [.f .nils,.f (.fn 32)] h c fun d h' _=>d= .f .nils/\h'=h:=by
 refine zl1 zfb fn31 ?_;simp only[g31,rU];simp -implicitDefEqProofs [rW,st0,zao,zn0]
def Srt(l:List Int):Prop:=l.Pairwise (· < ·)
def Nd(l:List Int):Prop:=l.Pairwise (· <= ·)
theorem zA7:∀{l m:List Int},Srt l->Srt m->(∀v,v∈l↔v∈m)->l=m
 |[],[],_,_,_=>rfl
 |[],b::m,_,_,h=>absurd ((h b).2 (by simp)) (by simp)
 |a::l,[],_,_,h=>absurd ((h a).1 (by simp)) (by simp)
 |a::l,b::m,h1,h2,h=>by
  have h1':=Z56.1 h1;have h2':=Z56.1 h2;have e:a=b:=by
   have ha:=(h a).1 (by simp);have hb:=(h b).2 (by simp);rcases Z5.1 ha with e|ha
   .exact e
   .rcases Z5.1 hb with e|hb
    .exact e.symm
    .have:=h2'.1 a ha;have:=h1'.1 b hb;omega
  subst e
  congr 1
  refine zA7 h1'.2 h2'.2 fun v=>⟨fun hv=> ?_,fun hv=> ?_⟩
  .rcases Z5.1 ((h v).1 (by simp[hv]))with rfl|h3
   .have:=h1'.1 v hv;omega
   .exact h3
  .rcases Z5.1 ((h v).2 (by simp[hv]))with rfl|h3
   .have:=h2'.1 v hv;omega
   .exact h3
theorem zDq:∀(l:List Int) (p:Int),Nd (p::l)->Srt (p::ddf p l)/\∀v,v∈p::ddf p l↔v∈p::l
 |[],p,_=>⟨by simp[ddf,Srt],fun v=>by simp[ddf]⟩
 |b::l,p,h=>by
  have h':=Z56.1 h;obtain⟨i1,i2⟩ :=zDq l b h'.2;unfold ddf;split
  .rename_i e;subst e;refine⟨i1,fun v=> ?_⟩;rw[i2 v];simp
  .rename_i e;have hb:=h'.1 b (by simp);refine⟨Z56.2 ⟨fun x hx=> ?_,i1⟩,fun v=> ?_⟩
   .have hx2:=(i2 x).1 hx;rcases Z5.1 hx with rfl|hx
    .omega
    .have:=(Z56.1 i1).1 x hx;omega
   .rw[Z5,i2 v];simp
def zaca{l:List Int}(h:Nd l):Srt (dd l)/\∀v,v∈dd l↔v∈l:=by
 cases l with
 |nil=>exact⟨by simp[dd,Srt],fun v=>by simp[dd]⟩
 |cons a l=>exact zDq l a h
def zNx(l:List Int):Nd (zkj l):=by
 have h:=List.pairwise_mergeSort (le:=fun x y:Int=>!decide (y<x)) (by intro a b c h1 h2;simp at*;omega) (by intro a b;simp;omega) l;exact h.imp fun h=>by simpa using h
structure Sch where
 nm:Str
 ce:Bool
 co:List (Str×Int×Bool)
def colF(c:Str×Int×Bool):List F:=[.s c.1,.i .i64 c.2.1,.b c.2.2]
def zkX(l:List (Str×Int×Bool)):F:=slc 3 (l.map colF)
def zgT(s:Sch):List F:=[.s s.nm,.b s.ce,zkX s.co]
def zdZ(l:List (Str×Int×Bool)):(zkX l).d= .f (zkX l):=zga ..
def zf2(l:List (Str×Int×Bool)):zd5 (.f (zkX l))=some l.length:=by simp[zkX,zeQ]
def hasK(s:Sch):Bool:=s.co.any fun c=>c.2.2
def keyAt(s:Sch)(i:Nat):Bool:=match s.co[i]? with
 |some c=>c.2.2
 |none=>false
def zkd(s:Sch)(i:Nat):Bool:=keyAt s i|| !hasK s
def zrU(s:Sch):List Nat:=(List.range s.co.length).filter (keyAt s)
def zkG(s:Sch):List Nat:=if(zrU s).length>0 then zrU s else List.range s.co.length
def zAo(s:Sch):(zrU s).length>0↔hasK s=true:=by
 unfold zrU hasK;rw[gt_iff_lt,List.length_pos_iff_exists_mem,Z30];constructor
 .rintro⟨i,hi⟩;rw[Z57,Z174]at hi;refine⟨s.co[i]'hi.1,Z1 hi.1,?_⟩;have:=hi.2;unfold keyAt at this;rw[Z0 hi.1]at this;exact this
 .rintro⟨c,hc,hk⟩;obtain⟨i,hi,rfl⟩ :=Z101.1 hc;refine⟨i,?_⟩;rw[Z57,Z174];refine⟨hi,?_⟩;unfold keyAt;rw[Z0 hi];exact hk
def zZ9(s:Sch)(p:Nat->Bool):(zkG s).any p=(List.range s.co.length).any fun k=>zkd s k&&p k:=by
 unfold zkG
 by_cases h:hasK s=true
 .rw[Z51 ((zAo s).2 h)];unfold zrU;rw[List.any_filter];unfold zkd;simp[h]
 .rw[Z49 (fun h2=>h ((zAo s).1 h2))];unfold zkd;simp[h]
def zZ8(s:Sch):∀k∈zkG s,k<s.co.length:=by
 intro k hk;unfold zkG at hk;split at hk
 .exact Z174.1 (Z57.1 hk).1
 .exact Z174.1 hk
def zNg(s:Sch):(zkG s).length<=s.co.length:=by
 unfold zkG zrU;split
 .have:=Z76 (keyAt s) (List.range s.co.length);simpa using this
 .simp
def isV:Trm->Bool
 | .var _=>true
 | .cst _=>false
def grd(ps:List Str):Trm->Bool
  | .var v=>ps.any (· ==v)
  | .cst _=>true
def exk(g z:Trm)(k:Cm):Bool:=(decide (k.op=2)||decide (k.op=3))&&((decide (k.l=g)&&decide (k.r=z))||(decide (k.l=z)&&decide (k.r=g)))
def excl(c:CQ)(g z:Trm):Bool:=c.cs.any (exk g z)
def exP(c:CQ)(z g:Trm)(ps:List Str):Bool:=isV z&&grd ps g&&excl c g z
def dif(a:CQ)(s:Trm)(b:CQ)(t:Trm)(ps:List Str):Bool:=match s,t with
 | .cst m,.cst n=>decide (m≠n)
 |s,t=>exP b t s ps||exP a s t ps
def zRo{a b:CQ}{s t:Trm}{ps:List Str}(h:isV s=true\/isV t=true):dif a s b t ps=(exP b t s ps||exP a s t ps):=by
 cases s<;>cases t<;>first|rfl|simp[isV]at h
def zmr(a:CQ)(x:Atm)(b:CQ)(y:Atm)(ps:List Str)(k:Nat):Bool:=match x.ts[k]?,y.ts[k]? with
 |some u,some v=>dif a u b v ps
 |_,_=>false
def zAi(s:Sch)(a:CQ)(x:Atm)(b:CQ)(y:Atm)(ps:List Str):Bool:=
 if s.ce=true\/x.r≠s.nm\/y.r≠s.nm then true
 else if x.ts.length≠s.co.length\/y.ts.length≠s.co.length then false
 else(List.range s.co.length).any fun k=>zkd s k&&zmr a x b y ps k
def ind(s:Sch)(a:CQ)(i:Int)(b:CQ)(j:Int)(ps:List Str):Bool:=
 if 0<=i/\i<a.as.length/\0<=j/\j<b.as.length then match a.as[i.toNat]?,b.as[j.toNat]? with
  |some x,some y=>zAi s a x b y ps
  |_,_=>false
 else false
def cnF:F->Nat
 | .sl _ l=>l.length
 |_=>0
def zFv(tu:List (List Int×List F))(x:Str)(ts:List Trm):List Int:=(List.range ts.length).flatMap fun i=>if ts[i]? =some (.var x)then tu.filterMap fun t=>t.1[i]? else[]
def zdN(l:List Rl)(x:Str)(a:Atm):List Int:=if a.neg=true then[]else match l.find? fun r=>r.nm==a.r with
 |some r=>if a.ts.length≠cnF r.co then[]else zFv r.tu x a.ts
 |none=>[]
def zmz(l:List Rl)(x:Str)(c:CQ):List Int:=c.as.flatMap (zdN l x)
def zeE(l:List Rl)(x:Str)(q:List CQ):List Int:=q.flatMap (zmz l x)
theorem zCU:∀{l:List Int},Asc l->Srt l
 |[],_=>List.Pairwise.nil
 |_::_,.cons h1 h2=>Z56.2 ⟨h1,zCU h2⟩
def zab9(l:List Int):dd (zkj l)=zdw l []:=by
 obtain⟨h1,h2⟩ :=zaca (zNx l);refine zA7 h1 (zCU (zug l [] .nil)) fun v=> ?_
 rw[h2,zuU];simp[zkj]
theorem zuE:∀(a b out:List Int),zdw (a++b) out=zdw b (zdw a out)
 |[],_,_=>rfl
 |v::a,b,out=>by
  show zdw (a++b) (ins out v)=zdw b (zdw a (ins out v));exact zuE a b _
def fn138:pr.fn 138=some zFR:=by kernel_rfl
def fn206:pr.fn 206=some zFU:=by kernel_rfl
def fn89:pr.fn 89=some g89:=by kernel_rfl
def fn92:pr.fn 92=some g92:=by kernel_rfl
def fn163:pr.fn 163=some zFS:=by kernel_rfl
def fn90:pr.fn 90=some g90:=by kernel_rfl
def fn91:pr.fn 91=some g91:=by kernel_rfl
def fn49:pr.fn 49=some g49:=by kernel_rfl
def fn24:pr.fn 24=some g24:=by kernel_rfl
def ixP{α:Type}(l:List α)(p:α->Bool):Int:=match l.findIdx? p with
 |some n=>n
 |none=> -1
def zuK{α:Type}{l:List α}{p:α->Bool}(h:∀a∈l,p a=false):ixP l p= -1:=by
 have:l.findIdx? p=none:=Z43.2 h;simp[ixP,this]
def zuM{α:Type}{l:List α}{p:α->Bool}{n:Nat}(h:n<l.length)(h1:p l[n]=true)(h2:∀m (h':m<n),p (l[m]'(by omega))=false):ixP l p=n:=by
 have:l.findIdx? p=some n:=by
  rw[Z26];exact⟨h,h1,fun j hj=>by simpa using h2 j hj⟩
 simp[ixP,this]
def zAm{α:Type}(l:List α)(p:α->Bool):decide (ixP l p≥0)=l.any p:=by
 cases h:l.any p with
 |true=>
  unfold ixP;cases h2:l.findIdx? p with
  |some n=>simp
  |none=>rw[Z43]at h2;simp at h;obtain⟨x,hx,hp⟩ :=h;rw[h2 x hx]at hp;cases hp
 |false=>
  have:=zuK (l:=l) (p:=p) (by simpa using h);simp[this]
def zLI(l:List Str)(x:Str):l.any (x== ·)=l.any (· ==x):=by
  congr 1;funext a;exact Bool.beq_comm
def zab0(l:List Str)(x:Str)(hl:l.length<1000000):Ans pr 206 [zbQ l,.s x] (.i .i64 (ixP l (x== ·))):=by
 refine zdu fn206 ?_;simp only[zFU,rU];simp -implicitDefEqProofs [rW,st0,zao,za8,zpy];refine zlt l (x== ·) (fun n s=>(s.tm.get 0=some (.f (zbQ l))/\s.tm.get 1=some (.f (.s x))/\s.tm.get 7=some (.f (.i .i64 l.length))/\s.tm.get 8=some (.f (.i .i64 n)))) (fun x s=>x= .exit 0) (fun n y s=>y= .ret/\s.tm.get 4=some (.f (.i .i64 n))) ?_ ?_ _ ?_ ?_ ?_
 .rintro n s hn ⟨h0,h1,h7,h8⟩;have hw:=za5 n (by omega);have hx:l[n]? =some l[n]:=Z0 hn;generalize hA:l[n]=A at hx|-
  by_cases he:x=A
  .simp -implicitDefEqProofs [rW,h0,h1,h7,h8,hn,zrZ,hx,hA,he]
  .simp -implicitDefEqProofs [rW,h0,h1,h7,h8,hn,zrZ,hx,hA,he,hw]
 .rintro s ⟨h0,h1,h7,h8⟩;simp -implicitDefEqProofs [rW,h0,h1,h7,h8]
 .simp -implicitDefEqProofs [rW,st0,zao]
 .rintro h z s rfl;rw[zuK h];simp -implicitDefEqProofs [rW,]
 .rintro n hn hp hm z s ⟨rfl,h4⟩;rw[zuM hn hp hm];simp -implicitDefEqProofs [rW,h4]
def zabY(l:List Str)(x:Str)(hl:l.length<1000000):Ans pr 138 [zbQ l,.s x] (.b (l.any (· ==x))):=by
  refine zdu fn138 ?_;simp only[zFR,rU];have e:=zAm l (x== ·);rw[zLI]at e;have q:=fun k=>zah (k:=k) (zab0 l x hl)
  rw[<-e];simp -implicitDefEqProofs [rW,st0,zao,za8,q]
def zx4(a b:Trm)(ha:zaN a)(hb:zaN b):Ans pr 92 [.ag (tmF a),.ag (tmF b)] (.b (decide (a=b))):=by
 refine zdu fn92 ?_;simp only[g92,rU];cases a with
 |cst a=>
  cases b with
  |cst b=>
   have q:=fun k=>zah (k:=k) (zE0 a b)
   simp only[vF]at q;simp -implicitDefEqProofs [rR,st0,zao,tmF,q,zmi]
  |var b=>
   simp only[zaN]at hb;simp -implicitDefEqProofs [rR,st0,zao,tmF,hb,Ne.symm hb]
 |var a=>
  simp only[zaN]at ha;cases b with
  |cst b=>simp -implicitDefEqProofs [rR,st0,zao,tmF,ha]
  |var b=>
   simp -implicitDefEqProofs [rR,st0,zao,tmF,ha];exact Bool.eq_iff_iff.2 (by simp)
theorem zacE(q:CQ)(p:Cm->Bool)(hl:q.cs.length<100000){h:T Ob}{c g:Nat}{fv:D}{cap:List D}(hfv:zfE fv=some (g,[],cap))(hcl:∀n (hn:n<q.cs.length),RO pr g (.ag (cmD q.cs[n])::cap) h c (.f (.b (p q.cs[n])))):
  RO pr 163 [.f (zgQ q),fv] h c (.f (.i .i64 (ixP q.cs p))):=by
 refine zjh zfb fn163 rfl ?_;simp only[zFS,rU];simp -implicitDefEqProofs [rW,st0,zao,znY];refine zlt q.cs p (fun n s=>s.tm.get 0=some (.f (zgQ q))/\s.tm.get 1=some (fv)/\s.tm.get 7=some (.f (.i .i64 q.cs.length))/\s.tm.get 8=some (.f (.i .i64 n))/\s.h=h/\s.c=c/\s.lw=c) (fun x s=>x= .exit 0/\s.lw=c) (fun n y s=>y= .ret/\s.tm.get 4=some (.f (.i .i64 n))/\s.lw=c) ?_ ?_ _ ?_ ?_ ?_
 .rintro n s hn ⟨h0,h1,h7,h8,eh,ec,el⟩;have hw:=za5 n (by omega);have hp:=hcl n hn;have hx:q.cs[n]? =some q.cs[n]:=Z0 hn;generalize hA:q.cs[n]=A at hp hx|-;simp -implicitDefEqProofs [rW,h0,h1,h7,h8,hn,zuk,hx,hA,zuj,cmD,tmD,hfv];refine zjm (d:= .f (.b (p A))) ?_ ?_ ?_
  .simp only[rG];rw[eh,ec];exact hp
  .simp only[rG];omega
  .intro mx;cases hb:p A with
   |true=>simp -implicitDefEqProofs [rW,h0,h1,h7,h8,el]
   |false=>simp -implicitDefEqProofs [rW,h0,h1,h7,h8,hw,eh,ec,el]
 .rintro s ⟨h0,h1,h7,h8,eh,ec,el⟩;simp -implicitDefEqProofs [rW,h0,h1,h7,h8,el]
 .simp -implicitDefEqProofs [rW,st0,zao]
 .rintro h z s ⟨rfl,el⟩;rw[zuK h];simp -implicitDefEqProofs [rW,ze1,el]
 .rintro n hn hp hm z s ⟨rfl,h4,el⟩;rw[zuM hn hp hm];simp -implicitDefEqProofs [rW,h4,ze1,el]
theorem ro90F(q:CQ)(p:Cm->Bool)(hl:q.cs.length<100000){h:T Ob}{c g:Nat}{fv:D}{cap:List D}(hfv:zfE fv=some (g,[],cap))(hcl:∀n (hn:n<q.cs.length),RO pr g (.ag (cmD q.cs[n])::cap) h c (.f (.b (p q.cs[n])))):
  RO pr 90 [.f (zgQ q),fv] h c (.f (.b (q.cs.any p))):=by
 refine zjh zfb fn90 rfl ?_;simp only[g90,rU];rw[<-zAm q.cs p];simp -implicitDefEqProofs [rW,st0,zao];refine zjm (d:= .f (.i .i64 (ixP q.cs p))) ?_ ?_ ?_
 .simp only[rG];exact zacE q p hl hfv hcl
 .simp only[rG];omega
 .intro mx;simp -implicitDefEqProofs [rW,ze1]
def ans89(t:Trm)(ht:zaN t)(ps:List Str)(hl:ps.length<1000000):Ans pr 89 [.ag (tmF t),zbQ ps] (.b (grd ps t)):=by
 refine zdu fn89 ?_;simp only[g89,rU];cases t with
 |cst n=>simp -implicitDefEqProofs [rW,st0,zao,tmF,grd,za8]
 |var s=>
  have hs:s≠[]:=ht;have q:=fun k=>zah (k:=k) (zabY ps s hl)
  simp -implicitDefEqProofs [rW,st0,zao,tmF,grd,za8,hs,q]
theorem ro91(k:Cm)(hk:zdL k)(a b:Trm)(ha:zaN a)(hb:zaN b){h:T Ob}{c A B:Nat}(gA:h.get A=some (.arr 4 0 [tmD a]))(gB:h.get B=some (.arr 4 0 [tmD b]))(hA:A<c)(hB:B<c):
  RO pr 91 [.ag (cmD k),.ptr A 4 0 0,.ptr B 4 0 0] h c (.f (.b (exk a b k))):=by
 refine zjh zfb fn91 rfl ?_;simp only[g91,rU];obtain⟨o,l,r⟩ :=k;have nA:¬A=c:=by omega
 have nB:¬B=c:=by omega
 have q1:=fun k=>zah (k:=k) (zx4 l a hk.1 ha)
 have q2:=fun k=>zah (k:=k) (zx4 r b hk.2 hb)
 have q3:=fun k=>zah (k:=k) (zx4 l b hk.1 hb)
 have q4:=fun k=>zah (k:=k) (zx4 r a hk.2 ha)
 simp only[tmE]at q1 q2 q3 q4;unfold exk;simp only[tmD]at gA gB;generalize hb1:decide (l=a)=b1 at q1;generalize hb2:decide (r=b)=b2 at q2;generalize hb3:decide (l=b)=b3 at q3;generalize hb4:decide (r=a)=b4 at q4
 by_cases h1:o=2
 .subst h1;cases b1<;>cases b2<;>cases b3<;>cases b4<;>(simp -implicitDefEqProofs [rW,st0,zao,cmD,tmD,gA,gB,nA,nB,q1,q2,q3,q4,hb1,hb2,hb3,hb4,ze1]<;>simp (disch:=omega) only[zr3,zrh])
 .by_cases h2:o=3
  .subst h2;cases b1<;>cases b2<;>cases b3<;>cases b4<;>(simp -implicitDefEqProofs [rW,st0,zao,cmD,tmD,gA,gB,nA,nB,q1,q2,q3,q4,hb1,hb2,hb3,hb4,ze1]<;>simp (disch:=omega) only[zr3,zrh])
  .simp -implicitDefEqProofs [rW,st0,zao,cmD,tmD,gA,gB,nA,nB,h1,h2,ze1];simp (disch:=omega) only[zr3,zrh]
def zQO(q:CQ)(z g:Trm)(ps:List Str)(hq:CqG q)(hz:zaN z)(hg:zaN g)(hl:ps.length<1000000):Ans pr 49 [.ag (cqF q),.ag (tmF z),.ag (tmF g),zbQ ps] (.b (exP q z g ps)):=by
 refine zdu fn49 ?_;simp only[g49,rU];have q1:=fun k=>zah (k:=k) (ans89 g hg ps hl)
 simp only[tmE]at q1|-;unfold exP;cases z with
 |cst n=>
  simp -implicitDefEqProofs [rW,st0,zao,cqE,za1,za2,za8,zHi,zHf,zHh,isV]
 |var s=>
  have hs:s≠[]:=hz;cases hb:grd ps g with
  |false=>
   rw[hb]at q1;simp -implicitDefEqProofs [rW,st0,zao,cqE,za1,za2,za8,zsV,zsS,zsU,hs,q1,isV]
  |true=>
   rw[hb]at q1;simp -implicitDefEqProofs [rW,st0,zao,cqE,za1,za2,za8,zsV,zsS,zsU,hs,q1,isV];refine zjm (d:= .f (.b (excl q g (.var s)))) ?_ ?_ ?_
   .simp only[rG];refine ro90F q (exk g (.var s)) (by have:=hq.sc;omega) rfl fun n hn=> ?_
    refine ro91 _ (hq.cs _ (Z1 hn)) g (.var s) hg hz ?_ ?_ ?_ ?_
    .simp[TG,tmD]
    .simp[TG,tmD,zsV,zsS,zsU]
    all_goals omega
   .simp only[rG]
    repeat refine Z3 (zic _ _).1 ?_
    omega
   .intro mx;simp -implicitDefEqProofs [rW,]
def ans24(a b:CQ)(s t:Trm)(ps:List Str)(ha:CqG a)(hb:CqG b)(hs:zaN s)(ht:zaN t)(hl:ps.length<1000000):Ans pr 24 [.ag (cqF a),.ag (tmF s),.ag (cqF b),.ag (tmF t),zbQ ps] (.b (dif a s b t ps)):=by
 refine zdu fn24 ?_;simp only[g24,rU];have q1:=fun k=>zah (k:=k) (zQO b t s ps hb ht hs hl)
 have q2:=fun k=>zah (k:=k) (zQO a s t ps ha hs ht hl)
 have e:=@zRo a b s t ps;cases s with
 |cst m=>
  cases t with
  |cst n=>
   have q:=fun k=>zah (k:=k) (zE0 m n)
   simp only[vF]at q;have hc:=zDo m n;unfold dif;simp -implicitDefEqProofs [rW,st0,zao,tmF,cqE,za1,za2,za8,q,hc]
  |var n=>
   have hn:n≠[]:=ht;rw[e (.inr rfl)];simp only[tmF,cqE]at q1 q2;cases h1:exP b (.var n) (.cst m) ps<;>rw[h1]at q1<;>simp -implicitDefEqProofs [rW,st0,zao,tmF,cqE,za1,za2,za8,hn,q1,q2]
 |var m=>
  have hm:m≠[]:=hs;rw[e (.inl rfl)];cases t with
  |cst n=>
   simp only[tmF,cqE]at q1 q2;cases h1:exP b (.cst n) (.var m) ps<;>rw[h1]at q1<;>simp -implicitDefEqProofs [rW,st0,zao,tmF,cqE,za1,za2,za8,hm,q1,q2]
  |var n=>
   have hn:n≠[]:=ht;simp only[tmF,cqE]at q1 q2;cases h1:exP b (.var n) (.var m) ps<;>rw[h1]at q1<;>simp -implicitDefEqProofs [rW,st0,zao,tmF,cqE,za1,za2,za8,hm,hn,q1,q2]
def fn23:pr.fn 23=some g23:=by kernel_rfl
def fn21:pr.fn 21=some g21:=by kernel_rfl
def fn48:pr.fn 48=some g48:=by kernel_rfl
def fn8:pr.fn 8=some g8:=by kernel_rfl
theorem ro48(l:List Nat)(p:Nat->Bool)(hl:l.length<100000){h:T Ob}{c g:Nat}{fv:D}{cap:List D}(hfv:zfE fv=some (g,[],cap))(hcl:∀n (hn:n<l.length),RO pr g (.f (.i .i64 (l[n]:Nat))::cap) h c (.f (.b (p l[n])))):
  RO pr 48 [.f (zg7 l),fv] h c (.f (.i .i64 (ixP l p))):=by
 refine zjh zfb fn48 rfl ?_;simp only[g48,rU];simp -implicitDefEqProofs [rW,st0,zao,zME];refine zlt l p (fun n s=>s.tm.get 0=some (.f (zg7 l))/\s.tm.get 1=some (fv)/\s.tm.get 7=some (.f (.i .i64 l.length))/\s.tm.get 8=some (.f (.i .i64 n))/\s.h=h/\s.c=c/\s.lw=c) (fun x s=>x= .exit 0/\s.lw=c) (fun n y s=>y= .ret/\s.tm.get 4=some (.f (.i .i64 n))/\s.lw=c) ?_ ?_ _ ?_ ?_ ?_
 .rintro n s hn ⟨h0,h1,h7,h8,eh,ec,el⟩;have hw:=za5 n (by omega);have hp:=hcl n hn;have hx:l[n]? =some l[n]:=Z0 hn;generalize hA:l[n]=A at hp hx|-;simp -implicitDefEqProofs [rW,h0,h1,h7,h8,hn,zZX,hx,hA,hfv];refine zjm (d:= .f (.b (p A))) ?_ ?_ ?_
  .simp only[rG];rw[eh,ec];exact hp
  .simp only[rG];omega
  .intro mx;cases hb:p A with
   |true=>simp -implicitDefEqProofs [rW,h0,h1,h7,h8,el]
   |false=>simp -implicitDefEqProofs [rW,h0,h1,h7,h8,hw,eh,ec,el]
 .rintro s ⟨h0,h1,h7,h8,eh,ec,el⟩;simp -implicitDefEqProofs [rW,h0,h1,h7,h8,el]
 .simp -implicitDefEqProofs [rW,st0,zao]
 .rintro h z s ⟨rfl,el⟩;rw[zuK h];simp -implicitDefEqProofs [rW,ze1,el]
 .rintro n hn hp hm z s ⟨rfl,h4,el⟩;rw[zuM hn hp hm];simp -implicitDefEqProofs [rW,h4,ze1,el]
theorem ro21(l:List Nat)(p:Nat->Bool)(hl:l.length<100000){h:T Ob}{c g:Nat}{fv:D}{cap:List D}(hfv:zfE fv=some (g,[],cap))(hcl:∀n (hn:n<l.length),RO pr g (.f (.i .i64 (l[n]:Nat))::cap) h c (.f (.b (p l[n])))):
  RO pr 21 [.f (zg7 l),fv] h c (.f (.b (l.any p))):=by
 refine zjh zfb fn21 rfl ?_;simp only[g21,rU];rw[<-zAm l p];simp -implicitDefEqProofs [rW,st0,zao];refine zjm (d:= .f (.i .i64 (ixP l p))) ?_ ?_ ?_
 .simp only[rG];exact ro48 l p hl hfv hcl
 .simp only[rG];omega
 .intro mx;simp -implicitDefEqProofs [rW,ze1]
def zet(l:List Str):(D.f (zbQ l)).cells=some [.f (zbQ l)]:=zfz _ _
def atD(a:Atm):List D:=[.f (.s a.r),.f (.b a.neg),.f (zmM a.ts)]
theorem ro23(a b:CQ)(x y:Atm)(ps:List Str)(ha:CqG a)(hb:CqG b)(hx:zdv x)(hy:zdv y)(hl:ps.length<1000000)(k:Nat)(hk:k<x.ts.length)(hk2:k<y.ts.length){h:T Ob}{c A X B Y P:Nat}
  (gA:h.get A=some (.arr 2 0 [[.f (zgO a),.f (zgQ a)]]))(gX:h.get X=some (.arr 3 0 [atD x]))(gB:h.get B=some (.arr 2 0 [[.f (zgO b),.f (zgQ b)]]))(gY:h.get Y=some (.arr 3 0 [atD y]))(gP:h.get P=some (.arr 1 0 [[.f (zbQ ps)]])):
  RO pr 23 [.f (.i .i64 k),.ptr A 2 0 0,.ptr X 3 0 0,.ptr B 2 0 0,.ptr Y 3 0 0,.ptr P 1 0 0] h c (.f (.b (zmr a x b y ps k))):=by
 refine zjh zfb fn23 rfl ?_;simp only[g23,rU];have hxk:x.ts[k]? =some x.ts[k]:=Z0 hk;have hyk:y.ts[k]? =some y.ts[k]:=Z0 hk2;have hxo:=hx.1 _ (Z1 hk);have hyo:=hy.1 _ (Z1 hk2);have e:zmr a x b y ps k=dif a x.ts[k] b y.ts[k] ps:=by unfold zmr;rw[hxk,hyk]
 rw[e];generalize hU:x.ts[k]=u at hxk hxo|-;generalize hV:y.ts[k]=v at hyk hyo|-;have q:=fun f=>zah (k:=f) (ans24 a b u v ps ha hb hxo hyo hl)
 simp only[cqE,tmE]at q;simp only[atD]at gX gY;simp -implicitDefEqProofs [rW,st0,zao];refine zaC ?_;simp -implicitDefEqProofs [rW,gA,gX,gB,gY,gP,ziB,hxk,hyk,hU,hV,tmE,za1,za2,za8,q,ze1]
def zacr(l:List Nat):(zg7 l).d= .f (zg7 l):=zga ..
def zQG(s:Sch):Prop:=s.co.length<1000/\Ans pr 22 [.ag (zgT s)] (zg7 (zkG s))
def ans8(s:Sch)(hs:zQG s)(a b:CQ)(i j:Int)(ps:List Str)(ha:CqG a)(hb:CqG b)(hl:ps.length<1000000):Ans pr 8 [.ag (zgT s),.ag (cqF a),.i .i64 i,.ag (cqF b),.i .i64 j,zbQ ps] (.b (ind s a i b j ps)):=by
 refine zdu fn8 ?_;simp only[g8,rU];obtain⟨hcl,h22⟩ :=hs;simp only[zgT,cqE]at h22|-;have q22:=fun f=>zah (k:=f) h22
 by_cases hi0:i<0
 .have e:ind s a i b j ps=false:=by unfold ind;rw[Z49 (by omega)]
  rw[e];simp -implicitDefEqProofs [rW,st0,zao,zdZ,za1,za2,za8,zet,hi0]
 by_cases hi1:(a.as.length:Int)<=i
 .have e:ind s a i b j ps=false:=by unfold ind;rw[Z49 (by omega)]
  rw[e];simp -implicitDefEqProofs [rW,st0,zao,zdZ,za1,za2,za8,zet,hi0,hi1,zaV]
 by_cases hj0:j<0
 .have e:ind s a i b j ps=false:=by unfold ind;rw[Z49 (by omega)]
  rw[e];simp -implicitDefEqProofs [rW,st0,zao,zdZ,za1,za2,za8,zet,hi0,hi1,hj0,zaV]
 by_cases hj1:(b.as.length:Int)<=j
 .have e:ind s a i b j ps=false:=by unfold ind;rw[Z49 (by omega)]
  rw[e];simp -implicitDefEqProofs [rW,st0,zao,zdZ,za1,za2,za8,zet,hi0,hi1,hj0,hj1,zaV]
 obtain⟨n,rfl⟩ :∃n:Nat,i=n:=⟨i.toNat,by omega⟩
 obtain⟨m,rfl⟩ :∃m:Nat,j=m:=⟨j.toNat,by omega⟩
 have hn:n<a.as.length:=by omega
 have hm:m<b.as.length:=by omega
 have hxn:a.as[n]? =some a.as[n]:=Z0 hn;have hym:b.as[m]? =some b.as[m]:=Z0 hm;have hxo:=ha.toCqSm.toCqOk.as _ (Z1 hn);have hyo:=hb.toCqSm.toCqOk.as _ (Z1 hm);have e:ind s a n b m ps=zAi s a a.as[n] b b.as[m] ps:=by
  unfold ind;rw[Z51 (by omega)];simp only[Int.toNat_natCast,hxn,hym]
 rw[e];generalize hX:a.as[n]=x at hxn hxo|-;generalize hY:b.as[m]=y at hym hyo|-;have hnn:¬(n:Int)<0:=by omega
 have hmm:¬(m:Int)<0:=by omega
 have hn1:¬(a.as.length:Int)<=n:=by omega
 have hm1:¬(b.as.length:Int)<=m:=by omega
 have hn2:¬a.as.length<=n:=by omega
 have hm2:¬b.as.length<=m:=by omega
 obtain⟨nm,ce,co⟩ :=s;simp only at hcl h22 q22|-;unfold zAi
 by_cases h1:ce=true
 .subst h1;simp only[true_or,Z60];simp -implicitDefEqProofs [rW,st0,zao,zdZ,za1,za2,za8,zet,hnn,hmm,hn1,hm1,hn2,hm2,zaV];refine zaC ?_;simp -implicitDefEqProofs [rW,st0,zao,hn,hm,zeH,hxn,hX,hym,hY,atE,zhP,zaV]
 obtain rfl:ce=false:=by simpa using h1
 by_cases h2:x.r=nm
 case neg=>
  have e2:(x.r != nm)=true:=by simp[h2]
  rw[Z51 (.inr (.inl h2))];simp -implicitDefEqProofs [rW,st0,zao,zdZ,za1,za2,za8,zet,hnn,hmm,hn1,hm1,hn2,hm2,zaV];refine zaC ?_;simp -implicitDefEqProofs [rW,st0,zao,hn,hm,zeH,hxn,hX,hym,hY,atE,zhP,zaV,h2,e2]
 by_cases h3:y.r=nm
 case neg=>
  have e3:(y.r != nm)=true:=by simp[h3]
  rw[Z51 (.inr (.inr h3))];simp -implicitDefEqProofs [rW,st0,zao,zdZ,za1,za2,za8,zet,hnn,hmm,hn1,hm1,hn2,hm2,zaV];refine zaC ?_;simp -implicitDefEqProofs [rW,st0,zao,hn,hm,zeH,hxn,hX,hym,hY,atE,zhP,zaV,h2,h3,e3]
 rw[Z49 (by simp[h2,h3])]
 by_cases h4:x.ts.length=co.length
 case neg=>
  have e4:¬(x.ts.length:Int)=co.length:=by omega
  rw[Z51 (.inl h4)];simp -implicitDefEqProofs [rW,st0,zao,zdZ,za1,za2,za8,zet,hnn,hmm,hn1,hm1,hn2,hm2,zaV];refine zaC ?_;simp -implicitDefEqProofs [rW,st0,zao,hn,hm,zeH,hxn,hX,hym,hY,atE,zhP,zez,zf2,zaV,h2,h3,e4]
 by_cases h5:y.ts.length=co.length
 case neg=>
  have e5:¬(y.ts.length:Int)=co.length:=by omega
  rw[Z51 (.inr h5)];simp -implicitDefEqProofs [rW,st0,zao,zdZ,za1,za2,za8,zet,hnn,hmm,hn1,hm1,hn2,hm2,zaV];refine zaC ?_;simp -implicitDefEqProofs [rW,st0,zao,hn,hm,zeH,hxn,hX,hym,hY,atE,zhP,zez,zf2,zaV,h2,h3,h4,e5]
 rw[Z49 (by simp[h4,h5]),<-zZ9 ⟨nm,false,co⟩];simp -implicitDefEqProofs [rW,st0,zao,zdZ,za1,za2,za8,zet,hnn,hmm,hn1,hm1,hn2,hm2,zaV];refine zaC ?_;simp -implicitDefEqProofs [rW,st0,zao,hn,hm,zeH,hxn,hX,hym,hY,atE,zhP,zez,zf2,zaV,h2,h3,h4,h5,q22,zacr];refine zjm (d:= .f (.b ((zkG ⟨nm,false,co⟩).any fun k=>zmr a x b y ps k))) ?_ ?_ ?_
 .simp only[rG];refine ro21 _ _ (by have:=zNg ⟨nm,false,co⟩;simp only at this;omega) rfl fun k hk=> ?_
  have hlt:=zZ8 _ _ (Z1 hk);simp only at hlt;refine ro23 a b x y ps ha hb hxo hyo hl _ (by omega) (by omega) ?_ ?_ ?_ ?_ ?_
  all_goals simp[TG,atD]
  all_goals first|exact h2.symm|exact h3.symm
 .simp only[rG]
  repeat refine Z3 (zic _ _).1 ?_
  omega
 .intro mx;simp -implicitDefEqProofs [rW,]
end Go.Proofs.YtdonnbdegnkflaaGreatDoor
end
