/- Sums of probabilities in the reference, exactly. -/
import Derived.Test.YtdlcolcidohbkaaGreatDoorPg
import Derived.Test.YtdlcolcidohbkaaGreatDoorPh
import Derived.Test.YtdlcolcidohbkaaGreatDoorPzj
import Derived.Test.YtdlcolcidohbkaaGreatDoorPzi
import Derived.Test.YtdlcolcidohbkaaGreatDoorPk
import Derived.KernelRfl
import Derived.IntWalk
import Derived.Test.YtdlcolcidohbkaaGreatDoorPi
import Derived.Test.YtdlcolcidohbkaaGreatDoorPj
import Derived.Test.YtdlcolcidohbkaaGreatDoorPt
import Derived.Test.YtdlcolcidohbkaaGreatDoorPzk
import Derived.Test.YtdlcolcidohbkaaGreatDoorPo
set_option linter.all false
set_option maxRecDepth 100000
set_option maxHeartbeats 4000000
noncomputable section
section
namespace Go.Proofs.YtdlcolcidohbkaaGreatDoor
open Go Go.Vse Go.Vse.Sm
def zmB(n:Nat):(zeE n).d= .f (zeE n):=by cases n<;>rfl
def zom(n:Nat):(D.f (zeE n)).cells=some [.f (zeE n)]:=by cases n<;>rfl
def frE(s:Nat×Nat):fr s=[.b false,zeE s.1,zeE s.2]:=rfl
def sN(l:List (Nat×Nat)):Nat×Nat:=l.foldl adN (0,1)
def zrW(l:List (Nat×Nat))(p:Nat×Nat):sN (l++[p])=adN (sN l) p:=by simp[sN]
theorem sN_D:∀l:List (Nat×Nat),l.length<=3->(∀p∈l,p∈PN)->sN l∈Dl l.length
 |[],_,_=>Z31.2 rfl
 |[p],_,h=>zmr (k:=0) (by omega) (Z31.2 rfl) (h p (by simp))
 |[p,q],_,h=>zmr (k:=1) (by omega) (zmr (k:=0) (by omega) (Z31.2 rfl) (h p (by simp))) (h q (by simp))
 |[p,q,r],_,h=>zmr (k:=2) (by omega) (zmr (k:=1) (by omega) (zmr (k:=0) (by omega) (Z31.2 rfl) (h p (by simp))) (h q (by simp))) (h r (by simp))
 |_::_::_::_::_,h,_=>absurd h (by simp)
def zFB(l:List (Nat×Nat))(h:l.length<=2)(hp:∀p∈l,p∈PN):sN l∈DA:=dl_A (by omega) (sN_D l (by omega) hp)
def zFC(l:List (Nat×Nat))(h:l.length<=3)(hp:∀p∈l,p∈PN):sN l∈DI:=dl_I (sN_D l h hp)
def Bks(r:Rl)(b:List Nat)(ns:List (Nat×Nat)):Prop:=ns.length=b.length/\∀k (hk:k<b.length) (hn:k<ns.length),∃T,r.tu[b[k]]? =some T/\T.2=fr ns[k]/\ns[k]∈PN
def Bks.mem{r:Rl}{b:List Nat}{ns:List (Nat×Nat)}(h:Bks r b ns):∀p∈ns,p∈PN:=fun p hp=>by
 obtain⟨k,hk,rfl⟩ :=Z130 hp;obtain⟨T,-,-,h3⟩ :=h.2 k (by rw[<-h.1];exact hk) hk;exact h3
theorem zBE(r:Rl)(hp:∀t∈r.tu,PPp t.2):∀b:List Nat,(∀i∈b,i<r.tu.length)->∃ns,Bks r b ns
 |[],_=>⟨[],rfl,fun k hk=>by simp at hk⟩
 |i::b,h=>by
  obtain⟨ns,h1,h2⟩ :=zBE r hp b fun j hj=>h j (by simp[hj])
  have hi:=h i (by simp);obtain⟨n,hn,he⟩ :=zBk (hp _ (Z1 hi));refine⟨n::ns,by simp[h1],fun k hk hk2=> ?_⟩;cases k with
  |zero=>exact⟨_,Z0 hi,he,hn⟩
  |succ k=>exact h2 k (by simpa using hk) (by simpa using hk2)
def J84(r:Rl)(b:List Nat)(ns:List (Nat×Nat))(n:Nat)(s:St):Prop:=(s.tm.get 1=some (.f (ixF b))/\s.tm.get 2=some (.ptr 0 4 0 0)/\s.tm.get 4=some (.ptr 1 3 0 0)/\s.tm.get 5=some (.ptr 2 3 0 0)/\s.tm.get 6=some (.f (.i .i64 n))/\s.h.get 0=some (.arr 4 0 [[.f (.s r.nm),.f (.b r.ce),.f r.co,.f (zbO r.tu)]])/\s.h.get 1=some (.arr 3 0 [[.f (.b false),.f .nils,.f .nils]])/\s.h.get 2=some (.arr 3 0 [[.f (.b false),.f (zeE (sN (ns.take n)).1),.f (zeE (sN (ns.take n)).2)]]))/\3<=s.c
def zLC(r:Rl)(hco:r.co.d= .f r.co)(hcc:(D.f r.co).cells=some [.f r.co])(b:List Nat)(ns:List (Nat×Nat))(hb:b.length<=3)(h:Bks r b ns):Ans pr 84 [.ag (rlF r),ixF b] (.ag (fr (sN ns))):=by
 obtain⟨hl,hB⟩ :=id h;refine zcf fn84 ?_;have fi0x:Ans pr 14 [.i .i64 0] (.ag [.b false,.nils,.sl 1 [[.i .u32 1]]]):=fi0;have q0:=fun k=>zad (k:=k) fi0x
 have hd:(zbO r.tu).d= .f (zbO r.tu):=zoG _;simp only[g84,rU];simp[rW,st0,zak,rlE,hco,hd,q0,zpu];refine zbD b.length (J84 r b ns) (fun e s=>e= .exit 0/\J84 r b ns b.length s) ?_ ?_ _ ⟨⟨?_,?_,?_,?_,?_,?_,?_,?_⟩,?_⟩ ?_
 .rintro n s hn ⟨⟨h1,h2,h4,h5,h6,g0,g1,g2⟩,hc⟩;have hw:=zao n (by omega);have hnn:n<ns.length:=by omega
  obtain⟨T,hT,hT2,hm⟩ :=hB n hn hnn;have hs:sN (ns.take (n+1))=adN (sN (ns.take n)) ns[n]:=by
   rw[Z105,Z0 hnn];exact zrW _ _
  have hA:UA (sN (ns.take n)) ns[n]:=allL (allL uA _ (zFB _ (by rw[Z41];omega) fun p hp=>h.mem p (Z13 hp))) _ hm;unfold UA at hA;rw[<-hs]at hA;have htu:tuF T=[valsF T.1,.b false,zeE (ns[n]).1,zeE (ns[n]).2]:=by unfold tuF;rw[hT2];rfl
  have q1:=fun k=>zad (k:=k) hA
  simp only[frE]at q1;have hxi:b[n]? =some b[n]:=Z0 hn;generalize hI:b[n]=i at hxi hT;generalize hM:ns[n]=m at htu q1;generalize sN (ns.take n)=s1 at g2 q1;generalize hS2:sN (ns.take (n+1))=s2 at q1;have hix:ixF b= .sl 1 (b.map fun i=>[.i .i64 (i:Nat)]):=rfl;have c0:0<s.c:=by omega
  have c1:1<s.c:=by omega
  have c2:2<s.c:=by omega
  simp[rW,h1,h2,h4,h5,h6,g0,g1,g2,hn,zlT];refine zaw ?_;simp[rW,h1,h2,h4,h5,h6,g0,g1,g2,hn,hix,hxi,hI,zkI,hT,htu,zmB,zom,q1,c2,hw];refine⟨⟨?_,?_,?_,?_,?_,?_,?_,?_⟩,?_⟩
  all_goals simp[rW,h1,h2,h4,h5,h6,g0,g1,g2,hw,hc,hS2]
 .rintro s ⟨⟨h1,h2,h4,h5,h6,g0,g1,g2⟩,hc⟩;simp[rW,h1,h6,zlT];exact⟨⟨by simp[rW,h1],by simp[rW,h2],by simp[rW,h4],by simp[rW,h5],by simp[rW,h6],by simp[rW,g0],by simp[rW,g1],by simp[rW,g2]⟩,by simp[rW,hc]⟩
 .simp[rW]
 .simp[rW]
 .simp[rW]
 .simp[rW]
 .simp[rW]
 .simp[rW]
 .simp[rW]
 .simp[rW];exact⟨rfl,rfl⟩
 .simp[rW]
 .rintro e s ⟨rfl,⟨h1,h2,h4,h5,h6,g0,g1,g2⟩,hc⟩;have c1:1<s.c:=by omega
  rw[Z11 (by omega)]at g2;simp[rW,h4,h5,g1,g2,c1,zmB,zom];rfl
def fn100:pr.fn 100=some zzI:=by kernel_rfl
def eN:∀p∈PN,adN (0,1) p=p:=by decide
def eM0:(DA.all fun s=>PN.all fun p=>!le1 (adN s p)||le1 s)=true:=by kernel_rfl
def eM{s p:Nat×Nat}(hs:s∈DA)(hp:p∈PN)(h:le1 (adN s p)=true):le1 s=true:=by
 have:=Z50.1 (Z50.1 eM0 s hs) p hp;rw[h]at this;simpa using this
def sN_le{l:List (Nat×Nat)}(hl:l.length<=3)(h:∀p∈l,p∈PN)(h1:le1 (sN l)=true):∀k,le1 (sN (l.take k))=true:=by
 have step:∀k,k<l.length->le1 (sN (l.take (k+1)))=true->le1 (sN (l.take k))=true:=fun k hk hh=>by
  rw[Z105,Z0 hk]at hh;have e:sN (l.take k++(some l[k]).toList)=adN (sN (l.take k)) l[k]:=zrW _ _;rw[e]at hh;exact eM (zFB _ (by rw[Z41];omega) fun p hp=>h p (Z13 hp)) (h _ (Z1 hk)) hh
 intro k
 by_cases hk:l.length<=k
 .rw[Z11 hk];exact h1
 .have key:∀j,j<=l.length->le1 (sN (l.take (l.length - j)))=true:=by
   intro j
   induction j with
   |zero=>intro _;rw[Nat.sub_zero,Z7];exact h1
   |succ j ih=>
    intro hj;refine step _ (by omega) ?_;rw[show l.length - (j+1)+1=l.length - j by omega];exact ih (by omega)
  have:=key (l.length - k) (by omega);rw[show l.length - (l.length - k)=k by omega]at this;exact this
def tP(ns:List (Nat×Nat)):Nat->List F
 |0=>zP
 |n+1=>fr (sN (ns.take (n+1)))
def J100(r:Rl)(b:List Nat)(ns:List (Nat×Nat))(n:Nat)(s:St):Prop:=(s.tm.get 2=some (.ptr 0 4 0 0)/\s.tm.get 4=some (.ptr 1 3 0 0)/\s.tm.get 5=some (.ptr 2 3 0 0)/\s.tm.get 8=some (.f (ixF b))/\s.tm.get 9=some (.f (.i .i64 b.length))/\s.tm.get 10=some (.f (.i .i64 n))/\s.h.get 0=some (.arr 4 0 [[.f (.s r.nm),.f (.b r.ce),.f r.co,.f (zbO r.tu)]])/\s.h.get 1=some (.arr 3 0 [[.f (.b false),.f .nils,.f .nils]])/\s.h.get 2=some (.arr 3 0 [(tP ns n).map D.f]))/\3<=s.c
def zFS(ns:List (Nat×Nat))(n:Nat):∃x y,tP ns n=[.b false,x,y]/\x.d= .f x/\y.d= .f y/\(D.f x).cells=some [.f x]/\(D.f y).cells=some [.f y]:=by
 cases n with
 |zero=>exact⟨.nils,.nils,rfl,rfl,rfl,rfl,rfl⟩
 |succ n=>exact⟨_,_,rfl,zmB _,zmB _,zom _,zom _⟩
def zQ6{r:Rl}{b:List Nat}{ns:List (Nat×Nat)}(hb:b.length<=3)(h:Bks r b ns)(hle:le1 (sN ns)=true){n:Nat}(hn:n<ns.length):Ans pr 178 [.ag (tP ns n),.ag (fr ns[n])] (.ag (tP ns (n+1))):=by
 have hm:=h.mem _ (Z1 hn);have hln:ns.length<=3:=by have:=h.1;omega
 have hs:sN (ns.take (n+1))=adN (sN (ns.take n)) ns[n]:=by
  rw[Z105,Z0 hn];exact zrW _ _
 cases n with
 |zero=>
  have:tP ns (0+1)=fr ns[0]:=by
   show fr (sN (ns.take (0+1)))=_;rw[hs];exact congrArg fr (eN _ hm)
  rw[this];exact (allL uZ _ hm).1
 |succ n=>
  have h1:=sN_le hln h.mem hle (n+1+1);rw[hs]at h1;have:=allL (allL uB _ (zFB _ (by rw[Z41];omega) fun p hp=>h.mem p (Z13 hp))) _ hm h1;unfold UB at this;rw[<-hs]at this;exact this
def zHq(r:Rl)(hco:r.co.d= .f r.co)(hcc:(D.f r.co).cells=some [.f r.co])(b:List Nat)(ns:List (Nat×Nat))(hb:b.length<=3)(h:Bks r b ns)(hle:le1 (sN ns)=true):Ans pr 100 [.ag (rlF r),ixF b] (.ag (fr (sN ns))):=by
 obtain⟨hl,hB⟩ :=id h;refine zcf fn100 ?_;have hd:(zbO r.tu).d= .f (zbO r.tu):=zoG _;simp only[zzI,rU];simp[rW,st0,zak,rlE,hco,hd,zpu,zlT];refine zbD b.length (J100 r b ns) (fun e s=>e= .exit 0/\J100 r b ns b.length s) ?_ ?_ _ ⟨⟨?_,?_,?_,?_,?_,?_,?_,?_,?_⟩,?_⟩ ?_
 .rintro n s hn ⟨⟨h2,h4,h5,h8,h9,h10,g0,g1,g2⟩,hc⟩;have hw:=zao n (by omega);have hnn:n<ns.length:=by omega
  obtain⟨T,hT,hT2,hm⟩ :=hB n hn hnn;have hA:=zQ6 (by omega) h hle hnn;obtain⟨x0,y0,hx0,d0,d1,-,-⟩ :=zFS ns n;obtain⟨x1,y1,hx1,k0,k1,l0,l1⟩ :=zFS ns (n+1);have htu:tuF T=[valsF T.1,.b false,zeE (ns[n]).1,zeE (ns[n]).2]:=by unfold tuF;rw[hT2];rfl
  rw[hx0,hx1]at hA;rw[hx0]at g2;have q1:=fun k=>zad (k:=k) hA
  simp only[frE]at q1;simp only[Z10,Z85]at g2;have hxi:b[n]? =some b[n]:=Z0 hn;generalize hI:b[n]=i at hxi hT;generalize hM:ns[n]=m at htu q1;have hix:ixF b= .sl 1 (b.map fun i=>[.i .i64 (i:Nat)]):=rfl;have c2:2<s.c:=by omega
  simp[rW,h2,h4,h5,h8,h9,h10,g0,g1,g2,hn,hix,hxi,hI];refine zaw ?_;simp[rW,h2,h4,h5,h8,h9,h10,g0,g1,g2,hn,hix,hxi,hI,zkI,hT,htu,zmB,zom,q1,d0,d1,k0,k1,l0,l1,c2,hw];refine⟨⟨?_,?_,?_,?_,?_,?_,?_,?_,?_⟩,?_⟩
  all_goals simp[rW,h2,h4,h5,h8,h9,h10,g0,g1,g2,hw,hc,hx1,hix]
 .rintro s ⟨⟨h2,h4,h5,h8,h9,h10,g0,g1,g2⟩,hc⟩;simp[rW,h9,h10];exact⟨⟨by simp[rW,h2],by simp[rW,h4],by simp[rW,h5],by simp[rW,h8],by simp[rW,h9],by simp[rW,h10],by simp[rW,g0],by simp[rW,g1],by simp[rW,g2]⟩,by simp[rW,hc]⟩
 .simp[rW]
 .simp[rW]
 .simp[rW]
 .simp[rW]
 .simp[rW]
 .simp[rW]
 .simp[rW]
 .simp[rW]
 .simp[rW,tP,zP]
 .simp[rW]
 .rintro e s ⟨rfl,⟨h2,h4,h5,h8,h9,h10,g0,g1,g2⟩,hc⟩;have c1:1<s.c:=by omega
  have hN:Ans pr 179 [.ag (tP ns b.length)] (.ag (fr (sN ns))):=by
   have hI:=zFC ns (by omega) h.mem;cases hbl:b.length with
   |zero=>
    have:ns=[]:=Z17.1 (by omega);subst this;exact uZ0
   |succ n=>
    have:=(allL uC _ hI hle).2.2.1;have e:tP ns (n+1)=fr (sN ns):=by
     show fr (sN (ns.take (n+1)))=_;rw[Z11 (by omega)]
    rw[e];exact this
  obtain⟨x0,y0,hx0,d0,d1,-,-⟩ :=zFS ns b.length;rw[hx0]at hN g2;have q1:=fun k=>zad (k:=k) hN
  simp only[frE]at q1;simp only[Z10,Z85]at g2;simp[rW,h4,h5,g1,g2,c1,d0,d1,q1,zmB,zom];rfl
def zgw(a b:Nat)(hb:b≠0)(ha:a<1000000):zaK .quo (.i .i64 a) (.i .i64 b)=some (.i .i64 ((a/b:Nat):Int)):=by
 have:=Nat.div_le_self a b;rw[zHU _ _ (by omega),show(a:Int).tdiv b=((a/b:Nat):Int)from rfl];generalize a/b=q at*;rw[wrap_i64 _ (by omega) (by omega)]
def zHp(a b:Nat)(ha:a<1000000)(hb:b<1000000):IntKind.i64.wrap ((a:Int)+b)=((a+b:Nat):Int):=by
 rw[wrap_i64 _ (by omega) (by omega)];omega
def zjo{x:F}(hx:zcG x)(i:Nat)(hi:i<1000):∃n:Nat,n<100000/\Ans pr 12 [x,.i .i64 i] (.i .i64 n):=by
 obtain⟨r0,hr0,he0⟩ :=zo8 i 65535 (by omega);have he0':zaK .and (.i .i64 i) (.i .i64 65535)=some (.i .i64 r0):=he0;have nil:zci (.f .nils)=some 0:=rfl
 by_cases hz:x= .nils\/x= .sl 1 []
 .refine⟨r0,by omega,zcf fn12 ?_⟩;simp only[g12,rU];rcases hz with rfl|rfl
  .simp[rW,st0,zak,he0']
  .simp[rW,st0,zak,he0',F.d]
 .rcases hx with rfl|⟨zs,rfl⟩
  .exact absurd (.inl rfl) hz
  .have hz:zs≠[]:=fun e=>hz (.inr (by rw[e];rfl))
   have hlen:0<zs.length:=Z129.2 hz;have hn0:¬zs.length=0:=by omega
   have hni:¬((zs.length:Int)=0):=by omega
   have hmod:i%zs.length<zs.length:=Z124 _ hlen;have hrem:=zde i zs.length hn0;have hquo:=zgw i zs.length hn0 (by omega);have hdl:i/zs.length<=i:=Nat.div_le_self _ _;generalize i%zs.length=m at hmod hrem;generalize i/zs.length=d at hquo hdl;obtain⟨r,hr,he⟩ :=zo8 zs[m] 65535 (by omega);have he':zaK .and (.i .i64 zs[m]) (.i .i64 65535)=some (.i .i64 r):=he;have hx:zs[m]? =some zs[m]:=Z0 hmod;have hw:=zHp r d (by omega) (by omega);refine⟨r+d,by omega,zcf fn12 ?_⟩;simp only[g12,rU];simp[rW,st0,zak,hni,hn0,F.d];refine zaw ?_;simp[rW,st0,zak,hrem,hquo,hmod,he',hx,hw,F.d]
def bin8(a b:Int):zaK .eql (.i .u8 a) (.i .u8 b)=some (.b (a==b)):=rfl
def zCh{R:Str}(h:R≠[]):hd8 (byE R)=true:=by
 cases R with
 |nil=>exact absurd rfl h
 |cons a l=>rfl
def JR(r z:Nat)(p:Str)(n:Nat)(s:St):Prop:=(s.tm.get 1=some (.f (.i .i64 z))/\s.tm.get 4=some (.ptr 0 2 0 0)/\s.tm.get 5=some (.sl 1 0 p.length 1 p.length false)/\s.tm.get 6=some (.f (.i .i64 n))/\s.h.get 0=some (.arr 2 0 [[.f .nils,.f .nils]])/\s.h.get 1=some (.arr 1 0 (byE ((p.take n).map (rb r)++p.drop n))))/\2<=s.c
def ans18(p:Str)(z:Nat)(c:CQ)(hp:p≠[])(hl:p.length<1000)(h:Ans pr 48 [.s (p.map (rb (z%3)))] (.tu [.ag [.nils,.sl 2 [cqF c]],.i .i64 0])):Ans pr 18 [.s p,.i .i64 z] (.ag (cqF c)):=by
 refine zcf fn18 ?_;simp only[g18,rU];have hs2b:=fun h c=>v_s2b (h:=h) (c:=c) hp
 have hrem:=zde z 3 (by omega);rw[show((3:Nat):Int)=3 from rfl]at hrem;have hr3:z%3<3:=Z124 _ (by omega);generalize z%3=r at h hrem hr3;have q76:=fun k=>zad (k:=k) h
 have hbl:∀n,((p.take n).map (rb r)++p.drop n).length=p.length:=fun n=>by simp;omega
 simp[rW,st0,zak,o_s2b,zQJ,hs2b];refine foldW p (fun(x:Unit) _=>x) () (fun n _ s=>JR r z p n s) (fun x s=>x= .exit 0/\JR r z p p.length s) ?_ ?_ _ ?_ ?_
 .rintro n a s hn - ⟨⟨h1,h4,h5,h6,g0,g1⟩,hc⟩;have hw:=zao n (by omega);have hL:=hbl n;have hx:((p.take n).map (rb r)++p.drop n)[n]? =some p[n]:=by
   rw[Z62 (by simp;omega)];simp[hn,Z73 (Z110 hn)]
  have hnx:(p.take (n+1)).map (rb r)++p.drop (n+1)=((p.take n).map (rb r)++p.drop n).set n (rb r p[n]):=by
   have e:n - (List.map (rb r) (List.take n p)).length=0:=by simp;omega
   rw[Z112 _ _ (by simp;omega),e,Z6 hn,Z55 hn,Z20,Z32];rfl
  generalize hR:(p.take n).map (rb r)++p.drop n=R at*;have hbe:(byE R)[n]? =some [D.f (.i .u8 p[n].toNat)]:=by simp[byE,hx]
  have hbn:(byE R).length=p.length:=by simp[byE,hL]
  have hbg:∀h:n< (byE R).length,(byE R)[n]=[D.f (.i .u8 p[n].toNat)]:=fun h=>by
   rw[Z0 h]at hbe;exact Z53 hbe
  have hst:(byE R).set n [D.f (.i .u8 (rb r p[n]).toNat)]=byE (R.set n (rb r p[n])):=by
   unfold byE;rw[Z116]
  have hR0:R≠[]:=fun e=>by rw[e]at hL;simp at hL;omega
  have h81:=zCh hR0
  by_cases h64:p[n]=64
  .have hcv:IntKind.u8.wrap (49+(r:Int))=((rb r 64).toNat:Int):=by
    obtain rfl|rfl|rfl:r=0\/r=1\/r=2:=by omega
    all_goals rfl
   have hv:IntKind.i64.wrap (49+(r:Int))=49+(r:Int):=wrap_i64 _ (by omega) (by omega);rw[h64]at hbg hst hnx;have h82:=zCh (R:=R.set n (rb r 64)) (by simpa using hR0);simp[rW,h1,h4,h5,h6,g0,g1,hn,hbg,hbn,hrem,hv,hcv,bin8,hst,h81,h82];refine⟨by omega,⟨?_,?_⟩⟩
   .simp[rW,h1,h4,h5,h6,g0,g1,hw,hnx];rw[<-hnx,Z149]
   .simp[rW,hc]
  .have hne:¬((p[n].toNat:Int)=64):=fun e=>h64 (UInt8.toNat_inj.1 (by have:UInt8.toNat 64=64:=rfl;omega))
   have hrb:rb r p[n]=p[n]:=by unfold rb;rw[Z49 h64]
   rw[hrb,<-Z53 ((Z0 (by omega)).symm.trans hx),Z95]at hnx;simp[rW,h1,h4,h5,h6,g0,g1,hn,hbg,hbn,h64,bin8,hne];refine⟨?_,?_⟩
   .simp[rW,h1,h4,h5,h6,g0,g1,hw,hnx];rw[<-hnx,Z149]
   .simp[rW,hc]
 .rintro s ⟨⟨h1,h4,h5,h6,g0,g1⟩,hc⟩;simp[rW,h1,h4,h5,h6,g0,g1];refine⟨?_,?_⟩
  .simp[rW,h1,h4,h5,h6,g0,g1]
  .simp[rW,hc]
 .refine⟨?_,?_⟩
  .simp[rW]
  .simp[rW]
 .rintro x s ⟨rfl,⟨h1,h4,h5,h6,g0,g1⟩,hc⟩;rw[Z7,Z206,Z22]at g1;have hb2s:=fun(h:Nat->Option Ob) c (hg:h 1=some (.arr 1 0 (byE (p.map (rb r)))))=>v_b2s (c:=c) (lim:=p.length) (ex:=false) hg (len:=p.length) (by simp)
  have n0:¬(0=s.c):=by omega
  have n0':¬(s.c=0):=by omega
  simp only[cqE]at q76|-;simp[rW,h1,h4,h5,h6,g0,g1,zAG,zvD,hb2s,q76,n0,n0',zd8,zeb]
def fn13:pr.fn 13=some g13:=by kernel_rfl
def fn15:pr.fn 15=some g15:=by kernel_rfl
def zs4(n:Int):Ans pr 15 [.i .i64 n] (.ag (Sm.vF n)):=by
 refine zcf fn15 ?_;simp only[g15,rU];unfold Sm.vF;simp -implicitDefEqProofs [rR,st0,zak]
def k31_0:Ans pr 41 [.i .i64 1,.i .i64 2] (.tu [.ag [.b false,.sl 1 [[.i .u32 1]],.sl 1 [[.i .u32 2]]],.i .i64 0]):=rA
def k31_1:Ans pr 41 [.i .i64 1,.i .i64 3] (.tu [.ag [.b false,.sl 1 [[.i .u32 1]],.sl 1 [[.i .u32 3]]],.i .i64 0]):=rA
def k31_2:Ans pr 41 [.i .i64 2,.i .i64 3] (.tu [.ag [.b false,.sl 1 [[.i .u32 2]],.sl 1 [[.i .u32 3]]],.i .i64 0]):=rA
def k31_3:Ans pr 41 [.i .i64 1,.i .i64 4] (.tu [.ag [.b false,.sl 1 [[.i .u32 1]],.sl 1 [[.i .u32 4]]],.i .i64 0]):=rA
def k31_4:Ans pr 41 [.i .i64 1,.i .i64 1] (.tu [.ag [.b false,.sl 1 [[.i .u32 1]],.sl 1 [[.i .u32 1]]],.i .i64 0]):=rA
def k31_5:Ans pr 41 [.i .i64 0,.i .i64 1] (.tu [.ag [.b false,.nils,.sl 1 [[.i .u32 1]]],.i .i64 0]):=rA
def k31_6:Ans pr 41 [.i .i64 3,.i .i64 5] (.tu [.ag [.b false,.sl 1 [[.i .u32 3]],.sl 1 [[.i .u32 5]]],.i .i64 0]):=rA
def k31_7:Ans pr 41 [.i .i64 1,.i .i64 7] (.tu [.ag [.b false,.sl 1 [[.i .u32 1]],.sl 1 [[.i .u32 7]]],.i .i64 0]):=rA
def zsY(n:Int):∃p,PPp p/\Ans pr 13 [.i .i64 n] (.ag p):=by
 obtain⟨r,hr,he⟩ :=zo8 n 7 (by omega);have he':zaK .and (.i .i64 n) (.i .i64 7)=some (.i .i64 r):=he;have main:∃y,(∃p,PPp p/\y= .ag p)/\Ans pr 13 [.i .i64 n] y:=by
  refine zrv fn13 ?_;simp only[g13,rU];have hc:r=0\/r=1\/r=2\/r=3\/r=4\/r=5\/r=6\/r=7:=by omega
  rcases hc with rfl|rfl|rfl|rfl|rfl|rfl|rfl|rfl
  .have q0:=fun k=>zad (k:=k) k31_0
   simp -implicitDefEqProofs [rR,st0,zak,he',q0];exact mg 0 rfl
  .have q0:=fun k=>zad (k:=k) k31_1
   simp -implicitDefEqProofs [rR,st0,zak,he',q0];exact mg 1 rfl
  .have q0:=fun k=>zad (k:=k) k31_2
   simp -implicitDefEqProofs [rR,st0,zak,he',q0];exact mg 2 rfl
  .have q0:=fun k=>zad (k:=k) k31_3
   simp -implicitDefEqProofs [rR,st0,zak,he',q0];exact mg 3 rfl
  .have q0:=fun k=>zad (k:=k) k31_4
   simp -implicitDefEqProofs [rR,st0,zak,he',q0];exact mg 4 rfl
  .have q0:=fun k=>zad (k:=k) k31_5
   simp -implicitDefEqProofs [rR,st0,zak,he',q0];exact mg 5 rfl
  .have q0:=fun k=>zad (k:=k) k31_6
   simp -implicitDefEqProofs [rR,st0,zak,he',q0];exact mg 6 rfl
  .have q0:=fun k=>zad (k:=k) k31_7
   simp -implicitDefEqProofs [rR,st0,zak,he',q0];exact mg 7 rfl
 obtain⟨y,⟨p,hp,rfl⟩,ha⟩ :=main;exact⟨p,hp,ha⟩
def lo2:C:=g4.body.r.r.r.l.r.b.o.r.l.b.r.l.r.b.o
def lo5:C:=lo2.r.l.b.r.r.r.l.r.b.o
def zdA:List (List F):=[[.s [82],.b false,coR],[.s [83],.b false,coS],[.s [75],.b false,coK],[.s [67],.b true,coC]]
def zLx:Ans pr 7 [] (.sl 3 zdA):=rA
def zn6:Ans pr 14 [.i .i64 1] (.ag [.b false,.sl 1 [[.i .u32 1]],.sl 1 [[.i .u32 1]]]):=rA
def pp1:PPp [.b false,.sl 1 [[.i .u32 1]],.sl 1 [[.i .u32 1]]]:=mg 4 rfl
def zhA{α:Type}{P:α->Prop}{l:List α}{t:α}(n:Nat)(h:∀a∈l,P a)(ht:P t):∀a∈l.take n++t::l.drop n,P a:=by
 intro a ha;rcases Z4.1 ha with h1|h1
 .exact h a (Z13 h1)
 .rcases Z5.1 h1 with rfl|h1
  .exact ht
  .exact h a (Z21 h1)
def zht{α:Type}{l:List α}{t:α}(n:Nat)(hn:n<=l.length):(l.take n++t::l.drop n).length=l.length+1:=by
 simp;omega
def Bd(v:List Int):Prop:=∀z∈v,1<=z/\z<=3
def zlg(t:List Int×List F):Prop:=TuR t/\Bd t.1
def zlh(t:List Int×List F):Prop:=TuS t/\Bd t.1
def zlc(t:List Int×List F):Prop:=TuK t/\Bd t.1
def zlb(t:List Int×List F):Prop:=TuC t/\Bd t.1
def CSr(h0:Vse.T Ob)(x:F)(i:Nat)(id:Nat)(dO:D)(n:Nat)(rel:List D)(id9:Nat)(S:St):Prop:=
 S.tm.get 0=some (.f x)/\S.tm.get 4=some (.f (.sl 3 zdA))/\S.tm.get 5=some (.f (.i .i64 i))/\S.tm.get 6=some (.ptr id 4 0 0)/\S.tm.get 3=some dO/\S.tm.get 7=some (.f (.i .i64 n))/\
 S.tm.get 9=some (.ptr id9 4 0 0)/\S.h.get id=some (.arr 4 0 [rel])/\id<id9/\id9<S.c/\∀j,j<id->S.h.get j=h0.get j
theorem cols1(h00:Vse.T Ob)(x:F)(i:Nat)(id:Nat)(dO:D)(n:Nat)(rel:List D)(id9:Nat)(p0 p1 p2:D)(nm:Str)(ce:Bool)(co:F)(hs:zdA[i]? =some [.s nm,.b ce,co])(hcd:co.d= .f co)(lc:zci (.f co)=some 1)
  (b:Nat)(b1 b2 b3 b4:Nat)(hr1:zaK .rem (.i .i64 b) (.i .i64 3)=some (.i .i64 (b1:Int)))(hq1:zaK .quo (.i .i64 b) (.i .i64 3)=some (.i .i64 (b3:Int)))(hr2:zaK .rem (.i .i64 b3) (.i .i64 3)=some (.i .i64 (b2:Int)))(hq2:zaK .quo (.i .i64 b3) (.i .i64 3)=some (.i .i64 (b4:Int)))
  (hb1:b1<3)(hb2:b2<3)(S:St)(Q:Ex->St->Prop)(hS:CSr h00 x i id dO n rel id9 S)(g9:S.h.get id9=some (.arr 4 0 [[.f .nils,p0,p1,p2]]))(h8:S.tm.get 8=some (.f (.i .i64 b)))(h10:S.tm.get 10=some (.f (.i .i64 0)))
  (hQ:∀S' idv,CSr h00 x i id dO n rel id9 S'->S'.h.get id9=some (.arr 4 0 [[.sl idv 0 1 3 1 false,p0,p1,p2]])->S'.h.get idv=some (.arr 3 0 [[.f (.i .i64 1),.f (.i .i64 (1+(b1:Int))),.f (.s [])]])->id9<idv->idv<S'.c->Q (.exit 4) S'):WL pr lo5 S Q:=by
 unfold lo5 lo2 g4;simp only[rU,C.l,C.r,C.b,C.o];obtain⟨h0,h4,h5,h6,h3,h7,h9,g,hi1,hi2,hk⟩ :=hS;have q6a:=fun k=>zad (k:=k) (zs4 (1+(b1:Int)))
 have q6b:=fun k=>zad (k:=k) (zs4 (1+(b2:Int)))
 simp only[Sm.vF]at q6a q6b;have hv1:IntKind.i64.wrap (1+(b1:Int))=1+(b1:Int):=wrap_i64 _ (by omega) (by omega);have hv2:IntKind.i64.wrap (1+(b2:Int))=1+(b2:Int):=wrap_i64 _ (by omega) (by omega);have hw1:IntKind.i64.wrap 1=1:=by decide
 have hw2:IntKind.i64.wrap 2=2:=by decide
 have i1:¬id=S.c+1+1+1+1+1+1+1:=by omega
 have i2:¬id9=S.c+1+1+1+1+1+1+1:=by omega
 have i3:¬S.c+1+1+1+1+1+1+1=id:=by omega
 have i4:¬S.c+1+1+1+1+1+1+1=id9:=by omega
 have i5:¬id=id9:=by omega
 have i6:¬id9=id:=by omega
 refine round ?_;simp -implicitDefEqProofs [rR,h0,h4,h5,h6,h3,h7,h9,g,g9,h8,h10,hs,lc,zcL,hw1,hw2];refine zaw ?_;simp -implicitDefEqProofs [rR,h0,h4,h5,h6,h3,h7,h9,g,g9,h8,h10,hs,lc,zcL,hw1,hw2,hr1,hv1,q6a,hq1,hi2,i1,i2,i3,i4,i5,i6]
 repeat refine⟨by omega,?_⟩
 refine zwc (fun S'=>CSr h00 x i id dO n rel id9 S'/\S'.tm.get 8=some (.f (.i .i64 b3))/\S'.tm.get 10=some (.f (.i .i64 1))/\∃idv,S'.h.get id9=some (.arr 4 0 [[.sl idv 0 1 3 1 false,p0,p1,p2]])/\S'.h.get idv=some (.arr 3 0 [[.f (.i .i64 1),.f (.i .i64 (1+(b1:Int))),.f (.s [])]])/\id9<idv/\idv<S'.c)
  ⟨⟨?_,?_,?_,?_,?_,?_,?_,?_,?_,?_,?_⟩,?_,?_,S.c+1+1+1+1+1+1+1,?_,?_,?_,?_⟩ ?_
 any_goals (simp -implicitDefEqProofs [rR,h0,h4,h5,h6,h3,h7,h9,g,i1,i2,i3,i4,i5,i6];done)
 any_goals (simp only[zbj,zco,zcn,zbd,zcb,zca,zbi,zcm,zcj,zbk,zcr,zcp,za0,zbh,zbf,zct,zcu,zcs];omega)
 any_goals omega
 .intro j hj;rw[<-hk j hj];simp only[zbj,zco,zcn,zbd,zcb,zca,zbi,zcm,zcj,zbk,zcr,zcp,za0,zbh,zbf,zct,zcu,zcs]
  repeat first|rw[TG,Z49 (by omega)]|rw[Vse.T.zbB,Z49 (by omega)]
 clear h0 h4 h5 h6 h3 h7 h9 g hi2 hk i1 i2 i3 i4 g9 h8 h10 i5 i6;rintro S ⟨⟨h0,h4,h5,h6,h3,h7,h9,g,_,hi2,hk⟩,h8,h10,idv,g9,gv,hi4,hi5⟩;refine round ?_;simp -implicitDefEqProofs [rR,h0,h4,h5,h6,h3,h7,h9,g,g9,h8,h10,hs,lc,zcL,hw1,hw2];refine hQ _ idv ⟨?_,?_,?_,?_,?_,?_,?_,?_,hi1,?_,?_⟩ ?_ ?_ hi4 ?_
 any_goals (simp -implicitDefEqProofs [rR,h0,h4,h5,h6,h3,h7,h9,g,g9,gv];done)
 any_goals (simp only[zbj,zco,zcn,zbd,zcb,zca,zbi,zcm,zcj,zbk,zcr,zcp,za0,zbh,zbf,zct,zcu,zcs];omega)
 all_goals (intro j hj;simp only[zbj,zco,zcn,zbd,zcb,zca,zbi,zcm,zcj,zbk,zcr,zcp,za0,zbh,zbf,zct,zcu,zcs];exact hk j hj)
theorem zyT(h00:Vse.T Ob)(x:F)(i:Nat)(id:Nat)(dO:D)(n:Nat)(rel:List D)(id9:Nat)(p0 p1 p2:D)(nm:Str)(ce:Bool)(co:F)(hs:zdA[i]? =some [.s nm,.b ce,co])(hcd:co.d= .f co)(lc:zci (.f co)=some 2)
  (b:Nat)(b1 b2 b3 b4:Nat)(hr1:zaK .rem (.i .i64 b) (.i .i64 3)=some (.i .i64 (b1:Int)))(hq1:zaK .quo (.i .i64 b) (.i .i64 3)=some (.i .i64 (b3:Int)))(hr2:zaK .rem (.i .i64 b3) (.i .i64 3)=some (.i .i64 (b2:Int)))(hq2:zaK .quo (.i .i64 b3) (.i .i64 3)=some (.i .i64 (b4:Int)))
  (hb1:b1<3)(hb2:b2<3)(S:St)(Q:Ex->St->Prop)(hS:CSr h00 x i id dO n rel id9 S)(g9:S.h.get id9=some (.arr 4 0 [[.f .nils,p0,p1,p2]]))(h8:S.tm.get 8=some (.f (.i .i64 b)))(h10:S.tm.get 10=some (.f (.i .i64 0)))
  (hQ:∀S' idv,CSr h00 x i id dO n rel id9 S'->S'.h.get id9=some (.arr 4 0 [[.sl idv 0 2 3 2 false,p0,p1,p2]])->S'.h.get idv=some (.arr 3 0 [[.f (.i .i64 1),.f (.i .i64 (1+(b1:Int))),.f (.s [])],[.f (.i .i64 1),.f (.i .i64 (1+(b2:Int))),.f (.s [])]])->id9<idv->idv<S'.c->Q (.exit 4) S'):WL pr lo5 S Q:=by
 unfold lo5 lo2 g4;simp only[rU,C.l,C.r,C.b,C.o];obtain⟨h0,h4,h5,h6,h3,h7,h9,g,hi1,hi2,hk⟩ :=hS;have q6a:=fun k=>zad (k:=k) (zs4 (1+(b1:Int)))
 have q6b:=fun k=>zad (k:=k) (zs4 (1+(b2:Int)))
 simp only[Sm.vF]at q6a q6b;have hv1:IntKind.i64.wrap (1+(b1:Int))=1+(b1:Int):=wrap_i64 _ (by omega) (by omega);have hv2:IntKind.i64.wrap (1+(b2:Int))=1+(b2:Int):=wrap_i64 _ (by omega) (by omega);have hw1:IntKind.i64.wrap 1=1:=by decide
 have hw2:IntKind.i64.wrap 2=2:=by decide
 have i1:¬id=S.c+1+1+1+1+1+1+1:=by omega
 have i2:¬id9=S.c+1+1+1+1+1+1+1:=by omega
 have i3:¬S.c+1+1+1+1+1+1+1=id:=by omega
 have i4:¬S.c+1+1+1+1+1+1+1=id9:=by omega
 have i5:¬id=id9:=by omega
 have i6:¬id9=id:=by omega
 refine round ?_;simp -implicitDefEqProofs [rR,h0,h4,h5,h6,h3,h7,h9,g,g9,h8,h10,hs,lc,zcL,hw1,hw2];refine zaw ?_;simp -implicitDefEqProofs [rR,h0,h4,h5,h6,h3,h7,h9,g,g9,h8,h10,hs,lc,zcL,hw1,hw2,hr1,hv1,q6a,hq1,hi2,i1,i2,i3,i4,i5,i6]
 repeat refine⟨by omega,?_⟩
 refine zwc (fun S'=>CSr h00 x i id dO n rel id9 S'/\S'.tm.get 8=some (.f (.i .i64 b3))/\S'.tm.get 10=some (.f (.i .i64 1))/\∃idv,S'.h.get id9=some (.arr 4 0 [[.sl idv 0 1 3 1 false,p0,p1,p2]])/\S'.h.get idv=some (.arr 3 0 [[.f (.i .i64 1),.f (.i .i64 (1+(b1:Int))),.f (.s [])]])/\id9<idv/\idv<S'.c)
  ⟨⟨?_,?_,?_,?_,?_,?_,?_,?_,?_,?_,?_⟩,?_,?_,S.c+1+1+1+1+1+1+1,?_,?_,?_,?_⟩ ?_
 any_goals (simp -implicitDefEqProofs [rR,h0,h4,h5,h6,h3,h7,h9,g,i1,i2,i3,i4,i5,i6];done)
 any_goals (simp only[zbj,zco,zcn,zbd,zcb,zca,zbi,zcm,zcj,zbk,zcr,zcp,za0,zbh,zbf,zct,zcu,zcs];omega)
 any_goals omega
 .intro j hj;rw[<-hk j hj];simp only[zbj,zco,zcn,zbd,zcb,zca,zbi,zcm,zcj,zbk,zcr,zcp,za0,zbh,zbf,zct,zcu,zcs]
  repeat first|rw[TG,Z49 (by omega)]|rw[Vse.T.zbB,Z49 (by omega)]
 clear h0 h4 h5 h6 h3 h7 h9 g hi2 hk i1 i2 i3 i4 g9 h8 h10 i5 i6;rintro S ⟨⟨h0,h4,h5,h6,h3,h7,h9,g,_,hi2,hk⟩,h8,h10,idv,g9,gv,hi4,hi5⟩;have i1:¬id=S.c+1+1+1+1+1+1+1:=by omega
 have i2:¬id9=S.c+1+1+1+1+1+1+1:=by omega
 have i3:¬S.c+1+1+1+1+1+1+1=id:=by omega
 have i4:¬S.c+1+1+1+1+1+1+1=id9:=by omega
 have i5:¬id=id9:=by omega
 have i6:¬id9=id:=by omega
 have i7:¬idv=S.c+1+1+1+1+1+1+1:=by omega
 have i8:¬S.c+1+1+1+1+1+1+1=idv:=by omega
 have i9:¬id=idv:=by omega
 have i10:¬id9=idv:=by omega
 have i11:¬idv=id:=by omega
 have i12:¬idv=id9:=by omega
 refine round ?_;simp -implicitDefEqProofs [rR,h0,h4,h5,h6,h3,h7,h9,g,g9,h10,hs,lc,zcL,hw1,hw2,gv];refine zaw ?_;simp -implicitDefEqProofs [rR,h0,h4,h5,h6,h3,h7,h9,g,g9,h8,h10,hs,lc,zcL,hw1,hw2,gv,hr2,hv2,q6b,hq2,hi2,hi5,i1,i2,i3,i4,i5,i6,i7,i8,i9,i10,i11,i12]
 repeat refine⟨by omega,?_⟩
 refine zwc (fun S'=>CSr h00 x i id dO n rel id9 S'/\S'.tm.get 10=some (.f (.i .i64 2))/\∃idv,S'.h.get id9=some (.arr 4 0 [[.sl idv 0 2 3 2 false,p0,p1,p2]])/\S'.h.get idv=some (.arr 3 0 [[.f (.i .i64 1),.f (.i .i64 (1+(b1:Int))),.f (.s [])],[.f (.i .i64 1),.f (.i .i64 (1+(b2:Int))),.f (.s [])]])/\id9<idv/\idv<S'.c)
  ⟨⟨?_,?_,?_,?_,?_,?_,?_,?_,?_,?_,?_⟩,?_,S.c+1+1+1+1+1+1+1,?_,?_,?_,?_⟩ ?_
 any_goals (simp -implicitDefEqProofs [rR,h0,h4,h5,h6,h3,h7,h9,g,i1,i2,i3,i4,i5,i6,i7,i8,i9,i10,i11,i12];done)
 any_goals (simp only[zbj,zco,zcn,zbd,zcb,zca,zbi,zcm,zcj,zbk,zcr,zcp,za0,zbh,zbf,zct,zcu,zcs];omega)
 any_goals omega
 .intro j hj;rw[<-hk j hj];simp only[zbj,zco,zcn,zbd,zcb,zca,zbi,zcm,zcj,zbk,zcr,zcp,za0,zbh,zbf,zct,zcu,zcs]
  repeat first|rw[TG,Z49 (by omega)]|rw[Vse.T.zbB,Z49 (by omega)]
 clear h0 h4 h5 h6 h3 h7 h9 g hi2 hk i1 i2 i3 i4 g9 h8 h10 i5 i6 i7 i8 i9 i10 i11 i12 gv hi4 hi5 idv;rintro S ⟨⟨h0,h4,h5,h6,h3,h7,h9,g,_,hi2,hk⟩,h10,idv,g9,gv,hi4,hi5⟩;refine round ?_;simp -implicitDefEqProofs [rR,h0,h4,h5,h6,h3,h7,h9,g,g9,h10,hs,lc,zcL,hw1,hw2];refine hQ _ idv ⟨?_,?_,?_,?_,?_,?_,?_,?_,hi1,?_,?_⟩ ?_ ?_ hi4 ?_
 any_goals (simp -implicitDefEqProofs [rR,h0,h4,h5,h6,h3,h7,h9,g,g9,gv];done)
 any_goals (simp only[zbj,zco,zcn,zbd,zcb,zca,zbi,zcm,zcj,zbk,zcr,zcp,za0,zbh,zbf,zct,zcu,zcs];omega)
 all_goals (intro j hj;simp only[zbj,zco,zcn,zbd,zcb,zca,zbi,zcm,zcj,zbk,zcr,zcp,za0,zbh,zbf,zct,zcu,zcs];exact hk j hj)
def KB(nm:Str)(ce:Bool)(co:F)(Tu:List Int×List F->Prop)(i:Int)(x:F)(id:Nat)(dO:D)(els:List (List D))(tu:List (List Int×List F))(s:St):Prop:=
 ((∀t∈tu,Tu t)/\Gd ⟨nm,ce,co,tu⟩)/\s.tm.get 0=some (.f x)/\s.tm.get 4=some (.f (.sl 3 zdA))/\s.tm.get 5=some (.f (.i .i64 i))/\s.tm.get 6=some (.ptr id 4 0 0)/\s.tm.get 3=some dO/\
 s.h.get id=some (.arr 4 0 [[.f (.s nm),.f (.b ce),.f co,.f (slc 4 (tu.map tuF))]])/\Grow s.h 0 id 4 dO els/\id<s.c
def KI(nm:Str)(ce:Bool)(co:F)(Tu:List Int×List F->Prop)(i:Int)(x:F)(id:Nat)(dO:D)(els:List (List D))(k:Nat)(s:St):Prop:=
 ∃n tu,n<=3/\k=3 - n/\tu.length<=n/\s.tm.get 7=some (.f (.i .i64 (n:Nat)))/\KB nm ce co Tu i x id dO els tu s
def KR(nm:Str)(ce:Bool)(co:F)(Tu:List Int×List F->Prop)(i:Int)(x:F)(id:Nat)(dO:D)(els:List (List D))(e:Ex)(s:St):Prop:=
 e= .exit 2/\∃tu,tu.length<=3/\KB nm ce co Tu i x id dO els tu s
def stepR(x:F)(hx:zcG x)(hxd:x.d= .f x)(id:Nat)(dO:D)(els:List (List D)):∀k s,KI [82] false coR zlg 0 x id dO els k s->wpC pr lo2 s (lp (KI [82] false coR zlg 0 x id dO els) k (KR [82] false coR zlg 0 x id dO els)):=by
 unfold lo2 g4;simp only[rU,C.l,C.r,C.b,C.o];rintro k s ⟨n,tu,hn,rfl,htl,h7,⟨hT,hG⟩,h0,h4,h5,h6,h3,g,hg,c0⟩;obtain⟨a,ha,h14⟩ :=zjo hx 0 (by omega);obtain⟨b,hb,h14b⟩ :=zjo hx (4+n) (by omega);have q14:=fun k=>zad (k:=k) h14
 have hrm:=zde a 4 (by omega);have hm4:a%4<4:=Z124 _ (by omega);have hs:zdA[0]? =some [.s [82],.b false,coR]:=rfl;have hmul:zaK .mul (.i .i64 3) (.i .i64 0)=some (.i .i64 0):=rfl;have hw:=zao n (by omega);rw[show((0:Nat):Int)=0 from rfl]at q14;rw[show((4:Nat):Int)=4 from rfl]at hrm;generalize a%4=m4 at hrm hm4
 by_cases hlt:n<m4
 .by_cases hgo:True
  .have hw4:IntKind.i64.wrap (4:Int)=4:=rfl;have hwn:IntKind.i64.wrap ((4:Int)+(n:Int))=((4+n:Nat):Int):=wrap_i64 _ (by omega) (by omega);have q14b:=fun k=>zad (k:=k) h14b
   have hci:((4+n:Nat):Int)=(4:Int)+(n:Int):=rfl;rw[hci]at q14b hwn;obtain⟨z,hz⟩ :∃r:Int,zaK .shr (.i .i64 b) (.i .u64 4)=some (.i .i64 r):=⟨_,rfl⟩
   obtain⟨p,hp,h15⟩ :=zsY z;obtain⟨p0,p1,p2,rfl,hd0,hd1,hd2⟩ :=zaS _ hp;have q15:=fun k=>zad (k:=k) h15
   have q16:=fun k=>zad (k:=k) zn6
   have hr1:=zde b 3 (by omega);have hq1:=zgw b 3 (by omega) (by omega);have hr2:=zde (b/3) 3 (by omega);have hq2:=zgw (b/3) 3 (by omega) (by have:b/3<=b:=Nat.div_le_self _ _;omega);rw[show((3:Nat):Int)=3 from rfl]at hr1 hq1 hr2 hq2;have hb1:b%3<3:=Z124 _ (by omega);have hb2:b/3%3<3:=Z124 _ (by omega);generalize b/3%3=b2 at hr2 hb2;generalize b/3/3=b4 at hq2;generalize b/3=b3 at hq1 hr2 hq2;generalize b%3=b1 at hr1 hb1;have k1:¬id=s.c:=by omega
   have hok0:TuR ([1+(b1:Int),1+(b2:Int)],[p0,p1,p2]):=⟨hp,1+(b1:Int),1+(b2:Int),rfl,by omega,by omega⟩
   have hok:zlg ([1+(b1:Int),1+(b2:Int)],[p0,p1,p2]):=⟨hok0,fun z hz=>by simp only[Z5,Z164,or_false]at hz;omega⟩
   obtain⟨y,hy,h17⟩ :=zs5 zq4 [82] false coR tu (okR tu (by omega) fun t h=>(hT t h).1) (by omega) ([1+(b1:Int),1+(b2:Int)],[p0,p1,p2]) hp (ckR _ hok.1) (fun m hm=>okR _ (by rw[zht m hm];omega) fun t h=>(zhA m hT hok t h).1);have h17:Ans pr 16 [.ag [.s [82],.b false,coR,slc 4 (tu.map tuF)],.ag [.sl 3 [[.i .i64 1,.i .i64 (1+(b1:Int)),.s []],[.i .i64 1,.i .i64 (1+(b2:Int)),.s []]],p0,p1,p2]] y:=h17;simp -implicitDefEqProofs [rR,h0,h4,h5,h6,h3,h7,g,hxd,q14,hrm,hlt,hs,hgo,hmul,hw4,hwn,q14b,hz,q15,q16,hd0,hd1,hd2];refine zyT s.h x 0 id dO n [.f (.s [82]),.f (.b false),.f coR,.f (slc 4 (tu.map tuF))] s.c (.f p0) (.f p1) (.f p2) [82] false coR rfl rfl rfl b b1 b2 b3 b4 hr1 hq1 hr2 hq2 hb1 hb2 _ _ ⟨?_,?_,?_,?_,?_,?_,?_,?_,?_,?_,?_⟩ ?_ ?_ ?_ ?_
   any_goals (simp -implicitDefEqProofs [rR,h0,h4,h5,h6,h3,h7,g,k1];done)
   .omega
   .intro j hj;simp only[zbj,zco,zcn,zbd,zcb,zca,zbi,zcm,zcj,zbk,zcr,zcp,za0,zbh,zbf,zct,zcu,zcs]
    repeat first|rw[TG,Z49 (by omega)]|rw[Vse.T.zbB,Z49 (by omega)]
   .clear h0 h4 h5 h6 h3 h7 g k1;intro S idv hS g9 gv hi4 hi5;obtain⟨h0,h4,h5,h6,h3,h7,h9,g,hi1,hi2,hk⟩ :=hS;rw[show((0:Nat):Int)=0 from rfl]at h5;have hcd:coR.d= .f coR:=rfl;have hcc:(D.f coR).cells=some [.f coR]:=rfl;have j1:¬id=s.c:=by omega
    have j2:¬id=idv:=by omega
    have j3:¬id=S.c:=by omega
    have j4:¬s.c=id:=by omega
    have j5:¬s.c=idv:=by omega
    have j6:¬s.c=S.c:=by omega
    have j7:¬idv=id:=by omega
    have j8:¬idv=s.c:=by omega
    have j9:¬idv=S.c:=by omega
    have j10:¬S.c=id:=by omega
    have j11:¬S.c=s.c:=by omega
    have j12:¬S.c=idv:=by omega
    have keep:∀h':Vse.T Ob,(∀j,j<id->h'.get j=S.h.get j)->Grow h' 0 id 4 dO els:=fun h' hh=>Vse.zeI hg (fun j hj=>(hh j hj).trans (hk j hj)) (Z2 _)
    rcases hy with⟨e,he,rfl⟩ |⟨m,hm,hgd,rfl⟩
    .have q17:=fun k=>zad (k:=k) h17
     simp only[zRl]at q17;simp -implicitDefEqProofs [rR,h0,h4,h5,h6,h3,h7,h9,g,g9,gv,hcd,hcc,hd0,hd1,hd2,hi2,hi5,j1,j2,j3,j4,j5,j6,j7,j8,j9,j10,j11,j12,q17,he,hw];rw[zdq];refine⟨3 - (n+1),by omega,n+1,tu,by omega,rfl,by omega,?_,⟨hT,hG⟩,?_,?_,?_,?_,?_,?_,?_,?_⟩
     any_goals (simp -implicitDefEqProofs [rR,h0,h4,h5,h6,h3,h7,h9,g,g9,gv,hcd,hcc,hd0,hd1,hd2,hi2,hi5,j1,j2,j3,j4,j5,j6,j7,j8,j9,j10,j11,j12];done)
     .simp only[zbj,zco,zcn,zbd,zcb,zca,zbi,zcm,zcj,zbk,zcr,zcp,za0,zbh,zbf,zct,zcu,zcs];refine keep _ ?_;intro j hj
      repeat first|rw[TG,Z49 (by omega)]|rw[Vse.T.zbB,Z49 (by omega)]
     all_goals (simp only[zbj,zco,zcn,zbd,zcb,zca,zbi,zcm,zcj,zbk,zcr,zcp,za0,zbh,zbf,zct,zcu,zcs];omega)
    .have q17:=fun k=>zad (k:=k) h17
     simp only[rlF]at q17;simp -implicitDefEqProofs [rR,h0,h4,h5,h6,h3,h7,h9,g,g9,gv,hcd,hcc,hd0,hd1,hd2,hi2,hi5,j1,j2,j3,j4,j5,j6,j7,j8,j9,j10,j11,j12,q17,hw];refine⟨by omega,?_⟩;rw[zdq];refine⟨3 - (n+1),by omega,n+1,tu.take m++([1+(b1:Int),1+(b2:Int)],[p0,p1,p2])::tu.drop m,by omega,rfl,by rw[zht m hm];omega,?_,⟨zhA m hT hok,hgd⟩,?_,?_,?_,?_,?_,?_,?_,?_⟩
     any_goals (simp -implicitDefEqProofs [rR,h0,h4,h5,h6,h3,h7,h9,g,g9,gv,hcd,hcc,hd0,hd1,hd2,hi2,hi5,j1,j2,j3,j4,j5,j6,j7,j8,j9,j10,j11,j12];done)
     .simp only[zbj,zco,zcn,zbd,zcb,zca,zbi,zcm,zcj,zbk,zcr,zcp,za0,zbh,zbf,zct,zcu,zcs];refine keep _ ?_;intro j hj
      repeat first|rw[TG,Z49 (by omega)]|rw[Vse.T.zbB,Z49 (by omega)]
     all_goals (simp only[zbj,zco,zcn,zbd,zcb,zca,zbi,zcm,zcj,zbk,zcr,zcp,za0,zbh,zbf,zct,zcu,zcs];omega)
  .exact absurd trivial hgo
 .simp -implicitDefEqProofs [rR,h0,h4,h5,h6,h3,h7,g,hxd,q14,hrm,hlt,hs];refine⟨rfl,tu,by omega,⟨hT,hG⟩,?_,?_,?_,?_,?_,?_,?_,?_⟩
  all_goals simp -implicitDefEqProofs [rR,h0,h4,h5,h6,h3,g,hg,c0]
def stepS(x:F)(hx:zcG x)(hxd:x.d= .f x)(id:Nat)(dO:D)(els:List (List D)):∀k s,KI [83] false coS zlh 1 x id dO els k s->wpC pr lo2 s (lp (KI [83] false coS zlh 1 x id dO els) k (KR [83] false coS zlh 1 x id dO els)):=by
 unfold lo2 g4;simp only[rU,C.l,C.r,C.b,C.o];rintro k s ⟨n,tu,hn,rfl,htl,h7,⟨hT,hG⟩,h0,h4,h5,h6,h3,g,hg,c0⟩;obtain⟨a,ha,h14⟩ :=zjo hx 1 (by omega);obtain⟨b,hb,h14b⟩ :=zjo hx (7+n) (by omega);have q14:=fun k=>zad (k:=k) h14
 have hrm:=zde a 4 (by omega);have hm4:a%4<4:=Z124 _ (by omega);have hs:zdA[1]? =some [.s [83],.b false,coS]:=rfl;have hmul:zaK .mul (.i .i64 3) (.i .i64 1)=some (.i .i64 3):=rfl;have hw:=zao n (by omega);rw[show((1:Nat):Int)=1 from rfl]at q14;rw[show((4:Nat):Int)=4 from rfl]at hrm;generalize a%4=m4 at hrm hm4
 by_cases hlt:n<m4
 .by_cases hgo:¬n=2
  .have hw4:IntKind.i64.wrap (7:Int)=7:=rfl;have hwn:IntKind.i64.wrap ((7:Int)+(n:Int))=((7+n:Nat):Int):=wrap_i64 _ (by omega) (by omega);have q14b:=fun k=>zad (k:=k) h14b
   have hci:((7+n:Nat):Int)=(7:Int)+(n:Int):=rfl;rw[hci]at q14b hwn;obtain⟨z,hz⟩ :∃r:Int,zaK .shr (.i .i64 b) (.i .u64 4)=some (.i .i64 r):=⟨_,rfl⟩
   obtain⟨p,hp,h15⟩ :=zsY z;obtain⟨p0,p1,p2,rfl,hd0,hd1,hd2⟩ :=zaS _ hp;have q15:=fun k=>zad (k:=k) h15
   have q16:=fun k=>zad (k:=k) zn6
   have hr1:=zde b 3 (by omega);have hq1:=zgw b 3 (by omega) (by omega);have hr2:=zde (b/3) 3 (by omega);have hq2:=zgw (b/3) 3 (by omega) (by have:b/3<=b:=Nat.div_le_self _ _;omega);rw[show((3:Nat):Int)=3 from rfl]at hr1 hq1 hr2 hq2;have hb1:b%3<3:=Z124 _ (by omega);have hb2:b/3%3<3:=Z124 _ (by omega);generalize b/3%3=b2 at hr2 hb2;generalize b/3/3=b4 at hq2;generalize b/3=b3 at hq1 hr2 hq2;generalize b%3=b1 at hr1 hb1;have k1:¬id=s.c:=by omega
   have hok0:TuS ([1+(b1:Int)],[p0,p1,p2]):=⟨hp,1+(b1:Int),rfl⟩
   have hok:zlh ([1+(b1:Int)],[p0,p1,p2]):=⟨hok0,fun z hz=>by simp only[Z5,Z164,or_false]at hz;omega⟩
   obtain⟨y,hy,h17⟩ :=zs5 zq4 [83] false coS tu (okS tu (by omega) fun t h=>(hT t h).1) (by omega) ([1+(b1:Int)],[p0,p1,p2]) hp (ckS _ hok.1) (fun m hm=>okS _ (by rw[zht m hm];omega) fun t h=>(zhA m hT hok t h).1);have h17:Ans pr 16 [.ag [.s [83],.b false,coS,slc 4 (tu.map tuF)],.ag [.sl 3 [[.i .i64 1,.i .i64 (1+(b1:Int)),.s []]],p0,p1,p2]] y:=h17;have hgi:¬(n:Int)=2:=by omega
   simp -implicitDefEqProofs [rR,h0,h4,h5,h6,h3,h7,g,hxd,q14,hrm,hlt,hs,hgi,hgo,hmul,hw4,hwn,q14b,hz,q15,q16,hd0,hd1,hd2];refine cols1 s.h x 1 id dO n [.f (.s [83]),.f (.b false),.f coS,.f (slc 4 (tu.map tuF))] s.c (.f p0) (.f p1) (.f p2) [83] false coS rfl rfl rfl b b1 b2 b3 b4 hr1 hq1 hr2 hq2 hb1 hb2 _ _ ⟨?_,?_,?_,?_,?_,?_,?_,?_,?_,?_,?_⟩ ?_ ?_ ?_ ?_
   any_goals (simp -implicitDefEqProofs [rR,h0,h4,h5,h6,h3,h7,g,k1];done)
   .omega
   .intro j hj;simp only[zbj,zco,zcn,zbd,zcb,zca,zbi,zcm,zcj,zbk,zcr,zcp,za0,zbh,zbf,zct,zcu,zcs]
    repeat first|rw[TG,Z49 (by omega)]|rw[Vse.T.zbB,Z49 (by omega)]
   .clear h0 h4 h5 h6 h3 h7 g k1;intro S idv hS g9 gv hi4 hi5;obtain⟨h0,h4,h5,h6,h3,h7,h9,g,hi1,hi2,hk⟩ :=hS;rw[show((1:Nat):Int)=1 from rfl]at h5;have hcd:coS.d= .f coS:=rfl;have hcc:(D.f coS).cells=some [.f coS]:=rfl;have j1:¬id=s.c:=by omega
    have j2:¬id=idv:=by omega
    have j3:¬id=S.c:=by omega
    have j4:¬s.c=id:=by omega
    have j5:¬s.c=idv:=by omega
    have j6:¬s.c=S.c:=by omega
    have j7:¬idv=id:=by omega
    have j8:¬idv=s.c:=by omega
    have j9:¬idv=S.c:=by omega
    have j10:¬S.c=id:=by omega
    have j11:¬S.c=s.c:=by omega
    have j12:¬S.c=idv:=by omega
    have keep:∀h':Vse.T Ob,(∀j,j<id->h'.get j=S.h.get j)->Grow h' 0 id 4 dO els:=fun h' hh=>Vse.zeI hg (fun j hj=>(hh j hj).trans (hk j hj)) (Z2 _)
    rcases hy with⟨e,he,rfl⟩ |⟨m,hm,hgd,rfl⟩
    .have q17:=fun k=>zad (k:=k) h17
     simp only[zRl]at q17;simp -implicitDefEqProofs [rR,h0,h4,h5,h6,h3,h7,h9,g,g9,gv,hcd,hcc,hd0,hd1,hd2,hi2,hi5,j1,j2,j3,j4,j5,j6,j7,j8,j9,j10,j11,j12,q17,he,hw];rw[zdq];refine⟨3 - (n+1),by omega,n+1,tu,by omega,rfl,by omega,?_,⟨hT,hG⟩,?_,?_,?_,?_,?_,?_,?_,?_⟩
     any_goals (simp -implicitDefEqProofs [rR,h0,h4,h5,h6,h3,h7,h9,g,g9,gv,hcd,hcc,hd0,hd1,hd2,hi2,hi5,j1,j2,j3,j4,j5,j6,j7,j8,j9,j10,j11,j12];done)
     .simp only[zbj,zco,zcn,zbd,zcb,zca,zbi,zcm,zcj,zbk,zcr,zcp,za0,zbh,zbf,zct,zcu,zcs];refine keep _ ?_;intro j hj
      repeat first|rw[TG,Z49 (by omega)]|rw[Vse.T.zbB,Z49 (by omega)]
     all_goals (simp only[zbj,zco,zcn,zbd,zcb,zca,zbi,zcm,zcj,zbk,zcr,zcp,za0,zbh,zbf,zct,zcu,zcs];omega)
    .have q17:=fun k=>zad (k:=k) h17
     simp only[rlF]at q17;simp -implicitDefEqProofs [rR,h0,h4,h5,h6,h3,h7,h9,g,g9,gv,hcd,hcc,hd0,hd1,hd2,hi2,hi5,j1,j2,j3,j4,j5,j6,j7,j8,j9,j10,j11,j12,q17,hw];refine⟨by omega,?_⟩;rw[zdq];refine⟨3 - (n+1),by omega,n+1,tu.take m++([1+(b1:Int)],[p0,p1,p2])::tu.drop m,by omega,rfl,by rw[zht m hm];omega,?_,⟨zhA m hT hok,hgd⟩,?_,?_,?_,?_,?_,?_,?_,?_⟩
     any_goals (simp -implicitDefEqProofs [rR,h0,h4,h5,h6,h3,h7,h9,g,g9,gv,hcd,hcc,hd0,hd1,hd2,hi2,hi5,j1,j2,j3,j4,j5,j6,j7,j8,j9,j10,j11,j12];done)
     .simp only[zbj,zco,zcn,zbd,zcb,zca,zbi,zcm,zcj,zbk,zcr,zcp,za0,zbh,zbf,zct,zcu,zcs];refine keep _ ?_;intro j hj
      repeat first|rw[TG,Z49 (by omega)]|rw[Vse.T.zbB,Z49 (by omega)]
     all_goals (simp only[zbj,zco,zcn,zbd,zcb,zca,zbi,zcm,zcj,zbk,zcr,zcp,za0,zbh,zbf,zct,zcu,zcs];omega)
  .have h2:n=2:=by omega
   subst h2;rw[show((2:Nat):Int)=2 from rfl]at h7;have hlt2:(2:Int)< (m4:Int):=by omega
   simp -implicitDefEqProofs [rR,h0,h4,h5,h6,h3,h7,g,hxd,q14,hrm,hlt,hs,hlt2];refine⟨rfl,tu,by omega,⟨hT,hG⟩,?_,?_,?_,?_,?_,?_,?_,?_⟩
   all_goals simp -implicitDefEqProofs [rR,h0,h4,h5,h6,h3,g,hg,c0]
 .simp -implicitDefEqProofs [rR,h0,h4,h5,h6,h3,h7,g,hxd,q14,hrm,hlt,hs];refine⟨rfl,tu,by omega,⟨hT,hG⟩,?_,?_,?_,?_,?_,?_,?_,?_⟩
  all_goals simp -implicitDefEqProofs [rR,h0,h4,h5,h6,h3,g,hg,c0]
def stepK(x:F)(hx:zcG x)(hxd:x.d= .f x)(id:Nat)(dO:D)(els:List (List D)):∀k s,KI [75] false coK zlc 2 x id dO els k s->wpC pr lo2 s (lp (KI [75] false coK zlc 2 x id dO els) k (KR [75] false coK zlc 2 x id dO els)):=by
 unfold lo2 g4;simp only[rU,C.l,C.r,C.b,C.o];rintro k s ⟨n,tu,hn,rfl,htl,h7,⟨hT,hG⟩,h0,h4,h5,h6,h3,g,hg,c0⟩;obtain⟨a,ha,h14⟩ :=zjo hx 2 (by omega);obtain⟨b,hb,h14b⟩ :=zjo hx (10+n) (by omega);have q14:=fun k=>zad (k:=k) h14
 have hrm:=zde a 4 (by omega);have hm4:a%4<4:=Z124 _ (by omega);have hs:zdA[2]? =some [.s [75],.b false,coK]:=rfl;have hmul:zaK .mul (.i .i64 3) (.i .i64 2)=some (.i .i64 6):=rfl;have hw:=zao n (by omega);rw[show((2:Nat):Int)=2 from rfl]at q14;rw[show((4:Nat):Int)=4 from rfl]at hrm;generalize a%4=m4 at hrm hm4
 by_cases hlt:n<m4
 .by_cases hgo:True
  .have hw4:IntKind.i64.wrap (10:Int)=10:=rfl;have hwn:IntKind.i64.wrap ((10:Int)+(n:Int))=((10+n:Nat):Int):=wrap_i64 _ (by omega) (by omega);have q14b:=fun k=>zad (k:=k) h14b
   have hci:((10+n:Nat):Int)=(10:Int)+(n:Int):=rfl;rw[hci]at q14b hwn;obtain⟨z,hz⟩ :∃r:Int,zaK .shr (.i .i64 b) (.i .u64 4)=some (.i .i64 r):=⟨_,rfl⟩
   obtain⟨p,hp,h15⟩ :=zsY z;obtain⟨p0,p1,p2,rfl,hd0,hd1,hd2⟩ :=zaS _ hp;have q15:=fun k=>zad (k:=k) h15
   have q16:=fun k=>zad (k:=k) zn6
   have hr1:=zde b 3 (by omega);have hq1:=zgw b 3 (by omega) (by omega);have hr2:=zde (b/3) 3 (by omega);have hq2:=zgw (b/3) 3 (by omega) (by have:b/3<=b:=Nat.div_le_self _ _;omega);rw[show((3:Nat):Int)=3 from rfl]at hr1 hq1 hr2 hq2;have hb1:b%3<3:=Z124 _ (by omega);have hb2:b/3%3<3:=Z124 _ (by omega);generalize b/3%3=b2 at hr2 hb2;generalize b/3/3=b4 at hq2;generalize b/3=b3 at hq1 hr2 hq2;generalize b%3=b1 at hr1 hb1;have k1:¬id=s.c:=by omega
   have hok0:TuK ([1+(b1:Int),1+(b2:Int)],[p0,p1,p2]):=⟨hp,1+(b1:Int),1+(b2:Int),rfl,by omega,by omega⟩
   have hok:zlc ([1+(b1:Int),1+(b2:Int)],[p0,p1,p2]):=⟨hok0,fun z hz=>by simp only[Z5,Z164,or_false]at hz;omega⟩
   obtain⟨y,hy,h17⟩ :=zs5 zq4 [75] false coK tu (okK tu (by omega) fun t h=>(hT t h).1) (by omega) ([1+(b1:Int),1+(b2:Int)],[p0,p1,p2]) hp (ckK _ hok.1) (fun m hm=>okK _ (by rw[zht m hm];omega) fun t h=>(zhA m hT hok t h).1);have h17:Ans pr 16 [.ag [.s [75],.b false,coK,slc 4 (tu.map tuF)],.ag [.sl 3 [[.i .i64 1,.i .i64 (1+(b1:Int)),.s []],[.i .i64 1,.i .i64 (1+(b2:Int)),.s []]],p0,p1,p2]] y:=h17;simp -implicitDefEqProofs [rR,h0,h4,h5,h6,h3,h7,g,hxd,q14,hrm,hlt,hs,hgo,hmul,hw4,hwn,q14b,hz,q15,q16,hd0,hd1,hd2];refine zyT s.h x 2 id dO n [.f (.s [75]),.f (.b false),.f coK,.f (slc 4 (tu.map tuF))] s.c (.f p0) (.f p1) (.f p2) [75] false coK rfl rfl rfl b b1 b2 b3 b4 hr1 hq1 hr2 hq2 hb1 hb2 _ _ ⟨?_,?_,?_,?_,?_,?_,?_,?_,?_,?_,?_⟩ ?_ ?_ ?_ ?_
   any_goals (simp -implicitDefEqProofs [rR,h0,h4,h5,h6,h3,h7,g,k1];done)
   .omega
   .intro j hj;simp only[zbj,zco,zcn,zbd,zcb,zca,zbi,zcm,zcj,zbk,zcr,zcp,za0,zbh,zbf,zct,zcu,zcs]
    repeat first|rw[TG,Z49 (by omega)]|rw[Vse.T.zbB,Z49 (by omega)]
   .clear h0 h4 h5 h6 h3 h7 g k1;intro S idv hS g9 gv hi4 hi5;obtain⟨h0,h4,h5,h6,h3,h7,h9,g,hi1,hi2,hk⟩ :=hS;rw[show((2:Nat):Int)=2 from rfl]at h5;have hcd:coK.d= .f coK:=rfl;have hcc:(D.f coK).cells=some [.f coK]:=rfl;have j1:¬id=s.c:=by omega
    have j2:¬id=idv:=by omega
    have j3:¬id=S.c:=by omega
    have j4:¬s.c=id:=by omega
    have j5:¬s.c=idv:=by omega
    have j6:¬s.c=S.c:=by omega
    have j7:¬idv=id:=by omega
    have j8:¬idv=s.c:=by omega
    have j9:¬idv=S.c:=by omega
    have j10:¬S.c=id:=by omega
    have j11:¬S.c=s.c:=by omega
    have j12:¬S.c=idv:=by omega
    have keep:∀h':Vse.T Ob,(∀j,j<id->h'.get j=S.h.get j)->Grow h' 0 id 4 dO els:=fun h' hh=>Vse.zeI hg (fun j hj=>(hh j hj).trans (hk j hj)) (Z2 _)
    rcases hy with⟨e,he,rfl⟩ |⟨m,hm,hgd,rfl⟩
    .have q17:=fun k=>zad (k:=k) h17
     simp only[zRl]at q17;simp -implicitDefEqProofs [rR,h0,h4,h5,h6,h3,h7,h9,g,g9,gv,hcd,hcc,hd0,hd1,hd2,hi2,hi5,j1,j2,j3,j4,j5,j6,j7,j8,j9,j10,j11,j12,q17,he,hw];rw[zdq];refine⟨3 - (n+1),by omega,n+1,tu,by omega,rfl,by omega,?_,⟨hT,hG⟩,?_,?_,?_,?_,?_,?_,?_,?_⟩
     any_goals (simp -implicitDefEqProofs [rR,h0,h4,h5,h6,h3,h7,h9,g,g9,gv,hcd,hcc,hd0,hd1,hd2,hi2,hi5,j1,j2,j3,j4,j5,j6,j7,j8,j9,j10,j11,j12];done)
     .simp only[zbj,zco,zcn,zbd,zcb,zca,zbi,zcm,zcj,zbk,zcr,zcp,za0,zbh,zbf,zct,zcu,zcs];refine keep _ ?_;intro j hj
      repeat first|rw[TG,Z49 (by omega)]|rw[Vse.T.zbB,Z49 (by omega)]
     all_goals (simp only[zbj,zco,zcn,zbd,zcb,zca,zbi,zcm,zcj,zbk,zcr,zcp,za0,zbh,zbf,zct,zcu,zcs];omega)
    .have q17:=fun k=>zad (k:=k) h17
     simp only[rlF]at q17;simp -implicitDefEqProofs [rR,h0,h4,h5,h6,h3,h7,h9,g,g9,gv,hcd,hcc,hd0,hd1,hd2,hi2,hi5,j1,j2,j3,j4,j5,j6,j7,j8,j9,j10,j11,j12,q17,hw];refine⟨by omega,?_⟩;rw[zdq];refine⟨3 - (n+1),by omega,n+1,tu.take m++([1+(b1:Int),1+(b2:Int)],[p0,p1,p2])::tu.drop m,by omega,rfl,by rw[zht m hm];omega,?_,⟨zhA m hT hok,hgd⟩,?_,?_,?_,?_,?_,?_,?_,?_⟩
     any_goals (simp -implicitDefEqProofs [rR,h0,h4,h5,h6,h3,h7,h9,g,g9,gv,hcd,hcc,hd0,hd1,hd2,hi2,hi5,j1,j2,j3,j4,j5,j6,j7,j8,j9,j10,j11,j12];done)
     .simp only[zbj,zco,zcn,zbd,zcb,zca,zbi,zcm,zcj,zbk,zcr,zcp,za0,zbh,zbf,zct,zcu,zcs];refine keep _ ?_;intro j hj
      repeat first|rw[TG,Z49 (by omega)]|rw[Vse.T.zbB,Z49 (by omega)]
     all_goals (simp only[zbj,zco,zcn,zbd,zcb,zca,zbi,zcm,zcj,zbk,zcr,zcp,za0,zbh,zbf,zct,zcu,zcs];omega)
  .exact absurd trivial hgo
 .simp -implicitDefEqProofs [rR,h0,h4,h5,h6,h3,h7,g,hxd,q14,hrm,hlt,hs];refine⟨rfl,tu,by omega,⟨hT,hG⟩,?_,?_,?_,?_,?_,?_,?_,?_⟩
  all_goals simp -implicitDefEqProofs [rR,h0,h4,h5,h6,h3,g,hg,c0]
def stepC(x:F)(hx:zcG x)(hxd:x.d= .f x)(id:Nat)(dO:D)(els:List (List D)):∀k s,KI [67] true coC zlb 3 x id dO els k s->wpC pr lo2 s (lp (KI [67] true coC zlb 3 x id dO els) k (KR [67] true coC zlb 3 x id dO els)):=by
 unfold lo2 g4;simp only[rU,C.l,C.r,C.b,C.o];rintro k s ⟨n,tu,hn,rfl,htl,h7,⟨hT,hG⟩,h0,h4,h5,h6,h3,g,hg,c0⟩;obtain⟨a,ha,h14⟩ :=zjo hx 3 (by omega);obtain⟨b,hb,h14b⟩ :=zjo hx (13+n) (by omega);have q14:=fun k=>zad (k:=k) h14
 have hrm:=zde a 4 (by omega);have hm4:a%4<4:=Z124 _ (by omega);have hs:zdA[3]? =some [.s [67],.b true,coC]:=rfl;have hmul:zaK .mul (.i .i64 3) (.i .i64 3)=some (.i .i64 9):=rfl;have hw:=zao n (by omega);rw[show((3:Nat):Int)=3 from rfl]at q14;rw[show((4:Nat):Int)=4 from rfl]at hrm;generalize a%4=m4 at hrm hm4
 by_cases hlt:n<m4
 .by_cases hgo:True
  .have hw4:IntKind.i64.wrap (13:Int)=13:=rfl;have hwn:IntKind.i64.wrap ((13:Int)+(n:Int))=((13+n:Nat):Int):=wrap_i64 _ (by omega) (by omega);have q14b:=fun k=>zad (k:=k) h14b
   have hci:((13+n:Nat):Int)=(13:Int)+(n:Int):=rfl;rw[hci]at q14b hwn;obtain⟨z,hz⟩ :∃r:Int,zaK .shr (.i .i64 b) (.i .u64 4)=some (.i .i64 r):=⟨_,rfl⟩
   obtain⟨p,hp,h15⟩ :=zsY z;obtain⟨p0,p1,p2,rfl,hd0,hd1,hd2⟩ :=zaS _ hp;have q15:=fun k=>zad (k:=k) h15
   have q16:=fun k=>zad (k:=k) zn6
   have hr1:=zde b 3 (by omega);have hq1:=zgw b 3 (by omega) (by omega);have hr2:=zde (b/3) 3 (by omega);have hq2:=zgw (b/3) 3 (by omega) (by have:b/3<=b:=Nat.div_le_self _ _;omega);rw[show((3:Nat):Int)=3 from rfl]at hr1 hq1 hr2 hq2;have hb1:b%3<3:=Z124 _ (by omega);have hb2:b/3%3<3:=Z124 _ (by omega);generalize b/3%3=b2 at hr2 hb2;generalize b/3/3=b4 at hq2;generalize b/3=b3 at hq1 hr2 hq2;generalize b%3=b1 at hr1 hb1;have k1:¬id=s.c:=by omega
   have hok0:TuC ([1+(b1:Int),1+(b2:Int)],[.b false,.sl 1 [[.i .u32 1]],.sl 1 [[.i .u32 1]]]):=⟨pp1,1+(b1:Int),1+(b2:Int),rfl,rfl⟩
   have hok:zlb ([1+(b1:Int),1+(b2:Int)],[.b false,.sl 1 [[.i .u32 1]],.sl 1 [[.i .u32 1]]]):=⟨hok0,fun z hz=>by simp only[Z5,Z164,or_false]at hz;omega⟩
   obtain⟨y,hy,h17⟩ :=zs5 zq4 [67] true coC tu (okC tu (by omega) fun t h=>(hT t h).1) (by omega) ([1+(b1:Int),1+(b2:Int)],[.b false,.sl 1 [[.i .u32 1]],.sl 1 [[.i .u32 1]]]) pp1 (ckC _ hok.1) (fun m hm=>okC _ (by rw[zht m hm];omega) fun t h=>(zhA m hT hok t h).1);have h17:Ans pr 16 [.ag [.s [67],.b true,coC,slc 4 (tu.map tuF)],.ag [.sl 3 [[.i .i64 1,.i .i64 (1+(b1:Int)),.s []],[.i .i64 1,.i .i64 (1+(b2:Int)),.s []]],.b false,.sl 1 [[.i .u32 1]],.sl 1 [[.i .u32 1]]]] y:=h17;simp -implicitDefEqProofs [rR,h0,h4,h5,h6,h3,h7,g,hxd,q14,hrm,hlt,hs,hgo,hmul,hw4,hwn,q14b,hz,q15,q16,hd0,hd1,hd2];refine zyT s.h x 3 id dO n [.f (.s [67]),.f (.b true),.f coC,.f (slc 4 (tu.map tuF))] s.c (.f (.b false)) (.f (.sl 1 [[.i .u32 1]])) (.f (.sl 1 [[.i .u32 1]])) [67] true coC rfl rfl rfl b b1 b2 b3 b4 hr1 hq1 hr2 hq2 hb1 hb2 _ _ ⟨?_,?_,?_,?_,?_,?_,?_,?_,?_,?_,?_⟩ ?_ ?_ ?_ ?_
   any_goals (simp -implicitDefEqProofs [rR,h0,h4,h5,h6,h3,h7,g,k1];done)
   .omega
   .intro j hj;simp only[zbj,zco,zcn,zbd,zcb,zca,zbi,zcm,zcj,zbk,zcr,zcp,za0,zbh,zbf,zct,zcu,zcs]
    repeat first|rw[TG,Z49 (by omega)]|rw[Vse.T.zbB,Z49 (by omega)]
   .clear h0 h4 h5 h6 h3 h7 g k1;intro S idv hS g9 gv hi4 hi5;obtain⟨h0,h4,h5,h6,h3,h7,h9,g,hi1,hi2,hk⟩ :=hS;rw[show((3:Nat):Int)=3 from rfl]at h5;have hcd:coC.d= .f coC:=rfl;have hcc:(D.f coC).cells=some [.f coC]:=rfl;have j1:¬id=s.c:=by omega
    have j2:¬id=idv:=by omega
    have j3:¬id=S.c:=by omega
    have j4:¬s.c=id:=by omega
    have j5:¬s.c=idv:=by omega
    have j6:¬s.c=S.c:=by omega
    have j7:¬idv=id:=by omega
    have j8:¬idv=s.c:=by omega
    have j9:¬idv=S.c:=by omega
    have j10:¬S.c=id:=by omega
    have j11:¬S.c=s.c:=by omega
    have j12:¬S.c=idv:=by omega
    have keep:∀h':Vse.T Ob,(∀j,j<id->h'.get j=S.h.get j)->Grow h' 0 id 4 dO els:=fun h' hh=>Vse.zeI hg (fun j hj=>(hh j hj).trans (hk j hj)) (Z2 _)
    rcases hy with⟨e,he,rfl⟩ |⟨m,hm,hgd,rfl⟩
    .have q17:=fun k=>zad (k:=k) h17
     simp only[zRl]at q17;simp -implicitDefEqProofs [rR,h0,h4,h5,h6,h3,h7,h9,g,g9,gv,hcd,hcc,hd0,hd1,hd2,hi2,hi5,j1,j2,j3,j4,j5,j6,j7,j8,j9,j10,j11,j12,q17,he,hw];rw[zdq];refine⟨3 - (n+1),by omega,n+1,tu,by omega,rfl,by omega,?_,⟨hT,hG⟩,?_,?_,?_,?_,?_,?_,?_,?_⟩
     any_goals (simp -implicitDefEqProofs [rR,h0,h4,h5,h6,h3,h7,h9,g,g9,gv,hcd,hcc,hd0,hd1,hd2,hi2,hi5,j1,j2,j3,j4,j5,j6,j7,j8,j9,j10,j11,j12];done)
     .simp only[zbj,zco,zcn,zbd,zcb,zca,zbi,zcm,zcj,zbk,zcr,zcp,za0,zbh,zbf,zct,zcu,zcs];refine keep _ ?_;intro j hj
      repeat first|rw[TG,Z49 (by omega)]|rw[Vse.T.zbB,Z49 (by omega)]
     all_goals (simp only[zbj,zco,zcn,zbd,zcb,zca,zbi,zcm,zcj,zbk,zcr,zcp,za0,zbh,zbf,zct,zcu,zcs];omega)
    .have q17:=fun k=>zad (k:=k) h17
     simp only[rlF]at q17;simp -implicitDefEqProofs [rR,h0,h4,h5,h6,h3,h7,h9,g,g9,gv,hcd,hcc,hd0,hd1,hd2,hi2,hi5,j1,j2,j3,j4,j5,j6,j7,j8,j9,j10,j11,j12,q17,hw];refine⟨by omega,?_⟩;rw[zdq];refine⟨3 - (n+1),by omega,n+1,tu.take m++([1+(b1:Int),1+(b2:Int)],[.b false,.sl 1 [[.i .u32 1]],.sl 1 [[.i .u32 1]]])::tu.drop m,by omega,rfl,by rw[zht m hm];omega,?_,⟨zhA m hT hok,hgd⟩,?_,?_,?_,?_,?_,?_,?_,?_⟩
     any_goals (simp -implicitDefEqProofs [rR,h0,h4,h5,h6,h3,h7,h9,g,g9,gv,hcd,hcc,hd0,hd1,hd2,hi2,hi5,j1,j2,j3,j4,j5,j6,j7,j8,j9,j10,j11,j12];done)
     .simp only[zbj,zco,zcn,zbd,zcb,zca,zbi,zcm,zcj,zbk,zcr,zcp,za0,zbh,zbf,zct,zcu,zcs];refine keep _ ?_;intro j hj
      repeat first|rw[TG,Z49 (by omega)]|rw[Vse.T.zbB,Z49 (by omega)]
     all_goals (simp only[zbj,zco,zcn,zbd,zcb,zca,zbi,zcm,zcj,zbk,zcr,zcp,za0,zbh,zbf,zct,zcu,zcs];omega)
  .exact absurd trivial hgo
 .simp -implicitDefEqProofs [rR,h0,h4,h5,h6,h3,h7,g,hxd,q14,hrm,hlt,hs];refine⟨rfl,tu,by omega,⟨hT,hG⟩,?_,?_,?_,?_,?_,?_,?_,?_⟩
  all_goals simp -implicitDefEqProofs [rR,h0,h4,h5,h6,h3,g,hg,c0]
def fn4:pr.fn 4=some g4:=by kernel_rfl
def lo4:C:=g4.body.r.r.r.l.r.b.o
def rlG(L:List Rl):List (List D):=L.map fun r=>(rlF r).map D.f
def zJK(h:Nat->Option Ob)(k:Nat)(L:List Rl):zaU (frz h (k+1)) (rlG L)=some (L.map rlF,[]):=by
 have:=zmC h k (L.map rlF)
 rwa[Z33]at this
def gd0R:Gd (rH []):=⟨rA,fun m h _=>by simp[rH]at h,[],rA,⟨by simp,by simp⟩,by simp⟩
def gd0S:Gd (rS []):=⟨rA,fun m h _=>by simp[rS]at h,[],rA,⟨by simp,by simp⟩,by simp⟩
def gd0K:Gd (rK []):=⟨rA,fun m h _=>by simp[rK]at h,[],rA,⟨by simp,by simp⟩,by simp⟩
def gd0C:Gd (rC []):=⟨rA,fun m h _=>by simp[rC]at h,[],rA,⟨by simp,by simp⟩,by simp⟩
def OB(x:F)(i:Int)(L:List Rl)(S:St):Prop:=S.tm.get 0=some (.f x)/\S.tm.get 4=some (.f (.sl 3 zdA))/\S.tm.get 5=some (.f (.i .i64 i))/\∃dO,S.tm.get 3=some dO/\Grow S.h 0 S.c 4 dO (rlG L)
def zP3(x:F)(hx:zcG x)(hxd:x.d= .f x)(L:List Rl)(hL:L.length<10)(S:St)(Q:Ex->St->Prop)(hS:OB x 0 L S)(hQ:∀S' tu,tu.length<=3->(∀t∈tu,zlg t)->Gd (rH tu)->OB x 1 (L++[rH tu]) S'->WL pr lo4 S' Q):WL pr lo4 S Q:=by
 unfold lo4 g4 at hQ|-;simp only[rU,C.l,C.r,C.b,C.o]at hQ|-;obtain⟨h0,h4,h5,dO,h3,hg⟩ :=hS;have hs:zdA[0]? =some [.s [82],.b false,coR]:=rfl;have hs2:∀h:0<zdA.length,zdA[0]=[.s [82],.b false,coR]:=fun _=>rfl
 have hsl:zdA.length=4:=rfl;have hcd:coR.d= .f coR:=rfl;have hcc:(D.f coR).cells=some [.f coR]:=rfl;have hw:IntKind.i64.wrap 1=1:=rfl;refine round ?_;simp -implicitDefEqProofs [rR,h0,h4,h5,h3,hs,hs2,hsl,hcd,hcc];refine zcS (KI [82] false coR zlg 0 x S.c dO (rlG L)) (KR [82] false coR zlg 0 x S.c dO (rlG L)) (stepR x hx hxd S.c dO (rlG L)) 3 _ ⟨0,[],by omega,rfl,by simp,?_,⟨by simp,gd0R⟩,?_,?_,?_,?_,?_,?_,?_,?_⟩ ?_
 any_goals (simp -implicitDefEqProofs [rR,h0,h4,h5,h3,hcd];done)
 any_goals (simp -implicitDefEqProofs [rR,h0,h4,h5,h3,hcd,Z85,zbr];done)
 .simp only[zbj,zco,zcn,zbd,zcb,zca,zbi,zcm,zcj,zbk,zcr,zcp,za0,zbh,zbf,zct,zcu,zcs];refine Vse.zeI hg ?_ (Z2 _);intro j hj
  repeat first|rw[TG,Z49 (by omega)]|rw[Vse.T.zbB,Z49 (by omega)]
 .rintro e S' ⟨rfl,tu,htl,⟨hT,hG⟩,h0,h4,h5,h6,h3,g,hg,hc⟩;simp -implicitDefEqProofs [zh8,Z67,Z79,zf0,zfT,zfU,zfS,zfQ,zfR,zfN,zfV,zfX,zfZ,zfW,zf2,zf4,zf1,h0,h4,h5,h6,h3,g,hcd,hcc];refine Vse.zou (new:=[(rlF (rH tu)).map D.f]) (Vse.zeI hg (fun _ _=>rfl) (Z110 hc)) (Z61 _) (by simp[rlG];omega) (by omega) ?_;intro r hr1 hr2 hr3 _;refine⟨hr1,?_⟩;simp -implicitDefEqProofs [rR,h5,hw];refine hQ _ tu htl hT hG ⟨?_,?_,?_,r.d,?_,?_⟩
  any_goals (simp -implicitDefEqProofs [rR,h0,h4,h5,h3];done)
  simp only[zbj,zco,zcn,zbd,zcb,zca,zbi,zcm,zcj,zbk,zcr,zcp,za0,zbh,zbf,zct,zcu,zcs];have e:rlG (L++[rH tu])=rlG L++[(rlF (rH tu)).map D.f]:=by simp[rlG]
  rw[e];exact hr2
def zP4(x:F)(hx:zcG x)(hxd:x.d= .f x)(L:List Rl)(hL:L.length<10)(S:St)(Q:Ex->St->Prop)(hS:OB x 1 L S)(hQ:∀S' tu,tu.length<=3->(∀t∈tu,zlh t)->Gd (rS tu)->OB x 2 (L++[rS tu]) S'->WL pr lo4 S' Q):WL pr lo4 S Q:=by
 unfold lo4 g4 at hQ|-;simp only[rU,C.l,C.r,C.b,C.o]at hQ|-;obtain⟨h0,h4,h5,dO,h3,hg⟩ :=hS;have hs:zdA[1]? =some [.s [83],.b false,coS]:=rfl;have hs2:∀h:1<zdA.length,zdA[1]=[.s [83],.b false,coS]:=fun _=>rfl
 have hsl:zdA.length=4:=rfl;have hcd:coS.d= .f coS:=rfl;have hcc:(D.f coS).cells=some [.f coS]:=rfl;have hw:IntKind.i64.wrap 2=2:=rfl;refine round ?_;simp -implicitDefEqProofs [rR,h0,h4,h5,h3,hs,hs2,hsl,hcd,hcc];refine zcS (KI [83] false coS zlh 1 x S.c dO (rlG L)) (KR [83] false coS zlh 1 x S.c dO (rlG L)) (stepS x hx hxd S.c dO (rlG L)) 3 _ ⟨0,[],by omega,rfl,by simp,?_,⟨by simp,gd0S⟩,?_,?_,?_,?_,?_,?_,?_,?_⟩ ?_
 any_goals (simp -implicitDefEqProofs [rR,h0,h4,h5,h3,hcd];done)
 any_goals (simp -implicitDefEqProofs [rR,h0,h4,h5,h3,hcd,Z85,zbr];done)
 .simp only[zbj,zco,zcn,zbd,zcb,zca,zbi,zcm,zcj,zbk,zcr,zcp,za0,zbh,zbf,zct,zcu,zcs];refine Vse.zeI hg ?_ (Z2 _);intro j hj
  repeat first|rw[TG,Z49 (by omega)]|rw[Vse.T.zbB,Z49 (by omega)]
 .rintro e S' ⟨rfl,tu,htl,⟨hT,hG⟩,h0,h4,h5,h6,h3,g,hg,hc⟩;simp -implicitDefEqProofs [zh8,Z67,Z79,zf0,zfT,zfU,zfS,zfQ,zfR,zfN,zfV,zfX,zfZ,zfW,zf2,zf4,zf1,h0,h4,h5,h6,h3,g,hcd,hcc];refine Vse.zou (new:=[(rlF (rS tu)).map D.f]) (Vse.zeI hg (fun _ _=>rfl) (Z110 hc)) (Z61 _) (by simp[rlG];omega) (by omega) ?_;intro r hr1 hr2 hr3 _;refine⟨hr1,?_⟩;simp -implicitDefEqProofs [rR,h5,hw];refine hQ _ tu htl hT hG ⟨?_,?_,?_,r.d,?_,?_⟩
  any_goals (simp -implicitDefEqProofs [rR,h0,h4,h5,h3];done)
  simp only[zbj,zco,zcn,zbd,zcb,zca,zbi,zcm,zcj,zbk,zcr,zcp,za0,zbh,zbf,zct,zcu,zcs];have e:rlG (L++[rS tu])=rlG L++[(rlF (rS tu)).map D.f]:=by simp[rlG]
  rw[e];exact hr2
def zP2(x:F)(hx:zcG x)(hxd:x.d= .f x)(L:List Rl)(hL:L.length<10)(S:St)(Q:Ex->St->Prop)(hS:OB x 2 L S)(hQ:∀S' tu,tu.length<=3->(∀t∈tu,zlc t)->Gd (rK tu)->OB x 3 (L++[rK tu]) S'->WL pr lo4 S' Q):WL pr lo4 S Q:=by
 unfold lo4 g4 at hQ|-;simp only[rU,C.l,C.r,C.b,C.o]at hQ|-;obtain⟨h0,h4,h5,dO,h3,hg⟩ :=hS;have hs:zdA[2]? =some [.s [75],.b false,coK]:=rfl;have hs2:∀h:2<zdA.length,zdA[2]=[.s [75],.b false,coK]:=fun _=>rfl
 have hsl:zdA.length=4:=rfl;have hcd:coK.d= .f coK:=rfl;have hcc:(D.f coK).cells=some [.f coK]:=rfl;have hw:IntKind.i64.wrap 3=3:=rfl;refine round ?_;simp -implicitDefEqProofs [rR,h0,h4,h5,h3,hs,hs2,hsl,hcd,hcc];refine zcS (KI [75] false coK zlc 2 x S.c dO (rlG L)) (KR [75] false coK zlc 2 x S.c dO (rlG L)) (stepK x hx hxd S.c dO (rlG L)) 3 _ ⟨0,[],by omega,rfl,by simp,?_,⟨by simp,gd0K⟩,?_,?_,?_,?_,?_,?_,?_,?_⟩ ?_
 any_goals (simp -implicitDefEqProofs [rR,h0,h4,h5,h3,hcd];done)
 any_goals (simp -implicitDefEqProofs [rR,h0,h4,h5,h3,hcd,Z85,zbr];done)
 .simp only[zbj,zco,zcn,zbd,zcb,zca,zbi,zcm,zcj,zbk,zcr,zcp,za0,zbh,zbf,zct,zcu,zcs];refine Vse.zeI hg ?_ (Z2 _);intro j hj
  repeat first|rw[TG,Z49 (by omega)]|rw[Vse.T.zbB,Z49 (by omega)]
 .rintro e S' ⟨rfl,tu,htl,⟨hT,hG⟩,h0,h4,h5,h6,h3,g,hg,hc⟩;simp -implicitDefEqProofs [zh8,Z67,Z79,zf0,zfT,zfU,zfS,zfQ,zfR,zfN,zfV,zfX,zfZ,zfW,zf2,zf4,zf1,h0,h4,h5,h6,h3,g,hcd,hcc];refine Vse.zou (new:=[(rlF (rK tu)).map D.f]) (Vse.zeI hg (fun _ _=>rfl) (Z110 hc)) (Z61 _) (by simp[rlG];omega) (by omega) ?_;intro r hr1 hr2 hr3 _;refine⟨hr1,?_⟩;simp -implicitDefEqProofs [rR,h5,hw];refine hQ _ tu htl hT hG ⟨?_,?_,?_,r.d,?_,?_⟩
  any_goals (simp -implicitDefEqProofs [rR,h0,h4,h5,h3];done)
  simp only[zbj,zco,zcn,zbd,zcb,zca,zbi,zcm,zcj,zbk,zcr,zcp,za0,zbh,zbf,zct,zcu,zcs];have e:rlG (L++[rK tu])=rlG L++[(rlF (rK tu)).map D.f]:=by simp[rlG]
  rw[e];exact hr2
def zP1(x:F)(hx:zcG x)(hxd:x.d= .f x)(L:List Rl)(hL:L.length<10)(S:St)(Q:Ex->St->Prop)(hS:OB x 3 L S)(hQ:∀S' tu,tu.length<=3->(∀t∈tu,zlb t)->Gd (rC tu)->OB x 4 (L++[rC tu]) S'->WL pr lo4 S' Q):WL pr lo4 S Q:=by
 unfold lo4 g4 at hQ|-;simp only[rU,C.l,C.r,C.b,C.o]at hQ|-;obtain⟨h0,h4,h5,dO,h3,hg⟩ :=hS;have hs:zdA[3]? =some [.s [67],.b true,coC]:=rfl;have hs2:∀h:3<zdA.length,zdA[3]=[.s [67],.b true,coC]:=fun _=>rfl
 have hsl:zdA.length=4:=rfl;have hcd:coC.d= .f coC:=rfl;have hcc:(D.f coC).cells=some [.f coC]:=rfl;have hw:IntKind.i64.wrap 4=4:=rfl;refine round ?_;simp -implicitDefEqProofs [rR,h0,h4,h5,h3,hs,hs2,hsl,hcd,hcc];refine zcS (KI [67] true coC zlb 3 x S.c dO (rlG L)) (KR [67] true coC zlb 3 x S.c dO (rlG L)) (stepC x hx hxd S.c dO (rlG L)) 3 _ ⟨0,[],by omega,rfl,by simp,?_,⟨by simp,gd0C⟩,?_,?_,?_,?_,?_,?_,?_,?_⟩ ?_
 any_goals (simp -implicitDefEqProofs [rR,h0,h4,h5,h3,hcd];done)
 any_goals (simp -implicitDefEqProofs [rR,h0,h4,h5,h3,hcd,Z85,zbr];done)
 .simp only[zbj,zco,zcn,zbd,zcb,zca,zbi,zcm,zcj,zbk,zcr,zcp,za0,zbh,zbf,zct,zcu,zcs];refine Vse.zeI hg ?_ (Z2 _);intro j hj
  repeat first|rw[TG,Z49 (by omega)]|rw[Vse.T.zbB,Z49 (by omega)]
 .rintro e S' ⟨rfl,tu,htl,⟨hT,hG⟩,h0,h4,h5,h6,h3,g,hg,hc⟩;simp -implicitDefEqProofs [zh8,Z67,Z79,zf0,zfT,zfU,zfS,zfQ,zfR,zfN,zfV,zfX,zfZ,zfW,zf2,zf4,zf1,h0,h4,h5,h6,h3,g,hcd,hcc];refine Vse.zou (new:=[(rlF (rC tu)).map D.f]) (Vse.zeI hg (fun _ _=>rfl) (Z110 hc)) (Z61 _) (by simp[rlG];omega) (by omega) ?_;intro r hr1 hr2 hr3 _;refine⟨hr1,?_⟩;simp -implicitDefEqProofs [rR,h5,hw];refine hQ _ tu htl hT hG ⟨?_,?_,?_,r.d,?_,?_⟩
  any_goals (simp -implicitDefEqProofs [rR,h0,h4,h5,h3];done)
  simp only[zbj,zco,zcn,zbd,zcb,zca,zbi,zcm,zcj,zbk,zcr,zcp,za0,zbh,zbf,zct,zcu,zcs];have e:rlG (L++[rC tu])=rlG L++[(rlF (rC tu)).map D.f]:=by simp[rlG]
  rw[e];exact hr2
def zLk(y:F):Prop:=∃a b c d,((a.length<=3/\∀t∈a,zlg t)/\Gd (rH a))/\((b.length<=3/\∀t∈b,zlh t)/\Gd (rS b))/\((c.length<=3/\∀t∈c,zlc t)/\Gd (rK c))/\((d.length<=3/\∀t∈d,zlb t)/\Gd (rC d))/\y=slc 4 ([rH a,rS b,rK c,rC d].map rlF)
def ans4(x:F)(hx:zcG x)(hxd:x.d= .f x):∃a b c d,((a.length<=3/\∀t∈a,zlg t)/\Gd (rH a))/\((b.length<=3/\∀t∈b,zlh t)/\Gd (rS b))/\((c.length<=3/\∀t∈c,zlc t)/\Gd (rK c))/\((d.length<=3/\∀t∈d,zlb t)/\Gd (rC d))/\Ans pr 4 [x] (slc 4 ([rH a,rS b,rK c,rC d].map rlF)):=by
 have main:∃y,zLk y/\Ans pr 4 [x] y:=by
  refine zrv fn4 ?_;have q13:=fun k=>zad (k:=k) zLx
  have hsl:zdA.length=4:=rfl;simp only[g4,rU];simp -implicitDefEqProofs [rR,st0,zak,hxd,q13];refine zP3 x hx hxd [] (by simp) _ _ ⟨?_,?_,?_,.f .nils,?_,Grow.nil⟩ ?_
  any_goals (simp -implicitDefEqProofs [rR,zak];done)
  intro S1 a ha1 ha2 ha3 h1;refine zP4 x hx hxd _ (by simp) _ _ h1 ?_;intro S2 b hb1 hb2 hb3 h2;refine zP2 x hx hxd _ (by simp) _ _ h2 ?_;intro S3 c hc1 hc2 hc3 h3;refine zP1 x hx hxd _ (by simp) _ _ h3 ?_;rintro S4 d hd1 hd2 hd3 ⟨h0,h4,h5,dO,h3,hg⟩;unfold lo4 g4;simp only[rU,C.l,C.r,C.b,C.o];refine round ?_;obtain⟨rd,hf⟩ :=zEc (k:=11) hg (zJK _ 10 _);simp -implicitDefEqProofs [rR,h0,h4,h5,h3,hsl,hf];exact⟨a,b,c,d,⟨⟨ha1,ha2⟩,ha3⟩,⟨⟨hb1,hb2⟩,hb3⟩,⟨⟨hc1,hc2⟩,hc3⟩,⟨⟨hd1,hd2⟩,hd3⟩,rfl⟩
 obtain⟨y,⟨a,b,c,d,h1,h2,h3,h4,rfl⟩,ha⟩ :=main;exact⟨a,b,c,d,h1,h2,h3,h4,ha⟩
def Ans.uniq{f:Nat}{fs:List F}{x y:F}(h1:Ans pr f fs x)(h2:Ans pr f fs y):x=y:=by
 obtain⟨q1,r1,⟨n1,c1⟩,f1⟩ :=h1;obtain⟨q2,r2,⟨n2,c2⟩,f2⟩ :=h2;have e1:zbW pr (n1+n2) f (F.dL fs) .e 0=some q1:=c1 (n1+n2) (by omega);have e2:zbW pr (n1+n2) f (F.dL fs) .e 0=some q2:=c2 (n1+n2) (by omega);rw[e1]at e2;cases e2;rw[f1]at f2;cases f2;rfl
def zO6{a b:List Nat}(h:ixF a=ixF b):a=b:=by
 unfold ixF at h;injection h with _ h
 induction a generalizing b with
 |nil=>cases b with
  |nil=>rfl
  |cons _ _=>cases h
 |cons x a ih=>cases b with
  |nil=>cases h
  |cons y b=>
   simp only[Z10,List.cons.injEq,F.i.injEq,and_true,true_and]at h;rw[ih h.2,Int.ofNat_inj.1 h.1]
def zH2{A B:List (List Nat)}(h:zcA A=zcA B):A=B:=by
 cases A with
 |nil=>cases B with
  |nil=>rfl
  |cons b B=>cases h
 |cons a A=>cases B with
  |nil=>cases h
  |cons b B=>
   have h:(F.sl 1 (((a::A):List (List Nat)).map fun b=>[ixF b]))= .sl 1 ((b::B).map fun b=>[ixF b]):=h;injection h with _ h
   generalize a::A=X at h|-;generalize b::B=Y at h|-
   induction X generalizing Y with
   |nil=>cases Y with
    |nil=>rfl
    |cons _ _=>cases h
   |cons x X ih=>cases Y with
    |nil=>cases h
    |cons y Y=>
     simp only[Z10,List.cons.injEq,and_true]at h;rw[ih _ h.2,zO6 h.1]
structure Gx(r:Rl)(B:List (List Nat)):Prop where
 k:zeM SSp PPp r
 s:zmc r r.tu.length
 v:Ans pr 44 [.ag (rlF r)] (.i .i64 0)
 g:Ans pr 82 [.ag (rlF r)] (zcA B)
 gp:Ans pr 97 [.ag (rlF r)] (zcA B)
 n:B.length<=3
 b:∀b∈B,b.length<=3/\(∀i∈b,i<r.tu.length)/\∃ns,Bks r b ns/\le1 (sN ns)=true
 d:B.flatten.Nodup
 z:∀b∈B,b≠[]
 ce:r.ce=true->B=[]
 cp:∀t∈r.tu,Ans pr 96 [.ag [.s r.nm,.b r.ce,r.co],.ag (tuF t)] (.i .i64 0)
 vp:Ans pr 95 [.ag [.s r.nm,.b r.ce,r.co]] (.b true)
 cl:∃rows,r.co= .sl 3 rows/\rows≠[]/\rows.length<=10
 nz:∀t∈r.tu,t.1≠[]
theorem zth{r:Rl}(hk:zeM SSp PPp r)(hg:Gd r){B:List (List Nat)}(g:Ans pr 82 [.ag (rlF r)] (zcA B))(gp:Ans pr 97 [.ag (rlF r)] (zcA B))(n:B.length<=3)(hb:∀b∈B,b.length<=3/\∀i∈b,i<r.tu.length)(d:B.flatten.Nodup)(z:∀b∈B,b≠[])(ce:r.ce=true->B=[])
  (cp:∀t∈r.tu,Ans pr 96 [.ag [.s r.nm,.b r.ce,r.co],.ag (tuF t)] (.i .i64 0))(vp:Ans pr 95 [.ag [.s r.nm,.b r.ce,r.co]] (.b true))(cl:∃rows,r.co= .sl 3 rows/\rows≠[]/\rows.length<=10)(nz:∀t∈r.tu,t.1≠[]):Gx r B:=by
 refine⟨hk,hg.s,hg.v,g,gp,n,fun b h=>⟨(hb b h).1,(hb b h).2,?_⟩,d,z,ce,cp,vp,cl,nz⟩;obtain⟨B2,g2,-,hs⟩ :=hg.b;have e:=zH2 (Ans.uniq g g2);subst e;obtain⟨p,a1,a2⟩ :=hs b h;obtain⟨ns,hB⟩ :=zBE r hk.p b (hb b h).2;have e1:=Ans.uniq a1 (zLC r hk.co hk.cc b ns (hb b h).1 hB);injection e1 with e1
 subst e1;have hI:=allL uI _ (zFC ns (by rw[hB.1];exact (hb b h).1) hB.mem);have e2:=Ans.uniq hI a2;injection e2 with e2
 exact⟨ns,hB,e2⟩
def gxR{tu:List (List Int×List F)}(hn:tu.length<=3)(h:∀t∈tu,TuR t)(hg:Gd (rH tu)):∃B,Gx (rH tu) B:=by
 obtain⟨B,g,gp,n,b,d,z⟩ :=gqR tu hn h hg.s;exact⟨B,zth (okR tu hn h) hg g gp n b d z (fun e=>by simp[rH]at e) (fun t ht=>cpR t (h t ht)) vqR ⟨_,rfl,by simp,by simp⟩ (fun t ht=>by obtain⟨_,a,b,he,_,_⟩ :=h t ht;rw[he];simp)⟩
def gxS{tu:List (List Int×List F)}(hn:tu.length<=3)(h:∀t∈tu,TuS t)(hg:Gd (rS tu)):∃B,Gx (rS tu) B:=by
 obtain⟨B,g,gp,n,b,d,z⟩ :=gqS tu hn h hg.s;exact⟨B,zth (okS tu hn h) hg g gp n b d z (fun e=>by simp[rS]at e) (fun t ht=>cpS t (h t ht)) vqS ⟨_,rfl,by simp,by simp⟩ (fun t ht=>by obtain⟨_,a,he⟩ :=h t ht;rw[he];simp)⟩
def gxK{tu:List (List Int×List F)}(hn:tu.length<=3)(h:∀t∈tu,TuK t)(hg:Gd (rK tu)):∃B,Gx (rK tu) B:=by
 obtain⟨B,g,gp,n,b,d,z⟩ :=gqK tu hn h hg.s;exact⟨B,zth (okK tu hn h) hg g gp n b d z (fun e=>by simp[rK]at e) (fun t ht=>cpK t (h t ht)) vqK ⟨_,rfl,by simp,by simp⟩ (fun t ht=>by obtain⟨_,a,b,he,_,_⟩ :=h t ht;rw[he];simp)⟩
def gxC{tu:List (List Int×List F)}(hn:tu.length<=3)(h:∀t∈tu,TuC t)(hg:Gd (rC tu)):∃B,Gx (rC tu) B:=by
 obtain⟨B,g,gp,n,b,d,z,e⟩ :=gqC tu;exact⟨B,zth (okC tu hn h) hg g gp n b d z (fun _=>e) (fun t ht=>cpC t (h t ht)) vqC ⟨_,rfl,by simp,by simp⟩ (fun t ht=>by obtain⟨_,a,b,he,_⟩ :=h t ht;rw[he];simp)⟩
end Go.Proofs.YtdlcolcidohbkaaGreatDoor
end
