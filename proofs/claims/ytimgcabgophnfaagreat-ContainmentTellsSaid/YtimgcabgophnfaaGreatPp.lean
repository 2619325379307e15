/- The law's builders: Query. -/
import Derived.Test.YtimgcabgophnfaaGreatPo
import Derived.KernelRfl
import Derived.IntWalk
set_option linter.all false
noncomputable section
section
namespace Go.Proofs.YtimgcabgophnfaaGreat
open Go Go.Vse Go.Vse.Sm
set_option maxRecDepth 100000
set_option maxHeartbeats 1000000
set_option linter.all false
def b12:C:= .seq (oD [oM 25 7,oM 26 0,oR 27 (.callp 36 [(.t 26),(.k (.i .i64 1))]),oR 28 (.bin .rem (.t 27) (.k (.i .i64 2))),oR 29 (.bin .leq (.t 25) (.t 28))] 29 .skip (.exit 1))
 (.seq (.blk 2 (.dreg [(oF 32 1 3,0),(oK 33 1 32,0),(oM 34 5,3),(oM 35 0,7),(oM 36 7,15),(oR 37 (.bin .add (.k (.i .i64 2)) (.t 36)),15),(oR 38 (.callp 36 [(.t 35),(.t 37)]),7),(oM 39 6,127),(oR 40 (.bin .rem (.t 38) (.t 39)),7),(oI 41 1 34 40,3),(oK 42 1 41,3),(oM 43 0,2047),(oM 44 7,4095),(oR 45 (.bin .add (.k (.i .i64 4)) (.t 44)),4095),(oR 46 (.callp 36 [(.t 43),(.t 45)]),1927),(oR 47 (.callp 38 [(.t 42),(.t 46)]),3),(oR 48 (.bsf 2 [.nils,.nils] 1 [(0,(.t 47))]),3),(oR 49 (.app 2 48 (.t 33) (.t 48)),0),(oF 50 1 3,0),(oS 1 50 49,0)]))
 (.reg [oM 30 7,oR 31 (.bin .add (.t 30) (.k (.i .i64 1))),oM 7 31]))
theorem zAG{x:F}(hx:zgt x){z:Nat->Nat}(hz:∀i,i<1000->z i<100000/\Ans pr 36 [x,.i .i64 i] (.i .i64 (z i))){cf:Nat->CQ}{S:Nat}(hS:0<S/\S≤24)(hcf:∀i,∃p,paL[z (2+i)%S]? =some [.s p]/\Ans pr 38 [.s p,.i .i64 (z (4+i))] (.ag (cqF (cf i)))){hd:List Str}{P:Nat}{Q:Ex->St->Prop}(s:St)(h:XQ x hd [] P s)(h5:s.tm.get 5=some (.f (.sl 1 paL))/\s.tm.get 6=some (.f (.i .i64 S))/\s.tm.get 7=some (.f (.i .i64 0)))(hQ:∀s,XQ x hd ((List.range (z 1%2+1)).map cf) P s->Q (.exit 1) s):WL pr b12 s Q:=by
 have h36:Ans pr 36 [x,.i .i64 1] (.i .i64 (z 1)):=(hz 1 (by omega)).2;have q36:=fun k=>zak (k:=k) h36
 have hrem:=zgg (z 1) 2 (by omega);rw[show((2:Nat):Int)=2 from rfl]at hrem;have hm:z 1%2<2:=Nat.mod_lt _ (by omega);generalize z 1%2=m at hrem hm hQ;refine zcu (fun k s=>∃n:Nat,(k=m+1 - n/\n≤m+1)/\XQ x hd ((List.range n).map cf) P s/\s.tm.get 5=some (.f (.sl 1 paL))/\s.tm.get 6=some (.f (.i .i64 S))/\s.tm.get 7=some (.f (.i .i64 n))) (fun e s=>e= .exit 1/\XQ x hd ((List.range (m+1)).map cf) P s) ?_ (m+1) _ ⟨0,⟨rfl,by omega⟩,h,h5⟩ (by rintro e s ⟨rfl,h⟩;exact hQ s h);clear h h5 hQ s;rintro k s ⟨n,⟨rfl,hn⟩,⟨d,dh,⟨h0,h2,h3,g0,g1⟩,hP,hPc,hO,hg⟩,h5,h6,h7⟩;unfold b12;simp only[rU]
 by_cases hle:n≤m
 ·have h36n:=(hz (2+n) (by omega)).2;rw[Int.natCast_add,show((2:Nat):Int)=2 from rfl]at h36n;have q36n:=fun k=>zak (k:=k) h36n
  have h36m:=(hz (4+n) (by omega)).2;rw[Int.natCast_add,show((4:Nat):Int)=4 from rfl]at h36m;have q36m:=fun k=>zak (k:=k) h36m
  obtain⟨p,hp,h38⟩ :=hcf n;have hrem2:=zgg (z (2+n)) S (by omega);have hpl:paL.length=24:=rfl;have hj:z (2+n)%S<24:=Nat.lt_of_lt_of_le (Nat.mod_lt _ hS.1) hS.2;have hni:¬((S:Int)=0):=by omega
  have hn0:¬(S=0):=by omega
  generalize z (2+n)%S=j at*;have hp2:∀h:j<paL.length,paL[j]=[.s p]:=fun h=>by
   rw[List.getElem?_eq_getElem h]at hp;exact Option.some.inj hp
  have q38:=fun k=>zak (k:=k) h38
  have hw:=zao n (by omega);have hw2:IntKind.i64.wrap (2+(n:Int))=2+(n:Int):=wrap_i64 _ (by omega) (by omega);have hw4:IntKind.i64.wrap (4+(n:Int))=4+(n:Int):=wrap_i64 _ (by omega) (by omega);simp only[cqE]at q38;simp[rW,h0,h2,h3,h5,h6,h7,g0,g1,q36,hrem,hle];refine zay ?_;simp[rW,h0,h2,h3,h5,h6,h7,g0,g1,hw2,hw4,q36n,q36m,hni,hn0,hrem2,hp,hpl,hp2,hj,q38,cqE,zaV,zaW];refine zgc (zcb hg (by omega) fun _ _ _=>rfl) (by omega) (by rw[zcf];simp;omega) (by omega) ?_;intro r hr1 hr2 hr3 hr4 hr5;have e0:=hr4 0 (by omega) (zbQ hg (by omega));have e1:=hr4 1 (by omega) (zbQ hg (by omega));rw[g0]at e0;rw[g1]at e1;refine⟨hr1,?_⟩;simp[rW,e1,zcS hr2];rw[zbh];refine⟨m+1 - (n+1),by omega,n+1,⟨rfl,by omega⟩,⟨r.d,dh,?_,hP,?_,?_,?_⟩,?_⟩
  ·simp[rW,h0,h2,h3,e0,e1]
  ·simp[rW,];omega
  ·refine hO.up (fun y hy=> ?_) (Nat.le_refl _) (Nat.le_refl _);have hy2:=hO.2.2.1 y hy;have e:=hr4 y (by omega) (zbQ hg (by omega));have ny:¬(y=1):=by omega
   simp[rW,ny,e]
  ·rw[zpx,zjm];refine zcb hr2 (by simp[rW,];omega) fun y h1 h2=> ?_
   have ny:¬(y=1):=by omega
   simp[rW,ny]
  ·simp[rW,h5,h6,hw]
 ·have e:n=m+1:=by omega
  subst e;have hl:¬((m:Int)+1≤m):=by omega
  simp[rW,h0,h2,h3,h5,h6,h7,g0,g1,q36,hrem,hl];refine⟨d,dh,?_,hP,?_,?_,?_⟩
  ·simp[rW,h0,h2,h3,g0,g1]
  ·simp[rW,];exact hPc
  ·simp[rW,];exact hO
  ·simp[rW,];exact hg
theorem zHT{x:F}(hx:zgt x):∃hd l,hd.length<10/\QN l/\Ans pr 12 [x] (.ag [zas hd,qsF l]):=by
 obtain⟨z,hz⟩ :=atZ hx;have h0:Ans pr 36 [x,.i .i64 0] (.i .i64 (z 0)):=(hz 0 (by omega)).2;have q0:=fun k=>zak (k:=k) h0
 have q37:=fun k=>zak (k:=k) zH1
 have hpl:paL.length=24:=rfl;have hrem:=zgg (z 0) 4 (by omega);rw[show((4:Nat):Int)=4 from rfl]at hrem;have hr4:z 0%4<4:=Nat.mod_lt _ (by omega);generalize z 0%4=r at hrem hr4;obtain⟨cf,hcf⟩ :=Classical.skolem.1 fun i=>pick rdA (j:=z (2+i)%(if r=3 then 9 else 24)) (by rw[hpl];split<;>omega) (z (4+i))
 have hm:z 1%2<2:=Nat.mod_lt _ (by omega);have hc2:(D.f x).cells=some [.f x]:=by rcases hx with rfl|⟨zs,rfl⟩ <;>rfl
 have hQN:QN ((List.range (z 1%2+1)).map cf):=⟨by simp,by simp;omega,clF (fun i=>(hcf i).1) _⟩
 have hcf:=fun i=>(hcf i).2
 obtain rfl|rfl|rfl|rfl:r=0\/r=1\/r=2\/r=3:=by omega
 ·refine⟨[],_,by decide,hQN,za1 zzI ?_⟩;simp only[g12,rU];simp[rW,st0,zae,zjs hx,q0,q37,hrem,hpl,hc2];refine zAG hx hz (by decide) hcf (P:=2) (hd:=[]) _ ⟨.f .nils,.f .nils,?_,by omega,?_,zrA (rows:=[]) (.inl ⟨rfl,rfl⟩),.inl ⟨rfl,rfl⟩⟩ ?_ fun s h=> ?_
  ·simp[rW,]
  ·simp[rW,]
  ·simp[rW,hpl]
  ·obtain⟨d,dh,⟨h2,h3,g0,g1⟩,c1,c2,⟨rd,z1⟩,⟨rd2,z2⟩,hc⟩ :=zq3 h;simp[rW,h2,h3,g0,g1,c1,c2,z1,z2];omega
 ·refine⟨[[120]],_,by decide,hQN,za1 zzI ?_⟩;simp only[g12,rU];simp[rW,st0,zae,zjs hx,q0,q37,hrem,hpl,hc2];refine zAG hx hz (by decide) hcf (P:=3) (hd:=[[120]]) _ ⟨.f .nils,.sl 2 0 1 1 1 true,?_,by omega,?_,zmF (l:=[[120]]) (by simp) (by simp[rW,zbq]) (by omega) (by omega),.inl ⟨rfl,rfl⟩⟩ ?_ fun s h=> ?_
  ·simp[rW,]
  ·simp[rW,]
  ·simp[rW,hpl]
  ·obtain⟨d,dh,⟨h2,h3,g0,g1⟩,c1,c2,⟨rd,z1⟩,⟨rd2,z2⟩,hc⟩ :=zq3 h;simp[rW,h2,h3,g0,g1,c1,c2,z1,z2];omega
 ·refine⟨[[120]],_,by decide,hQN,za1 zzI ?_⟩;simp only[g12,rU];simp[rW,st0,zae,zjs hx,q0,q37,hrem,hpl,hc2];refine zAG hx hz (by decide) hcf (P:=3) (hd:=[[120]]) _ ⟨.f .nils,.sl 2 0 1 1 1 true,?_,by omega,?_,zmF (l:=[[120]]) (by simp) (by simp[rW,zbq]) (by omega) (by omega),.inl ⟨rfl,rfl⟩⟩ ?_ fun s h=> ?_
  ·simp[rW,]
  ·simp[rW,]
  ·simp[rW,hpl]
  ·obtain⟨d,dh,⟨h2,h3,g0,g1⟩,c1,c2,⟨rd,z1⟩,⟨rd2,z2⟩,hc⟩ :=zq3 h;simp[rW,h2,h3,g0,g1,c1,c2,z1,z2];omega
 ·refine⟨[[121],[120]],_,by decide,hQN,za1 zzI ?_⟩;simp only[g12,rU];simp[rW,st0,zae,zjs hx,q0,q37,hrem,hpl,hc2];refine zAG hx hz (by decide) hcf (P:=3) (hd:=[[121],[120]]) _ ⟨.f .nils,.sl 2 0 2 1 2 true,?_,by omega,?_,zmF (l:=[[121],[120]]) (by simp) (by simp[rW,zbq]) (by omega) (by omega),.inl ⟨rfl,rfl⟩⟩ ?_ fun s h=> ?_
  ·simp[rW,]
  ·simp[rW,]
  ·simp[rW,hpl]
  ·obtain⟨d,dh,⟨h2,h3,g0,g1⟩,c1,c2,⟨rd,z1⟩,⟨rd2,z2⟩,hc⟩ :=zq3 h;simp[rW,h2,h3,g0,g1,c1,c2,z1,z2];omega
theorem fn4:pr.fn 4=some g4:=by kernel_rfl
theorem QN.ok{l:List CQ}(h:QN l):QOk l:=⟨fun c hc=>(h.2.2 c hc).sm (by omega),by have:=h.2.1;omega⟩
theorem ans4{x y:F}(hx:zgt x)(hy:zgt y)(n h:Int):Ans pr 4 [x,y,.i .i64 n,.i .i64 h] (.b true):=by
 obtain⟨hp,lp,php,plp,h12a⟩ :=zHT hx;obtain⟨hq,lq,phq,plq,h12b⟩ :=zHT hy;obtain⟨c,hc,h5⟩ :=ans5 n;obtain⟨hd,ld,phd,pld,h13⟩ :=ans13 hx;obtain⟨he,phe,h8⟩ :=ans8 h;have hcs:=hc.sm (by omega);have h14:=zsJ hp hq lp lq (by omega) plp.ok plq.ok;have h15:=zy6 hp hq lp lq (by omega) plp.ok plq.ok;have h16:=ans16 hp hq lp lq (by omega) (by omega) plp.ok plq.ok;have h17:=ans17 hp hq lp lq (by omega) (by omega) plp.ok plq.ok;have h14r:=zsJ hp hp lp lp (by omega) plp.ok plp.ok;rw[zCr hp lp plp.ok.1]at h14r;have h19:=zHV c he hcs (by omega);have h20:=zHW c he hcs (by omega);have hev:=zuk he c;have h18:=zHU _ _ (zmx he c.as.length (cop c) (zoG hcs)) (⟨hev.1.symm,hev.2.symm⟩ :Eqv _ (zev he c.as.length c));have h22p:=zHY hp lp (by omega) plp.ok plp.1;have h23p:=zHZ hp lp (by omega) plp.ok plp.1;have h21p:=zHX hp _ _ (by omega) (zmD (hd:=hp) plp.ok).1 (zmD plp.ok).2 (zug hp lp);have h22d:=zHY hd ld (by omega) pld.ok pld.1;have h23d:=zHZ hd ld (by omega) pld.ok pld.1;have h21d:=zHX hd _ _ (by omega) (zmD (hd:=hd) pld.ok).1 (zmD pld.ok).2 (zug hd ld);clear hev;generalize zg7 hp hq lp lq=u at h14 h15;generalize (u&&zg7 hq hp lq lp)=v at h16 h17;generalize zeu he c.as.length (cop c)=c1 at h18 h19;generalize zev he c.as.length c=c2 at h18 h20;generalize znU hp lp=p1 at*;generalize zu6 hp lp=p2 at*;generalize znU hd ld=d1 at*
 generalize zu6 hd ld=d2 at*;simp only[cqE]at h5 h18 h19 h20;have q12a:=fun k=>zak (k:=k) h12a
 have q12b:=fun k=>zak (k:=k) h12b
 have q5:=fun k=>zak (k:=k) h5
 have q13:=fun k=>zak (k:=k) h13
 have q8:=fun k=>zak (k:=k) h8
 have q14:=fun k=>zak (k:=k) h14
 have q15:=fun k=>zak (k:=k) h15
 have q16:=fun k=>zak (k:=k) h16
 have q17:=fun k=>zak (k:=k) h17
 have q14r:=fun k=>zak (k:=k) h14r
 have q18:=fun k=>zak (k:=k) h18
 have q19:=fun k=>zak (k:=k) h19
 have q20:=fun k=>zak (k:=k) h20
 have q22p:=fun k=>zak (k:=k) h22p
 have q23p:=fun k=>zak (k:=k) h23p
 have q21p:=fun k=>zak (k:=k) h21p
 have q22d:=fun k=>zak (k:=k) h22d
 have q23d:=fun k=>zak (k:=k) h23d
 have q21d:=fun k=>zak (k:=k) h21d
 have q11:=fun k=>zak (k:=k) ans11
 refine za1 fn4 ?_;simp only[g4,rU];simp[rW,st0,zae,zjs hx,zjs hy,q12a,q12b,q5,q13,zaV,zaW,zaL,zfS];refine zay ?_;simp[rW,zae,q8,q14,q15,q16,q17,q14r,q18,q19,q20,q22p,q23p,q21p,q22d,q23d,q21d,q11,zaV,zaW,zaL,zfS]
end Go.Proofs.YtimgcabgophnfaaGreat
end
