/- The evaluator and its soundness. Conditions: none. -/
import Derived.Test.YtdlcolcidohbkaaGreatDoorVc
import Derived.LoopN
import Derived.Test.YtdlcolcidohbkaaGreatDoorVa
set_option linter.all false
noncomputable section
section
namespace Go.Vse
variable [Globs]
open Go.RowKit
mutual
theorem F.beq_eq:∀x y:F,x.beq y=true->x=y
 |x,y,h=>by
  cases x<;>cases y<;>simp only[F.beq,Z14,beq_iff_eq,Z52]at h<;>first
   |rfl
   |(subst h;rfl)
   |(obtain⟨rfl,rfl⟩ :=h;rfl)
   |(rw[F.zfh _ _ h];done)
   |(obtain⟨rfl,h⟩ :=h;rw[F.zkd _ _ h])
theorem F.zfh:∀x y:List F,F.zdv x y=true->x=y
 |[],[],_=>rfl
 |[],_::_,h=>by simp[F.zdv]at h
 |_::_,[],h=>by simp[F.zdv]at h
 |x::l,y::m,h=>by
  simp only[F.zdv,Z14]at h;rw[F.beq_eq x y h.1,F.zfh l m h.2]
theorem F.zkd:∀x y:List (List F),F.zeN x y=true->x=y
 |[],[],_=>rfl
 |[],_::_,h=>by simp[F.zeN]at h
 |_::_,[],h=>by simp[F.zeN]at h
 |x::l,y::m,h=>by
  simp only[F.zeN,Z14]at h;rw[F.zfh x y h.1,F.zkd l m h.2]
end
mutual
theorem D.beq_eq:∀x y:D,x.beq y=true->x=y
 |x,y,h=>by
  cases x<;>cases y<;>simp only[D.beq,Z14,beq_iff_eq,Z52]at h<;>first
   |(subst h;rfl)
   |(obtain⟨⟨⟨⟨⟨rfl,rfl⟩,rfl⟩,rfl⟩,rfl⟩,rfl⟩ :=h;rfl)
   |(obtain⟨⟨⟨rfl,rfl⟩,rfl⟩,rfl⟩ :=h;rfl)
   |(obtain⟨⟨rfl,h1⟩,h2⟩ :=h;rw[D.zfh _ _ h1,D.zfh _ _ h2])
   |(rw[F.beq_eq _ _ h];done)
   |(rw[F.zfh _ _ h];done)
   |(rw[D.zfh _ _ h];done)
theorem D.zfh:∀x y:List D,D.zdv x y=true->x=y
 |[],[],_=>rfl
 |[],_::_,h=>by simp[D.zdv]at h
 |_::_,[],h=>by simp[D.zdv]at h
 |x::l,y::m,h=>by
  simp only[D.zdv,Z14]at h;rw[D.beq_eq x y h.1,D.zfh l m h.2]
end
theorem D.zkd:∀x y:List (List D),D.zeN x y=true->x=y
 |[],[],_=>rfl
 |[],_::_,h=>by simp[D.zeN]at h
 |_::_,[],h=>by simp[D.zeN]at h
 |x::l,y::m,h=>by
  simp only[D.zeN,Z14]at h;rw[D.zfh x y h.1,D.zkd l m h.2]
theorem Ob.zwD:∀x y:List (F×D),Ob.znm x y=true->x=y
 |[],[],_=>rfl
 |[],_::_,h=>by simp[Ob.znm]at h
 |_::_,[],h=>by simp[Ob.znm]at h
 |(a,x)::l,(b,y)::m,h=>by
  simp only[Ob.znm,Z14]at h;rw[F.beq_eq a b h.1.1,D.beq_eq x y h.1.2,Ob.zwD l m h.2]
def Ob.zwE{x y:Option Ob}(h:Ob.zrz x y=true):x=y:=by
 cases x<;>cases y<;>simp only[Ob.zrz,Z52]at h
 .rfl
 .rename_i a b;cases a<;>cases b<;>simp only[Ob.beq,Z14,beq_iff_eq,Z52]at h
  .obtain⟨⟨rfl,rfl⟩,h⟩ :=h;rw[D.zkd _ _ h]
  .rw[Ob.zwD _ _ h]
def zgy(e:De)(p:Fp):Prop:=
 match e.k with
 | .sk=>p.all=false/\p.rd=[]/\p.wr=[]
 | .nm _ r _| .cp _ _ _ r _=>p.all=false/\p.rd=r.rd/\p.wr=r.wr.map (·.1)
 | .cq _ _ _ q _ h0=>p.all=true/\p.h=h0/\p.h'=q.h
def zgy.simple{e:De}{p:Fp}(h:zgy e p)(hs:e.k.simple=true):p.all=false/\p.rd=e.k.rd/\p.wr=e.k.wr.map (·.1):=by
 unfold zgy at h;cases hk:e.k<;>simp only[hk,Kd.simple,Z52]at h hs|-
 .exact⟨h.1,h.2.1,by simpa [Kd.wr]using h.2.2⟩
 .exact h
 .exact h
def zgy.call{e:De}{p:Fp}(h:zgy e p){o':O D}{f:Nat}{args:List D}{q:CR}{n:Nat}{h0:T Ob}(hk:e.k= .cq o' f args q n h0):p.all=true/\p.h=h0/\p.h'=q.h:=by
 unfold zgy at h;simpa only[hk]using h
def zr9{x i:De}{q p:Fp}(hx:zgy x q)(hi:zgy i p)(ha:q.apart p=true)(hs:zgE x.co i.co=true):Ind x i:=by
 have hcc:x.k.simple=true\/i.k.simple=true:=by
  by_cases h1:x.k.simple=true
  .exact .inl h1
  .by_cases h2:i.k.simple=true
   .exact .inr h2
   .obtain⟨_,_,_,_,_,_,e1⟩ :=Kd.ziS (by simpa using h1);obtain⟨_,_,_,_,_,_,e2⟩ :=Kd.ziS (by simpa using h2);unfold Fp.apart at ha;rw[(hx.call e1).1,(hi.call e2).1]at ha;simp at ha
 refine⟨fun d hd=> ?_,fun d hd=> ?_,fun d hd=> ?_,fun h1 h2=> ?_,fun h1 o' f args q' n h0 he=> ?_,fun h1 o' f args q' n h0 he=> ?_,hcc⟩
 .simp[zgE,hd]at hs;exact hs.1.1
 .simp[zgE,hd]at hs;exact hs.1.2
 .simp[zgE,hd]at hs;exact hs.2
 .obtain⟨a1,a2,a3⟩ :=hx.simple h1;obtain⟨b1,b2,b3⟩ :=hi.simple h2;unfold Fp.apart at ha;rw[a1,b1]at ha;simp only[Z14,Z50,Z80]at ha;obtain⟨⟨ha1,ha3⟩,ha4⟩ :=ha;rw[a2,a3,b2,b3]at*;refine⟨fun id hid hm=> ?_,fun id hid hm=> ?_,fun id hid hm=> ?_⟩
  .have:=ha1 id hid;rw[a3]at this;simp only[Z114,Z65]at this;exact this hm
  .have:=ha3 id hid;rw[b3]at this;simp only[Z114,Z65]at this;exact this hm
  .have:=ha4 id hid;rw[b3]at this;simp only[Z114,Z65]at this;exact this hm
 .obtain⟨a1,a2,a3⟩ :=hx.simple h1;obtain⟨b1,b2,b3⟩ :=hi.call he;unfold Fp.apart at ha;rw[a1,b1]at ha;simp only[Z14,Z50,List.isEmpty_iff,a2,a3,Z182]at ha;refine⟨ha.1,fun id hid=> ?_⟩;have:=Ob.zwE (ha.2 id hid);rw[b2,b3]at this;exact this
 .obtain⟨a1,a2,a3⟩ :=hi.simple h1;obtain⟨b1,b2,b3⟩ :=hx.call he;unfold Fp.apart at ha;rw[a1,b1]at ha;simp only[Z14,Z50,List.isEmpty_iff,a2,a3,Z182]at ha;refine⟨ha.1,fun id hid=> ?_⟩;have:=Ob.zwE (ha.2 id hid);rw[b2,b3]at this;exact this
section
variable {P:Program}{w:World}{amb:Mu}{ρ:Nat->Option Nat}{c c':Nat->Prop}{pur:Nat->Bool}
def zqG(hc:∀id,c id->c' id)(H:Array Obj)(μ:Mu):Keep H μ ρ c H μ ρ c':=
 ⟨fun _ _ _ h e=>⟨e,h⟩,fun _ _ _ h=>h,fun _ _ h=>h,hc⟩
def Sim.widen{H:Array Obj}{h:Hp}(hc:∀id,c id->c' id)(s:Sim amb H h ρ c):Sim amb H h ρ c':=
 ⟨fun id ob ho=>let ⟨b,hb,hr⟩ :=s.obj id ob ho;⟨b,hb,hr.keep (zqG hc _ _) rfl⟩,s.dom,s.inj,s.out,fun id ob ho=>hc id (s.lt id ob ho),s.amb,s.glob⟩
def SS.widen{nt:Nat}{tm:Tm}{h:Hp}{a:Act}(hc:∀id,c id->c' id)(s:SS amb nt tm h ρ c a w):SS amb nt tm h ρ c' a w:=
 ⟨s.sim.widen hc,fun i d hd=>let ⟨v,h1,h2⟩ :=s.tmr i d hd;⟨v,h1,Rel.keep (zqG hc _ _) d v h2⟩,s.nt,s.df⟩
theorem Evo.widen{W:Nat->Prop}{H H':Array Obj}{h h':Hp}{ρ ρ':Nat->Option Nat}{c c' c'':Nat->Prop}(x:Evo amb W H h ρ c H' h' ρ' c')(hc:∀id,c' id->c'' id):
  Evo amb W H h ρ c H' h' ρ' c'':=
 ⟨⟨x.keep.cell,x.keep.rho,x.keep.shape,fun id hid=>hc id (x.keep.le id hid)⟩,x.size,x.blk,x.low,x.dead⟩
def Kd.low(lw mx:Nat):Kd->Prop
 | .cq _ _ _ q _ _=>lw<=q.lw/\q.mx<=mx
 |k=>∀id∈k.wr.map (·.1),lw<=id/\id<mx
def znS(a:Act)(v:Value){dst:Option Nat}{j:Nat}(h:dst≠some j):(a.put dst v).tmps[j]? =a.tmps[j]? :=by
 cases dst with
 |none=>rfl
 |some d=>
  simp only[Act.put];exact Z93 fun e=>h (by rw[e])
theorem zDb{nt:Nat}{a:Act}{cl:Cl}(hcl:zd5 P cl){ops:Array Oper}{o:Oper}{e:De}(hcomp:zbS P pur nt ops o=some e.co){σ σ':Sg}(st:Stp cl e σ σ')
  (ss:SS amb nt σ.tm σ.h ρ σ.U a w){lw mx:Nat}(hl:e.k.low lw mx){i:Nat}(hi:ops[i]? =some o){K:Act->World->Prop}{Q:Exit->Act->World->Prop}
  (hK:∀a' w' ρ',Base w w'->SS amb nt σ'.tm σ'.h ρ' σ'.U a' w'->Evo amb (fun id=>lw<=id/\id<mx) w.heap σ.h ρ σ.U w'.heap σ'.h ρ' σ'.U->(∀j,e.co.dst≠some j->a'.tmps[j]? =a.tmps[j]?)->K a' w'):
  wpOp P ops Q i K a w:=by
 obtain⟨hd,hg,ho,hlt⟩ :=zo9 hcomp;obtain⟨co,k⟩ :=e;obtain⟨hfr,hp,rfl⟩ :=st;simp only at hd hg ho hfr hp hl;have hother:∀v j,co.dst≠some j->(a.put o.dst v).tmps[j]? =a.tmps[j]? :=by
  intro v j hj;rw[hd]at hj;exact znS a v hj
 have badN:∀o',co.o=bad->co.o.res (zcy σ.tm)=some o'->kindOf o'= .n/\∀h n,opv h n o'=none:=by
  intro o' hb hr;rw[hb]at hr;simp[bad,O.res,zcy,F.d]at hr;subst hr;simp[kindOf,opv]
 have norm:∀(r:Rs) (n:Nat),zi2 P o a w (Post amb w σ.h ρ σ.U n r)->zf6 σ.tm co.gd=some true->(∀id∈r.wr.map (·.1),lw<=id/\id<mx)->
   (∀a' w' ρ',Base w w'->SS amb nt (zeH σ.tm co.dst r.d) (zbu σ.h r.wr) ρ' (fun id=>σ.U id\/n<=id/\id<r.c+1) a' w'->
    Evo amb (fun id=>lw<=id/\id<mx) w.heap σ.h ρ σ.U w'.heap (zbu σ.h r.wr) ρ' (fun id=>σ.U id\/n<=id/\id<r.c+1)->(∀j,co.dst≠some j->a'.tmps[j]? =a.tmps[j]?)->K a' w')->wpOp P ops Q i K a w:=by
  intro r n hst hw hlow hK;have hwant:=zfE ss hg hw;refine ziN hi (fun _=> ?_) (fun hf=>by rw[hwant]at hf;cases hf);refine hst.wp fun v w' hp=> ?_
  obtain⟨hb,ρ',k1,k2,k3⟩ :=hp;have hwd:∀id,UX σ.U n r.c id->σ.U id\/n<=id/\id<r.c+1:=fun id h=>h.imp (fun h=>h) fun h=>⟨h.1,by omega⟩
  refine hK _ w' ρ' hb ?_ ?_ (hother v)
  .rw[hd];exact (ss.next k3.keep k2 hlt k1).widen hwd
  .exact (k3.mono fun id _ hid=>hlow id hid).widen hwd
 cases k with
 |sk=>
  simp only[Kd.pre]at hp;have hwant:=zfE ss hg hp;refine ziN hi (fun ht=>by rw[hwant]at ht;cases ht) fun _=> ?_
  have hU:(fun id=>σ.U id\/Kd.sk.rng id)=σ.U:=by
   funext id
   exact propext ⟨fun h=>h.elim (fun h=>h) fun h=>by simp[Kd.rng]at h,.inl⟩
  refine hK _ w ρ (Base.refl w) ?_ ?_ (hother _)
  .simp only[Kd.hp,Kd.wr,zbu,Kd.d,hU];rw[hd];exact ss.next (Keep.refl _ _ _ _) ss.sim hlt (by simp only[Rel,zaj];rfl)
  .simp only[Kd.hp,Kd.wr,zbu,hU];exact Evo.refl _ _ _ _ _ _
 |nm o' r n=>
  simp only[Kd.pre]at hp;obtain⟨hw,hres,hk,hv⟩ :=hp;cases hco:zfi P pur (zpi ops o) o with
  |none=>
   rw[hco]at ho;rw[(badN o' ho hres).2]at hv;cases hv
  |some cop=>
   rw[hco]at ho;simp only[Z118]at ho;rw[ho]at hres;have hcn:¬σ.U n:=hfr n ⟨Z2 _,by have:=zqM hv;omega⟩;exact norm r n (.inl (znN ss.sim hcn ss.ev hco hres hv)) hw hl hK
 |cp o' f args r n=>
  simp only[Kd.pre]at hp;obtain⟨hw,hres,hk,hv⟩ :=hp;cases hco:zfi P pur (zpi ops o) o with
  |none=>
   rw[hco]at ho;rw[(badN o' ho hres).1]at hk;cases hk
  |some cop=>
   rw[hco]at ho;simp only[Z118]at ho;rw[ho]at hres;exact norm r n (zC7 ss hcl hco hres hk hv).2 hw hl hK
 |cq o' f args q n h0=>
  simp only[Kd.pre]at hp;obtain⟨hw,hres,hk,hv,h0e⟩ :=hp;cases hco:zfi P pur (zpi ops o) o with
  |none=>
   rw[hco]at ho;rw[(badN o' ho hres).1]at hk;cases hk
  |some cop=>
   rw[hco]at ho;simp only[Z118]at ho;rw[ho]at hres;have hwant:=zfE ss hg hw;refine ziN hi (fun _=> ?_) (fun hf=>by rw[hwant]at hf;cases hf);rw[<-h0e]at ss hK;refine (zC9 ss hcl hco hres hk hv fun id h1 h2=>hfr id ⟨h1,h2⟩).wp fun v w' hp=> ?_
   obtain⟨hb,ρ',k1,k2,k3⟩ :=hp;have hcm:=(hcl _ _ _ _ _ hv).2.2.1;have hwd:∀id,UX σ.U n q.c id->σ.U id\/n<=id/\id<q.mx:=fun id h=>h.imp (fun h=>h) fun h=>⟨h.1,by omega⟩
   refine hK _ w' ρ' hb ?_ ?_ (hother v)
   .rw[hd];exact (ss.next k3.keep k2 hlt k1).widen hwd
   .exact (k3.mono fun id _ hid=>⟨Z3 hl.1 hid.1,Z15 hid.2 hl.2⟩).widen hwd
end
end Go.Vse
end
section
namespace Go.Vse
variable [Globs]
open Go.RowKit
theorem fold_push{f:Array Nat->Oper->Nat}:∀(l:List Oper) (A:Array Nat),
  (l.foldl (fun acc o=>acc.push (f acc o)) A).size=A.size+l.length/\
  (∀k,k<A.size->(l.foldl (fun acc o=>acc.push (f acc o)) A).getD k 0=A.getD k 0)/\
  ∀i o,l[i]? =some o->∃B:Array Nat,B.size=A.size+i/\(∀k,k<A.size+i->B.getD k 0=(l.foldl (fun acc o=>acc.push (f acc o)) A).getD k 0)/\
   (l.foldl (fun acc o=>acc.push (f acc o)) A).getD (A.size+i) 0=f B o
 |[],A=>⟨by simp,fun _ _=>rfl,fun i o h=>by simp at h⟩
 |x::l,A=>by
  obtain⟨h1,h2,h3⟩ :=fold_push (f:=f) l (A.push (f A x));have hold:∀k,k<A.size->(A.push (f A x)).getD k 0=A.getD k 0:=by
   intro k hk;rw[Z19,Z19,Z117,Z49 (by omega)]
  have hall:∀k,k<A.size->(l.foldl (fun acc o=>acc.push (f acc o)) (A.push (f A x))).getD k 0=A.getD k 0:=fun k hk=>(h2 k (by simp;omega)).trans (hold k hk)
  simp only[Z42];refine⟨by rw[h1];simp;omega,hall,fun i o ho=> ?_⟩;cases i with
  |zero=>
   simp at ho;subst ho;refine⟨A,by simp,fun k hk=>(hall k (by omega)).symm,?_⟩;rw[Z111,h2 A.size (by simp),Z19];simp
  |succ i=>
   obtain⟨B,b1,b2,b3⟩ :=h3 i o (by simpa using ho);have e:(A.push (f A x)).size+i=A.size+(i+1):=by simp;omega
   rw[e]at b1 b2 b3;exact⟨B,b1,b2,b3⟩
theorem zsi{g:Nat->Nat}{j:Nat}:∀(l:List Edge) (s:Nat),(l.foldl (fun s e=>if Region.binds .any e then s|||2 ^ e.on|||g e.on else s) s).testBit j=true->
  s.testBit j=true\/∃e∈l,Region.binds .any e=true/\(e.on=j\/(g e.on).testBit j=true)
 |[],s,h=> .inl h
 |e::l,s,h=>by
  simp only[Z42]at h;rcases zsi l _ h with h|⟨e',he,hb,hh⟩
  .split at h
   .rename_i hb;simp only[Nat.testBit_or,Z115,Nat.testBit_two_pow,Z86]at h;rcases h with(h|h)|h
    .exact .inl h
    .exact .inr ⟨e,by simp,hb,.inl h⟩
    .exact .inr ⟨e,by simp,hb,.inr h⟩
   .exact .inl h
  .exact .inr ⟨e',by simp[he],hb,hh⟩
theorem zoL{ops:Array Oper}{i j:Nat}{o:Oper}(ho:ops[i]? =some o)(h:((Region.before ops).getD i 0).testBit j=true):
  ∃e∈o.after,Region.binds .any e=true/\(e.on=j\/((Region.before ops).getD e.on 0).testBit j=true):=by
 have hdef:Region.before ops=ops.toList.foldl (fun acc o=>acc.push ((fun(acc:Array Nat) (o:Oper)=>o.after.foldl (fun s e=>if Region.binds .any e then s|||2 ^ e.on|||acc.getD e.on 0 else s) 0) acc o)) #[]:=by
  unfold Region.before;rw[<-Z190]
 obtain⟨_,_,h3⟩ :=fold_push (f:=fun(acc:Array Nat) (o:Oper)=>o.after.foldl (fun s e=>if Region.binds .any e then s|||2 ^ e.on|||acc.getD e.on 0 else s) 0) ops.toList #[];obtain⟨B,b1,b2,b3⟩ :=h3 i o (by simpa using ho);rw[<-hdef]at b2 b3;simp only[Array.size_empty,Z25]at b1 b2 b3;rw[b3,<-Z190]at h;rcases zsi (g:=fun k=>B.getD k 0) o.after.toList 0 h with h|⟨e,he,hb,hh⟩
 .simp at h
 .refine⟨e,by simpa using he,hb,hh.imp (fun h=>h) fun hh=> ?_⟩
  by_cases hlt:e.on<i
  .rw[<-b2 e.on hlt];exact hh
  .simp[Z19,Z119 (show B.size<=e.on by omega)]at hh
structure It where
 i:Nat
 o:Oper
 e:De
section
variable {P:Program}{amb:Mu}{pur:Nat->Bool}{ops:Array Oper}{Q:Exit->Act->World->Prop}
structure zna(P:Program)(pur:Nat->Bool)(nt:Nat)(ops:Array Oper)(lw mx:Nat)(listed:Array Bool)(L:List It):Prop where
 size:listed.size=ops.size
 mem:∀i,i<ops.size->(listed.getD i true=false↔i∈L.map (·.i))
 nodup:(L.map (·.i)).Nodup
 item:∀x∈L,ops[x.i]? =some x.o/\zbS P pur nt ops x.o=some x.e.co/\x.e.k.low lw mx
 pair:L.Pairwise fun x y=>((Region.before ops).getD y.i 0).testBit x.i=false->Ind x.e y.e
 closed:∀i j,listed.getD i false=true->((Region.before ops).getD i 0).testBit j=true->listed.getD j false=true
def zwW{listed:Array Bool}{i:Nat}(h:listed.getD i false=true):listed.getD i true=true:=by
 rw[Z19]at h|-;cases hi:listed[i]? with
 |none=>rfl
 |some b=>rw[hi]at h;exact h
def zwX{listed:Array Bool}{i:Nat}(hlt:i<listed.size)(h:¬listed.getD i true=false):listed.getD i false=true:=by
 rw[Z19]at h|-;rw[Array.getElem?_eq_getElem hlt]at h|-;simpa using h
theorem znT{nt lw mx:Nat}{listed:Array Bool}{L:List It}(t:zna P pur nt ops lw mx listed L){i:Nat}(hr:i∈Region.ready .any ops listed){j:Nat}
  (hb:((Region.before ops).getD i 0).testBit j=true):listed.getD j false=true:=by
 obtain⟨_,o,ho,hall⟩ :=mem_ready.1 hr;obtain⟨e,he,hbd,hh⟩ :=zoL ho hb;rcases hh with rfl|hh
 .exact hall e he hbd
 .exact t.closed e.on j (hall e he hbd) hh
theorem zna.next{nt lw mx:Nat}{listed:Array Bool}{A B:List It}{x:It}(t:zna P pur nt ops lw mx listed (A++x::B))(hr:x.i∈Region.ready .any ops listed):
  zna P pur nt ops lw mx (listed.setIfInBounds x.i true) (A++B):=by
 have hsub:(A++B).Sublist (A++x::B):=Z131 (Z139 x B) A;have hxi:x.i<ops.size:=by
  obtain⟨h1,_⟩ :=t.item x (by simp);exact (Z44.1 h1).1
 have hnx:x.i∉(A++B).map (·.i):=by
  have hn:=t.nodup;simp only[Z20,Z10,Z90,Z74,Z5]at hn;intro hm;simp only[Z20,Z4]at hm;rcases hm with hm|hm
  .exact hn.2.2 _ hm _ (.inl rfl) rfl
  .exact hn.2.1.1 hm
 refine⟨by simp[t.size],fun i hi=> ?_,?_,fun y hy=>t.item y (hsub.subset hy),t.pair.sublist hsub,fun i j hi hb=> ?_⟩
 .by_cases hix:x.i=i
  .subst hix;refine⟨fun h=> ?_,fun h=>absurd h hnx⟩;rw[Z19,Z123 (by rw[t.size];exact hxi)]at h;simp at h
  .rw[getD_set_ne true hix,t.mem i hi];simp only[Z20,Z10,Z4,Z5];constructor
   .rintro (h|h|h)
    .exact .inl h
    .exact absurd h.symm hix
    .exact .inr h
   .rintro (h|h)
    .exact .inl h
    .exact .inr (.inr h)
 .exact t.nodup.sublist (hsub.map _)
 .by_cases hix:x.i=i
  .subst hix;exact getD_set_true (znT t hr hb)
  .rw[getD_set_ne false hix]at hi;exact getD_set_true (t.closed i j hi hb)
theorem zmx:∀(L:List It),L≠[]->∃x∈L,∀y∈L,x.i<=y.i
 |[],h=>absurd rfl h
 |[x],_=>⟨x,by simp,fun y hy=>by simp at hy;rw[hy];exact Z2 _⟩
 |x::y::L,_=>by
  obtain⟨z,hz,hm⟩ :=zmx (y::L) (by simp);rcases Z196 x.i z.i with h|h
  .refine⟨x,by simp,fun u hu=> ?_⟩;rcases Z5.1 hu with rfl|hu
   .exact Z2 _
   .exact Z3 h (hm u hu)
  .refine⟨z,Z40 _ hz,fun u hu=> ?_⟩;rcases Z5.1 hu with rfl|hu
   .exact h
   .exact hm u hu
def zqe(hb:zeO ops=true){i:Nat}{o:Oper}(ho:ops[i]? =some o):∀e∈o.after,Region.binds .any e=true->e.on<i:=by
 intro e he hbd;unfold zeO at hb;have hlt:i<ops.size:=(Z44.1 ho).1;have:=Z50.1 hb i (Z174.2 hlt);simp only[ho]at this;have:=Array.all_eq_true_iff_forall_mem.1 this e he;simpa [hbd]using this
def zsW(hb:zeO ops=true){nt lw mx:Nat}{listed:Array Bool}{L:List It}(t:zna P pur nt ops lw mx listed L)(hL:L≠[]):Region.ready .any ops listed≠[]:=by
 obtain⟨x,hx,hm⟩ :=zmx L hL;obtain⟨h1,_⟩ :=t.item x hx;have hlt:x.i<ops.size:=(Z44.1 h1).1;have:x.i∈Region.ready .any ops listed:=by
  refine mem_ready.2 ⟨(t.mem x.i hlt).2 (Z12.2 ⟨x,hx,rfl⟩),x.o,h1,fun e he hbd=> ?_⟩;have hlt':=zqe hb h1 e he hbd;refine zwX (by rw[t.size];omega) fun hf=> ?_
  obtain⟨y,hy,hyi⟩ :=Z12.1 ((t.mem e.on (by omega)).1 hf);have:=hm y hy;omega
 intro h;rw[h]at this;simp at this
def ready_nil{nt lw mx:Nat}{listed:Array Bool}(t:zna P pur nt ops lw mx listed []):Region.ready .any ops listed=[]:=by
 cases hr:Region.ready .any ops listed with
 |nil=>rfl
 |cons i l=>
  have hi:i∈Region.ready .any ops listed:=by rw[hr];simp
  obtain⟨h1,o,ho,_⟩ :=mem_ready.1 hi;have:=(t.mem i (Z44.1 ho).1).1 h1;simp at this
theorem zBA{nt:Nat}{cl:Cl}(hcl:zd5 P cl)(hbk:zeO ops=true){lw mx:Nat}{τ:Sg}:
  ∀(fuel:Nat) (listed:Array Bool) (L:List It) (σ:Sg) (ρ:Nat->Option Nat) (a:Act) (w:World),L.length=fuel->zna P pur nt ops lw mx listed L->Exec cl (L.map (·.e)) σ τ->
   SS amb nt σ.tm σ.h ρ σ.U a w->
   (∀a' w' ρ',Base w w'->SS amb nt τ.tm τ.h ρ' τ.U a' w'->Evo amb (fun id=>lw<=id/\id<mx) w.heap σ.h ρ σ.U w'.heap τ.h ρ' τ.U->Q .normal a' w')->wpAny P .any ops Q fuel listed a w:=by
 intro fuel
 induction fuel with
 |zero=>
  intro listed L σ ρ a w hl t hx ss hQ;have:L=[]:=Z17.1 hl;subst this;simp only[Z85,Exec]at hx;subst hx;exact⟨ready_nil t,hQ a w ρ (Base.refl w) ss (Evo.refl _ _ _ _ _ _)⟩
 |succ fuel ih=>
  intro listed L σ ρ a w hl t hx ss hQ;refine⟨fun hn=>absurd hn (zsW hbk t (fun e=>by rw[e]at hl;simp at hl)),fun i hi=> ?_⟩;obtain⟨h1,o,ho,_⟩ :=mem_ready.1 hi;obtain⟨x,hxL,rfl⟩ :=Z12.1 ((t.mem i (Z44.1 ho).1).1 h1);obtain⟨A,B,rfl⟩ :=Z120 hxL;have hind:∀y∈A.map (·.e),Ind y x.e:=by
   intro y hy;obtain⟨z,hz,rfl⟩ :=Z12.1 hy;have hp:=(Z100.1 t.pair).2.2 z hz x (by simp);refine hp ?_;cases hbit:((Region.before ops).getD x.i 0).testBit z.i with
   |false=>rfl
   |true=>
    have hlz:=znT t hi hbit;have hzo:=(t.item z (by simp[hz])).1;have hzf:=(t.mem z.i (Z44.1 hzo).1).2 (Z12.2 ⟨z,by simp[hz],rfl⟩);rw[zwW hlz]at hzf;cases hzf
  simp only[Z20,Z10]at hx;obtain⟨σ1,st,hx1⟩ :=Exec.front hind hx;obtain⟨hio,hco,hlow⟩ :=t.item x (by simp);refine zDb hcl hco st ss hlow hio fun a1 w1 ρ1 b1 ss1 ev1 _=> ?_
  refine ih _ (A++B) σ1 ρ1 a1 w1 (by simp at hl|-;omega) (t.next hi) (by rw[Z20];exact hx1) ss1 fun a2 w2 ρ2 b2 ss2 ev2=> ?_
  exact hQ a2 w2 ρ2 (b1.trans b2) ss2 (ev1.trans ev2)
end
end Go.Vse
end
section
namespace Go.Vse
variable [Globs]
open Go.RowKit
structure Pe where
 d:Nat
 cs:List F
 n:Nat
 b:Nat
def obP(p:Pe):Ob:= .arr p.cs.length 0 [p.cs.map D.f]
def zcc(amb:Mu)(l:List Pe):Mu:=fun b i=>amb b i\/∃p∈l,p.b=b
def zme(amb:Mu):zcc amb []=amb:=by
 funext b i
 simp[zcc]
theorem zxe{amb:Mu}{l:List Pe}{p:Pe}{h:Hp}{ρ:Nat->Option Nat}(hn:h p.n=none)(hr:ρ p.n=none):
  zal (zcc amb (p::l)) h ρ=zal (zcc amb l) (upd h p.n (some (obP p))) (upd ρ p.n (some p.b)):=by
 funext b i
 refine propext ⟨?_,?_⟩
 .rintro ((ha|⟨q,hq,rfl⟩)|⟨id,ob,h1,h2,h3⟩)
  .exact .inl (.inl ha)
  .rcases Z5.1 hq with rfl|hq
   .exact .inr ⟨q.n,obP q,by simp,by simp,by simp[obP,Ob.mut]⟩
   .exact .inl (.inr ⟨q,hq,rfl⟩)
  .have hid:id≠p.n:=fun e=>by rw[e,hn]at h1;cases h1
   exact .inr ⟨id,ob,by rw[upd_ne _ _ _ hid];exact h1,by rw[upd_ne _ _ _ hid];exact h2,h3⟩
 .rintro ((ha|⟨q,hq,rfl⟩)|⟨id,ob,h1,h2,h3⟩)
  .exact .inl (.inl ha)
  .exact .inl (.inr ⟨q,Z40 _ hq,rfl⟩)
  .by_cases hid:id=p.n
   .subst hid;simp at h2;subst h2;exact .inl (.inr ⟨p,by simp,rfl⟩)
   .rw[upd_ne _ _ _ hid]at h1 h2;exact .inr ⟨id,ob,h1,h2,h3⟩
def Sim.noId{amb:Mu}{H:Array Obj}{h:Hp}{ρ:Nat->Option Nat}{c:Nat->Prop}(s:Sim amb H h ρ c){n:Nat}(hn:¬c n):h n=none/\ρ n=none:=by
 have h1:h n=none:=by
  cases e:h n with
  |none=>rfl
  |some ob=>exact absurd (s.lt n ob e) hn
 refine⟨h1,?_⟩;cases e:ρ n with
 |none=>rfl
 |some b=>
  obtain⟨_,ob,h2⟩ :=s.dom n b e;rw[h1]at h2;cases h2
theorem Sim.show{amb:Mu}{l:List Pe}{p:Pe}{H:Array Obj}{h:Hp}{ρ:Nat->Option Nat}{c:Nat->Prop}(s:Sim (zcc amb (p::l)) H h ρ c)(hc:¬c p.n)
  (hob:zeK H (zal (zcc amb (p::l)) h ρ) ρ c p.b (obP p))(hlt:p.b<H.size)(hnb:∀q∈l,q.b≠p.b)(ham:∀i,¬amb p.b i):
  Sim (zcc amb l) H (upd h p.n (some (obP p))) (upd ρ p.n (some p.b)) (fun id=>c id\/id=p.n)/\
  Keep H (zal (zcc amb (p::l)) h ρ) ρ c H (zal (zcc amb l) (upd h p.n (some (obP p))) (upd ρ p.n (some p.b))) (upd ρ p.n (some p.b)) (fun id=>c id\/id=p.n):=by
 obtain⟨hn,hr⟩ :=s.noId hc;have hmu:=zxe (amb:=amb) (l:=l) hn hr;have hne:∀id,c id->id≠p.n:=fun id hid e=>hc (e▸hid)
 have hkeep:Keep H (zal (zcc amb (p::l)) h ρ) ρ c H (zal (zcc amb l) (upd h p.n (some (obP p))) (upd ρ p.n (some p.b))) (upd ρ p.n (some p.b)) (fun id=>c id\/id=p.n):=by
  rw[<-hmu];exact⟨fun _ _ _ h e=>⟨e,h⟩,fun id b hid hb=>by rw[upd_ne _ _ _ (hne id hid)]at hb;exact hb,fun _ _ h=>h,fun _ h=> .inl h⟩
 have hown:∀id b,ρ id=some b->b≠p.b:=by
  intro id b hb e;subst e;exact s.out id _ 0 hb (.inr ⟨p,by simp,rfl⟩)
 refine⟨⟨fun id ob ho=> ?_,fun id b hb=> ?_,fun id id' b h1 h2=> ?_,fun id b i hb=> ?_,fun id ob ho=> ?_,fun b i hx=> ?_,fun n cs hg=>za1.keep hkeep.cell _ _ _ (s.glob n cs hg)⟩,hkeep⟩
 .by_cases hid:id=p.n
  .subst hid;simp at ho;subst ho;exact⟨p.b,by simp,hob.keep hkeep rfl⟩
  .rw[upd_ne _ _ _ hid]at ho;obtain⟨b,hb,hq⟩ :=s.obj id ob ho;exact⟨b,by rw[upd_ne _ _ _ hid];exact hb,hq.keep hkeep rfl⟩
 .by_cases hid:id=p.n
  .subst hid;simp at hb;subst hb;exact⟨hlt,obP p,by simp⟩
  .rw[upd_ne _ _ _ hid]at hb;obtain⟨h1,ob,h2⟩ :=s.dom id b hb;exact⟨h1,ob,by rw[upd_ne _ _ _ hid];exact h2⟩
 .by_cases e1:id=p.n<;>by_cases e2:id'=p.n
  .rw[e1,e2]
  .subst e1;simp at h1;rw[upd_ne _ _ _ e2]at h2;exact absurd h1.symm (hown _ _ h2)
  .subst e2;simp at h2;rw[upd_ne _ _ _ e1]at h1;exact absurd h2.symm (hown _ _ h1)
  .rw[upd_ne _ _ _ e1]at h1;rw[upd_ne _ _ _ e2]at h2;exact s.inj id id' b h1 h2
 .by_cases hid:id=p.n
  .subst hid;simp at hb;subst hb;rintro (h1|⟨q,hq,he⟩)
   .exact ham i h1
   .exact hnb q hq he
  .rw[upd_ne _ _ _ hid]at hb;rintro (h1|⟨q,hq,he⟩)
   .exact s.out id b i hb (.inl h1)
   .exact s.out id b i hb (.inr ⟨q,Z40 _ hq,he⟩)
 .by_cases hid:id=p.n
  .exact .inr hid
  .rw[upd_ne _ _ _ hid]at ho;exact .inl (s.lt id ob ho)
 .rcases hx with hx|⟨q,hq,he⟩
  .exact s.amb b i (.inl hx)
  .exact s.amb b i (.inr ⟨q,Z40 _ hq,he⟩)
def zwu{H:Array Obj}{μ:Mu}{ρ ρ':Nat->Option Nat}{c c':Nat->Prop}{b:Nat}{cs:List F}(h:zeK H μ ρ c b (.arr cs.length 0 [cs.map D.f])):zeK H μ ρ' c' b (.arr cs.length 0 [cs.map D.f]):=by
 unfold zeK at h|-;obtain⟨vs,elem,fr,h1,h2,h3,h4,h5⟩ :=h;refine⟨vs,elem,fr,h1,h2,h3,h4,fun i el hi j d hd=> ?_⟩;obtain⟨v,e1,e2,hr⟩ :=h5 i el hi j d hd;refine⟨v,e1,e2,?_⟩;have hel:el=cs.map D.f:=by
  cases i with
  |zero=>simpa using hi.symm
  |succ i=>simp at hi
 subst hel;rw[Z36]at hd;obtain⟨x,hx,rfl⟩ :=Option.map_eq_some_iff.1 hd;simpa only[Rel]using hr
theorem Sim.hide{amb:Mu}{l:List Pe}{H H':Array Obj}{h:Hp}{ρ ρ':Nat->Option Nat}{c:Nat->Prop}{d n:Nat}{cs:List F}(s:Sim (zcc amb l) H h ρ c)(hc:¬c n)
  (s':Sim (zcc amb l) H' (upd h n (some (.arr cs.length 0 [cs.map D.f]))) ρ' (UX c n (n+1)))
  (ev:Evo (zcc amb l) (fun id=>id∈[n]) H h ρ c H' (upd h n (some (.arr cs.length 0 [cs.map D.f]))) ρ' (UX c n (n+1))):
  ∃b,ρ' n=some b/\H.size<=b/\b<H'.size/\Sim (zcc amb (⟨d,cs,n,b⟩ ::l)) H' h (upd ρ' n none) c/\
   Keep H (zal (zcc amb l) h ρ) ρ c H' (zal (zcc amb (⟨d,cs,n,b⟩ ::l)) h (upd ρ' n none)) (upd ρ' n none) c/\
   zeK H' (zal (zcc amb (⟨d,cs,n,b⟩ ::l)) h (upd ρ' n none)) (upd ρ' n none) c b (obP ⟨d,cs,n,b⟩)/\
   (∀id,c id->upd ρ' n none id=ρ id/\∀b',ρ id=some b'->H'[b']? =H[b']?)/\∀b',b'<H.size->(∀id,ρ id≠some b')->H'[b']? =H[b']? /\∀id,upd ρ' n none id≠some b':=by
 obtain⟨hn,hr⟩ :=s.noId hc;obtain⟨b,hb,hob⟩ :=s'.obj n (.arr cs.length 0 [cs.map D.f]) (by simp);have hne:∀id,c id->id≠n:=fun id hid e=>hc (e▸hid)
 have hlow:=fun id (hid:c id)=>ev.low id (by simpa using hne id hid) hid
 have hge:H.size<=b:=by
  rcases Z145 b H.size with hlt|hge
  .by_cases hx:∃id,ρ id=some b
   .obtain⟨id,hid⟩ :=hx;obtain⟨_,ob,ho⟩ :=s.dom id b hid;have hcid:=s.lt id ob ho;have h1:=(hlow id hcid).2.1;rw[hid]at h1;exact absurd (s'.inj id n b h1 hb) (hne id hcid)
   .exact absurd hb ((ev.blk b hlt fun id e=>hx ⟨id,e⟩).2 n)
  .exact hge
 have hback:upd (upd ρ' n none) n (some b)=ρ':=by
  funext id
  by_cases hid:id=n
  .subst hid;simp[hb]
  .simp[upd,hid]
 have hmu:zal (zcc amb (⟨d,cs,n,b⟩ ::l)) h (upd ρ' n none)=zal (zcc amb l) (upd h n (some (.arr cs.length 0 [cs.map D.f]))) ρ':=by
  have:=zxe (amb:=amb) (l:=l) (p:=⟨d,cs,n,b⟩) (h:=h) (ρ:=upd ρ' n none) hn (by simp);simp only[hback]at this;exact this
 have hkeep:Keep H (zal (zcc amb l) h ρ) ρ c H' (zal (zcc amb (⟨d,cs,n,b⟩ ::l)) h (upd ρ' n none)) (upd ρ' n none) c:=by
  rw[hmu];refine⟨ev.keep.cell,fun id b' hid hb'=> ?_,ev.keep.shape,fun _ h=>h⟩;rw[upd_ne _ _ _ (hne id hid)]at hb';exact ev.keep.rho id b' hid hb'
 have hsame:∀id,c id->upd ρ' n none id=ρ id:=fun id hid=>by
  rw[upd_ne _ _ _ (hne id hid)];exact (hlow id hid).2.1
 have hobk:zeK H' (zal (zcc amb (⟨d,cs,n,b⟩ ::l)) h (upd ρ' n none)) (upd ρ' n none) c b (obP ⟨d,cs,n,b⟩):=by
  rw[hmu];exact zwu hob
 refine⟨b,hb,hge,(s'.dom n b hb).1,⟨fun id ob ho=> ?_,fun id b' hb'=> ?_,fun id id' b' h1 h2=> ?_,fun id b' i hb'=> ?_,s.lt,fun b' i hx=> ?_,fun m cs' hg=> ?_⟩,hkeep,hobk,fun id hid=>⟨hsame id hid,(hlow id hid).2.2⟩,fun b' h1 h2=>⟨(ev.blk b' h1 h2).1,fun id hx=> ?_⟩⟩
 .have hcid:=s.lt id ob ho;obtain⟨b',hb',hq⟩ :=s.obj id ob ho;exact⟨b',by rw[hsame id hcid];exact hb',hq.keep hkeep ((hlow id hcid).2.2 b' hb')⟩
 .by_cases hid:id=n
  .subst hid;simp at hb'
  .rw[upd_ne _ _ _ hid]at hb';obtain⟨h1,ob,h2⟩ :=s'.dom id b' hb';rw[upd_ne _ _ _ hid]at h2;exact⟨h1,ob,h2⟩
 .by_cases e1:id=n
  .subst e1;simp at h1
  .by_cases e2:id'=n
   .subst e2;simp at h2
   .rw[upd_ne _ _ _ e1]at h1;rw[upd_ne _ _ _ e2]at h2;exact s'.inj id id' b' h1 h2
 .by_cases e1:id=n
  .subst e1;simp at hb'
  .rw[upd_ne _ _ _ e1]at hb';rintro (h1|⟨q,hq,he⟩)
   .exact s'.out id b' i hb' (.inl h1)
   .rcases Z5.1 hq with rfl|hq
    .simp only at he;subst he;exact e1 (s'.inj id n _ hb' hb)
    .exact s'.out id b' i hb' (.inr ⟨q,hq,he⟩)
 .rcases hx with hx|⟨q,hq,he⟩
  .exact s'.amb b' i (.inl hx)
  .rcases Z5.1 hq with rfl|hq
   .simp only at he;subst he;exact (s'.dom n _ hb).1
   .exact s'.amb b' i (.inr ⟨q,hq,he⟩)
 .rw[hmu];exact s'.glob m cs' hg
 .by_cases e1:id=n
  .subst e1;simp at hx
  .rw[upd_ne _ _ _ e1]at hx;exact (ev.blk b' h1 h2).2 id hx
structure zLo(amb:Mu)(lo:Nat)(a:Act)(H:Array Obj)(μ:Mu)(ρ:Nat->Option Nat)(c:Nat->Prop)(p:Pe):Prop where
 slot:a.tmps[p.d]? =some (.pointer (some ⟨p.b,0,none⟩))
 ob:zeK H μ ρ c p.b (obP p)
 lt:p.b<H.size
 ge:lo<=p.b
 am:∀i,¬amb p.b i
def zdQ(l:List Pe)(tm:Tm):Tm:=fun i=>if i∈l.map (·.d)then none else tm i
structure SSP(amb:Mu)(lo nt:Nat)(l:List Pe)(σ:Sg)(ρ:Nat->Option Nat)(a:Act)(w:World):Prop where
 ss:SS (zcc amb l) nt (zdQ l σ.tm) σ.h ρ σ.U a w
 pd:∀p∈l,zLo amb lo a w.heap (zal (zcc amb l) σ.h ρ) ρ σ.U p
 nb:(l.map (·.b)).Nodup
 nd:(l.map (·.d)).Nodup
structure zev(amb:Mu)(l:List Pe)(W:Nat->Prop)(H:Array Obj)(h:Hp)(ρ:Nat->Option Nat)(c:Nat->Prop)(H':Array Obj)(h':Hp)(ρ':Nat->Option Nat)(c':Nat->Prop):Prop where
 keep:Keep H (zal amb h ρ) ρ c H' (zal (zcc amb l) h' ρ') ρ' c'
 size:H.size<=H'.size
 blk:∀b,b<H.size->(∀id,ρ id≠some b)->H'[b]? =H[b]? /\∀id,ρ' id≠some b
 low:∀id,¬W id->c id->h' id=h id/\ρ' id=ρ id/\∀b,ρ id=some b->H'[b]? =H[b]?
 dead:∀id,c id->h id=none->h' id=none
section
variable {amb:Mu}{l:List Pe}{W:Nat->Prop}{H0 H H':Array Obj}{h0 h h':Hp}{ρ0 ρ ρ':Nat->Option Nat}{c0 c c':Nat->Prop}
def zev.nil(e:zev amb [] W H0 h0 ρ0 c0 H h ρ c):Evo amb W H0 h0 ρ0 c0 H h ρ c:=by
 have k:=e.keep;rw[zme]at k;exact⟨k,e.size,e.blk,e.low,e.dead⟩
def zev.refl(amb:Mu)(W:Nat->Prop)(H:Array Obj)(h:Hp)(ρ:Nat->Option Nat)(c:Nat->Prop):zev amb [] W H h ρ c H h ρ c:=by
 have e:=Evo.refl amb W H h ρ c;refine⟨?_,e.size,e.blk,e.low,e.dead⟩;rw[zme];exact e.keep
def zev.step(x:zev amb l W H0 h0 ρ0 c0 H h ρ c)(y:Evo (zcc amb l) W H h ρ c H' h' ρ' c'):zev amb l W H0 h0 ρ0 c0 H' h' ρ' c':=
  ⟨x.keep.trans y.keep,Z3 x.size y.size,fun b hb hn=>
    let ⟨h1,h2⟩ :=x.blk b hb hn
    let ⟨h3,h4⟩ :=y.blk b (Z15 hb x.size) h2
    ⟨h3.trans h1,h4⟩,
   fun id hn hc=>by
    obtain⟨a1,a2,a3⟩ :=x.low id hn hc;obtain⟨b1,b2,b3⟩ :=y.low id hn (x.keep.le id hc);exact⟨b1.trans a1,b2.trans a2,fun b hb=>(b3 b (a2.trans hb)).trans (a3 b hb)⟩,
   fun id hc hd=>y.dead id (x.keep.le id hc) (x.dead id hc hd)⟩
theorem zev.pend{p:Pe}(x:zev amb l W H0 h0 ρ0 c0 H h ρ c)(hs:H.size<=H'.size)(hk:Keep H (zal (zcc amb l) h ρ) ρ c H' (zal (zcc amb (p::l)) h ρ') ρ' c)
    (h1:∀id,c id->ρ' id=ρ id/\∀b',ρ id=some b'->H'[b']? =H[b']?)(h2:∀b',b'<H.size->(∀id,ρ id≠some b')->H'[b']? =H[b']? /\∀id,ρ' id≠some b'):
    zev amb (p::l) W H0 h0 ρ0 c0 H' h ρ' c:=
  ⟨x.keep.trans hk,Z3 x.size hs,fun b hb hn=>
    let ⟨h3,h4⟩ :=x.blk b hb hn
    let ⟨h5,h6⟩ :=h2 b (Z15 hb x.size) h4
    ⟨h5.trans h3,h6⟩,
   fun id hn hc=>by
    obtain⟨a1,a2,a3⟩ :=x.low id hn hc;obtain⟨b2,b3⟩ :=h1 id (x.keep.le id hc);exact⟨a1,b2.trans a2,fun b hb=>(b3 b (a2.trans hb)).trans (a3 b hb)⟩,
   x.dead⟩
theorem zev.show{p:Pe}(x:zev amb (p::l) W H0 h0 ρ0 c0 H h ρ c)(hc:¬c p.n)(hge:H0.size<=p.b)
  (hk:Keep H (zal (zcc amb (p::l)) h ρ) ρ c H (zal (zcc amb l) (upd h p.n (some (obP p))) (upd ρ p.n (some p.b))) (upd ρ p.n (some p.b)) (fun id=>c id\/id=p.n)):
  zev amb l W H0 h0 ρ0 c0 H (upd h p.n (some (obP p))) (upd ρ p.n (some p.b)) (fun id=>c id\/id=p.n):=by
 have hne:∀id,c0 id->id≠p.n:=fun id hid e=>hc (e▸x.keep.le id hid)
 refine⟨x.keep.trans hk,x.size,fun b hb hn=> ?_,fun id hn hid=> ?_,fun id hid hd=> ?_⟩
 .obtain⟨h3,h4⟩ :=x.blk b hb hn;refine⟨h3,fun id hx=> ?_⟩
  by_cases e:id=p.n
  .subst e;simp at hx;omega
  .rw[upd_ne _ _ _ e]at hx;exact h4 id hx
 .rw[upd_ne _ _ _ (hne id hid),upd_ne _ _ _ (hne id hid)];exact x.low id hn hid
 .rw[upd_ne _ _ _ (hne id hid)];exact x.dead id hid hd
end
def znd{amb:Mu}{l m:List Pe}(h:l.Perm m):zcc amb l=zcc amb m:=by
 funext b i
 simp only[zcc,h.mem_iff]
def zAq{l m:List Pe}(h:l.Perm m)(tm:Tm):zdQ l tm=zdQ m tm:=by
 funext i
 simp only[zdQ,(h.map (·.d)).mem_iff]
def SSP.perm{amb:Mu}{lo nt:Nat}{l m:List Pe}{σ:Sg}{ρ:Nat->Option Nat}{a:Act}{w:World}(s:SSP amb lo nt l σ ρ a w)(h:l.Perm m):SSP amb lo nt m σ ρ a w:=by
 refine⟨?_,fun p hp=> ?_,(h.map _).nodup_iff.1 s.nb,(h.map _).nodup_iff.1 s.nd⟩
 .rw[<-znd h,<-zAq h];exact s.ss
 .rw[<-znd h];exact s.pd p (h.mem_iff.2 hp)
def zev.perm{amb:Mu}{l m:List Pe}{W:Nat->Prop}{H H':Array Obj}{h h':Hp}{ρ ρ':Nat->Option Nat}{c c':Nat->Prop}(e:zev amb l W H h ρ c H' h' ρ' c')(hp:l.Perm m):zev amb m W H h ρ c H' h' ρ' c':=by
 refine⟨?_,e.size,e.blk,e.low,e.dead⟩;rw[<-znd hp];exact e.keep
def zpr{l:List Pe}{tm:Tm}{i:Nat}(h:i∉l.map (·.d)):zdQ l tm i=tm i:=by
 simp only[zdQ,h,Z63]
def zqw{l:List Pe}{tm:Tm}{i:Nat}{d:D}(h:zdQ l tm i=some d):i∉l.map (·.d)/\tm i=some d:=by
 unfold zdQ at h;split at h
 .cases h
 .exact⟨by assumption,h⟩
section
variable {P:Program}{amb:Mu}{pur:Nat->Bool}{ops:Array Oper}{Q:Exit->Act->World->Prop}{lo nt:Nat}{l:List Pe}{ρ:Nat->Option Nat}{a:Act}{w:World}
theorem zFO{cl:Cl}(hcl:zd5 P cl){o:Oper}{e:De}(hcomp:zbS P pur nt ops o=some e.co){σ σ':Sg}(st:Stp cl e σ σ')(s:SSP amb lo nt l σ ρ a w)
  (h1:∀p∈l,p.d∉e.co.slots)(h2:∀p∈l,e.co.dst≠some p.d){lw mx:Nat}(hl:e.k.low lw mx){i:Nat}(hi:ops[i]? =some o){K:Act->World->Prop}
  (hK:∀a' w' ρ',Base w w'->SSP amb lo nt l σ' ρ' a' w'->Evo (zcc amb l) (fun id=>lw<=id/\id<mx) w.heap σ.h ρ σ.U w'.heap σ'.h ρ' σ'.U->K a' w'):
  wpOp P ops Q i K a w:=by
 have hag:agree σ.tm (zdQ l σ.tm) e.co.slots:=by
  intro n hn;refine (zpr fun hm=> ?_).symm;obtain⟨p,hp,rfl⟩ :=Z12.1 hm;exact h1 p hp hn
 have hput:zeH (zdQ l σ.tm) e.co.dst e.k.d=zdQ l (zeH σ.tm e.co.dst e.k.d):=by
  cases hd:e.co.dst with
  |none=>rfl
  |some j=>
   have hj:j∉l.map (·.d):=fun hm=>by
    obtain⟨p,hp,rfl⟩ :=Z12.1 hm;exact h2 p hp hd
   funext m
   simp only[zeH,upd,zdQ]
   by_cases hm:m=j
   .subst hm;simp[hj]
   .simp[hm]
 obtain⟨hfr,hp,heq⟩ :=st;subst heq;have st':Stp cl e ⟨zdQ l σ.tm,σ.h,σ.U⟩ ⟨zdQ l (zeH σ.tm e.co.dst e.k.d),e.k.hp σ.h,fun id=>σ.U id\/e.k.rng id⟩ :=
  ⟨hfr,Kd.zpC (τ:=⟨zdQ l σ.tm,σ.h,σ.U⟩) hp hag (fun _ _=>rfl) (fun _=>rfl),by rw[hput]⟩
 refine zDb hcl hcomp st' s.ss hl hi fun a' w' ρ' hb ss' ev hoth=>hK a' w' ρ' hb ⟨ss',fun p hp=> ?_,s.nb,s.nd⟩ ev
 have k:=s.pd p hp;refine⟨?_,k.ob.keep ev.keep (ev.blk p.b k.lt fun id hx=>s.ss.sim.out id p.b 0 hx (.inr ⟨p,hp,rfl⟩)).1,Z15 k.lt ev.size,k.ge,k.am⟩;rw[hoth p.d (h2 p hp)];exact k.slot
theorem zFN{o:Oper}{d n:Nat}{cs:List F}(hcomp:zbS P pur nt ops o=some ⟨some d,none,.new cs⟩){σ:Sg}(s:SSP amb lo nt l σ ρ a w)(hn:¬σ.U n)(hd':d∉l.map (·.d))(hlo:lo<=w.heap.size)
  {i:Nat}(hi:ops[i]? =some o){K:Act->World->Prop}
  (hK:∀a' w' ρ' b,Base w w'->SSP amb lo nt (⟨d,cs,n,b⟩ ::l) σ ρ' a' w'->w.heap.size<=w'.heap.size->Keep w.heap (zal (zcc amb l) σ.h ρ) ρ σ.U w'.heap (zal (zcc amb (⟨d,cs,n,b⟩ ::l)) σ.h ρ') ρ' σ.U->
   (∀id,σ.U id->ρ' id=ρ id/\∀b',ρ id=some b'->w'.heap[b']? =w.heap[b']?)->(∀b',b'<w.heap.size->(∀id,ρ id≠some b')->w'.heap[b']? =w.heap[b']? /\∀id,ρ' id≠some b')->K a' w'):
  wpOp P ops Q i K a w:=by
 obtain⟨hd,hg,ho,hlt⟩ :=zo9 hcomp;simp only at hd hg ho;cases hco:zfi P pur (zpi ops o) o with
 |none=>
  rw[hco]at ho;simp[bad]at ho
 |some cop=>
  rw[hco]at ho;simp only[Z118]at ho;subst ho;have hst:zi2 P o a w (Post (zcc amb l) w σ.h ρ σ.U n {d:= .ptr n cs.length 0 0,wr:=[(n,some (.arr cs.length 0 [cs.map D.f]))],c:=n+1}):=
   .inl (znN s.ss.sim hn s.ss.ev hco (o':= .new cs) rfl rfl)
  have hwant:=zfE s.ss hg (show zf6 (zdQ l σ.tm) none=some true from rfl);refine ziN hi (fun _=> ?_) (fun hf=>by rw[hwant]at hf;cases hf);refine hst.wp fun v w' hp=> ?_
  obtain⟨hb,ρ',k1,k2,k3⟩ :=hp;obtain⟨b,hρ,hge,hltb,sim',keep',ob',same',blk'⟩ :=s.ss.sim.hide (d:=d) hn k2 (k3.mono fun id _ hid=>by simpa using hid);simp only[Rel]at k1;obtain⟨_,a0,rfl,hall⟩ :=k1;have ha0:=hall b hρ;have hdlt:d<nt:=hlt d (by rw[<-hd]);refine hK _ w' (upd ρ' n none) b hb ⟨⟨sim',fun i d' hi'=> ?_,?_,?_⟩,fun q hq=> ?_,?_,?_⟩ k3.size keep' same' blk'
  .obtain⟨h1,h2⟩ :=zqw hi';simp only[Z10,Z5,not_or]at h1;obtain⟨v',e1,e2⟩ :=s.ss.tmr i d' (by rw[zpr h1.2];exact h2);refine⟨v',?_,Rel.keep keep' d' v' e2⟩;rw[<-hd,znS a _ (fun e=>h1.1 (Z53 e).symm)];exact e1
  .rw[<-hd];simp[Act.put,s.ss.nt]
  .rw[<-hd];exact s.ss.df
  .rcases Z5.1 hq with rfl|hq
   .refine⟨?_,ob',hltb,Z3 hlo hge,fun i hx=> ?_⟩
    .rw[<-hd];simp[Act.put,Z15 hdlt s.ss.nt,ha0]
    .have:=s.ss.sim.amb b i (.inl hx);omega
   .have k:=s.pd q hq;refine⟨?_,k.ob.keep keep' (blk' q.b k.lt fun id hx=>s.ss.sim.out id q.b 0 hx (.inr ⟨q,hq,rfl⟩)).1,Z15 k.lt k3.size,k.ge,k.am⟩;rw[<-hd,znS a _ (fun e=>hd' (Z12.2 ⟨q,hq,(Z53 e).symm⟩))];exact k.slot
  .simp only[Z10,Z74];refine⟨fun hm=> ?_,s.nb⟩;obtain⟨q,hq,he⟩ :=Z12.1 hm;have:=(s.pd q hq).lt;omega
  .simp only[Z10,Z74];exact⟨hd',s.nd⟩
theorem zvW{cl:Cl}{p:Pe}{e:De}{r:Rs}(hco:e.co=⟨some p.d,none,.new p.cs⟩)(hk:e.k= .nm (.new p.cs) r p.n){σ σ':Sg}(st:Stp cl e σ σ')(s:SSP amb lo nt (p::l) σ ρ a w)
  {W:Nat->Prop}{H0:Array Obj}{h0:Hp}{ρ0:Nat->Option Nat}{c0:Nat->Prop}(ev:zev amb (p::l) W H0 h0 ρ0 c0 w.heap σ.h ρ σ.U)(hlo:lo=H0.size):
  SSP amb lo nt l σ' (upd ρ p.n (some p.b)) a w/\zev amb l W H0 h0 ρ0 c0 w.heap σ'.h (upd ρ p.n (some p.b)) σ'.U:=by
 obtain⟨hfr,hp,rfl⟩ :=st;rw[hk]at hp;simp only[Kd.pre]at hp;obtain⟨_,_,_,hv⟩ :=hp;simp only[opv,Z45]at hv;subst hv;have hn:¬σ.U p.n:=hfr p.n (by rw[hk];simp only[Kd.rng];omega);have k:=s.pd p (by simp);have hnb:=s.nb;have hnd:=s.nd;simp only[Z10,Z74]at hnb hnd;obtain⟨sim',keep'⟩ :=s.ss.sim.show hn k.ob k.lt (fun q hq e=>hnb.1 (Z12.2 ⟨q,hq,e⟩)) k.am;have hwd:∀id,(σ.U id\/id=p.n)->(σ.U id\/e.k.rng id):=by
  intro id h;rcases h with h|h
  .exact .inl h
  .subst h;refine .inr ?_;rw[hk];simp only[Kd.rng];omega
 have eh:e.k.hp σ.h=upd σ.h p.n (some (obP p)):=by rw[hk];rfl
 have ed:e.k.d= .ptr p.n p.cs.length 0 0:=by rw[hk];rfl
 have et:e.co.dst=some p.d:=by rw[hco]
 simp only[eh,ed,et];have keepW:Keep w.heap (zal (zcc amb (p::l)) σ.h ρ) ρ σ.U w.heap (zal (zcc amb l) (upd σ.h p.n (some (obP p))) (upd ρ p.n (some p.b))) (upd ρ p.n (some p.b)) (fun id=>σ.U id\/e.k.rng id):=
  ⟨keep'.cell,keep'.rho,keep'.shape,fun id hid=> .inl hid⟩
 refine⟨⟨⟨sim'.widen hwd,fun i d' hi=> ?_,s.ss.nt,s.ss.df⟩,fun q hq=> ?_,hnb.2,hnd.2⟩,?_⟩
 .obtain⟨h1,h2⟩ :=zqw hi;simp only[zeH,upd]at h2;split at h2
  .rename_i hid;subst hid;cases h2;refine⟨_,k.slot,?_⟩;simp only[Rel];refine⟨hwd _ (.inr rfl),_,rfl,fun b' hb'=> ?_⟩;simp at hb';subst hb';simp
  .rename_i hid;obtain⟨v',e1,e2⟩ :=s.ss.tmr i d' (by
    rw[zpr]
    .exact h2
    .simp only[Z10,Z5,not_or];exact⟨hid,h1⟩)
   exact⟨v',e1,Rel.keep keepW d' v' e2⟩
 .have kq:=s.pd q (by simp[hq]);exact⟨kq.slot,kq.ob.keep keepW rfl,kq.lt,kq.ge,kq.am⟩
 .have:=ev.show hn (by rw[<-hlo];exact k.ge) keep';exact⟨⟨this.keep.cell,this.keep.rho,this.keep.shape,fun id hid=>hwd id (this.keep.le id hid)⟩,this.size,this.blk,this.low,this.dead⟩
end
end Go.Vse
end
section
namespace Go.Vse
variable [Globs]
open Go.RowKit
structure Lo(x y:De):Prop where
 a:znD y.co=true
 c:zuN x.co=true
 s2:∀d,x.co.dst=some d->y.co.dst≠some d
 s3:∀d,y.co.dst=some d->d∉x.co.slots
def zI6{o:Op}(h:znD o=true):∃d cs,o=⟨some d,none,.new cs⟩ :=by
 unfold znD at h;split at h
 .exact⟨_,_,rfl⟩
 .cases h
def new_k{cl:Cl}{e:De}{d:Nat}{cs:List F}{σ:Sg}(hco:e.co=⟨some d,none,.new cs⟩)(hp:e.k.pre cl e.co σ):∃r n,e.k= .nm (.new cs) r n:=by
 obtain⟨co,k⟩ :=e;simp only at hco hp|-;subst hco;cases k with
 |sk=>simp[Kd.pre,zf6]at hp
 |nm o' r n=>
  simp only[Kd.pre,O.res,Z45]at hp;rw[<-hp.2.1];exact⟨r,n,rfl⟩
 |cp o' f args r n=>
  simp only[Kd.pre,O.res,Z45]at hp;obtain⟨_,h1,h2,_⟩ :=hp;rw[<-h1]at h2;simp[kindOf]at h2
 |cq o' f args q n h0=>
  simp only[Kd.pre,O.res,Z45]at hp;obtain⟨_,h1,h2,_⟩ :=hp;rw[<-h1]at h2;simp[kindOf]at h2
theorem Exec.zw6{cl:Cl}{e:De}{B:List De}{τ:Sg}:∀{A:List De} {σ:Sg},Exec cl (A++e::B) σ τ->∃σ1 σ2,Stp cl e σ1 σ2/\∀id,σ.U id->σ1.U id
 |[],σ,⟨σ',st,_⟩ =>⟨σ,σ',st,fun _ h=>h⟩
 |x::A,σ,⟨σ',st,h⟩ =>by
  obtain⟨σ1,σ2,s1,hU⟩ :=Exec.zw6 (A:=A) h;refine⟨σ1,σ2,s1,fun id hid=>hU id ?_⟩;rw[st.eq];exact .inl hid
theorem zwQ{α:Type}{p:α->Prop}:∀{l:List α},(∃y∈l,p y)->∃A y B,l=A++y::B/\p y/\∀z∈A,¬p z
 |[],⟨y,hy,_⟩ =>by simp at hy
 |x::l,⟨y,hy,hp⟩ =>by
  by_cases hx:p x
  .exact⟨[],x,l,rfl,hx,fun z hz=>by simp at hz⟩
  .have:y∈l:=(Z5.1 hy).resolve_left fun e=>hx (e▸hp)
   obtain⟨A,z,B,rfl,h1,h2⟩ :=zwQ ⟨y,this,hp⟩;exact⟨x::A,z,B,rfl,h1,fun u hu=>(Z5.1 hu).elim (fun e=>e▸hx) (h2 u)⟩
def bit(ops:Array Oper)(i j:Nat):Bool:=((Region.before ops).getD i 0).testBit j
section
variable {P:Program}{amb:Mu}{pur:Nat->Bool}{ops:Array Oper}{Q:Exit->Act->World->Prop}
def Fr(ops:Array Oper)(y:It):Prop:=∀j,bit ops y.i j=false
def C3(ops:Array Oper)(z y x:It):Prop:=Fr ops y->znD y.e.co=true->zuN z.e.co=true->bit ops x.i y.i=true->bit ops x.i z.i=true
def T3(ops:Array Oper):List It->Prop
 |[]=>True
 |z::l=>(l.Pairwise fun y x=>C3 ops z y x)/\T3 ops l
theorem T3.sublist:∀{l m:List It},l.Sublist m->T3 ops m->T3 ops l
 |_,_,.slnil,_=>trivial
 |_,_,.cons _ h,t=>T3.sublist h t.2
 |_,_,.cons₂ _ h,t=>⟨t.1.sublist h,T3.sublist h t.2⟩
theorem T3.use{y x:It}{B:List It}(hx:x∈B):∀{A:List It},T3 ops (A++y::B)->∀z∈A,C3 ops z y x
 |[],_,z,hz=>by simp at hz
 |a::A,t,z,hz=>by
  rcases Z5.1 hz with rfl|hz
  .have:=(Z100.1 t.1).2.1;exact (Z56.1 this).1 x hx
  .exact T3.use hx (A:=A) t.2 z hz
structure zey(P:Program)(pur:Nat->Bool)(nt:Nat)(ops:Array Oper)(lw mx:Nat)(listed:Array Bool)(L R:List It)(Qs:List (It×Pe)):Prop where
 size:listed.size=ops.size
 mem:∀i,i<ops.size->(listed.getD i true=false↔i∈R.map (·.i))
 nodup:(L.map (·.i)).Nodup
 nodupR:(R.map (·.i)).Nodup
 nodupQ:(Qs.map (·.1.i)).Nodup
 item:∀x∈L,ops[x.i]? =some x.o/\zbS P pur nt ops x.o=some x.e.co/\x.e.k.low lw mx
 pair:L.Pairwise fun x y=>bit ops y.i x.i=false->Ind x.e y.e\/(Lo x.e y.e/\Fr ops y)
 t3:T3 ops L
 closed:∀i j,listed.getD i false=true->bit ops i j=true->listed.getD j false=true
 sub:∀x∈R,x∈L
 cov:∀x∈L,x∈R\/∃q∈Qs,q.1=x
 qs:∀q∈Qs,q.1∈L/\listed.getD q.1.i false=true/\Fr ops q.1/\q.1.e.co=⟨some q.2.d,none,.new q.2.cs⟩/\∃r,q.1.e.k= .nm (.new q.2.cs) r q.2.n
def zmG{A B:List It}{x:It}(hn:((A++x::B).map (·.i)).Nodup):∀y∈A++B,y.i≠x.i:=by
 intro y hy e;simp only[Z20,Z10,Z90,Z74,Z5]at hn;rcases Z4.1 hy with hy|hy
 .exact hn.2.2 _ (Z12.2 ⟨y,hy,rfl⟩) _ (.inl rfl) e
 .exact hn.2.1.1 (Z12.2 ⟨y,hy,e⟩)
variable {nt lw mx:Nat}{listed:Array Bool}{L R:List It}{Qs:List (It×Pe)}
def zm3(t:zey P pur nt ops lw mx listed L R Qs){i:Nat}(hr:i∈Region.ready .any ops listed){j:Nat}(hb:bit ops i j=true):listed.getD j false=true:=by
 obtain⟨_,o,ho,hall⟩ :=mem_ready.1 hr;obtain⟨e,he,hbd,hh⟩ :=zoL ho hb;rcases hh with rfl|hh
 .exact hall e he hbd
 .exact t.closed e.on j (hall e he hbd) hh
def zhv(t:zey P pur nt ops lw mx listed L R Qs){x:It}(hx:x∈R):listed.getD x.i false=true->False:=by
 intro h;have hxo:=(t.item x (t.sub x hx)).1;have:=(t.mem x.i (Z44.1 hxo).1).2 (Z12.2 ⟨x,hx,rfl⟩);rw[zwW h]at this;cases this
theorem zsp(t:zey P pur nt ops lw mx listed L R Qs){C D:List It}{x:It}(hR:R=C++x::D)(hr:x.i∈Region.ready .any ops listed):
    (listed.setIfInBounds x.i true).size=ops.size/\(∀i,i<ops.size->((listed.setIfInBounds x.i true).getD i true=false↔i∈(C++D).map (·.i)))/\((C++D).map (·.i)).Nodup/\
    (∀i j,(listed.setIfInBounds x.i true).getD i false=true->bit ops i j=true->(listed.setIfInBounds x.i true).getD j false=true):=by
  subst hR;have hxi:x.i<ops.size:=(Z44.1 (t.item x (t.sub x (by simp))).1).1;have hsub:(C++D).Sublist (C++x::D):=Z131 (Z139 x D) C;have hnx:=zmG t.nodupR;refine⟨by simp[t.size],fun i hi=> ?_,t.nodupR.sublist (hsub.map _),fun i j hi hb=> ?_⟩
  . by_cases hix:x.i=i
    . subst hix;refine⟨fun h=> ?_,fun h=> ?_⟩
      . rw[Z19,Z123 (by rw[t.size];exact hxi)]at h;simp at h
      . obtain⟨y,hy,e⟩ :=Z12.1 h;exact absurd e (hnx y hy)
    . rw[getD_set_ne true hix,t.mem i hi];simp only[Z20,Z10,Z4,Z5];constructor
      . rintro (h|h|h)
        . exact .inl h
        . exact absurd h.symm hix
        . exact .inr h
      . rintro (h|h)
        . exact .inl h
        . exact .inr (.inr h)
  . by_cases hix:x.i=i
    . subst hix;exact getD_set_true (zm3 t hr hb)
    . rw[getD_set_ne false hix]at hi;exact getD_set_true (t.closed i j hi hb)
theorem zey.done(t:zey P pur nt ops lw mx listed L R Qs){A B C D:List It}{x:It}(hL:L=A++x::B)(hR:R=C++x::D)(hr:x.i∈Region.ready .any ops listed):
  zey P pur nt ops lw mx (listed.setIfInBounds x.i true) (A++B) (C++D) Qs:=by
 obtain⟨h1,h2,h3,h4⟩ :=zsp t hR hr;have hxR:x∈R:=by rw[hR];simp
 have hsub:(A++B).Sublist L:=by rw[hL];exact Z131 (Z139 x B) A
 have hnL:∀y∈A++B,y.i≠x.i:=zmG (hL▸t.nodup)
 have hnR:∀y∈C++D,y.i≠x.i:=zmG (hR▸t.nodupR)
 have hin:∀y∈L,y≠x->y∈A++B:=by
  intro y hy hne;rw[hL]at hy;simp only[Z4,Z5]at hy|-;rcases hy with h|h|h
  .exact .inl h
  .exact absurd h hne
  .exact .inr h
 refine⟨h1,h2,t.nodup.sublist (hsub.map _),h3,t.nodupQ,fun y hy=>t.item y (hsub.subset hy),t.pair.sublist hsub,t.t3.sublist hsub,h4,fun y hy=> ?_,fun y hy=> ?_,fun q hq=> ?_⟩
 .refine hin y (t.sub y ?_) fun e=>hnR y hy (by rw[e])
  rw[hR];simp only[Z4,Z5]at hy|-;exact hy.imp id .inr
 .rcases t.cov y (hsub.subset hy)with h|h
  .left;rw[hR]at h;simp only[Z4,Z5]at h|-;rcases h with h|h|h
   .exact .inl h
   .exact absurd (by rw[h]) (hnL y hy)
   .exact .inr h
  .exact .inr h
 .obtain⟨q1,q2,q3⟩ :=t.qs q hq;refine⟨hin _ q1 fun e=>zhv t hxR (e▸q2),?_,q3⟩;exact getD_set_true q2
theorem zey.pend(t:zey P pur nt ops lw mx listed L R Qs){C D:List It}{x:It}(hR:R=C++x::D)(hr:x.i∈Region.ready .any ops listed){p:Pe}(hf:Fr ops x)
  (hco:x.e.co=⟨some p.d,none,.new p.cs⟩)(hk:∃r,x.e.k= .nm (.new p.cs) r p.n):zey P pur nt ops lw mx (listed.setIfInBounds x.i true) L (C++D) ((x,p)::Qs):=by
 obtain⟨h1,h2,h3,h4⟩ :=zsp t hR hr;have hxR:x∈R:=by rw[hR];simp
 have hxL:=t.sub x hxR;have hlt:x.i<listed.size:=by rw[t.size];exact (Z44.1 (t.item x hxL).1).1
 refine⟨h1,h2,t.nodup,h3,?_,t.item,t.pair,t.t3,h4,fun y hy=>t.sub y ?_,fun y hy=> ?_,fun q hq=> ?_⟩
 .simp only[Z10,Z74];refine⟨fun hm=> ?_,t.nodupQ⟩;obtain⟨q,hq,e⟩ :=Z12.1 hm;exact zhv t hxR (e▸(t.qs q hq).2.1)
 .rw[hR];simp only[Z4,Z5]at hy|-;exact hy.imp id .inr
 .rcases t.cov y hy with h|⟨q,hq,e⟩
  .rw[hR]at h;simp only[Z4,Z5]at h;rcases h with h|h|h
   .exact .inl (Z102 _ h)
   .exact .inr ⟨(x,p),by simp,h.symm⟩
   .exact .inl (Z96 _ h)
  .exact .inr ⟨q,Z40 _ hq,e⟩
 .rcases Z5.1 hq with rfl|hq
  .refine⟨hxL,?_,hf,hco,hk⟩;rw[Z19,Z123 hlt];rfl
  .obtain⟨q1,q2,q3⟩ :=t.qs q hq;exact⟨q1,getD_set_true q2,q3⟩
theorem zey.shown(t:zey P pur nt ops lw mx listed L R Qs){A B:List It}{y:It}(hL:L=A++y::B){p:Pe}{Qs':List (It×Pe)}(hQ:Qs.Perm ((y,p)::Qs')):
  zey P pur nt ops lw mx listed (A++B) R Qs':=by
 have hsub:(A++B).Sublist L:=by rw[hL];exact Z131 (Z139 y B) A
 have hnL:∀z∈A++B,z.i≠y.i:=zmG (hL▸t.nodup)
 have hnQ:((y,p)::Qs').map (·.1.i) |>.Nodup:=(hQ.map _).nodup_iff.1 t.nodupQ;simp only[Z10,Z74]at hnQ;have hyl:=(t.qs (y,p) (hQ.mem_iff.2 (by simp))).2.1;have hin:∀z∈L,z≠y->z∈A++B:=by
  intro z hz hne;rw[hL]at hz;simp only[Z4,Z5]at hz|-;rcases hz with h|h|h
  .exact .inl h
  .exact absurd h hne
  .exact .inr h
 refine⟨t.size,t.mem,t.nodup.sublist (hsub.map _),t.nodupR,hnQ.2,fun z hz=>t.item z (hsub.subset hz),t.pair.sublist hsub,t.t3.sublist hsub,t.closed,fun z hz=> ?_,fun z hz=> ?_,fun q hq=> ?_⟩
 .exact hin z (t.sub z hz) fun e=>zhv t hz (e▸hyl)
 .rcases t.cov z (hsub.subset hz)with h|⟨q,hq,e⟩
  .exact .inl h
  .rcases Z5.1 (hQ.mem_iff.1 hq)with rfl|hq
   .exact absurd (by rw[<-e]) (hnL z hz)
   .exact .inr ⟨q,hq,e⟩
 .obtain⟨q1,q2,q3⟩ :=t.qs q (hQ.mem_iff.2 (by simp[hq]));exact⟨hin _ q1 fun e=>hnQ.1 (Z12.2 ⟨q,hq,by rw[e]⟩),q2,q3⟩
def zqT{α:Type}{x:α}{l:List α}(h:x∈l):∃m,l.Perm (x::m):=by
 obtain⟨A,B,rfl⟩ :=Z120 h;exact⟨A++B,List.perm_middle⟩
theorem finP{cl:Cl}{τ:Sg}{lo:Nat}{W:Nat->Prop}{H0:Array Obj}{h0:Hp}{ρ0:Nat->Option Nat}{c0:Nat->Prop}(hlo:lo=H0.size){a:Act}{w:World}:
    ∀ (k:Nat) (L:List It) (Qs:List (It×Pe)) (σ:Sg) (ρ:Nat->Option Nat),L.length=k->zey P pur nt ops lw mx listed L [] Qs->Exec cl (L.map (·.e)) σ τ->SSP amb lo nt (Qs.map (·.2)) σ ρ a w->
      zev amb (Qs.map (·.2)) W H0 h0 ρ0 c0 w.heap σ.h ρ σ.U->∃ρ',SS amb nt τ.tm τ.h ρ' τ.U a w/\Evo amb W H0 h0 ρ0 c0 w.heap τ.h ρ' τ.U:=by
  intro k
  induction k with
  | zero=>
    intro L Qs σ ρ hl t hx s ev;have:L=[]:=Z17.1 hl;subst this;simp only[Z85,Exec]at hx;subst hx;have hq:Qs=[]:=by
      cases Qs with
      |nil=>rfl
      |cons q Qs=>exact absurd (t.qs q (by simp)).1 (by simp)
    subst hq;refine⟨ρ,?_,ev.nil⟩;have:=s.ss;simp only[Z85,zme]at this;have e:zdQ [] τ.tm=τ.tm:=by funext i;simp[zdQ]
    rw[e]at this;exact this
  | succ k ih=>
    intro L Qs σ ρ hl t hx s ev;cases L with
    |nil=>simp at hl
    | cons y L=>
      obtain⟨q,hq,e⟩ :=(t.cov y (by simp)).resolve_left (by simp);subst e;obtain⟨Qs',hp⟩ :=zqT hq;obtain⟨_,_,_,hco,r,hk⟩ :=t.qs q hq;obtain⟨σ',st,hx'⟩ :=hx;have hpm:(Qs.map (·.2)).Perm (q.2::Qs'.map (·.2)):=by simpa using hp.map (·.2)
      obtain⟨s',ev'⟩ :=zvW hco hk st (s.perm hpm) (ev.perm hpm) hlo;exact ih L Qs' σ' _ (by simpa using hl) (t.shown (A:=[]) (p:=q.2) rfl hp) hx' s' ev'
def zwv(hb:zeO ops=true)(t:zey P pur nt ops lw mx listed L R Qs)(hR:R≠[]):Region.ready .any ops listed≠[]:=by
 obtain⟨x,hx,hm⟩ :=zmx R hR;obtain⟨h1,_⟩ :=t.item x (t.sub x hx);have hlt:x.i<ops.size:=(Z44.1 h1).1;have:x.i∈Region.ready .any ops listed:=by
  refine mem_ready.2 ⟨(t.mem x.i hlt).2 (Z12.2 ⟨x,hx,rfl⟩),x.o,h1,fun e he hbd=> ?_⟩;have hlt':=zqe hb h1 e he hbd;refine zwX (by rw[t.size];omega) fun hf=> ?_
  obtain⟨y,hy,hyi⟩ :=Z12.1 ((t.mem e.on (by omega)).1 hf);have:=hm y hy;omega
 intro h;rw[h]at this;simp at this
theorem oneP{cl:Cl}(hcl:zd5 P cl){τ:Sg}{lo:Nat}{H0:Array Obj}{h0:Hp}{ρ0:Nat->Option Nat}{c0:Nat->Prop}(hlo:lo=H0.size){a:Act}{w:World}{C D:List It}{x:It}
    (hr:x.i∈Region.ready .any ops listed)(hnp:¬(znD x.e.co=true/\Fr ops x)){K:Act->World->Prop}
    (hK:∀L' Qs' σ' ρ' a' w',zey P pur nt ops lw mx (listed.setIfInBounds x.i true) L' (C++D) Qs'->Exec cl (L'.map (·.e)) σ' τ->SSP amb lo nt (Qs'.map (·.2)) σ' ρ' a' w'->
      zev amb (Qs'.map (·.2)) (fun id=>lw<=id/\id<mx) H0 h0 ρ0 c0 w'.heap σ'.h ρ' σ'.U->Base w w'->K a' w'):
    ∀ (k:Nat) (L:List It) (Qs:List (It×Pe)) (σ:Sg) (ρ:Nat->Option Nat),L.length=k->zey P pur nt ops lw mx listed L (C++x::D) Qs->Exec cl (L.map (·.e)) σ τ->SSP amb lo nt (Qs.map (·.2)) σ ρ a w->
      zev amb (Qs.map (·.2)) (fun id=>lw<=id/\id<mx) H0 h0 ρ0 c0 w.heap σ.h ρ σ.U->wpOp P ops Q x.i K a w:=by
  intro k
  induction k with
  | zero=>
    intro L Qs σ ρ hl t hx s ev;have:L=[]:=Z17.1 hl;subst this;exact absurd (t.sub x (by simp)) (by simp)
  | succ k ih=>
    intro L Qs σ ρ hl t hx s ev;obtain⟨A,B,rfl⟩ :=Z120 (t.sub x (by simp))
    by_cases hneed:∃y∈A,bit ops x.i y.i=true
    . obtain⟨A1,y,A2,rfl,hy,hfirst⟩ :=zwQ hneed;have hyl:=zm3 t hr hy;have hyL:y∈(A1++y::A2)++x::B:=by simp
      obtain⟨q,hq,e⟩ :=(t.cov y hyL).resolve_left fun h=>zhv t h hyl
      subst e;obtain⟨_,_,hfr,hco,r,hk⟩ :=t.qs q hq;have hL:(A1++q.1::A2)++x::B=A1++q.1::(A2++x::B):=by simp
      rw[hL]at t hx hl;have hind:∀z∈A1.map (·.e),Ind z q.1.e:=by
        intro z' hz';obtain⟨z,hz,rfl⟩ :=Z12.1 hz';rcases (Z100.1 t.pair).2.2 z hz q.1 (by simp) (hfr _)with h|⟨h,_⟩
        . exact h
        . exact absurd (T3.use (x:=x) (by simp) t.t3 z hz hfr h.a h.c hy) (hfirst z hz)
      simp only[Z20,Z10]at hx;obtain⟨σ',st,hx'⟩ :=Exec.front hind hx;obtain⟨Qs',hp⟩ :=zqT hq;have hpm:(Qs.map (·.2)).Perm (q.2::Qs'.map (·.2)):=by simpa using hp.map (·.2)
      obtain⟨s',ev'⟩ :=zvW hco hk st (s.perm hpm) (ev.perm hpm) hlo;exact ih (A1++(A2++x::B)) Qs' σ' _ (by simp at hl|-;omega) (t.shown (p:=q.2) rfl hp) (by simpa using hx') s' ev'
    . have hall:∀y∈A,bit ops x.i y.i=false:=fun y hy=>by
        cases h:bit ops x.i y.i with
        |false=>rfl
        |true=>exact absurd ⟨y,hy,h⟩ hneed
      have hind:∀z∈A,Ind z.e x.e:=by
        intro z hz;rcases (Z100.1 t.pair).2.2 z hz x (by simp) (hall z hz)with h|⟨h,hf⟩
        . exact h
        . exact absurd ⟨h.a,hf⟩ hnp
      have hx2:=hx;simp only[Z20,Z10]at hx2;obtain⟨σ',st,hx'⟩ :=Exec.front (fun z' hz'=>by obtain⟨z,hz,rfl⟩ :=Z12.1 hz';exact hind z hz) hx2;obtain⟨hio,hcomp,hlow⟩ :=t.item x (by simp);have hslot:∀p∈Qs.map (·.2),p.d∉x.e.co.slots/\x.e.co.dst≠some p.d:=by
        intro p hp;obtain⟨q,hq,rfl⟩ :=Z12.1 hp;obtain⟨hqL,hql,hfr,hco,_⟩ :=t.qs q hq;have hdst:q.1.e.co.dst=some q.2.d:=by rw[hco]
        have hne:q.1≠x:=fun e=>zhv t (x:=x) (by simp) (e▸hql)
        simp only[Z4,Z5]at hqL;rcases hqL with h|h|h
        . exact⟨(hind _ h).s1 _ hdst,(hind _ h).s2 _ hdst⟩
        . exact absurd h hne
        . have hp:=(Z56.1 (Z100.1 t.pair).2.1).1 _ h (hfr _);rcases hp with h|⟨h,_⟩
          . exact⟨h.s3 _ hdst,fun e=>h.s2 _ e hdst⟩
          . exact⟨h.s3 _ hdst,fun e=>h.s2 _ e hdst⟩
      refine zFO hcl hcomp st s (fun p hp=>(hslot p hp).1) (fun p hp=>(hslot p hp).2) hlow hio fun a' w' ρ' hb s' ev'=> ?_
      exact hK (A++B) Qs σ' ρ' a' w' (t.done rfl rfl hr) (by rw[Z20];exact hx') s' (ev.step ev') hb
theorem zyy{cl:Cl}(hcl:zd5 P cl)(hbk:zeO ops=true){τ:Sg}{lo:Nat}{H0:Array Obj}{h0:Hp}{ρ0:Nat->Option Nat}{c0:Nat->Prop}(hlo:lo=H0.size){w0:World}:
    ∀ (fuel:Nat) (listed:Array Bool) (L R:List It) (Qs:List (It×Pe)) (σ:Sg) (ρ:Nat->Option Nat) (a:Act) (w:World),R.length=fuel->zey P pur nt ops lw mx listed L R Qs->Exec cl (L.map (·.e)) σ τ->
      SSP amb lo nt (Qs.map (·.2)) σ ρ a w->zev amb (Qs.map (·.2)) (fun id=>lw<=id/\id<mx) H0 h0 ρ0 c0 w.heap σ.h ρ σ.U->Base w0 w->
      (∀a' w' ρ',Base w0 w'->SS amb nt τ.tm τ.h ρ' τ.U a' w'->Evo amb (fun id=>lw<=id/\id<mx) H0 h0 ρ0 c0 w'.heap τ.h ρ' τ.U->Q .normal a' w')->wpAny P .any ops Q fuel listed a w:=by
  intro fuel
  induction fuel with
  | zero=>
    intro listed L R Qs σ ρ a w hl t hx s ev hb hQ;have:R=[]:=Z17.1 hl;subst this;have hnil:Region.ready .any ops listed=[]:=by
      cases hr:Region.ready .any ops listed with
      |nil=>rfl
      | cons i l=>
        have hi:i∈Region.ready .any ops listed:=by rw[hr];simp
        obtain⟨h1,o,ho,_⟩ :=mem_ready.1 hi;have:=(t.mem i (Z44.1 ho).1).1 h1;simp at this
    obtain⟨ρ',s',ev'⟩ :=finP hlo L.length L Qs σ ρ rfl t hx s ev;exact⟨hnil,hQ a w ρ' hb s' ev'⟩
  | succ fuel ih=>
    intro listed L R Qs σ ρ a w hl t hx s ev hb hQ;refine⟨fun hn=>absurd hn (zwv hbk t (fun e=>by rw[e]at hl;simp at hl)),fun i hi=> ?_⟩;obtain⟨h1,o,ho,_⟩ :=mem_ready.1 hi;obtain⟨x,hxR,rfl⟩ :=Z12.1 ((t.mem i (Z44.1 ho).1).1 h1);obtain⟨C,D,rfl⟩ :=Z120 hxR
    by_cases hnp:znD x.e.co=true/\Fr ops x
    . obtain⟨d,cs,hco⟩ :=zI6 hnp.1;have hxL:=t.sub x hxR;obtain⟨A,B,hL⟩ :=Z120 hxL;have hx2:=hx;rw[hL]at hx2;simp only[Z20,Z10]at hx2;obtain⟨σ1,σ2,st,hU⟩ :=Exec.zw6 hx2;obtain⟨r,n,hk⟩ :=new_k hco st.pre;have hn:¬σ.U n:=by
        have hp:=st.pre;rw[hk]at hp;simp only[Kd.pre]at hp;have hv:=hp.2.2.2;simp only[opv,Z45]at hv;subst hv;exact fun h=>st.fr n (by rw[hk];simp only[Kd.rng];omega) (hU n h)
      obtain⟨hio,hcomp,hlow⟩ :=t.item x hxL;rw[hco]at hcomp;have hd:d∉(Qs.map (·.2)).map (·.d):=by
        intro hm;obtain⟨p,hp,e⟩ :=Z12.1 hm;obtain⟨q,hq,rfl⟩ :=Z12.1 hp;obtain⟨hqL,hql,hfr,hqco,_⟩ :=t.qs q hq;have hdst:q.1.e.co.dst=some d:=by rw[hqco];simp only[e]
        have hdx:x.e.co.dst=some d:=by rw[hco]
        have hne:q.1≠x:=fun e=>zhv t hxR (e▸hql)
        have hpair:=t.pair;rw[hL]at hqL hpair;simp only[Z4,Z5]at hqL;rcases hqL with h|h|h
        . rcases (Z100.1 hpair).2.2 _ h x (by simp) (hnp.2 _)with h|⟨h,_⟩
          . exact h.s2 _ hdst hdx
          . exact h.s2 _ hdst hdx
        . exact hne h
        . rcases (Z56.1 (Z100.1 hpair).2.1).1 _ h (hfr _)with h|⟨h,_⟩
          . exact h.s2 _ hdx hdst
          . exact h.s2 _ hdx hdst
      refine zFN hcomp s hn hd (by rw[hlo];exact ev.size) hio fun a' w' ρ' b hb' s' hs hk' h1' h2'=> ?_
      refine ih _ L (C++D) ((x,⟨d,cs,n,b⟩)::Qs) σ ρ' a' w' (by simp at hl|-;omega) (t.pend rfl hi hnp.2 hco ⟨r,hk⟩) hx s' (ev.pend hs hk' h1' h2') (hb.trans hb') hQ
    . refine oneP hcl hlo (C:=C) (D:=D) hi hnp (fun L' Qs' σ' ρ' a' w' t' hx' s' ev' hb'=> ?_) L.length L Qs σ ρ rfl t hx s ev;exact ih _ L' (C++D) Qs' σ' ρ' a' w' (by simp at hl|-;omega) t' hx' s' ev' (hb.trans hb') hQ
end
end Go.Vse
end
section
namespace Go.Vse
variable [Globs]
open Go.RowKit
section
variable {P:Program}{pur:Nat->Bool}
theorem znK{cl:Cl}(hcl:zd5 P cl){co:Op}{s s':St}{p:Fp}(hs:zdR cl s co=some (s',p))(hm:s.c<=s.mx){U:Nat->Prop}(hU:∀id,s.c<=id->id<p.hi->¬U id):
    ∃ k,Stp cl ⟨co,k⟩ ⟨s.tm.get,s.h.get,U⟩ ⟨s'.tm.get,s'.h.get,fun id=>U id\/k.rng id⟩/\zgy ⟨co,k⟩ p/\(∀id,k.rng id->s.c<=id/\id<p.hi)/\k.low s'.lw s'.mx/\
      s.c<=p.hi/\p.hi<=s'.mx/\s.mx<=s'.mx/\s'.lw<=s.lw:=by
  have norm:∀(r:Rs) (k:Kd),s.c<=r.c->zcw s co.dst (some r)=some (s',p)->k.rng=(fun id=>s.c<=id/\id<r.c+1)->k.d=r.d->k.hp=(fun h=>zbu h r.wr)->
      k.pre cl co ⟨s.tm.get,s.h.get,U⟩->(∀p:Fp,p.all=false->p.rd=r.rd->p.wr=r.wr.map (·.1)->zgy ⟨co,k⟩ p)->(∀lw mx,(∀id∈r.wr.map (·.1),lw<=id/\id<mx)->k.low lw mx)->
      Stp cl ⟨co,k⟩ ⟨s.tm.get,s.h.get,U⟩ ⟨s'.tm.get,s'.h.get,fun id=>U id\/k.rng id⟩/\zgy ⟨co,k⟩ p/\(∀id,k.rng id->s.c<=id/\id<p.hi)/\k.low s'.lw s'.mx/\
      s.c<=p.hi/\p.hi<=s'.mx/\s.mx<=s'.mx/\s'.lw<=s.lw:=by
    intro r k hrc hn e1 e2 e3 hp hf hlow;obtain⟨hwr,hn⟩ :=zgx hn;simp only[Z66]at hn;obtain⟨rfl,rfl⟩ :=hn;refine⟨⟨fun id hid=> ?_,hp,?_⟩,hf _ rfl rfl rfl,fun id hid=>by rw[e1]at hid;exact hid,hlow _ _ fun id hid=>⟨(zhk r.wr s.lw).2 id hid,Z15 (Nat.lt_succ_of_lt (zr4 hwr id hid)) (Z78 _ _)⟩,?_,?_,?_,?_⟩
    . simp only[e1]at hid;exact hU id hid.1 hid.2
    . simp only[e2,e3,zl1,ziC]
    . simp only;omega
    . exact Z78 _ _
    . exact Z135 _ _
    . exact (zhk _ _).1
  unfold zdR at hs;rw[zwa]at hs;split at hs
  . simp at hs
  . rename_i hw;unfold step at hs;rw[zrO]at hs;split at hs
    . simp at hs
    . rename_i o' hres;split at hs
      . rename_i f args hk;cases hv:zez cl s.h.get s.c f args with
        |none=>rw[hv]at hs;simp[zcw]at hs
        | some r=>
          rw[hv]at hs;have hrc:s.c<=r.c:=by
            have h2:=hv;unfold zez at h2
            (repeat' split at h2)<;>first|(simp at h2;done)|(simp only[Z45]at h2;subst h2;exact Z2 _)
          exact⟨.cp o' f args r s.c,norm r _ hrc hs rfl rfl rfl ⟨hw,hres,hk,hv⟩ (fun p h1 h2 h3=>⟨h1,h2,h3⟩) fun lw mx h=>h⟩
      . rename_i f args hk;cases hv:cl f args s.h s.c with
        |none=>rw[hv]at hs;simp[zfg]at hs
        | some q=>
          rw[hv]at hs;simp only[zfg,Z45,Z66]at hs;obtain⟨rfl,rfl⟩ :=hs;obtain⟨_,h1,h2,_⟩ :=hcl _ _ _ _ _ hv;refine⟨.cq o' f args q s.c s.h,⟨fun id hid=>hU id hid.1 hid.2,⟨hw,hres,hk,hv,rfl⟩,?_⟩,⟨rfl,rfl,rfl⟩,fun id hid=>hid,⟨Z201 _ _,Z78 _ _⟩,?_,?_,?_,?_⟩
          . simp only[ziC,Kd.d,Kd.hp]
          . simp only;omega
          . exact Z78 _ _
          . exact Z135 _ _
          . exact Z64 _ _
      . rename_i hk;cases hv:opv s.h.get s.c o' with
        |none=>rw[hv]at hs;simp[zcw]at hs
        | some r=>
          rw[hv]at hs;exact⟨.nm o' r s.c,norm r _ (zqM hv) hs rfl rfl rfl ⟨hw,hres,hk,hv⟩ (fun p h1 h2 h3=>⟨h1,h2,h3⟩) fun lw mx h=>h⟩
      . simp at hs
  . rename_i hw;simp only[Z45,Z66]at hs;obtain⟨rfl,rfl⟩ :=hs;refine⟨.sk,⟨fun id hid=>hid.elim,hw,?_⟩,⟨rfl,rfl,rfl⟩,fun id hid=>hid.elim,fun id hid=>by simp[Kd.wr]at hid,Z2 _,hm,Z2 _,Z2 _⟩;simp only[ziC,Kd.d,Kd.hp,Kd.wr,zbu]
def Kd.low_mono{k:Kd}{a b m n:Nat}(h:k.low b m)(hab:a<=b)(hmn:m<=n):k.low a n:=by
 cases k<;>simp only[Kd.low]at h|-
 all_goals first
  |exact⟨Z3 hab h.1,Z3 h.2 hmn⟩
  |exact fun id hid=>⟨Z3 hab (h id hid).1,Z15 (h id hid).2 hmn⟩
def chk:List Fp->List (Op×Nat)->List Fp->Prop
 |_,[],[]=>True
 |fps,(_,mask)::l,p::ps=>zb6 p mask fps 0=true/\chk (fps++[p]) l ps
 |_,_,_=>False
theorem zjH{cl:Cl}(hcl:zd5 P cl):∀(l:List (Op×Nat)) (fps:List Fp) (s s':St),zeS cl l fps s=some s'->s.c<=s.mx->s.c<=s'.c/\s'.c<=s'.mx/\s.mx<=s'.mx/\s'.lw<=s.lw
 |[],fps,s,s',hs,hm=>by simp[zeS]at hs;subst hs;exact⟨Z2 _,hm,Z2 _,Z2 _⟩
 |(o,mask)::l,fps,s,s',hs,hm=>by
  unfold zeS at hs;split at hs
  .simp at hs
  .rename_i s1 p h1;split at hs
   .obtain⟨k,_,_,_,_,a1,a2,a3,a4⟩ :=znK (U:=fun _=>False) hcl h1 hm (fun _ _ _ h=>h);obtain⟨b1,b2,b3,b4⟩ :=zjH hcl l _ _ s' hs a2;exact⟨Z3 a1 b1,b2,Z3 a3 b3,Z3 b4 a4⟩
   .simp at hs
theorem zmR{cl:Cl}(hcl:zd5 P cl):∀(l:List (Op×Nat)) (fps:List Fp) (s s':St) (U:Nat->Prop),zeS cl l fps s=some s'->s.c<=s.mx->(∀id,s.c<=id->id<s'.mx->¬U id)->
    ∃ (ds:List (De×Fp)) (U':Nat->Prop),ds.map (·.1.co)=l.map (·.1)/\Exec cl (ds.map (·.1)) ⟨s.tm.get,s.h.get,U⟩ ⟨s'.tm.get,s'.h.get,U'⟩/\(∀id,U' id->UX U s.c s'.c id)/\
      (∀d∈ds,zgy d.1 d.2/\d.1.k.low s'.lw s'.mx)/\chk fps l (ds.map (·.2))
  | [],fps,s,s',U,hs,hm,hU=>by
    simp[zeS]at hs;subst hs;exact⟨[],U,rfl,rfl,fun id h=> .inl h,fun d hd=>by simp at hd,trivial⟩
  | (o,mask)::l,fps,s,s',U,hs,hm,hU=>by
    unfold zeS at hs;split at hs
    . simp at hs
    . rename_i s1 p h1;split at hs
      . rename_i hap;obtain⟨_,_,_,_,_,a1,a2,a3,a4⟩ :=znK (U:=fun _=>False) hcl h1 hm (fun _ _ _ h=>h);obtain⟨b1,b2,b3,b4⟩ :=zjH hcl l _ _ s' hs a2;simp only at b1 b2 b3 b4;obtain⟨k,st,hf,hr,hlow,_⟩ :=znK (U:=U) hcl h1 hm fun id x y=>hU id x (by omega)
        obtain⟨ds,U',d1,d2,d3,d4,d5⟩ :=zmR hcl l (fps++[p]) {s1 with c:=p.hi} s' (fun id=>U id\/k.rng id) hs a2 fun id x y hz=>by
          simp only at x;rcases hz with hz|hz
          . exact hU id (by omega) y hz
          . have:=hr id hz;omega
        refine⟨(⟨o,k⟩,p)::ds,U',by simp[d1],⟨_,st,d2⟩,fun id hid=> ?_,fun d hd=> ?_,⟨hap,d5⟩⟩
        . simp only at d3;rcases d3 id hid with(hx|hx)|hx
          . exact .inl hx
          . have:=hr id hx;exact .inr ⟨this.1,by omega⟩
          . exact .inr ⟨by omega,hx.2⟩
        . rcases Z5.1 hd with rfl|hd
          . exact⟨hf,Kd.low_mono hlow b4 b3⟩
          . exact d4 d hd
      . simp at hs
theorem zkp(bf:Array Nat)(i:Nat):∀(l:List Nat) (p:Nat),zfm bf i l p=2 ^ p*zfm bf i l 0
 |[],p=>by simp[zfm]
 |j::l,p=>by
  rw[zfm,zfm,zkp bf i l (p+1),zkp bf i l (0+1),Z195];split
  .simp[Z185]
  .simp[Z185,Z179]
def zoS(bf:Array Nat)(i j:Nat)(l:List Nat):zfm bf i (j::l) 0=2*zfm bf i l 0+(!(bf.getD i 0).testBit j).toNat:=by
 rw[zfm,zkp bf i l (0+1)];cases (bf.getD i 0).testBit j<;>simp<;>omega
theorem zmF(bf:Array Nat)(i:Nat):∀(l:List Nat) (k j:Nat),l[k]? =some j->(zfm bf i l 0).testBit k= !(bf.getD i 0).testBit j
 |[],k,j,h=>by simp at h
 |x::l,0,j,h=>by
  simp at h;subst h;rw[zoS,Z200];cases (bf.getD i 0).testBit x<;>simp<;>omega
 |x::l,k+1,j,h=>by
  simp at h;rw[zoS,Z161];have:(2*zfm bf i l 0+(!(bf.getD i 0).testBit x).toNat)/2=zfm bf i l 0:=by cases (bf.getD i 0).testBit x<;>simp<;>omega
  rw[this];exact zmF bf i l k j h
theorem ztN{bf:Array Nat}{i:Nat}{p:Fp}{co:Op}{mask:Nat}:∀(pre:List (It×Fp)) (off:Nat),(∀(k:Nat) x,pre[k]? =some x->mask.testBit (off+k)= !(bf.getD i 0).testBit x.1.i)->
    zb6 p mask (pre.map (·.2)) off=true->zjP co mask (pre.map (·.1.e.co)) off=true->
    ∀x∈pre,(bf.getD i 0).testBit x.1.i=false->x.2.apart p=true/\zgE x.1.e.co co=true
  |[],_,_,_,_,x,hx,_=>by simp at hx
  | y::pre,off,hm,h1,h2,x,hx,hb=>by
    simp only[Z10,zb6,zjP,Z14]at h1 h2;rcases Z5.1 hx with rfl|hx
    . have:=hm 0 x (by simp);rw[hb]at this;simp only[Z111,Bool.not_false]at this;rw[this]at h1 h2;exact⟨by simpa using h1.1,by simpa using h2.1⟩
    . refine ztN pre (off+1) (fun k x hk=> ?_) h1.2 h2.2 x hx hb;rw[Z82,Z198 1 k];exact hm (k+1) x (by simpa using hk)
theorem zsB{nt:Nat}{ops:Array Oper}:∀(ord:List Nat) (pre:List (It×Fp)) (l:List (Op×Nat)) (ds:List (De×Fp)),
    zdw P pur nt ops ord (pre.map (·.1.i))=some l->zhD l (pre.map (·.1.e.co))=true->ds.map (·.1.co)=l.map (·.1)->chk (pre.map (·.2)) l (ds.map (·.2))->
    (∀x∈pre,zgy x.1.e x.2)->(∀d∈ds,zgy d.1 d.2)->
    ∃ L:List It,L.map (·.e)=ds.map (·.1)/\L.map (·.i)=ord/\(∀x∈L,ops[x.i]? =some x.o/\zbS P pur nt ops x.o=some x.e.co)/\
      (∀x∈pre,∀y∈L,((Region.before ops).getD y.i 0).testBit x.1.i=false->Ind x.1.e y.e)/\
      L.Pairwise fun x y=>((Region.before ops).getD y.i 0).testBit x.i=false->Ind x.e y.e
  | [],pre,l,ds,hc,hp,hd,hk,hf,hg=>by
    simp[zdw]at hc;subst hc;simp at hd;subst hd;exact⟨[],rfl,rfl,fun x hx=>by simp at hx,fun x hx y hy=>by simp at hy,.nil⟩
  | i::ord,pre,l,ds,hc,hp,hd,hk,hf,hg=>by
    unfold zdw at hc;split at hc
    . simp at hc
    . rename_i o ho;split at hc
      . rename_i co l' hco hl';simp only[Z45]at hc;subst hc;cases ds with
        |nil=>simp at hd
        | cons d ds=>
          obtain⟨e,p⟩ :=d;simp only[Z10,List.cons.injEq]at hd;simp only[Z10,chk]at hk;simp only[zhD,Z14]at hp;obtain⟨L,q1,q2,q3,q4,q5⟩ :=zsB ord (pre++[(⟨i,o,e⟩,p)]) l' ds (by simpa using hl') (by simpa [hd.1]using hp.2) hd.2 (by simpa using hk.2)
            (fun x hx=>by
              rcases Z4.1 hx with hx|hx
              . exact hf x hx
              . simp at hx;subst hx;exact hg (e,p) (by simp))
            (fun d hd=>hg d (by simp[hd]))
          refine⟨⟨i,o,e⟩ ::L,by simp[q1],by simp[q2],fun x hx=> ?_,fun x hx y hy hb=> ?_,?_⟩
          . rcases Z5.1 hx with rfl|hx
            . exact⟨ho,by simpa [hd.1]using hco⟩
            . exact q3 x hx
          . rcases Z5.1 hy with rfl|hy
            . have:=ztN (bf:=Region.before ops) (i:=i) (p:=p) (co:=co) pre 0 (fun k x hk=>by
                rw[Z25];exact zmF _ _ _ k _ (by simp[hk])) hk.1 hp.1 x hx hb
              exact zr9 (hf x hx) (hg (e,p) (by simp)) this.1 (by simpa [hd.1]using this.2)
            . exact q4 x (by simp[hx]) y hy hb
          . refine List.Pairwise.cons (fun y hy hb=> ?_) q5;exact q4 (⟨i,o,e⟩,p) (by simp) y hy hb
      . simp at hc
theorem zhB:∀{l:List Nat},zlX l=true->l.Nodup
 |[],_=> .nil
 |x::l,h=>by
  simp only[zlX,Z14,Z80,Z114,Z65]at h;exact Z74.2 ⟨h.1,zhB h.2⟩
theorem znP:∀(n:Nat) (l:List Nat),l.Nodup->(∀x∈l,x<n)->l.length<=n
 |0,l,_,hl=>by
  cases l with
  |nil=>simp
  |cons x l=>exact absurd (hl x (by simp)) (by omega)
 |n+1,l,hn,hl=>by
  by_cases hm:n∈l
  .have h1:=List.length_erase_of_mem hm;have h2:=znP n (l.erase n) (hn.erase n) fun x hx=>by
    have:=(hn.mem_erase_iff).1 hx;have:=hl x this.2;omega
   omega
  .have:=znP n l hn fun x hx=>by
    have h1:=hl x hx;have:x≠n:=fun e=>hm (e▸hx)
    omega
   omega
def zr8{n:Nat}{l:List Nat}(hn:l.Nodup)(hl:∀x∈l,x<n)(hlen:l.length=n){i:Nat}(hi:i<n):i∈l:=by
 by_cases hm:i∈l
 .exact hm
 .have:=znP n (i::l) (Z74.2 ⟨hm,hn⟩) fun x hx=>by
   rcases Z5.1 hx with rfl|hx
   .exact hi
   .exact hl x hx
  simp at this;omega
theorem zww{amb:Mu}{nt:Nat}{cl:Cl}(hcl:zd5 P cl){id:Nat}{ops:Array Oper}{ord:List Nat}{l:List (Op×Nat)}(hfol:P.follows .mixedOrders=true)(hbk:zeO ops=true)
  (hnd:zlX ord=true)(hlen:ord.length=ops.size)(hlt:∀i∈ord,i<ops.size)(hc:zdw P pur nt ops ord []=some l)(hp:zhD l []=true)
  {Q:Exit->Act->World->Prop}{s s':St}{ρ:Nat->Option Nat}{c:Nat->Prop}{a:Act}{w:World}(hs:zeS cl l [] s=some s')(hm:s.c<=s.mx)(ss:SS amb nt s.tm.get s.h.get ρ c a w)
  (hfree:∀id,s.c<=id->id<s'.mx->¬c id)(hQ:∀a' w',After amb nt s s' ρ c w a' w'->Q .normal a' w'):(Code.region id ops true).wp P Q a w:=by
 obtain⟨ds,U',d1,d2,d3,d4,d5⟩ :=zmR hcl l [] s s' c hs hm hfree;obtain⟨L,q1,q2,q3,_,q5⟩ :=zsB ord [] l ds hc hp d1 d5 (fun x hx=>by simp at hx) fun d hd=>(d4 d hd).1
 have hLe:∀x∈L,x.e.k.low s'.lw s'.mx:=by
  intro x hx;have:x.e∈ds.map (·.1):=by rw[<-q1];exact Z12.2 ⟨x,hx,rfl⟩
  obtain⟨d,hd,he⟩ :=Z12.1 this;rw[<-he];exact (d4 d hd).2
 have hall:=fun i hi=>zr8 (zhB hnd) hlt hlen (i:=i) hi
 have t:zna P pur nt ops s'.lw s'.mx (Array.replicate ops.size false) L:=by
  refine⟨by simp,fun i hi=>⟨fun _=>by rw[q2];exact hall i hi,fun _=> ?_⟩,by rw[q2];exact zhB hnd,fun x hx=>⟨(q3 x hx).1,(q3 x hx).2,hLe x hx⟩,q5,fun i j hi _=> ?_⟩
  .rw[Z19,Z132];simp[hi]
  .rw[Z19,Z132]at hi;split at hi<;>simp at hi
 refine wp_region_any hfol ?_;refine zBA hcl hbk (τ:=⟨s'.tm.get,s'.h.get,U'⟩) ops.size _ L ⟨s.tm.get,s.h.get,c⟩ ρ a {w with drawn:=w.drawn+1} ?_ t ?_ ⟨ss.sim,ss.tmr,ss.nt,ss.df⟩ fun a' w' ρ' hb ss' ev'=> ?_
 .rw[<-hlen,<-q2];simp
 .rw[q1];exact d2
 .exact hQ a' w' ⟨⟨hb.os,hb.tape,hb.output,Z3 (Z128 _) hb.drawn⟩,ρ',ss'.widen d3,ev'.widen d3⟩
end
end Go.Vse
end
section
namespace Go.Vse
variable [Globs]
open Go.RowKit
section
variable {P:Program}{pur:Nat->Bool}
theorem zlw{α:Type}(q:α->Bool):∀(l:List α) (p:Nat),zgt q l p=2 ^ p*zgt q l 0
 |[],p=>by simp[zgt]
 |j::l,p=>by
  rw[zgt,zgt,zlw q l (p+1),zlw q l (0+1),Z195];split
  .simp[Z185]
  .simp[Z185,Z179]
def zqJ{α:Type}(q:α->Bool)(j:α)(l:List α):zgt q (j::l) 0=2*zgt q l 0+(!q j).toNat:=by
 rw[zgt,zlw q l (0+1)];cases q j<;>simp<;>omega
theorem zsv{α:Type}(q:α->Bool):∀(l:List α) (k:Nat) (j:α),l[k]? =some j->(zgt q l 0).testBit k= !q j
 |[],k,j,h=>by simp at h
 |x::l,0,j,h=>by
  simp at h;subst h;rw[zqJ,Z200];cases q x<;>simp<;>omega
 |x::l,k+1,j,h=>by
  simp at h;rw[zqJ,Z161];have:(2*zgt q l 0+(!q x).toNat)/2=zgt q l 0:=by cases q x<;>simp<;>omega
  rw[this];exact zsv q l k j h
theorem zoK{α:Type}{f:α->Fp}{q:α->Bool}{p:Fp}{mask:Nat}:∀(pre:List α) (off:Nat),(∀(k:Nat) x,pre[k]? =some x->mask.testBit (off+k)=q x)->
  zb6 p mask (pre.map f) off=true->∀x∈pre,q x=true->(f x).apart p=true
 |[],_,_,_,x,hx,_=>by simp at hx
 |y::pre,off,hm,h1,x,hx,hb=>by
  simp only[Z10,zb6,Z14]at h1;rcases Z5.1 hx with rfl|hx
  .have:=hm 0 x (by simp);rw[hb,Z111]at this;rw[this]at h1;simpa using h1.1
  .refine zoK pre (off+1) (fun k x hk=> ?_) h1.2 x hx hb;rw[Z82,Z198 1 k];exact hm (k+1) x (by simpa using hk)
theorem zpY{α:Type}{f:α->Op}{q:α->Bool}{co:Op}{mask:Nat}:∀(pre:List α) (off:Nat),(∀(k:Nat) x,pre[k]? =some x->mask.testBit (off+k)=q x)->
  zjP co mask (pre.map f) off=true->∀x∈pre,q x=true->zgE (f x) co=true
 |[],_,_,_,x,hx,_=>by simp at hx
 |y::pre,off,hm,h1,x,hx,hb=>by
  simp only[Z10,zjP,Z14]at h1;rcases Z5.1 hx with rfl|hx
  .have:=hm 0 x (by simp);rw[hb,Z111]at this;rw[this]at h1;simpa using h1.1
  .refine zpY pre (off+1) (fun k x hk=> ?_) h1.2 x hx hb;rw[Z82,Z198 1 k];exact hm (k+1) x (by simpa using hk)
def lo_of{x y:De}(h1:znD y.co=true)(h2:zuN x.co=true)(hs:zgE x.co y.co=true):Lo x y:=by
 refine⟨h1,h2,fun d hd=> ?_,fun d hd=> ?_⟩
 .simp[zgE,hd]at hs;exact hs.1.2
 .simp[zgE,hd]at hs;exact hs.2
def fr_of{ops:Array Oper}{x:It}(h:Nat.beq ((Region.before ops).getD x.i 0) 0=true):Fr ops x:=by
 intro j;unfold bit;rw[Z88 h];simp
def zIw{ops:Array Oper}{x:It}(h:Fr ops x):Nat.beq ((Region.before ops).getD x.i 0) 0=true:=by
 have:(Region.before ops).getD x.i 0=0:=by
  apply Nat.eq_of_testBit_eq;intro j;rw[show((Region.before ops).getD x.i 0).testBit j=false from h j];simp
 rw[this];rfl
theorem zqP{nt:Nat}{ops:Array Oper}:∀(ord:List Nat) (pre:List (It×Fp)) (l:List (Op×Nat)) (ds:List (De×Fp)),
    zdw P pur nt ops ord (pre.map (·.1.i))=some l->zhD l (pre.map (·.1.e.co))=true->ds.map (·.1.co)=l.map (·.1)->
    chk (pre.map (·.2)) (zmt (Region.before ops) ord l (pre.map fun x=>(x.1.i,x.1.e.co))) (ds.map (·.2))->
    (∀x∈pre,zgy x.1.e x.2)->(∀d∈ds,zgy d.1 d.2)->
    ∃ L:List It,L.map (·.e)=ds.map (·.1)/\L.map (·.i)=ord/\(∀x∈L,ops[x.i]? =some x.o/\zbS P pur nt ops x.o=some x.e.co)/\
      (∀x∈pre,∀y∈L,bit ops y.i x.1.i=false->Ind x.1.e y.e\/(Lo x.1.e y.e/\Fr ops y))/\
      L.Pairwise fun x y=>bit ops y.i x.i=false->Ind x.e y.e\/(Lo x.e y.e/\Fr ops y)
  | [],pre,l,ds,hc,hp,hd,hk,hf,hg=>by
    simp[zdw]at hc;subst hc;simp at hd;subst hd;exact⟨[],rfl,rfl,fun x hx=>by simp at hx,fun x hx y hy=>by simp at hy,.nil⟩
  | i::ord,pre,l,ds,hc,hp,hd,hk,hf,hg=>by
    unfold zdw at hc;split at hc
    . simp at hc
    . rename_i o ho;split at hc
      . rename_i co l' hco hl';simp only[Z45]at hc;subst hc;cases ds with
        |nil=>simp at hd
        | cons d ds=>
          obtain⟨e,p⟩ :=d;simp only[Z10,List.cons.injEq]at hd;simp only[zmt,Z10,chk]at hk;simp only[zhD,Z14]at hp;obtain⟨L,q1,q2,q3,q4,q5⟩ :=zqP ord (pre++[(⟨i,o,e⟩,p)]) l' ds (by simpa using hl') (by simpa [hd.1]using hp.2) hd.2 (by simpa [hd.1]using hk.2)
            (fun x hx=>by
              rcases Z4.1 hx with hx|hx
              . exact hf x hx
              . simp at hx;subst hx;exact hg (e,p) (by simp))
            (fun d hd=>hg d (by simp[hd]))
          refine⟨⟨i,o,e⟩ ::L,by simp[q1],by simp[q2],fun x hx=> ?_,fun x hx y hy hb=> ?_,?_⟩
          . rcases Z5.1 hx with rfl|hx
            . exact⟨ho,by simpa [hd.1]using hco⟩
            . exact q3 x hx
          . rcases Z5.1 hy with rfl|hy
            . have hs:=zpY (f:=fun x:It×Fp=>x.1.e.co) (q:=fun x=>!bit ops i x.1.i) pre 0 (fun k x hk=>by
                rw[Z25];exact zmF _ _ _ k _ (by simp[hk])) hp.1 x hx (by simpa using hb)
              by_cases hl:zqI (Region.before ops) i co (x.1.i,x.1.e.co)=true
              . right;have hb':((Region.before ops).getD i 0).testBit x.1.i=false:=hb;simp only[zqI,hb',Bool.false_or,lsQ,Z14]at hl;exact⟨lo_of (by simpa [hd.1]using hl.1.1) hl.2 (by simpa [hd.1]using hs),fr_of hl.1.2⟩
              . left;have ha:=zoK (f:=fun x:It×Fp=>x.2) (q:=fun x=>!zqI (Region.before ops) i co (x.1.i,x.1.e.co)) pre 0 (fun k x hk=>by
                  rw[Z25];exact zsv _ _ k _ (by simp[hk])) hk.1 x hx (by simpa using hl)
                exact zr9 (hf x hx) (hg (e,p) (by simp)) ha (by simpa [hd.1]using hs)
            . exact q4 x (by simp[hx]) y hy hb
          . refine List.Pairwise.cons (fun y hy hb=> ?_) q5;exact q4 (⟨i,o,e⟩,p) (by simp) y hy hb
      . simp at hc
theorem zG3{ops:Array Oper}:∀{L:List It},zv3 (Region.before ops) (L.map fun x=>(x.i,x.e.co))=true->T3 ops L
 |[],_=>trivial
 |z::L,h=>by
  simp only[Z10,zv3,Z14]at h;refine⟨?_,zG3 h.2⟩;have row:∀{M:List It},ztA (Region.before ops) (z.i,z.e.co) (M.map fun x=>(x.i,x.e.co))=true->M.Pairwise fun y x=>C3 ops z y x:=by
   intro M
   induction M with
   |nil=>intro _;exact .nil
   |cons y M ih=>
    intro h;simp only[Z10,ztA,Z14]at h;refine List.Pairwise.cons (fun x hx hfr ha hc hb=> ?_) (ih h.2);have h1:=h.1;simp only[lsQ,ha,hc,zIw hfr,Z133,Z89,Bool.false_or,Z50,Z12,forall_exists_index,and_imp]at h1;have h2:=h1 _ x hx rfl;have hb':((Region.before ops).getD x.i 0).testBit y.i=true:=hb;simp only[hb',Z89,Bool.false_or]at h2;exact h2
  exact row h.1
theorem zvG{amb:Mu}{nt:Nat}{cl:Cl}(hcl:zd5 P cl){id:Nat}{ops:Array Oper}{ord:List Nat}{l:List (Op×Nat)}(hfol:P.follows .mixedOrders=true)(hbk:zeO ops=true)
    (hnd:zlX ord=true)(hlen:ord.length=ops.size)(hlt:∀i∈ord,i<ops.size)(hc:zdw P pur nt ops ord []=some l)(hp:zhD l []=true)
    (ht:zv3 (Region.before ops) (ord.zip (l.map (·.1)))=true)
    {Q:Exit->Act->World->Prop}{s s':St}{ρ:Nat->Option Nat}{c:Nat->Prop}{a:Act}{w:World}(hs:zeS cl (zmt (Region.before ops) ord l []) [] s=some s')(hm:s.c<=s.mx)(ss:SS amb nt s.tm.get s.h.get ρ c a w)
    (hfree:∀id,s.c<=id->id<s'.mx->¬c id)(hQ:∀a' w',After amb nt s s' ρ c w a' w'->Q .normal a' w'):(Code.region id ops true).wp P Q a w:=by
  obtain⟨ds,U',d1,d2,d3,d4,d5⟩ :=zmR hcl _ [] s s' c hs hm hfree;have hll:∀(ord:List Nat) (bs:List Nat) (l:List (Op×Nat)) (cs:List (Nat×Op)),zdw P pur nt ops ord bs=some l->(zmt (Region.before ops) ord l cs).map (·.1)=l.map (·.1):=by
    intro ord
    induction ord with
    | nil=>
      intro bs l cs h;simp[zdw]at h;subst h;rfl
    | cons i ord ih=>
      intro bs l cs h;unfold zdw at h;split at h
      . simp at h
      . split at h
        . rename_i co l' hco hl';simp only[Z45]at h;subst h;simp only[zmt,Z10,ih _ _ _ hl']
        . simp at h
  rw[hll ord [] l [] hc]at d1;obtain⟨L,q1,q2,q3,_,q5⟩ :=zqP ord [] l ds hc hp d1 d5 (fun x hx=>by simp at hx) fun d hd=>(d4 d hd).1
  have hLe:∀x∈L,x.e.k.low s'.lw s'.mx:=by
    intro x hx;have:x.e∈ds.map (·.1):=by rw[<-q1];exact Z12.2 ⟨x,hx,rfl⟩
    obtain⟨d,hd,he⟩ :=Z12.1 this;rw[<-he];exact (d4 d hd).2
  have hall:=fun i hi=>zr8 (zhB hnd) hlt hlen (i:=i) hi
  have hzip:ord.zip (l.map (·.1))=L.map fun x=>(x.i,x.e.co):=by
    have e1:l.map (·.1)=L.map (·.e.co):=by
      rw[<-d1];have:=congrArg (List.map (·.co)) q1;simpa [Z33,Z67]using this.symm
    rw[e1,<-q2]
    induction L with
    |nil=>rfl
    |cons x L _=>simp[List.zip_map',List.zip]
  rw[hzip]at ht;have t:zey P pur nt ops s'.lw s'.mx (Array.replicate ops.size false) L L []:=by
    refine⟨by simp,fun i hi=>⟨fun _=>by rw[q2];exact hall i hi,fun _=> ?_⟩,by rw[q2];exact zhB hnd,by rw[q2];exact zhB hnd,by simp,fun x hx=>⟨(q3 x hx).1,(q3 x hx).2,hLe x hx⟩,q5,zG3 ht,
      fun i j hi _=> ?_,fun x hx=>hx,fun x hx=> .inl hx,fun q hq=>by simp at hq⟩
    . rw[Z19,Z132];simp[hi]
    . rw[Z19,Z132]at hi;split at hi<;>simp at hi
  refine wp_region_any hfol ?_;have hss:SSP amb w.heap.size nt [] ⟨s.tm.get,s.h.get,c⟩ ρ a {w with drawn:=w.drawn+1}:=by
    refine⟨?_,fun p hp=>by simp at hp,by simp,by simp⟩;have e:zdQ [] s.tm.get=s.tm.get:=by funext i;simp[zdQ]
    simp only[zme,e];exact⟨ss.sim,ss.tmr,ss.nt,ss.df⟩
  refine zyy hcl hbk (τ:=⟨s'.tm.get,s'.h.get,U'⟩) (lo:=w.heap.size) (H0:=w.heap) (h0:=s.h.get) (ρ0:=ρ) (c0:=c) rfl (w0:={w with drawn:=w.drawn+1}) ops.size _ L L [] ⟨s.tm.get,s.h.get,c⟩ ρ a {w with drawn:=w.drawn+1} ?_ t ?_ hss (zev.refl _ _ _ _ _ _) (Base.refl _) fun a' w' ρ' hb ss' ev'=> ?_
  . rw[<-hlen,<-q2];simp
  . rw[q1];exact d2
  . exact hQ a' w' ⟨⟨hb.os,hb.tape,hb.output,Z3 (Z128 _) hb.drawn⟩,ρ',ss'.widen d3,ev'.widen d3⟩
end
end Go.Vse
end
section
namespace Go.Vse
variable [Globs]
open Go.RowKit
section
variable {P:Program}{pur:Nat->Bool}
def zuD:Ex->Exit
 | .nrm=> .normal
 | .exit id=> .exit id
 | .ret=> .ret
def zf8(s s':St):Prop:=s.c<=s'.c/\s'.c<=s'.mx/\s.mx<=s'.mx/\s'.lw<=s.lw
def zf8.refl{s:St}(h:s.c<=s.mx):zf8 s s:=⟨Z2 _,h,Z2 _,Z2 _⟩
def zf8.trans{s t u:St}(h:zf8 s t)(k:zf8 t u):zf8 s u:=
 ⟨Z3 h.1 k.1,k.2.1,Z3 h.2.2.1 k.2.2.1,Z3 k.2.2.2 h.2.2.2⟩
theorem zkW{body:St->Option (Ex×St)}(hb:∀s x s',body s=some (x,s')->s.c<=s.mx->zf8 s s'):∀(n:Nat) (s:St) (x:Ex) (s':St),iter body n s=some (x,s')->s.c<=s.mx->zf8 s s'
 |0,s,x,s',h,_=>by simp[iter]at h
 |n+1,s,x,s',h,hm=>by
  unfold iter at h;split at h
  .rename_i s1 h1;have m1:=hb _ _ _ h1 hm;exact m1.trans (zkW hb n s1 x s' h m1.2.1)
  .exact hb _ _ _ h hm
theorem zcQ{cl:Cl}(hcl:zd5 P cl)(lf:Nat):∀(cc:C) (s:St) (x:Ex) (s':St),evC cl lf cc s=some (x,s')->s.c<=s.mx->zf8 s s'
 | .skip,s,x,s',h,hm=>by simp[evC]at h;obtain⟨_,rfl⟩ :=h;exact zf8.refl hm
 | .reg ops,s,x,s',h,hm=>by
  unfold evC at h;split at h
  .rename_i s1 h1;simp at h;obtain⟨_,rfl⟩ :=h;exact zgO hcl ops s s1 h1 hm
  .simp at h
 | .dreg ops,s,x,s',h,hm=>by
  unfold evC at h;split at h
  .rename_i s1 h1;simp at h;obtain⟨_,rfl⟩ :=h;exact zjH hcl ops [] s s1 h1 hm
  .simp at h
 | .seq a b,s,x,s',h,hm=>by
  unfold evC at h;split at h
  .rename_i s1 h1;have m1:=zcQ hcl lf a s _ s1 h1 hm;exact m1.trans (zcQ hcl lf b s1 x s' h m1.2.1)
  .exact zcQ hcl lf a s x s' h hm
 | .cond y a b,s,x,s',h,hm=>by
  unfold evC at h;split at h
  .exact zcQ hcl lf a s x s' h hm
  .exact zcQ hcl lf b s x s' h hm
  .simp at h
 | .blk id c,s,x,s',h,hm=>by
  unfold evC at h;split at h
  .rename_i i s1 h1;have m1:=zcQ hcl lf c s _ s1 h1 hm;split at h<;>(simp at h;obtain⟨_,rfl⟩ :=h;exact m1)
  .exact zcQ hcl lf c s x s' h hm
 | .loop c,s,x,s',h,hm=>by
  unfold evC at h;exact zkW (fun s x s'=>zcQ hcl lf c s x s') lf s x s' h hm
 | .exit id,s,x,s',h,hm=>by simp[evC]at h;obtain⟨_,rfl⟩ :=h;exact zf8.refl hm
 | .ret,s,x,s',h,hm=>by simp[evC]at h;obtain⟨_,rfl⟩ :=h;exact zf8.refl hm
variable {amb:Mu}{nt:Nat}
def After.refl{s:St}{ρ:Nat->Option Nat}{c:Nat->Prop}{a:Act}{w:World}(ss:SS amb nt s.tm.get s.h.get ρ c a w):After amb nt s s ρ c w a w:=
 ⟨Base.refl w,ρ,by rw[zei];exact ss,by rw[zei];exact Evo.refl _ _ _ _ _ _⟩
theorem After.trans{s s1 s2:St}{ρ ρ1:Nat->Option Nat}{c:Nat->Prop}{w w1 w2:World}{a2:Act}(m1:zf8 s s1)(m2:zf8 s1 s2)(hb:Base w w1)
  (ev1:Evo amb (fun id=>s1.lw<=id/\id<s1.mx) w.heap s.h.get ρ c w1.heap s1.h.get ρ1 (UX c s.c s1.c))(h2:After amb nt s1 s2 ρ1 (UX c s.c s1.c) w1 a2 w2):After amb nt s s2 ρ c w a2 w2:=by
 obtain⟨hb2,ρ2,ss2,ev2⟩ :=h2;rw[zo4 m1.1 m2.1]at ss2 ev2;exact⟨hb.trans hb2,ρ2,ss2,(ev1.mono fun id _ hid=>⟨Z3 m2.2.2.2 hid.1,Z15 hid.2 m2.2.2.1⟩).trans ev2⟩
def Sound(P:Program)(amb:Mu)(nt:Nat)(code:Code)(ev:St->Option (Ex×St)):Prop:=
 ∀(s s':St) (x:Ex),ev s=some (x,s')->s.c<=s.mx->∀(ρ:Nat->Option Nat) (c:Nat->Prop) (a:Act) (w:World),SS amb nt s.tm.get s.h.get ρ c a w->
  (∀id,s.c<=id->id<s'.mx->¬c id)->∀Q:Exit->Act->World->Prop,(∀a' w',After amb nt s s' ρ c w a' w'->Q (zuD x) a' w')->code.wp P Q a w
theorem zqx{code:Code}{body:St->Option (Ex×St)}(hb:Sound P amb nt code body)(hmono:∀s x s',body s=some (x,s')->s.c<=s.mx->zf8 s s'):
  ∀(n:Nat) (s s':St) (x:Ex),iter body n s=some (x,s')->s.c<=s.mx->∀(ρ:Nat->Option Nat) (c:Nat->Prop) (a:Act) (w:World),SS amb nt s.tm.get s.h.get ρ c a w->
  (∀id,s.c<=id->id<s'.mx->¬c id)->∀Q:Exit->Act->World->Prop,(∀a' w',After amb nt s s' ρ c w a' w'->x≠ .nrm->Q (zuD x) a' w')->x≠ .nrm/\Code.rounds P code Q n a w
 |0,s,s',x,h,_,ρ,c,a,w,_,_,Q,_=>by simp[iter]at h
 |n+1,s,s',x,h,hm,ρ,c,a,w,ss,hfree,Q,hQ=>by
  unfold iter at h;split at h
  .rename_i s1 h1;have m1:=hmono _ _ _ h1 hm;have m2:=zkW hmono n s1 x s' h m1.2.1;have hne:x≠ .nrm:=by
    clear hQ hfree ss m2 m1 h1 hm
    revert s1
    induction n with
    |zero=>intro s1 h;simp[iter]at h
    |succ n ih=>
     intro s1 h;unfold iter at h;split at h
     .rename_i s2 h2;exact ih s2 h
     .rename_i hn;intro hx;subst hx;exact hn s' h
   refine⟨hne,?_⟩;rw[rounds_succ];refine hb s s1 .nrm h1 hm ρ c a w ss (fun id x y=>hfree id x (Z15 y m2.2.2.1)) _ fun a1 w1 haf=> ?_
   obtain⟨hbs,ρ1,ss1,ev1⟩ :=haf;exact (zqx hb hmono n s1 s' x h m1.2.1 ρ1 _ a1 w1 ss1 (znz hfree m1.1) Q fun a2 w2 h2 hx=>hQ a2 w2 (After.trans m1 m2 hbs ev1 h2) hx).2
  .rename_i hn;have hne:x≠ .nrm:=fun hx=>by subst hx;exact hn s' h
   refine⟨hne,?_⟩;rw[rounds_succ];refine hb s s' x h hm ρ c a w ss hfree _ fun a1 w1 haf=> ?_
   cases x with
   |nrm=>exact absurd rfl hne
   |exit i=>exact hQ a1 w1 haf hne
   |ret=>exact hQ a1 w1 haf hne
theorem zfu{cl:Cl}(hcl:zd5 P cl)(lf:Nat):∀(code:Code) (cc:C),zdi P pur nt code=some cc->Sound P amb nt code (evC cl lf cc)
 | .skip,cc,hc=>by
  simp[zdi]at hc;subst hc;intro s s' x h hm ρ c a w ss hfree Q hQ;simp[evC]at h;obtain⟨rfl,rfl⟩ :=h;exact wp_skip (hQ a w (After.refl ss))
 | .region id ops false,cc,hc=>by
  simp only[zdi]at hc;obtain⟨cs,hcs,rfl⟩ :=zeF hc;intro s s' x h hm ρ c a w ss hfree Q hQ;unfold evC at h;split at h
  .rename_i s1 h1;simp at h;obtain⟨rfl,rfl⟩ :=h;refine wp_region ?_;rw[List.range_eq_range'];have:=zkz (P:=P) (pur:=pur) (Q:=Q) hcl (ops:=ops) ops.toList 0 cs s s1 ρ c a w (fun j=>by simp) hcs h1 hm ss hfree hQ;simpa using this
  .simp at h
 | .region id ops true,cc,hc=>by
  simp only[zdi]at hc;split at hc
  .rename_i hcond;split at hc
   .rename_i l hl;split at hc
    .rename_i hp;simp only[Z45]at hc;subst hc;simp only[Z14,beq_iff_eq,Z50,Z86]at hcond;obtain⟨⟨⟨⟨h1,h2⟩,h3⟩,h4⟩,h5⟩ :=hcond;intro s s' x h hm ρ c a w ss hfree Q hQ;unfold evC at h;split at h
     .rename_i s1 hs1;simp at h;obtain⟨rfl,rfl⟩ :=h;split at hs1
      .rename_i ht;exact zvG hcl h1 h2 h3 h4 h5 hl hp ht hs1 hm ss hfree hQ
      .exact zww hcl h1 h2 h3 h4 h5 hl hp hs1 hm ss hfree hQ
     .simp at h
    .simp at hc
   .simp at hc
  .simp at hc
 | .seq p q,cc,hc=>by
  simp only[zdi]at hc;split at hc
  .rename_i x y hx hy;simp only[Z45]at hc;subst hc;have ih1:=zfu hcl lf p x hx;have ih2:=zfu hcl lf q y hy;intro s s' e h hm ρ c a w ss hfree Q hQ;unfold evC at h;refine wp_seq ?_;split at h
   .rename_i s1 h1;have m1:=zcQ hcl lf x s _ s1 h1 hm;have m2:=zcQ hcl lf y s1 _ s' h m1.2.1;refine ih1 s s1 .nrm h1 hm ρ c a w ss (fun id x y=>hfree id x (Z15 y m2.2.2.1)) _ fun a1 w1 haf=> ?_
    obtain⟨hb,ρ1,ss1,ev1⟩ :=haf;exact ih2 s1 s' e h m1.2.1 ρ1 _ a1 w1 ss1 (znz hfree m1.1) Q fun a2 w2 h2=>hQ a2 w2 (After.trans m1 m2 hb ev1 h2)
   .rename_i hn;refine ih1 s s' e h hm ρ c a w ss hfree _ fun a1 w1 haf=> ?_
    cases e with
    |nrm=>exact absurd h (hn s')
    |exit i=>exact hQ a1 w1 haf
    |ret=>exact hQ a1 w1 haf
  .simp at hc
 | .cond y p q,cc,hc=>by
  simp only[zdi]at hc;split at hc
  .rename_i x b d hx hb hd;simp only[Z45]at hc;subst hc;have ih1:=zfu hcl lf p b hb;have ih2:=zfu hcl lf q d hd;intro s s' e h hm ρ c a w ss hfree Q hQ;unfold evC at h;rw[zrO]at h;split at h
   .rename_i ht;have hr:=ss.ev y x _ hx ht;simp only[Rel,zaj]at hr;exact wp_cond_true hr (ih1 s s' e h hm ρ c a w ss hfree Q hQ)
   .rename_i ht;have hr:=ss.ev y x _ hx ht;simp only[Rel,zaj]at hr;exact wp_cond_false hr (ih2 s s' e h hm ρ c a w ss hfree Q hQ)
   .simp at h
  .simp at hc
 | .block id p,cc,hc=>by
  simp only[zdi]at hc;obtain⟨b,hb,rfl⟩ :=zeF hc;have ih:=zfu hcl lf p b hb;intro s s' e h hm ρ c a w ss hfree Q hQ;unfold evC at h;refine wp_block ?_;split at h
  .rename_i i s1 h1;split at h
   .rename_i hi;simp at h;obtain⟨rfl,rfl⟩ :=h;refine ih s s1 (.exit i) h1 hm ρ c a w ss hfree _ fun a1 w1 haf=> ?_
    simp only[zuD,Exit.inBlock,hi,Z60];exact hQ a1 w1 haf
   .rename_i hi;simp at h;obtain⟨rfl,rfl⟩ :=h;refine ih s s1 (.exit i) h1 hm ρ c a w ss hfree _ fun a1 w1 haf=> ?_
    simp only[zuD,Exit.inBlock,hi,Z63];exact hQ a1 w1 haf
  .rename_i hn;refine ih s s' e h hm ρ c a w ss hfree _ fun a1 w1 haf=> ?_
   cases e with
   |nrm=>exact hQ a1 w1 haf
   |exit i=>exact absurd h (hn i s')
   |ret=>exact hQ a1 w1 haf
 | .loop p,cc,hc=>by
  simp only[zdi]at hc;obtain⟨b,hb,rfl⟩ :=zeF hc;have ih:=zfu hcl lf p b hb;intro s s' e h hm ρ c a w ss hfree Q hQ;unfold evC at h;exact wp_loop_rounds lf (zqx ih (fun s x s'=>zcQ hcl lf b s x s') lf s s' e h hm ρ c a w ss hfree Q fun a' w' haf _=>hQ a' w' haf).2
 | .exit id,cc,hc=>by
  simp[zdi]at hc;subst hc;intro s s' x h hm ρ c a w ss hfree Q hQ;simp[evC]at h;obtain⟨rfl,rfl⟩ :=h;exact wp_exit (hQ a w (After.refl ss))
 | .ret,cc,hc=>by
  simp[zdi]at hc;subst hc;intro s s' x h hm ρ c a w ss hfree Q hQ;simp[evC]at h;obtain⟨rfl,rfl⟩ :=h;exact wp_ret (hQ a w (After.refl ss))
 | .label _,cc,hc=>by simp[zdi]at hc
 | .goto _,cc,hc=>by simp[zdi]at hc
end
end Go.Vse
end
section
namespace Go.Vse
variable [Globs]
open Go.RowKit
section
variable {P:Program}{amb:Mu}{pur:Nat->Bool}
theorem zpN:∀(ds:List D) (i:Nat) (t:T D) (j:Nat),(zak ds i t).get j=if i<=j/\j<i+ds.length then ds[j - i]? else t.get j
 |[],i,t,j=>by simp[zak];omega
 |d::ds,i,t,j=>by
  rw[zak,zpN ds (i+1),T.zab]
  by_cases h1:j=i
  .subst h1;have h2:¬(j+1<=j/\j<j+1+ds.length):=by omega
   simp[h2]
  .by_cases h2:i+1<=j/\j<i+1+ds.length
   .have h3:i<=j/\j<i+(ds.length+1):=by omega
    have h4:j - i=(j - (i+1))+1:=by omega
    simp only[Z23,h2,h3,and_self,Z60,h4,List.getElem?_cons_succ]
   .have h3:¬(i<=j/\j<i+(ds.length+1)):=by omega
    simp only[Z23,h2,h3,Z63,h1]
theorem zaq.get{H:Array Obj}{μ:Mu}{ρ:Nat->Option Nat}{c:Nat->Prop}:∀{ds:List D} {vs:List Value},zaq H μ ρ c ds vs->ds.length=vs.length/\∀(i:Nat) d,ds[i]? =some d->∃v,vs[i]? =some v/\Rel H μ ρ c d v
 |[],vs,h=>by
  simp only[zaq]at h;subst h;exact⟨rfl,fun i d hd=>by simp at hd⟩
 |x::l,vs,h=>by
  simp only[zaq]at h;obtain⟨v,m,rfl,h1,h2⟩ :=h;obtain⟨k1,k2⟩ :=zaq.get h2;refine⟨by simp[k1],fun i d hd=> ?_⟩;cases i with
  |zero=>simp at hd;subst hd;exact⟨v,by simp,h1⟩
  |succ i=>exact k2 i d (by simpa using hd)
theorem run_load{w:World}{h:Hp}{ρ:Nat->Option Nat}{c:Nat->Prop}(s:Sim amb w.heap h ρ c){t:TypeId}{g:Bool}{n:Nat}(hg:ze2 P t=some g)(hn:zaO P t=some n){x d:D}{u:Value}{rd:List Nat}
  (hx:Rel w.heap (zal amb h ρ) ρ c x u)(hl:zc3 g n h x=some (d,rd)):∃v,(do loadVar t (<-asAddr u):Sem Value).run P w= .ok v w/\Rel w.heap (zal amb h ρ) ρ c d v:=by
 obtain⟨v,h1,h2⟩ :=zCM (P:=P) s hg hn hx hl;refine⟨v,?_,h2⟩;have hu:∃a,u= .pointer (some a):=by
  unfold zc3 at hl;split at hl
  .simp only[Rel]at hx;obtain⟨b,o,e,_⟩ :=hx;exact⟨_,e⟩
  .simp only[Rel]at hx;obtain⟨_,a,e,_⟩ :=hx;exact⟨a,e⟩
  .simp at hl
 obtain⟨a,rfl⟩ :=hu;simp[Instr.loadAt,Instr.sureAddr]at h1;simpa [asAddr]using h1
def zkt(tmps:Array Value):ResultVar->Sem Value
 | .tmp t=>pure (tmps.getD t undef)
 | .cell a t=>do loadVar t (<-asAddr (tmps.getD a undef))
theorem zvr{nt:Nat}{s:St}{ρ:Nat->Option Nat}{c:Nat->Prop}{a:Act}{w:World}(ss:SS amb nt s.tm.get s.h.get ρ c a w):∀(rs:List ResultVar) (cs:List Rv) (ds:List D),
  zat (zio P) rs=some cs->zat (resV s) cs=some ds->∃vs,(rs.mapM (zkt a.tmps)).run P w= .ok vs w/\zaq w.heap (zal amb s.h.get ρ) ρ c ds vs
 |[],cs,ds,h1,h2=>by
  simp[zat]at h1;subst h1;simp[zat]at h2;subst h2;exact⟨[],by simp,by simp[zaq]⟩
 |r::rs,cs,ds,h1,h2=>by
  unfold zat at h1;split at h1
  .simp at h1
  .rename_i y hy;split at h1
   .simp at h1
   .rename_i m hm;simp only[Z45]at h1;subst h1;unfold zat at h2;split at h2
    .simp at h2
    .rename_i d hd;split at h2
     .simp at h2
     .rename_i ds' hds;simp only[Z45]at h2;subst h2;obtain⟨vs,k1,k2⟩ :=zvr ss rs m ds' hm hds;have one:∃v,(zkt a.tmps r).run P w= .ok v w/\Rel w.heap (zal amb s.h.get ρ) ρ c d v:=by
       cases r with
       |tmp t=>
        simp[zio]at hy;subst hy;simp only[resV]at hd;obtain⟨v,e1,e2⟩ :=ss.tmr t d hd;exact⟨v,by simp[zkt,e1],e2⟩
       |cell b t=>
        simp only[zio]at hy;split at hy
        .rename_i g n hg hn;simp only[Z45]at hy;subst hy;simp only[resV]at hd;split at hd
         .rename_i p hp;obtain⟨u,e1,e2⟩ :=ss.tmr b p hp;cases hl:zc3 g n s.h.get p with
          |none=>simp[hl]at hd
          |some z=>
           obtain⟨d',rd⟩ :=z;simp[hl]at hd;subst hd;obtain⟨v,r1,r2⟩ :=run_load (P:=P) ss.sim hg hn e2 hl;refine⟨v,?_,r2⟩;simp only[zkt,Z19,e1,Z118];exact r1
         .simp at hd
        .simp at hy
      obtain⟨v,r1,r2⟩ :=one;refine⟨v::vs,?_,?_⟩
      .simp[List.mapM_cons,r1,k1]
      .simp only[zaq];exact⟨v,vs,rfl,r2,k2⟩
theorem zm5{nt:Nat}{s:St}{ρ:Nat->Option Nat}{c:Nat->Prop}{a:Act}{w:World}(ss:SS amb nt s.tm.get s.h.get ρ c a w){F:Func}{cs:List Rv}(hc:zat (zio P) F.results.toList=some cs)
  {d:D}(hd:resD s cs=some d):∃v,(results F a.tmps).run P w= .ok v w/\Rel w.heap (zal amb s.h.get ρ) ρ c d v:=by
 unfold resD at hd;have key:∀ds,zat (resV s) cs=some ds->∃vs:List Value,zaq w.heap (zal amb s.h.get ρ) ρ c ds vs/\
   (results F a.tmps).run P w= .ok (if h:(⟨vs⟩ :Array Value).size=1 then(⟨vs⟩ :Array Value)[0]else .tuple ⟨vs⟩) w:=by
  intro ds hds;obtain⟨vs,k1,k2⟩ :=zvr (P:=P) ss F.results.toList cs ds hc hds;refine⟨vs,k2,?_⟩;have:F.results.mapM (zkt a.tmps)=Functor.map (fun l=>(⟨l⟩ :Array Value)) (F.results.toList.mapM (zkt a.tmps)):=by
   rw[Array.mapM_eq_mapM_toList]
  have he:results F a.tmps=(do
    let vs <-F.results.mapM (zkt a.tmps)
    pure (if h:vs.size=1 then vs[0]else .tuple vs)):=by
   unfold results
   congr 1
  rw[he,this];simp[k1]
 split at hd
 .rename_i d' hds;simp only[Z45]at hd;subst hd;obtain⟨vs,k2,hr⟩ :=key _ hds;simp only[zaq]at k2;obtain⟨v,m,rfl,h1,rfl⟩ :=k2;exact⟨v,by simpa using hr,h1⟩
 .rename_i ds hne hds;simp only[Z45]at hd;subst hd;obtain⟨vs,k2,hr⟩ :=key _ hds;have hlen:¬vs.length=1:=by
   intro h1;obtain⟨h2,_⟩ :=k2.get;rw[h1]at h2;obtain⟨d0,hd0⟩ :=List.length_eq_one_iff.1 h2;exact hne d0 hd0
  refine⟨.tuple ⟨vs⟩,?_,?_⟩
  .simpa [hlen]using hr
  .simp only[Rel];exact⟨vs,rfl,k2⟩
 .simp at hd
mutual
theorem Rel.frozen{H:Array Obj}{μ μ':Mu}{ρ ρ':Nat->Option Nat}{c c':Nat->Prop}(hk:∀b o,¬μ b o->¬μ' b o):∀(d:D) (v:Value),d.isF=true->Rel H μ ρ c d v->Rel H μ' ρ' c' d v
 | .f x,v,_,h=>by
  simp only[Rel]at h|-;exact zaj.keep (fun b o v hm hv=>⟨hv,hk b o hm⟩) x v h
 | .ag cs,v,hf,h=>by
  simp only[D.isF]at hf;simp only[Rel]at h|-;obtain⟨vs,e,h1,h2⟩ :=h;exact⟨vs,e,h1,zaq.frozen hk cs vs hf h2⟩
 | .tu cs,v,hf,h=>by
  simp only[D.isF]at hf;simp only[Rel]at h|-;obtain⟨vs,e,h2⟩ :=h;exact⟨vs,e,zaq.frozen hk cs vs hf h2⟩
 | .fptr cs,v,_,h=>by
  simp only[Rel]at h|-;obtain⟨b,o,e,h⟩ :=h;exact⟨b,o,e,za1.keep (fun b o v hm hv=>⟨hv,hk b o hm⟩) b cs o h⟩
 | .sl ..,_,hf,_=>by simp[D.isF]at hf
 | .ptr ..,_,hf,_=>by simp[D.isF]at hf
 | .mp _,_,hf,_=>by simp[D.isF]at hf
 | .fn ..,_,hf,_=>by simp[D.isF]at hf
theorem zaq.frozen{H:Array Obj}{μ μ':Mu}{ρ ρ':Nat->Option Nat}{c c':Nat->Prop}(hk:∀b o,¬μ b o->¬μ' b o):∀(ds:List D) (vs:List Value),D.zh4 ds=true->zaq H μ ρ c ds vs->zaq H μ' ρ' c' ds vs
 |[],_,_,h=>by simp only[zaq]at h|-;exact h
 |d::l,vs,hf,h=>by
  simp only[D.zh4,Z14]at hf;simp only[zaq]at h|-;obtain⟨v,m,e,h1,h2⟩ :=h;exact⟨v,m,e,Rel.frozen hk d v hf.1 h1,zaq.frozen hk l m hf.2 h2⟩
end
theorem zwx{cl:Cl}(hcl:zd5 P cl){lf f:Nat}{F:Func}{fn:Fn}(hF:P.funcs[f]? =some F)(hname:F.name≠ "runtime.NumGoroutine")(hcomp:zhZ P pur F=some fn)
  {args:List D}{h:T Ob}{n:Nat}{q:CR}(hq:zfd (evC cl lf) fn args h n=some q):
  zhJ P f/\n<=q.c/\q.c<=q.mx/\∀amb ρ c (w:World) vs,Sim amb w.heap h.get ρ c->(∀id,n<=id->id<q.mx->¬c id)->zaq w.heap (zal amb h.get ρ) ρ c args vs->
   Calls P f ⟨vs⟩ w fun e w'=>∃v,e= .returned v/\zgV amb w h.get ρ c n q v w':=by
 unfold zhZ at hcomp;split at hcomp
 .simp at hcomp
 .rename_i code hbody;split at hcomp
  .rename_i cc rs hcc hrs;simp only[Z45]at hcomp;subst hcomp;have hen:zhJ P f:=⟨F,hF,by simp[hbody],hname⟩
   have main:∀(x:Ex) (s:St),evC cl lf cc {tm:=zak args 0 .e,h,c:=n,lw:=n,mx:=n}=some (x,s)->(x= .nrm\/x= .ret)->∀d,resD s rs=some d->
     (if Nat.beq s.lw n&&d.isF then some (CR.mk d h n n s.mx)else some (CR.mk d s.h s.c s.lw s.mx))=some q->
     zhJ P f/\n<=q.c/\q.c<=q.mx/\∀amb ρ c (w:World) vs,Sim amb w.heap h.get ρ c->(∀id,n<=id->id<q.mx->¬c id)->zaq w.heap (zal amb h.get ρ) ρ c args vs->
      Calls P f ⟨vs⟩ w fun e w'=>∃v,e= .returned v/\zgV amb w h.get ρ c n q v w':=by
    intro x s hev hx d hd hq;have m:=zcQ hcl lf cc _ x s hev (Z2 n);obtain⟨m1,m2,m3,m4⟩ :=m;have hqmx:q.mx=s.mx:=by
     split at hq<;>(simp only[Z45]at hq;subst hq;rfl)
    refine⟨hen,?_,?_,fun amb ρ c w vs hsim hfree hargs=> ?_⟩
    .split at hq<;>(simp only[Z45]at hq;subst hq;first|exact Z2 _|exact m1)
    .split at hq<;>(simp only[Z45]at hq;subst hq;first|exact m3|exact m2)
    .rw[hqmx]at hfree;refine calls_of_wp hF hbody ?_;obtain⟨hlen,hget⟩ :=hargs.get;have ss0:SS amb F.ntmps (zak args 0 .e).get h.get ρ c {tmps:=(⟨vs⟩ :Array Value)++Array.replicate (F.ntmps - (⟨vs⟩ :Array Value).size) undef,defers:=[]} w:=by
      refine⟨hsim,fun i d hi=> ?_,by simp;omega,rfl⟩;rw[zpN]at hi;split at hi
      .rename_i hlt;obtain⟨v,hv,hr⟩ :=hget i d (by simpa using hi);refine⟨v,?_,hr⟩;have hiv:i<vs.length:=by omega
       rw[Array.getElem?_append_left (by simpa using hiv)];simpa using hv
      .simp[T.get]at hi
     refine zfu hcl lf code cc hcc _ s x hev (Z2 n) ρ c _ w ss0 hfree _ fun a' w' haf=> ?_
     obtain⟨hb,ρ1,ss1,ev1⟩ :=haf;simp only at ss1 ev1;obtain⟨v,hrun,hrel⟩ :=zm5 (P:=P) ss1 hrs hd;have fin:zgV amb w h.get ρ c n q v w':=by
      split at hq
      .rename_i hcond;simp only[Z14]at hcond;have hlw:s.lw=n:=Z88 hcond.1;simp only[Z45]at hq;subst hq;have hnw:∀id,c id->¬(s.lw<=id/\id<s.mx):=fun id hc hw=>hfree id (by omega) hw.2 hc
       have hold:∀b,b<w.heap.size->w'.heap[b]? =w.heap[b]? :=by
        intro b hlt
        by_cases hown:∃id,ρ id=some b
        .obtain⟨id,hid⟩ :=hown;obtain⟨_,ob,ho⟩ :=hsim.dom id b hid;have hc:=hsim.lt id ob ho;exact (ev1.low id (hnw id hc) hc).2.2 b hid
        .exact (ev1.blk b hlt fun id hid=>hown ⟨id,hid⟩).1
       obtain⟨s2,e2⟩ :=hsim.grown ev1.size hold (fun id=>n<=id/\id<s.mx);refine⟨hb,ρ,?_,?_,?_⟩
       .refine Rel.frozen (fun b o hm hx=>hm ?_) d v hcond.2 hrel;rcases hx with hx|⟨id,ob,h1,h2,h3⟩
        .exact .inl hx
        .have hc:=hsim.lt id ob h1;obtain⟨l1,l2,_⟩ :=ev1.low id (hnw id hc) hc;exact .inr ⟨id,ob,l1.trans h1,l2.trans h2,h3⟩
       .simp only[zei];exact s2
       .simp only[zei];exact e2
      .simp only[Z45]at hq;subst hq;exact⟨hb,ρ1,hrel,ss1.sim,ev1⟩
     rcases hx with rfl|rfl
     .exact⟨ss1.df,v,hrun,v,rfl,fin⟩
     .exact⟨ss1.df,v,hrun,v,rfl,fin⟩
   unfold zfd at hq;split at hq
   .simp at hq
   .simp at hq
   .rename_i x s hne hev;split at hq
    .simp at hq
    .rename_i d hd;refine main x s hev ?_ d hd hq;cases x with
     |nrm=>exact .inl rfl
     |ret=>exact .inr rfl
     |exit i=>exact absurd rfl (hne i)
  .simp at hcomp
structure zmb(P:Program)(pur:Nat->Bool)(pr:Pr):Prop where
 fn:∀f g,pr.fn f=some g->∃F,P.funcs[f]? =some F/\F.name≠ "runtime.NumGoroutine" /\∃pu:Nat->Bool,zhZ P pu F=some g
 ext:∀f args x,pr.ext f args=some x->zhJ P f/\∀(w:World) μ ρ c vs,zaq w.heap μ ρ c args vs->
  Calls P f ⟨vs⟩ w fun e w'=>∃v,e= .returned v/\Base w w'/\w.heap.size<=w'.heap.size/\(∀b,b<w.heap.size->w'.heap[b]? =w.heap[b]?)/\zaj w'.heap μ x v
 exq:∀f args h n q,pr.exq f args h n=some q->zgW P f args h n q
theorem zfj{pr:Pr}(hp:zmb P pur pr):∀n,zd5 P (zbW pr n)
 |0=>fun f args h n q hq=>by simp[zbW]at hq
 |n+1=>fun f args h m q hq=>by
  simp only[zbW]at hq;split at hq
  .rename_i fn hfn;obtain⟨F,h1,h2,pu,h3⟩ :=hp.fn f fn hfn;exact zwx (zfj hp n) h1 h2 h3 hq
  .split at hq
   .rename_i x hx;simp only[Z45]at hq;subst hq;obtain⟨hen,hcall⟩ :=hp.ext f args x hx;refine⟨hen,Z2 _,Z2 _,fun amb ρ c w vs hsim hfree hargs=>(hcall w _ ρ c vs hargs).mono fun e w' ⟨v,he,hb,hs,hold,hr⟩ =>⟨v,he,hb,ρ,?_,?_,?_⟩⟩
    .exact zaj.d x v hr
    .simp only[zei];exact (hsim.grown hs hold (fun _=>True)).1
    .simp only[zei];exact (hsim.grown hs hold _).2
   .exact hp.exq f args h m q hq
end
end Go.Vse
end
section
namespace Go.Vse
def T.gk{α:Type}(t:T α):Nat->Option α:=
 @T.rec α (fun _=>Nat->Option α) (fun _=>none)
  (fun _ o _ gl gr i=>@Bool.rec (fun _=>Option α) (@Bool.rec (fun _=>Option α) (gr (Nat.sub (Nat.div i 2) 1)) (gl (Nat.div i 2)) (Nat.beq (Nat.mod i 2) 1)) o (Nat.beq i 0)) t
def T.sk{α:Type}(v:Option α)(k:Nat):T α->Nat->T α:=
 @Nat.rec (fun _=>T α->Nat->T α) (fun t _=>t)
  (fun _ ih t=>@T.rec α (fun _=>Nat->T α)
   (fun i=>@Bool.rec (fun _=>T α) (@Bool.rec (fun _=>T α) (.n .e none (ih .e (Nat.sub (Nat.div i 2) 1))) (.n (ih .e (Nat.div i 2)) none .e) (Nat.beq (Nat.mod i 2) 1)) (.n .e v .e) (Nat.beq i 0))
   (fun l o r _ _ i=>@Bool.rec (fun _=>T α) (@Bool.rec (fun _=>T α) (.n l o (ih r (Nat.sub (Nat.div i 2) 1))) (.n (ih l (Nat.div i 2)) o r) (Nat.beq (Nat.mod i 2) 1)) (.n l v r) (Nat.beq i 0)) t) k
theorem T.zqv{α:Type}:∀(t:T α) (i:Nat),t.gk i=t.get i
 | .e,_=>rfl
 | .n l o r,i=>by
  have e:(T.n l o r).gk i= @Bool.rec (fun _=>Option α) (@Bool.rec (fun _=>Option α) (r.gk (i/2 - 1)) (l.gk (i/2)) (Nat.beq (i%2) 1)) o (Nat.beq i 0):=rfl;have e2:(T.n l o r).get i=(bif Nat.beq i 0 then o else bif Nat.beq (i%2) 1 then l.get (i/2)else r.get (i/2 - 1)):=rfl;rw[e,e2,T.zqv l,T.zqv r];cases Nat.beq i 0<;>cases Nat.beq (i%2) 1<;>rfl
theorem T.zmS{α:Type}(v:Option α):∀(k:Nat) (t:T α) (i:Nat),T.sk v k t i=T.zfr v k t i
 |0,t,i=>by cases t<;>rfl
 |k+1,.e,i=>by
  have e:T.sk v (k+1) .e i= @Bool.rec (fun _=>T α) (@Bool.rec (fun _=>T α) (.n .e none (T.sk v k .e (i/2 - 1))) (.n (T.sk v k .e (i/2)) none .e) (Nat.beq (i%2) 1)) (.n .e v .e) (Nat.beq i 0):=rfl;rw[e,T.zmS v k,T.zmS v k,T.zfr];cases Nat.beq i 0<;>cases Nat.beq (i%2) 1<;>rfl
 |k+1,.n l o r,i=>by
  have e:T.sk v (k+1) (.n l o r) i= @Bool.rec (fun _=>T α) (@Bool.rec (fun _=>T α) (.n l o (T.sk v k r (i/2 - 1))) (.n (T.sk v k l (i/2)) o r) (Nat.beq (i%2) 1)) (.n l v r) (Nat.beq i 0):=rfl;rw[e,T.zmS v k,T.zmS v k,T.zfr];cases Nat.beq i 0<;>cases Nat.beq (i%2) 1<;>rfl
structure Row where
 a0:Option D:=none
 a1:Option D:=none
 a2:Option D:=none
 a3:Option D:=none
 a4:Option D:=none
 a5:Option D:=none
 a6:Option D:=none
 a7:Option D:=none
 a8:Option D:=none
 a9:Option D:=none
 a10:Option D:=none
 a11:Option D:=none
 a12:Option D:=none
 a13:Option D:=none
 a14:Option D:=none
 a15:Option D:=none
structure TM where
 r0:Row:={}
 r1:Row:={}
 r2:Row:={}
 r3:Row:={}
 r4:Row:={}
 r5:Row:={}
 r6:Row:={}
 r7:Row:={}
 r8:Row:={}
 r9:Row:={}
 r10:Row:={}
 r11:Row:={}
 r12:Row:={}
 r13:Row:={}
 r14:Row:={}
 r15:Row:={}
 big:T D:= .e
structure Bx(α:Type) where
 v:α
def cs0(x:Option D)(r:Row):Row:=@Row.rec (fun _=>Row) (fun _ a1 a2 a3 a4 a5 a6 a7 a8 a9 a10 a11 a12 a13 a14 a15=>⟨x,a1,a2,a3,a4,a5,a6,a7,a8,a9,a10,a11,a12,a13,a14,a15⟩) r
def cs1(x:Option D)(r:Row):Row:=@Row.rec (fun _=>Row) (fun a0 _ a2 a3 a4 a5 a6 a7 a8 a9 a10 a11 a12 a13 a14 a15=>⟨a0,x,a2,a3,a4,a5,a6,a7,a8,a9,a10,a11,a12,a13,a14,a15⟩) r
def cs2(x:Option D)(r:Row):Row:=@Row.rec (fun _=>Row) (fun a0 a1 _ a3 a4 a5 a6 a7 a8 a9 a10 a11 a12 a13 a14 a15=>⟨a0,a1,x,a3,a4,a5,a6,a7,a8,a9,a10,a11,a12,a13,a14,a15⟩) r
def cs3(x:Option D)(r:Row):Row:=@Row.rec (fun _=>Row) (fun a0 a1 a2 _ a4 a5 a6 a7 a8 a9 a10 a11 a12 a13 a14 a15=>⟨a0,a1,a2,x,a4,a5,a6,a7,a8,a9,a10,a11,a12,a13,a14,a15⟩) r
def cs4(x:Option D)(r:Row):Row:=@Row.rec (fun _=>Row) (fun a0 a1 a2 a3 _ a5 a6 a7 a8 a9 a10 a11 a12 a13 a14 a15=>⟨a0,a1,a2,a3,x,a5,a6,a7,a8,a9,a10,a11,a12,a13,a14,a15⟩) r
def cs5(x:Option D)(r:Row):Row:=@Row.rec (fun _=>Row) (fun a0 a1 a2 a3 a4 _ a6 a7 a8 a9 a10 a11 a12 a13 a14 a15=>⟨a0,a1,a2,a3,a4,x,a6,a7,a8,a9,a10,a11,a12,a13,a14,a15⟩) r
def cs6(x:Option D)(r:Row):Row:=@Row.rec (fun _=>Row) (fun a0 a1 a2 a3 a4 a5 _ a7 a8 a9 a10 a11 a12 a13 a14 a15=>⟨a0,a1,a2,a3,a4,a5,x,a7,a8,a9,a10,a11,a12,a13,a14,a15⟩) r
def cs7(x:Option D)(r:Row):Row:=@Row.rec (fun _=>Row) (fun a0 a1 a2 a3 a4 a5 a6 _ a8 a9 a10 a11 a12 a13 a14 a15=>⟨a0,a1,a2,a3,a4,a5,a6,x,a8,a9,a10,a11,a12,a13,a14,a15⟩) r
def cs8(x:Option D)(r:Row):Row:=@Row.rec (fun _=>Row) (fun a0 a1 a2 a3 a4 a5 a6 a7 _ a9 a10 a11 a12 a13 a14 a15=>⟨a0,a1,a2,a3,a4,a5,a6,a7,x,a9,a10,a11,a12,a13,a14,a15⟩) r
def cs9(x:Option D)(r:Row):Row:=@Row.rec (fun _=>Row) (fun a0 a1 a2 a3 a4 a5 a6 a7 a8 _ a10 a11 a12 a13 a14 a15=>⟨a0,a1,a2,a3,a4,a5,a6,a7,a8,x,a10,a11,a12,a13,a14,a15⟩) r
def cs10(x:Option D)(r:Row):Row:=@Row.rec (fun _=>Row) (fun a0 a1 a2 a3 a4 a5 a6 a7 a8 a9 _ a11 a12 a13 a14 a15=>⟨a0,a1,a2,a3,a4,a5,a6,a7,a8,a9,x,a11,a12,a13,a14,a15⟩) r
def cs11(x:Option D)(r:Row):Row:=@Row.rec (fun _=>Row) (fun a0 a1 a2 a3 a4 a5 a6 a7 a8 a9 a10 _ a12 a13 a14 a15=>⟨a0,a1,a2,a3,a4,a5,a6,a7,a8,a9,a10,x,a12,a13,a14,a15⟩) r
def cs12(x:Option D)(r:Row):Row:=@Row.rec (fun _=>Row) (fun a0 a1 a2 a3 a4 a5 a6 a7 a8 a9 a10 a11 _ a13 a14 a15=>⟨a0,a1,a2,a3,a4,a5,a6,a7,a8,a9,a10,a11,x,a13,a14,a15⟩) r
def cs13(x:Option D)(r:Row):Row:=@Row.rec (fun _=>Row) (fun a0 a1 a2 a3 a4 a5 a6 a7 a8 a9 a10 a11 a12 _ a14 a15=>⟨a0,a1,a2,a3,a4,a5,a6,a7,a8,a9,a10,a11,a12,x,a14,a15⟩) r
def cs14(x:Option D)(r:Row):Row:=@Row.rec (fun _=>Row) (fun a0 a1 a2 a3 a4 a5 a6 a7 a8 a9 a10 a11 a12 a13 _ a15=>⟨a0,a1,a2,a3,a4,a5,a6,a7,a8,a9,a10,a11,a12,a13,x,a15⟩) r
def cs15(x:Option D)(r:Row):Row:=@Row.rec (fun _=>Row) (fun a0 a1 a2 a3 a4 a5 a6 a7 a8 a9 a10 a11 a12 a13 a14 _=>⟨a0,a1,a2,a3,a4,a5,a6,a7,a8,a9,a10,a11,a12,a13,a14,x⟩) r
def rs0(f:Row->Row)(t:TM):TM:=@TM.rec (fun _=>TM) (fun r0 r1 r2 r3 r4 r5 r6 r7 r8 r9 r10 r11 r12 r13 r14 r15 big=>⟨f r0,r1,r2,r3,r4,r5,r6,r7,r8,r9,r10,r11,r12,r13,r14,r15,big⟩) t
def rs1(f:Row->Row)(t:TM):TM:=@TM.rec (fun _=>TM) (fun r0 r1 r2 r3 r4 r5 r6 r7 r8 r9 r10 r11 r12 r13 r14 r15 big=>⟨r0,f r1,r2,r3,r4,r5,r6,r7,r8,r9,r10,r11,r12,r13,r14,r15,big⟩) t
def rs2(f:Row->Row)(t:TM):TM:=@TM.rec (fun _=>TM) (fun r0 r1 r2 r3 r4 r5 r6 r7 r8 r9 r10 r11 r12 r13 r14 r15 big=>⟨r0,r1,f r2,r3,r4,r5,r6,r7,r8,r9,r10,r11,r12,r13,r14,r15,big⟩) t
def rs3(f:Row->Row)(t:TM):TM:=@TM.rec (fun _=>TM) (fun r0 r1 r2 r3 r4 r5 r6 r7 r8 r9 r10 r11 r12 r13 r14 r15 big=>⟨r0,r1,r2,f r3,r4,r5,r6,r7,r8,r9,r10,r11,r12,r13,r14,r15,big⟩) t
def rs4(f:Row->Row)(t:TM):TM:=@TM.rec (fun _=>TM) (fun r0 r1 r2 r3 r4 r5 r6 r7 r8 r9 r10 r11 r12 r13 r14 r15 big=>⟨r0,r1,r2,r3,f r4,r5,r6,r7,r8,r9,r10,r11,r12,r13,r14,r15,big⟩) t
def rs5(f:Row->Row)(t:TM):TM:=@TM.rec (fun _=>TM) (fun r0 r1 r2 r3 r4 r5 r6 r7 r8 r9 r10 r11 r12 r13 r14 r15 big=>⟨r0,r1,r2,r3,r4,f r5,r6,r7,r8,r9,r10,r11,r12,r13,r14,r15,big⟩) t
def rs6(f:Row->Row)(t:TM):TM:=@TM.rec (fun _=>TM) (fun r0 r1 r2 r3 r4 r5 r6 r7 r8 r9 r10 r11 r12 r13 r14 r15 big=>⟨r0,r1,r2,r3,r4,r5,f r6,r7,r8,r9,r10,r11,r12,r13,r14,r15,big⟩) t
def rs7(f:Row->Row)(t:TM):TM:=@TM.rec (fun _=>TM) (fun r0 r1 r2 r3 r4 r5 r6 r7 r8 r9 r10 r11 r12 r13 r14 r15 big=>⟨r0,r1,r2,r3,r4,r5,r6,f r7,r8,r9,r10,r11,r12,r13,r14,r15,big⟩) t
def rs8(f:Row->Row)(t:TM):TM:=@TM.rec (fun _=>TM) (fun r0 r1 r2 r3 r4 r5 r6 r7 r8 r9 r10 r11 r12 r13 r14 r15 big=>⟨r0,r1,r2,r3,r4,r5,r6,r7,f r8,r9,r10,r11,r12,r13,r14,r15,big⟩) t
def rs9(f:Row->Row)(t:TM):TM:=@TM.rec (fun _=>TM) (fun r0 r1 r2 r3 r4 r5 r6 r7 r8 r9 r10 r11 r12 r13 r14 r15 big=>⟨r0,r1,r2,r3,r4,r5,r6,r7,r8,f r9,r10,r11,r12,r13,r14,r15,big⟩) t
def rs10(f:Row->Row)(t:TM):TM:=@TM.rec (fun _=>TM) (fun r0 r1 r2 r3 r4 r5 r6 r7 r8 r9 r10 r11 r12 r13 r14 r15 big=>⟨r0,r1,r2,r3,r4,r5,r6,r7,r8,r9,f r10,r11,r12,r13,r14,r15,big⟩) t
def rs11(f:Row->Row)(t:TM):TM:=@TM.rec (fun _=>TM) (fun r0 r1 r2 r3 r4 r5 r6 r7 r8 r9 r10 r11 r12 r13 r14 r15 big=>⟨r0,r1,r2,r3,r4,r5,r6,r7,r8,r9,r10,f r11,r12,r13,r14,r15,big⟩) t
def rs12(f:Row->Row)(t:TM):TM:=@TM.rec (fun _=>TM) (fun r0 r1 r2 r3 r4 r5 r6 r7 r8 r9 r10 r11 r12 r13 r14 r15 big=>⟨r0,r1,r2,r3,r4,r5,r6,r7,r8,r9,r10,r11,f r12,r13,r14,r15,big⟩) t
def rs13(f:Row->Row)(t:TM):TM:=@TM.rec (fun _=>TM) (fun r0 r1 r2 r3 r4 r5 r6 r7 r8 r9 r10 r11 r12 r13 r14 r15 big=>⟨r0,r1,r2,r3,r4,r5,r6,r7,r8,r9,r10,r11,r12,f r13,r14,r15,big⟩) t
def rs14(f:Row->Row)(t:TM):TM:=@TM.rec (fun _=>TM) (fun r0 r1 r2 r3 r4 r5 r6 r7 r8 r9 r10 r11 r12 r13 r14 r15 big=>⟨r0,r1,r2,r3,r4,r5,r6,r7,r8,r9,r10,r11,r12,r13,f r14,r15,big⟩) t
def rs15(f:Row->Row)(t:TM):TM:=@TM.rec (fun _=>TM) (fun r0 r1 r2 r3 r4 r5 r6 r7 r8 r9 r10 r11 r12 r13 r14 r15 big=>⟨r0,r1,r2,r3,r4,r5,r6,r7,r8,r9,r10,r11,r12,r13,r14,f r15,big⟩) t
def zoj(i:Nat):Row->Option D:=
 match i with
 |0=>Row.a0
 |1=>Row.a1
 |2=>Row.a2
 |3=>Row.a3
 |4=>Row.a4
 |5=>Row.a5
 |6=>Row.a6
 |7=>Row.a7
 |8=>Row.a8
 |9=>Row.a9
 |10=>Row.a10
 |11=>Row.a11
 |12=>Row.a12
 |13=>Row.a13
 |14=>Row.a14
 |_=>Row.a15
def cellS(i:Nat):Option D->Row->Row:=
 match i with
 |0=>cs0
 |1=>cs1
 |2=>cs2
 |3=>cs3
 |4=>cs4
 |5=>cs5
 |6=>cs6
 |7=>cs7
 |8=>cs8
 |9=>cs9
 |10=>cs10
 |11=>cs11
 |12=>cs12
 |13=>cs13
 |14=>cs14
 |_=>cs15
def zlz(i:Nat):TM->Row:=
 match i with
 |0=>TM.r0
 |1=>TM.r1
 |2=>TM.r2
 |3=>TM.r3
 |4=>TM.r4
 |5=>TM.r5
 |6=>TM.r6
 |7=>TM.r7
 |8=>TM.r8
 |9=>TM.r9
 |10=>TM.r10
 |11=>TM.r11
 |12=>TM.r12
 |13=>TM.r13
 |14=>TM.r14
 |_=>TM.r15
def zvx(i:Nat):(Row->Row)->TM->TM:=
 match i with
 |0=>rs0
 |1=>rs1
 |2=>rs2
 |3=>rs3
 |4=>rs4
 |5=>rs5
 |6=>rs6
 |7=>rs7
 |8=>rs8
 |9=>rs9
 |10=>rs10
 |11=>rs11
 |12=>rs12
 |13=>rs13
 |14=>rs14
 |_=>rs15
def zDH:∀(i j:Nat) (x:Option D) (r:Row),i<16->j<16->zoj i (cellS j x r)=if i=j then x else zoj i r:=by
 intro i j x r hi hj;rcases i with _|_|_|_|_|_|_|_|_|_|_|_|_|_|_|_|i<;>first|omega|(rcases j with _|_|_|_|_|_|_|_|_|_|_|_|_|_|_|_|j<;>first|rfl|omega)
def zJS:∀(i j:Nat) (f:Row->Row) (t:TM),i<16->j<16->zlz i (zvx j f t)=if i=j then f (zlz i t)else zlz i t:=by
 intro i j x r hi hj;rcases i with _|_|_|_|_|_|_|_|_|_|_|_|_|_|_|_|i<;>first|omega|(rcases j with _|_|_|_|_|_|_|_|_|_|_|_|_|_|_|_|j<;>first|rfl|omega)
theorem zJM:∀(j:Nat) (f:Row->Row) (t:TM),(zvx j f t).big=t.big
 |0,_,_=>rfl
 |1,_,_=>rfl
 |2,_,_=>rfl
 |3,_,_=>rfl
 |4,_,_=>rfl
 |5,_,_=>rfl
 |6,_,_=>rfl
 |7,_,_=>rfl
 |8,_,_=>rfl
 |9,_,_=>rfl
 |10,_,_=>rfl
 |11,_,_=>rfl
 |12,_,_=>rfl
 |13,_,_=>rfl
 |14,_,_=>rfl
 |_+15,_,_=>rfl
def bigS(v:Option D)(i:Nat)(t:TM):TM:=@TM.rec (fun _=>TM) (fun r0 r1 r2 r3 r4 r5 r6 r7 r8 r9 r10 r11 r12 r13 r14 r15 big=>⟨r0,r1,r2,r3,r4,r5,r6,r7,r8,r9,r10,r11,r12,r13,r14,r15,T.sk v (Nat.succ i) big i⟩) t
theorem zHI:∀(i:Nat) (v:Option D) (j:Nat) (t:TM),zlz i (bigS v j t)=zlz i t
 |0,_,_,_=>rfl
 |1,_,_,_=>rfl
 |2,_,_,_=>rfl
 |3,_,_,_=>rfl
 |4,_,_,_=>rfl
 |5,_,_,_=>rfl
 |6,_,_,_=>rfl
 |7,_,_,_=>rfl
 |8,_,_,_=>rfl
 |9,_,_,_=>rfl
 |10,_,_,_=>rfl
 |11,_,_,_=>rfl
 |12,_,_,_=>rfl
 |13,_,_,_=>rfl
 |14,_,_,_=>rfl
 |_+15,_,_,_=>rfl
def zHH(v:Option D)(j:Nat)(t:TM):(bigS v j t).big=T.sk v (Nat.succ j) t.big j:=rfl
def zAF{α:Type}(d:Bx α)(l:List (Bx α)):Nat->Bx α:=
 @List.rec (Bx α) (fun _=>Nat->Bx α) (fun _=>d) (fun x _ ih n=>@Nat.rec (fun _=>Bx α) x (fun n _=>ih n) n) l
def rdC(n:Nat):Bx (Row->Option D):=zAF ⟨Row.a0⟩ [⟨Row.a0⟩,⟨Row.a1⟩,⟨Row.a2⟩,⟨Row.a3⟩,⟨Row.a4⟩,⟨Row.a5⟩,⟨Row.a6⟩,⟨Row.a7⟩,⟨Row.a8⟩,⟨Row.a9⟩,⟨Row.a10⟩,⟨Row.a11⟩,⟨Row.a12⟩,⟨Row.a13⟩,⟨Row.a14⟩,⟨Row.a15⟩] n
def wrC(n:Nat):Bx (Option D->Row->Row):=zAF ⟨cs0⟩ [⟨cs0⟩,⟨cs1⟩,⟨cs2⟩,⟨cs3⟩,⟨cs4⟩,⟨cs5⟩,⟨cs6⟩,⟨cs7⟩,⟨cs8⟩,⟨cs9⟩,⟨cs10⟩,⟨cs11⟩,⟨cs12⟩,⟨cs13⟩,⟨cs14⟩,⟨cs15⟩] n
def rdR(n:Nat):Bx (TM->Row):=zAF ⟨TM.r0⟩ [⟨TM.r0⟩,⟨TM.r1⟩,⟨TM.r2⟩,⟨TM.r3⟩,⟨TM.r4⟩,⟨TM.r5⟩,⟨TM.r6⟩,⟨TM.r7⟩,⟨TM.r8⟩,⟨TM.r9⟩,⟨TM.r10⟩,⟨TM.r11⟩,⟨TM.r12⟩,⟨TM.r13⟩,⟨TM.r14⟩,⟨TM.r15⟩] n
def wrR(n:Nat):Bx ((Row->Row)->TM->TM):=zAF ⟨rs0⟩ [⟨rs0⟩,⟨rs1⟩,⟨rs2⟩,⟨rs3⟩,⟨rs4⟩,⟨rs5⟩,⟨rs6⟩,⟨rs7⟩,⟨rs8⟩,⟨rs9⟩,⟨rs10⟩,⟨rs11⟩,⟨rs12⟩,⟨rs13⟩,⟨rs14⟩,⟨rs15⟩] n
theorem zPH:∀(n:Nat),n<16->rdC n=⟨zoj n⟩
 |0,_=>rfl
 |1,_=>rfl
 |2,_=>rfl
 |3,_=>rfl
 |4,_=>rfl
 |5,_=>rfl
 |6,_=>rfl
 |7,_=>rfl
 |8,_=>rfl
 |9,_=>rfl
 |10,_=>rfl
 |11,_=>rfl
 |12,_=>rfl
 |13,_=>rfl
 |14,_=>rfl
 |15,_=>rfl
 |_+16,h=>by omega
theorem zRD:∀(n:Nat),n<16->wrC n=⟨cellS n⟩
 |0,_=>rfl
 |1,_=>rfl
 |2,_=>rfl
 |3,_=>rfl
 |4,_=>rfl
 |5,_=>rfl
 |6,_=>rfl
 |7,_=>rfl
 |8,_=>rfl
 |9,_=>rfl
 |10,_=>rfl
 |11,_=>rfl
 |12,_=>rfl
 |13,_=>rfl
 |14,_=>rfl
 |15,_=>rfl
 |_+16,h=>by omega
theorem zPN:∀(n:Nat),n<16->rdR n=⟨zlz n⟩
 |0,_=>rfl
 |1,_=>rfl
 |2,_=>rfl
 |3,_=>rfl
 |4,_=>rfl
 |5,_=>rfl
 |6,_=>rfl
 |7,_=>rfl
 |8,_=>rfl
 |9,_=>rfl
 |10,_=>rfl
 |11,_=>rfl
 |12,_=>rfl
 |13,_=>rfl
 |14,_=>rfl
 |15,_=>rfl
 |_+16,h=>by omega
theorem zRE:∀(n:Nat),n<16->wrR n=⟨zvx n⟩
 |0,_=>rfl
 |1,_=>rfl
 |2,_=>rfl
 |3,_=>rfl
 |4,_=>rfl
 |5,_=>rfl
 |6,_=>rfl
 |7,_=>rfl
 |8,_=>rfl
 |9,_=>rfl
 |10,_=>rfl
 |11,_=>rfl
 |12,_=>rfl
 |13,_=>rfl
 |14,_=>rfl
 |15,_=>rfl
 |_+16,h=>by omega
def zyo(n:Nat):Bx (TM->Option D):=
 @Bool.rec (fun _=>Bx (TM->Option D)) ⟨fun t=>t.big.gk n⟩
  (@Bx.rec (TM->Row) (fun _=>Bx (TM->Option D)) (fun f=>@Bx.rec (Row->Option D) (fun _=>Bx (TM->Option D)) (fun g=>⟨fun t=>g (f t)⟩) (rdC (Nat.mod n 16))) (rdR (Nat.div n 16))) (Nat.blt n 256)
def zyq(n:Nat):Bx (Option D->TM->TM):=
 @Bool.rec (fun _=>Bx (Option D->TM->TM)) ⟨fun v t=>bigS v n t⟩
  (@Bx.rec ((Row->Row)->TM->TM) (fun _=>Bx (Option D->TM->TM)) (fun f=>@Bx.rec (Option D->Row->Row) (fun _=>Bx (Option D->TM->TM)) (fun g=>⟨fun v t=>f (g v) t⟩) (wrC (Nat.mod n 16))) (wrR (Nat.div n 16))) (Nat.blt n 256)
def getM(t:TM)(n:Nat):Option D:=@Bx.rec (TM->Option D) (fun _=>Option D) (fun f=>f t) (zyo n)
def znZ(t:TM)(n:Nat)(v:Option D):TM:=@Bx.rec (Option D->TM->TM) (fun _=>TM) (fun f=>f v t) (zyq n)
def zlQ{n:Nat}(h:n<256)(t:TM):getM t n=zoj (n%16) (zlz (n/16) t):=by
 have hb:Nat.blt n 256=true:=by simp[Z79,h]
 have e1:zyo n=⟨fun t=>zoj (n%16) (zlz (n/16) t)⟩ :=by
  have e:zyo n= @Bool.rec (fun _=>Bx (TM->Option D)) ⟨fun t=>t.big.gk n⟩ (@Bx.rec (TM->Row) (fun _=>Bx (TM->Option D)) (fun f=>@Bx.rec (Row->Option D) (fun _=>Bx (TM->Option D)) (fun g=>⟨fun t=>g (f t)⟩) (rdC (n%16))) (rdR (n/16))) (Nat.blt n 256):=rfl;rw[e,hb,zPH _ (by omega),zPN _ (by omega)]
 unfold getM;rw[e1]
def zlP{n:Nat}(h:¬n<256)(t:TM):getM t n=t.big.gk n:=by
 have hb:Nat.blt n 256=false:=by
  cases hc:Nat.blt n 256 with
  |false=>rfl
  |true=>exact absurd (by simpa [Z79]using hc) h
 unfold getM zyo;rw[hb]
def zKz{n:Nat}(h:n<256)(t:TM)(v:Option D):znZ t n v=zvx (n/16) (cellS (n%16) v) t:=by
 have hb:Nat.blt n 256=true:=by simp[Z79,h]
 have e1:zyq n=⟨fun v t=>zvx (n/16) (cellS (n%16) v) t⟩ :=by
  have e:zyq n= @Bool.rec (fun _=>Bx (Option D->TM->TM)) ⟨fun v t=>bigS v n t⟩ (@Bx.rec ((Row->Row)->TM->TM) (fun _=>Bx (Option D->TM->TM)) (fun f=>@Bx.rec (Option D->Row->Row) (fun _=>Bx (Option D->TM->TM)) (fun g=>⟨fun v t=>f (g v) t⟩) (wrC (n%16))) (wrR (n/16))) (Nat.blt n 256):=rfl;rw[e,hb,zRD _ (by omega),zRE _ (by omega)]
 unfold znZ;rw[e1]
def zKx{n:Nat}(h:¬n<256)(t:TM)(v:Option D):znZ t n v=bigS v n t:=by
 have hb:Nat.blt n 256=false:=by
  cases hc:Nat.blt n 256 with
  |false=>rfl
  |true=>exact absurd (by simpa [Z79]using hc) h
 unfold znZ zyq;rw[hb]
def zsl(t:TM)(i j:Nat)(v:Option D):getM (znZ t i v) j=if j=i then v else getM t j:=by
 by_cases hi:i<256
 .rw[zKz hi]
  by_cases hj:j<256
  .rw[zlQ hj,zlQ hj,zJS _ _ _ _ (by omega) (by omega)]
   by_cases h1:j/16=i/16
   .rw[Z51 h1,zDH _ _ _ _ (by omega) (by omega)]
    by_cases h2:j%16=i%16
    .rw[Z51 h2,Z51 (by omega)]
    .rw[Z49 h2,Z49 (by omega)]
   .rw[Z49 h1,Z49 (by omega)]
  .rw[zlP hj,zlP hj,zJM,Z49 (by omega)]
 .rw[zKx hi]
  by_cases hj:j<256
  .rw[zlQ hj,zlQ hj,zHI,Z49 (by omega)]
  .rw[zlP hj,zlP hj,zHH,T.zmS,T.zqv,T.zqv,T.zpq _ _ _ _ _ (by omega)]
def zD9(i:Nat):getM {} i=none:=by
 by_cases hi:i<256
 .rw[zlQ hi];have:∀a b,a<16->b<16->zoj a (zlz b {})=none:=by
   intro a b ha hb;have e:zlz b ({}:TM)={}:=by
    match b,hb with
    |0,_=>rfl
    |1,_=>rfl
    |2,_=>rfl
    |3,_=>rfl
    |4,_=>rfl
    |5,_=>rfl
    |6,_=>rfl
    |7,_=>rfl
    |8,_=>rfl
    |9,_=>rfl
    |10,_=>rfl
    |11,_=>rfl
    |12,_=>rfl
    |13,_=>rfl
    |14,_=>rfl
    |15,_=>rfl
    |_+16,h=>omega
   rw[e]
   match a,ha with
   |0,_=>rfl
   |1,_=>rfl
   |2,_=>rfl
   |3,_=>rfl
   |4,_=>rfl
   |5,_=>rfl
   |6,_=>rfl
   |7,_=>rfl
   |8,_=>rfl
   |9,_=>rfl
   |10,_=>rfl
   |11,_=>rfl
   |12,_=>rfl
   |13,_=>rfl
   |14,_=>rfl
   |15,_=>rfl
   |_+16,h=>omega
  exact this _ _ (by omega) (by omega)
 .rw[zlP hi];rfl
end Go.Vse
end
section
namespace Go.Vse
def F.dk(x:F):D:=
 match x with
 | .ag cs=> .ag (F.dL cs)
 | .tu cs=> .tu (F.dL cs)
 |x=> .f x
def zdU(tm:TM)(x:A):Option D:=@A.rec (fun _=>Option D) (fun n=>getM tm n) (fun x=>some x.dk) none (fun cs=>some (.fptr cs)) x
def oK{α:Type}(x:Option α)(k:α->Option Rs):Option Rs:=@Option.rec α (fun _=>Option Rs) none k x
def oL{α β:Type}(x:Option α)(k:α->Option β):Option β:=@Option.rec α (fun _=>Option β) none k x
def znJ(tm:TM)(l:List A):Option (List D):=
 @List.rec A (fun _=>Option (List D)) (some []) (fun x _ ih=>oL (zdU tm x) fun y=>oL ih fun m=>some (y::m)) l
def zAw(tm:TM)(l:List (Nat×Nat×A)):Option (List (Nat×Nat×D)):=
 @List.rec (Nat×Nat×A) (fun _=>Option (List (Nat×Nat×D))) (some []) (fun x _ ih=>oL (zdU tm x.2.2) fun y=>oL ih fun m=>some ((x.1,x.2.1,y)::m)) l
def zAy(tm:TM)(l:List (Nat×A)):Option (List (Nat×D)):=
 @List.rec (Nat×A) (fun _=>Option (List (Nat×D))) (some []) (fun x _ ih=>oL (zdU tm x.2) fun y=>oL ih fun m=>some ((x.1,y)::m)) l
def zpx(tm:TM)(x:Option A):Option (Option D):=
 @Option.rec A (fun _=>Option (Option D)) (some none) (fun x=>oL (zdU tm x) fun y=>some (some y)) x
def r(k:(Nat->Option Ob)->Nat->Option Rs)(_:TM)(h:Nat->Option Ob)(c:Nat):Option Rs:=k h c
def ra(k:D->(Nat->Option Ob)->Nat->Option Rs)(x:A)(tm:TM)(h:Nat->Option Ob)(c:Nat):Option Rs:=oK (zdU tm x) fun x=>k x h c
def raa(k:D->D->(Nat->Option Ob)->Nat->Option Rs)(x y:A)(tm:TM)(h:Nat->Option Ob)(c:Nat):Option Rs:=oK (zdU tm x) fun x=>oK (zdU tm y) fun y=>k x y h c
def zFd(k:D->D->D->(Nat->Option Ob)->Nat->Option Rs)(x y z:A)(tm:TM)(h:Nat->Option Ob)(c:Nat):Option Rs:=oK (zdU tm x) fun x=>oK (zdU tm y) fun y=>oK (zdU tm z) fun z=>k x y z h c
def raoo(k:D->Option D->Option D->(Nat->Option Ob)->Nat->Option Rs)(x:A)(y z:Option A)(tm:TM)(h:Nat->Option Ob)(c:Nat):Option Rs:=oK (zdU tm x) fun x=>oK (zpx tm y) fun y=>oK (zpx tm z) fun z=>k x y z h c
def zGW(k:D->Option D->Option D->Option D->(Nat->Option Ob)->Nat->Option Rs)(x:A)(y z u:Option A)(tm:TM)(h:Nat->Option Ob)(c:Nat):Option Rs:=oK (zdU tm x) fun x=>oK (zpx tm y) fun y=>oK (zpx tm z) fun z=>oK (zpx tm u) fun u=>k x y z u h c
def rp(k:List (Nat×Nat×D)->(Nat->Option Ob)->Nat->Option Rs)(x:List (Nat×Nat×A))(tm:TM)(h:Nat->Option Ob)(c:Nat):Option Rs:=oK (zAw tm x) fun x=>k x h c
def rq(k:List (Nat×D)->(Nat->Option Ob)->Nat->Option Rs)(x:List (Nat×A))(tm:TM)(h:Nat->Option Ob)(c:Nat):Option Rs:=oK (zAy tm x) fun x=>k x h c
def rll(k:List D->List D->(Nat->Option Ob)->Nat->Option Rs)(x y:List A)(tm:TM)(h:Nat->Option Ob)(c:Nat):Option Rs:=oK (znJ tm x) fun x=>oK (znJ tm y) fun y=>k x y h c
set_option linter.unusedVariables false
def k_mv(x:D)(h:Nat->Option Ob)(c:Nat):Option Rs:=okD c x
def zPd(q:D)(x:D)(y:D)(h:Nat->Option Ob)(c:Nat):Option Rs:=match q with
  | .f (.b t)=>okD c (if t then x else y)
  |_=>none
def k_new(cs:List F)(h:Nat->Option Ob)(c:Nat):Option Rs:=some {d:= .ptr c cs.length 0 0,wr:=[(c,some (.arr cs.length 0 [cs.map D.f]))],c:=c+1}
def k_box(x:D)(h:Nat->Option Ob)(c:Nat):Option Rs:=match x.cells with
  |some cs=>some {d:= .ptr c cs.length 0 0,wr:=[(c,some (.arr cs.length 0 [cs]))],c:=c+1}
  |none=>none
def k_bld(z:List F)(ps:List (Nat×Nat×D))(h:Nat->Option Ob)(c:Nat):Option Rs:=match zdH (z.map D.f) ps with
  |some cs=>okD c (.ag cs)
  |none=>none
def k_bsl(es:Nat)(z:List F)(m:Nat)(ps:List (Nat×D))(h:Nat->Option Ob)(c:Nat):Option Rs:=match zee es (List.replicate m (z.map D.f)) ps with
  |some els=>some {d:= .sl c 0 m es m true,wr:=[(c,some (.arr es 0 els))],c:=c+1}
  |none=>none
def k_bsf(es:Nat)(z:List F)(m:Nat)(ps:List (Nat×D))(h:Nat->Option Ob)(c:Nat):Option Rs:=match zee es (List.replicate m (z.map D.f)) ps with
  |some els=>match zeQ els with
   |some fs=>okF c (.sl es fs)
   |none=>some {d:= .sl c 0 m es m true,wr:=[(c,some (.arr es 0 els))],c:=c+1}
  |none=>none
def k_ld(g:Bool)(n:Nat)(x:D)(h:Nat->Option Ob)(c:Nat):Option Rs:=match zc3 g n h x with
  |some (d,rd)=>some {d,rd,c}
  |none=>none
def k_st(n:Nat)(x:D)(v:D)(h:Nat->Option Ob)(c:Nat):Option Rs:=match zd7 n h x v with
  |some (id,ob)=>some {d:= .f .un,rd:=[id],wr:=[(id,some ob)],c}
  |none=>none
def k_nck(x:D)(h:Nat->Option Ob)(c:Nat):Option Rs:=match x with
  | .ptr .. | .fptr _| .f (.fn _)| .fn .. =>okD c x
  |_=>none
def k_bin(op:BinOp)(x:D)(y:D)(h:Nat->Option Ob)(c:Nat):Option Rs:=match x,y with
  | .f x,.f y=>match zaK op x y with
   |some z=>okF c z
   |none=>none
  |_,_=>none
def k_eqb(ne:Bool)(x:D)(y:D)(h:Nat->Option Ob)(c:Nat):Option Rs:=match x,y with
  | .f (.b p),.f (.b q)=>okF c (.b (if ne then !(p==q)else p==q))
  |_,_=>none
def k_eqn(kd:Nat)(ne:Bool)(x:D)(y:D)(h:Nat->Option Ob)(c:Nat):Option Rs:=match zs9 kd x y with
  |some t=>okF c (.b (if ne then !t else t))
  |none=>none
def k_eqa(ks:List Nat)(ne:Bool)(x:D)(y:D)(h:Nat->Option Ob)(c:Nat):Option Rs:=match x,y with
  | .ag a,.ag b=>match za8 ks a b with
   |some t=>okF c (.b (if ne then !t else t))
   |none=>none
  |_,_=>none
def k_un(op:UnOp)(x:D)(h:Nat->Option Ob)(c:Nat):Option Rs:=match x with
  | .f (.b t)=>match op with
   | .not=>okF c (.b !t)
   |_=>none
  | .f (.i k n)=>match ziX (Go.Op.unary op (.int k n))with
   |some (.int k n)=>okF c (.i k n)
   |_=>none
  |_=>none
def k_cvi(k:IntKind)(x:D)(h:Nat->Option Ob)(c:Nat):Option Rs:=match x with
  | .f (.i _ n)=>okF c (.i k (k.wrap n))
  |_=>none
def k_cvs(x:D)(h:Nat->Option Ob)(c:Nat):Option Rs:=match x with
  | .f (.s l)=>okF c (.s l)
  |_=>none
def k_s2b(x:D)(h:Nat->Option Ob)(c:Nat):Option Rs:=match x with
  | .f (.s l)=>if l=[]then none else some {d:= .sl c 0 l.length 1 l.length false,wr:=[(c,some (.arr 1 0 (l.map fun x=>[D.f (.i .u8 x.toNat)])))],c:=c+1}
  |_=>none
def k_b2s(x:D)(h:Nat->Option Ob)(c:Nat):Option Rs:=match x with
  | .f (.s _)=>none
  |x=>match elemsOf 1 h x with
   |some (els,rd)=>match zdG els with
    |some l=>some {d:= .f (.s l),rd,c}
    |none=>none
   |none=>none
def k_mkf(f:Nat)(a:List D)(b:List D)(h:Nat->Option Ob)(c:Nat):Option Rs:=match a,b with
  |[],[]=>okF c (.fn f)
  |a,b=>okD c (.fn f a b)
def k_mks(es:Nat)(byt:Nat)(z:List F)(l:D)(m:D)(h:Nat->Option Ob)(c:Nat):Option Rs:=match zbv l,zbv m with
  | some l,some m=>if l<=m/\m<=zav/\m*byt<=zav then
    some {d:= .sl c 0 l es m true,wr:=[(c,some (.arr es 0 (List.replicate m (z.map D.f))))],c:=c+1}
   else none
  |_,_=>none
def k_sls(x:D)(lo:Option D)(hi:Option D)(h:Nat->Option Ob)(c:Nat):Option Rs:=match x with
  | .f (.s l)=>match zbN 0 lo,zbN l.length hi with
   |some a,some b=>if a<=b/\b<=l.length then okF c (.s ((l.drop a).take (b - a)))else none
   |_,_=>none
  |_=>none
def k_slc(es:Nat)(x:D)(lo:Option D)(hi:Option D)(mx:Option D)(h:Nat->Option Ob)(c:Nat):Option Rs:=match sliceB es h x lo hi mx with
  |some (d,rd)=>some {d,rd,c}
  |none=>none
def k_fa(off:Nat)(x:D)(h:Nat->Option Ob)(c:Nat):Option Rs:=match x with
  | .ptr id es i j=>okD c (.ptr id es i (j+off))
  | .fptr cs=>okD c (.fptr (cs.drop off))
  |_=>none
def k_fld(g:Bool)(off:Nat)(n:Nat)(x:D)(h:Nat->Option Ob)(c:Nat):Option Rs:=match x with
  | .ag cs=>match zcW g off n cs with
   |some d=>okD c d
   |none=>none
  |_=>none
def k_ia(es:Nat)(x:D)(i:D)(h:Nat->Option Ob)(c:Nat):Option Rs:=match zbv i with
  |some i=>match x with
   | .f (.sl es' els)=>if es=es' then match els[i]? with
     |some el=>okD c (.fptr el)
     |none=>none
    else none
   | .sl id off m es' _ _=>if es=es'/\i<m then okD c (.ptr id es (off+i) 0)else none
   |_=>none
  |none=>none
def k_iaa(es:Nat)(m:Nat)(x:D)(i:D)(h:Nat->Option Ob)(c:Nat):Option Rs:=match zbv i with
  | some i=>if i<m then match x with
    | .ptr id es' i' j=>okD c (.ptr id es' i' (j+i*es))
    | .fptr cs=>okD c (.fptr (cs.drop (i*es)))
    |_=>none
   else none
  |none=>none
def k_ixs(x:D)(i:D)(h:Nat->Option Ob)(c:Nat):Option Rs:=match x,zbv i with
  | .f (.s l),some i=>match l[i]? with
   |some b=>okF c (.i .u8 b.toNat)
   |none=>none
  |_,_=>none
def k_ixa(g:Bool)(es:Nat)(m:Nat)(x:D)(i:D)(h:Nat->Option Ob)(c:Nat):Option Rs:=match x,zbv i with
  | .ag cs,some i=>if i<m then match zcW g (i*es) es cs with
    |some d=>okD c d
    |none=>none
   else none
  |_,_=>none
def k_ext(i:Nat)(x:D)(h:Nat->Option Ob)(c:Nat):Option Rs:=match x with
  | .tu cs=>match cs[i]? with
   |some d=>okD c d
   |none=>none
  |_=>none
def k_app(es:Nat)(byt:Nat)(s:D)(x:D)(h:Nat->Option Ob)(c:Nat):Option Rs:=match elemsOf es h x with
  |some (new,rd)=>za3 es byt h c s new rd
  |none=>none
def k_apz(es:Nat)(byt:Nat)(z:List F)(s:D)(n:D)(h:Nat->Option Ob)(c:Nat):Option Rs:=match zbv n with
  |some n=>if n<=zav/\n*byt<=zav then za3 es byt h c s (List.replicate n (z.map D.f)) []else none
  |none=>none
def k_cpy(es:Nat)(d:D)(s:D)(h:Nat->Option Ob)(c:Nat):Option Rs:=match d with
  | .f .nils=>match elemsOf es h s with
   |some (_,rd)=>some {d:= .f (.i .i64 0),rd,c}
   |none=>none
  | .sl id off m es' _ _=>match zpJ es h m s with
   |some (els,len,rd)=>match h id with
    | some (.arr es'' ro old)=>if es=es'/\es'=es''/\off<=old.length/\(ro<=off\/Nat.min len m=0)/\ze5 old (old.take off++els.take (Nat.min len m)++old.drop (off+Nat.min len m))=true then
      some {d:= .f (.i .i64 (Nat.min len m)),rd:=id::rd,wr:=[(id,some (.arr es ro (old.take off++els.take (Nat.min len m)++old.drop (off+Nat.min len m))))],c}
     else none
    |_=>none
   |none=>none
  |_=>none
def k_clr(es:Nat)(z:List F)(s:D)(h:Nat->Option Ob)(c:Nat):Option Rs:=match s with
  | .f .nils=>okF c .un
  | .sl id off m es' _ _=>match h id with
   | some (.arr es'' ro old)=>if es=es'/\es'=es''/\off+m<=old.length/\ro<=off/\ze5 old (old.take off++List.replicate m (z.map D.f)++old.drop (off+m))=true then
     some {d:= .f .un,rd:=[id],wr:=[(id,some (.arr es ro (old.take off++List.replicate m (z.map D.f)++old.drop (off+m))))],c}
    else none
   |_=>none
  |_=>none
def k_len(x:D)(h:Nat->Option Ob)(c:Nat):Option Rs:=match zci x with
  |some n=>okF c (.i .i64 n)
  |none=>none
def k_lns(x:D)(h:Nat->Option Ob)(c:Nat):Option Rs:=match x with
  | .f (.s l)=>okF c (.i .i64 l.length)
  |_=>none
def zPc(x:D)(h:Nat->Option Ob)(c:Nat):Option Rs:=match x with
  | .f .nilm=>okF c (.i .i64 0)
  | .mp id=>match h id with
   |some (.map ents)=>some {d:= .f (.i .i64 ents.length),rd:=[id],c}
   |_=>none
  |_=>none
def k_cap(x:D)(h:Nat->Option Ob)(c:Nat):Option Rs:=match zyR x with
  |some n=>okF c (.i .i64 n)
  |none=>none
def k_mm(mx:Bool)(x:D)(y:D)(h:Nat->Option Ob)(c:Nat):Option Rs:=match x,y with
  | .f (.i k a),.f (.i k' b)=>if k=k' then okF c (.i k (if mx then(if b>a then b else a)else(if b<a then b else a)))else none
  |_,_=>none
def k_mmk(h:Nat->Option Ob)(c:Nat):Option Rs:=some {d:= .mp c,wr:=[(c,some (.map []))],c:=c+1}
def k_mup(kd:Nat)(m:D)(k:D)(v:D)(h:Nat->Option Ob)(c:Nat):Option Rs:=match m,k with
  | .mp id,.f k=>match h id with
   | some (.map ents)=>if zfJ kd k then match zc1 kd k ents 0 with
     |some (some (i,_))=>some {d:= .f .un,rd:=[id],wr:=[(id,some (.map (ents.set i (k,v))))],c}
     |some none=>some {d:= .f .un,rd:=[id],wr:=[(id,some (.map (ents++[(k,v)])))],c}
     |none=>none
    else none
   |_=>none
  |_,_=>none
def k_mlk(kd:Nat)(z:F)(ok:Bool)(m:D)(k:D)(h:Nat->Option Ob)(c:Nat):Option Rs:=match k with
  | .f k=>if zfJ kd k then
    let out (v:D) (t:Bool) (rd:List Nat):Option Rs:=some {d:=if ok then .tu [v,.f (.b t)]else v,rd,c}
    match m with
    | .f .nilm=>out z.d false []
    | .mp id=>match h id with
     |some (.map ents)=>match zc1 kd k ents 0 with
      |some (some (_,v))=>out v true [id]
      |some none=>out z.d false [id]
      |none=>none
     |_=>none
    |_=>none
   else none
  |_=>none
def opK(o:O A):TM->(Nat->Option Ob)->Nat->Option Rs:=@O.rec A (fun _=>TM->(Nat->Option Ob)->Nat->Option Rs)
 (fun x=>ra k_mv x)
 (fun q x y=>zFd zPd q x y)
 (fun cs=>r (k_new cs))
 (fun x=>ra k_box x)
 (fun z ps=>rp (k_bld z) ps)
 (fun es z m ps=>rq (k_bsl es z m) ps)
 (fun es z m ps=>rq (k_bsf es z m) ps)
 (fun g n x=>ra (k_ld g n) x)
 (fun n x v=>raa (k_st n) x v)
 (fun x=>ra k_nck x)
 (fun op x y=>raa (k_bin op) x y)
 (fun ne x y=>raa (k_eqb ne) x y)
 (fun kd ne x y=>raa (k_eqn kd ne) x y)
 (fun ks ne x y=>raa (k_eqa ks ne) x y)
 (fun op x=>ra (k_un op) x)
 (fun k x=>ra (k_cvi k) x)
 (fun x=>ra k_cvs x)
 (fun x=>ra k_s2b x)
 (fun x=>ra k_b2s x)
 (fun f a b=>rll (k_mkf f) a b)
 (fun es byt z l m=>raa (k_mks es byt z) l m)
 (fun x lo hi=>raoo k_sls x lo hi)
 (fun es x lo hi mx=>zGW (k_slc es) x lo hi mx)
 (fun off x=>ra (k_fa off) x)
 (fun g off n x=>ra (k_fld g off n) x)
 (fun es x i=>raa (k_ia es) x i)
 (fun es m x i=>raa (k_iaa es m) x i)
 (fun x i=>raa k_ixs x i)
 (fun g es m x i=>raa (k_ixa g es m) x i)
 (fun x i=>ra (k_ext i) x)
 (fun es byt s x=>raa (k_app es byt) s x)
 (fun es byt z s n=>raa (k_apz es byt z) s n)
 (fun es d s=>raa (k_cpy es) d s)
 (fun es z s=>ra (k_clr es z) s)
 (fun x=>ra k_len x)
 (fun x=>ra k_lns x)
 (fun x=>ra zPc x)
 (fun x=>ra k_cap x)
 (fun mx x y=>raa (k_mm mx) x y)
 (r k_mmk)
 (fun kd m k v=>zFd (k_mup kd) m k v)
 (fun kd z ok m k=>raa (k_mlk kd z ok) m k)
 (fun _ _=>fun _ _ _=>none)
 (fun _ _=>fun _ _ _=>none)
 (fun _ _=>fun _ _ _=>none)
 o
structure SK where
 tm:TM
 h:T Ob
 c:Nat
 lw:Nat
 mx:Nat
abbrev Orc:=Nat->List F->Option F
def zkr(tm:TM)(dst:Option Nat)(d:D):TM:=@Option.rec Nat (fun _=>TM) tm (fun i=>znZ tm i (some d)) dst
def zn4(h:T Ob):List (Nat×Option Ob)->T Ob
 |[]=>h
 |(id,o)::l=>zn4 (T.sk o (Nat.succ id) h id) l
def zn3(m:Nat):List (Nat×Option Ob)->Nat
 |[]=>m
 |(id,_)::l=>zn3 (@Bool.rec (fun _=>Nat) m id (Nat.blt id m)) l
def zlx(a b:Nat):Nat:=@Bool.rec (fun _=>Nat) a b (Nat.ble a b)
def fin(tm:TM)(h:T Ob)(c lw mx:Nat)(p:Fp):Option (SK×Fp):=
 @Bool.rec (fun _=>Option (SK×Fp)) (some (⟨tm,h,c,lw,mx⟩,p)) (some (⟨tm,h,c,lw,Nat.succ c⟩,p)) (Nat.ble mx (Nat.succ c))
def fin2(tm:TM)(h:T Ob)(c lw mx:Nat)(p:Fp):Option (SK×Fp):=
 @Bool.rec (fun _=>Option (SK×Fp)) none (fin tm h c lw mx p) (Nat.ble lw lw)
def zpL(tm:TM)(h:T Ob)(c lw mx:Nat)(dst:Option Nat)(r:Option Rs):Option (SK×Fp):=
 @Option.rec Rs (fun _=>Option (SK×Fp)) none (fun r=>@Rs.rec (fun _=>Option (SK×Fp)) (fun d rd wr c'=>
  @List.rec (Nat×Option Ob) (fun _=>Option (SK×Fp))
   (fin (zkr tm dst d) h c' lw mx ⟨false,rd,[],c,Nat.succ c',h,h⟩)
   (fun _ _ _=>@Bool.rec (fun _=>Option (SK×Fp)) none
    (fin2 (zkr tm dst d) (zn4 h wr) c' (zn3 lw wr) mx ⟨false,rd,wr.map (·.1),c,Nat.succ c',h,zn4 h wr⟩) (zas c' wr)) wr) r) r
def zpM(tm:TM)(h:T Ob)(c lw mx:Nat)(dst:Option Nat)(q:Option CR):Option (SK×Fp):=
 @Option.rec CR (fun _=>Option (SK×Fp)) none (fun q=>@CR.rec (fun _=>Option (SK×Fp)) (fun d h' c' lw' mx'=>
  @Bool.rec (fun _=>Option (SK×Fp)) none
   (some (⟨zkr tm dst d,h',c',@Bool.rec (fun _=>Nat) lw' lw (Nat.ble lw lw'),zlx mx mx'⟩,⟨true,[],[],c,mx',h,h'⟩)) (Nat.ble (zlx mx mx') (zlx mx mx'))) q) q
inductive Kq where
 |p (f:Nat) (args:List A)
 |q (f:Nat) (args:List A)
 |v (x:A) (args:List A)
 |n
def kcl(o:O A):Kq:=@O.rec A (fun _=>Kq)
 (fun _=> .n)
 (fun _ _ _=> .n)
 (fun _=> .n)
 (fun _=> .n)
 (fun _ _=> .n)
 (fun _ _ _ _=> .n)
 (fun _ _ _ _=> .n)
 (fun _ _ _=> .n)
 (fun _ _ _=> .n)
 (fun _=> .n)
 (fun _ _ _=> .n)
 (fun _ _ _=> .n)
 (fun _ _ _ _=> .n)
 (fun _ _ _ _=> .n)
 (fun _ _=> .n)
 (fun _ _=> .n)
 (fun _=> .n)
 (fun _=> .n)
 (fun _=> .n)
 (fun _ _ _=> .n)
 (fun _ _ _ _ _=> .n)
 (fun _ _ _=> .n)
 (fun _ _ _ _ _=> .n)
 (fun _ _=> .n)
 (fun _ _ _ _=> .n)
 (fun _ _ _=> .n)
 (fun _ _ _ _=> .n)
 (fun _ _=> .n)
 (fun _ _ _ _ _=> .n)
 (fun _ _=> .n)
 (fun _ _ _ _=> .n)
 (fun _ _ _ _ _=> .n)
 (fun _ _ _=> .n)
 (fun _ _ _=> .n)
 (fun _=> .n)
 (fun _=> .n)
 (fun _=> .n)
 (fun _=> .n)
 (fun _ _ _=> .n)
 .n
 (fun _ _ _ _=> .n)
 (fun _ _ _ _ _=> .n)
 (fun f args=> .p f args)
 (fun f args=> .q f args)
 (fun x args=> .v x args)
 o
def znq(orc:Orc)(cl:Cl)(h:Nat->Option Ob)(c f:Nat)(args:List D):Option Rs:=
 match zbU h args with
 |none=>none
 |some (fs,rd)=>match orc f fs with
  |some x=>some {d:=x.dk,rd,wr:=zau h rd,c}
  |none=>match cl f (F.dL fs) .e 0 with
   |none=>none
   |some q=>match frz q.h.gk 12 q.d with
    |none=>none
    |some (x,_)=>some {d:=x.dk,rd,wr:=zau h rd,c}
def sL{α:Type}(x:Option α)(k:α->Option (SK×Fp)):Option (SK×Fp):=@Option.rec α (fun _=>Option (SK×Fp)) none k x
def zup(cl:Cl)(dst:Option Nat)(ds:List D)(tm:TM)(h:T Ob)(c lw mx:Nat)(x:D):Option (SK×Fp):=
 match x with
 | .f (.fn f)=>zpM tm h c lw mx dst (cl f ds h c)
 | .fn f first cap=>zpM tm h c lw mx dst (cl f (first++ds++cap) h c)
 |_=>none
def ztz(orc:Orc)(cl:Cl)(o:O A)(dst:Option Nat)(tm:TM)(h:T Ob)(c lw mx:Nat):Option (SK×Fp):=
 @Kq.rec (fun _=>Option (SK×Fp))
  (fun f args=>sL (znJ tm args) fun ds=>zpL tm h c lw mx dst (znq orc cl h.gk c f ds))
  (fun f args=>sL (znJ tm args) fun ds=>zpM tm h c lw mx dst (cl f ds h c))
  (fun x args=>sL (zdU tm x) fun d=>sL (znJ tm args) fun ds=>zup cl dst ds tm h c lw mx d)
  (zpL tm h c lw mx dst (opK o tm h.gk c)) (kcl o)
def ztC(w:Bool)(d:D):Option Bool:=
 match d with
 | .f (.b x)=>some (@Bool.rec (fun _=>Bool) (Bool.not w) w x)
 | .f .un=>some false
 |_=>none
def zBd(tm:TM)(g:Option (Nat×Bool)):Option Bool:=
 @Option.rec (Nat×Bool) (fun _=>Option Bool) (some true) (fun p=>@Prod.rec Nat Bool (fun _=>Option Bool) (fun s w=>oL (getM tm s) (ztC w)) p) g
def zEA(orc:Orc)(cl:Cl)(dst:Option Nat)(gd:Option (Nat×Bool))(o:O A)(tm:TM)(h:T Ob)(c lw mx:Nat):Option (SK×Fp):=
 sL (zBd tm gd) fun b=>@Bool.rec (fun _=>Option (SK×Fp)) (some (⟨zkr tm dst (.f .un),h,c,lw,mx⟩,⟨false,[],[],c,c,h,h⟩)) (ztz orc cl o dst tm h c lw mx) b
def zpv(orc:Orc)(cl:Cl)(s:SK)(o:Op):Option (SK×Fp):=
 @Op.rec (fun _=>Option (SK×Fp)) (fun dst gd o=>@SK.rec (fun _=>Option (SK×Fp)) (fun tm h c lw mx=>zEA orc cl dst gd o tm h c lw mx) s) o
def runK(orc:Orc)(cl:Cl)(l:List Op):SK->Option SK:=
 @List.rec Op (fun _=>SK->Option SK) (fun s=>some s) (fun o _ ih s=>@Option.rec (SK×Fp) (fun _=>Option SK) none (fun p=>@Prod.rec SK Fp (fun _=>Option SK) (fun s' _=>ih s') p) (zpv orc cl s o)) l
def Fp.zkY(p:Fp):Bool:=
 @Fp.rec (fun _=>Bool) (fun all rd wr _ _ _ _=>@Bool.rec (fun _=>Bool) (@List.rec Nat (fun _=>Bool) (@List.rec Nat (fun _=>Bool) true (fun _ _ _=>false) wr) (fun _ _ _=>false) rd) false all) p
def zi4(p:Fp)(mask:Nat):List (Nat×Fp)->Bool
 |[]=>true
 |(i,q)::l=>match Nat.beq (Nat.mod (Nat.div mask (Nat.pow 2 i)) 2) 1 with
  |true=>match q.apart p with
   |true=>zi4 p mask l
   |false=>false
  |false=>zi4 p mask l
def znY(s:SK)(c:Nat):SK:=@SK.rec (fun _=>SK) (fun tm h _ lw mx=>⟨tm,h,c,lw,mx⟩) s
def drK(orc:Orc)(cl:Cl)(l:List (Op×Nat)):Nat->List (Nat×Fp)->SK->Option SK:=
 @List.rec (Op×Nat) (fun _=>Nat->List (Nat×Fp)->SK->Option SK) (fun _ _ s=>some s)
  (fun om _ ih n fps s=>@Prod.rec Op Nat (fun _=>Option SK) (fun o mask=>@Option.rec (SK×Fp) (fun _=>Option SK) none (fun p=>@Prod.rec SK Fp (fun _=>Option SK) (fun s' p=>
   @Bool.rec (fun _=>Option SK) (@Bool.rec (fun _=>Option SK) none (ih (Nat.succ n) ((n,p)::fps) (znY s' p.hi)) (zi4 p mask fps)) (ih (Nat.succ n) fps (znY s' p.hi)) p.zkY) p) (zpv orc cl s o)) om) l
def zq5(r:Option (Ex×SK))(k:SK->Option (Ex×SK)):Option (Ex×SK):=
 @Option.rec (Ex×SK) (fun _=>Option (Ex×SK)) none (fun p=>@Prod.rec Ex SK (fun _=>Option (Ex×SK)) (fun x s=>@Ex.rec (fun _=>Option (Ex×SK)) (k s) (fun i=>some (.exit i,s)) (some (.ret,s)) x) p) r
def ztk(body:SK->Option (Ex×SK))(n:Nat):SK->Option (Ex×SK):=
 @Nat.rec (fun _=>SK->Option (Ex×SK)) (fun _=>none) (fun _ ih s=>zq5 (body s) ih) n
def zAD(r:Option SK):Option (Ex×SK):=@Option.rec SK (fun _=>Option (Ex×SK)) none (fun s=>some (.nrm,s)) r
def blkK(id:Nat)(r:Option (Ex×SK)):Option (Ex×SK):=
 @Option.rec (Ex×SK) (fun _=>Option (Ex×SK)) none (fun p=>@Prod.rec Ex SK (fun _=>Option (Ex×SK)) (fun x s=>@Ex.rec (fun _=>Option (Ex×SK)) (some (.nrm,s))
  (fun i=>@Bool.rec (fun _=>Option (Ex×SK)) (some (.exit i,s)) (some (.nrm,s)) (Nat.beq i id)) (some (.ret,s)) x) p) r
def zs8(d:D):Option Bool:=
 match d with
 | .f (.b x)=>some x
 |_=>none
def evK(orc:Orc)(cl:Cl)(lf:Nat)(c:C):SK->Option (Ex×SK):=
 @C.rec (fun _=>SK->Option (Ex×SK))
  (fun s=>some (.nrm,s))
  (fun ops s=>zAD (runK orc cl ops s))
  (fun ops s=>zAD (drK orc cl ops 0 [] s))
  (fun _ _ iha ihb s=>zq5 (iha s) ihb)
  (fun x _ _ iha ihb s=>@Option.rec D (fun _=>Option (Ex×SK)) none (fun d=>@Option.rec Bool (fun _=>Option (Ex×SK)) none (fun b=>@Bool.rec (fun _=>Option (Ex×SK)) (ihb s) (iha s) b) (zs8 d)) (zdU s.tm x))
  (fun id _ ih s=>blkK id (ih s))
  (fun _ ih s=>ztk ih lf s)
  (fun id s=>some (.exit id,s))
  (fun s=>some (.ret,s)) c
def tmK:List D->Nat->TM->TM
 |[],_,t=>t
 |d::l,i,t=>tmK l (Nat.succ i) (znZ t i (some d))
def zAT(s:SK)(v:Rv):Option D:=
 match v with
 | .t n=>getM s.tm n
 | .cell n g sz=>match getM s.tm n with
  |some p=>(zc3 g sz s.h.gk p).map (·.1)
  |none=>none
def ztv(s:SK):List Rv->Option (List D)
 |[]=>some []
 |x::l=>match zAT s x with
  |none=>none
  |some y=>match ztv s l with
   |none=>none
   |some m=>some (y::m)
def zAS(s:SK)(l:List Rv):Option D:=
 match ztv s l with
 |some [d]=>some d
 |some ds=>some (.tu ds)
 |none=>none
def fnK(ev:C->SK->Option (Ex×SK))(fn:Fn)(args:List D)(h:T Ob)(c:Nat):Option CR:=
 match ev fn.body {tm:=tmK args 0 {},h,c,lw:=c,mx:=c} with
 |some (.exit _,_)=>none
 |none=>none
 |some (_,s)=>match zAS s fn.res with
  |none=>none
  |some d=>match Nat.beq s.lw c with
   |true=>match d.isF with
    |true=>some {d,h,c,lw:=c,mx:=s.mx}
    |false=>some {d,h:=s.h,c:=s.c,lw:=s.lw,mx:=s.mx}
   |false=>some {d,h:=s.h,c:=s.c,lw:=s.lw,mx:=s.mx}
def zta(orc:Orc)(pr:Pr):Nat->Cl
 |0=>fun _ _ _ _=>none
 |n+1=>fun f args h c=>match pr.fn f with
  |some fn=>fnK (evK orc (zta orc pr n) n) fn args h c
  |none=>match pr.ext f args with
   |some x=>some {d:=x.d,h,c,lw:=c,mx:=c}
   |none=>pr.exq f args h c
end Go.Vse
end
