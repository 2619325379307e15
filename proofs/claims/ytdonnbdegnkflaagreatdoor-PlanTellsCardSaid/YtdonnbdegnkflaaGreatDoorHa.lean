/- Matching of conjunctive queries over relations of integers, as plain functions; what splitting a query by a constant does to its answers. -/
import Derived.Test.YtdonnbdegnkflaaGreatDoorVe
set_option linter.all false
section
namespace Go.Vse.Sm
abbrev Str:=List UInt8
inductive Trm where
 |var (s:Str)
 |cst (n:Int)
 deriving DecidableEq
structure Atm where
 r:Str
 neg:Bool
 ts:List Trm
structure Cm where
 op:Int
 l:Trm
 r:Trm
structure CQ where
 as:List Atm
 cs:List Cm
 ne:Bool:=false
 na:Bool:=false
abbrev Env:=List (Str×Int)
def lk:Env->Str->Option Int
 |[],_=>none
 |(n,v)::e,s=>if n=s then some v else lk e s
def gtm(e:Env):Trm->Option Int
 | .cst n=>some n
 | .var s=>lk e s
def bnd(e:Env)(t:Trm)(v:Int):Env×Bool:=
 match gtm e t with
 |some w=>(e,decide (v=w))
 |none=>match t with
  | .var s=>(e++[(s,v)],true)
  | .cst _=>(e,true)
def zRP:Env->List Trm->List Int->Env×Bool
 |e,t::ts,v::vs=>if(bnd e t v).2 then zRP (bnd e t v).1 ts vs else bnd e t v
 |e,_,_=>(e,true)
def fits(e:Env)(a:Atm)(vs:List Int):Env×Bool:=
 if a.ts.length=vs.length then zRP e a.ts vs else(e,false)
def ins:List Int->Int->List Int
 |[],v=>[v]
 |w::l,v=>if w<v then w::ins l v else if w=v then w::l else v::w::l
def zdw:List Int->List Int->List Int
 |[],out=>out
 |v::l,out=>zdw l (ins out v)
inductive Asc:List Int->Prop
 |nil:Asc []
 |cons {v:Int} {l:List Int}:(∀w∈l,v<w)->Asc l->Asc (v::l)
theorem zwi(y v:Int):∀l,y∈ins l v↔y=v\/y∈l
 |[]=>by simp[ins]
 |w::l=>by
  unfold ins;split
  .simp only[Z5,zwi y v l];constructor
   .rintro (h|h|h)
    .exact .inr (.inl h)
    .exact .inl h
    .exact .inr (.inr h)
   .rintro (h|h|h)
    .exact .inr (.inl h)
    .exact .inl h
    .exact .inr (.inr h)
  .split
   .rename_i h;subst h;simp
   .simp
theorem zCS(v:Int):∀l,Asc l->Asc (ins l v)
 |[],_=> .cons (by simp) .nil
 |w::l,h=>by
  cases h with
  |cons h1 h2=>
   unfold ins;split
   .rename_i hlt;refine .cons ?_ (zCS v l h2);intro y hy;rcases (zwi y v l).1 hy with rfl|hy
    .exact hlt
    .exact h1 y hy
   .rename_i hlt;split
    .exact .cons h1 h2
    .rename_i hne;refine .cons ?_ (.cons h1 h2);intro y hy;rcases Z5.1 hy with rfl|hy
     .omega
     .have:=h1 y hy;omega
theorem zuU(y:Int):∀(l out:List Int),y∈zdw l out↔y∈l\/y∈out
 |[],out=>by simp[zdw]
 |v::l,out=>by
  unfold zdw;rw[zuU y l,zwi];simp only[Z5];constructor
  .rintro (h|h|h)
   .exact .inl (.inr h)
   .exact .inl (.inl h)
   .exact .inr h
  .rintro ((h|h)|h)
   .exact .inr (.inl h)
   .exact .inl h
   .exact .inr (.inr h)
theorem zug:∀(l out:List Int),Asc out->Asc (zdw l out)
 |[],_,h=>h
 |v::l,out,h=>by unfold zdw;exact zug l _ (zCS v out h)
def dif(x:Str)(k:Int)(e:Env):Bool:=match lk e x with
 |some v=>decide (v≠k)
 |none=>false
def sTm(x:Str)(k:Int):Trm->Trm
 | .var s=>if s=x then .cst k else .var s
 | .cst n=> .cst n
def sAt(x:Str)(k:Int)(a:Atm):Atm:={r:=a.r,neg:=a.neg,ts:=a.ts.map (sTm x k)}
def sCm(x:Str)(k:Int)(m:Cm):Cm:={op:=m.op,l:=sTm x k m.l,r:=sTm x k m.r}
def sub(c:CQ)(x:Str)(k:Int):CQ:={as:=c.as.map (sAt x k),cs:=c.cs.map (sCm x k)}
def del(x:Str):Env->Env
 |[]=>[]
 |(n,v)::e=>if n=x then del x e else(n,v)::del x e
end Go.Vse.Sm
end
section
namespace Go.Vse
variable [Globs]
section
variable {pr:Pr}{s:St}{Q:St->Prop}{dst:Option Nat}{L:List (List Nat×List Nat)}{mask:Nat}
theorem zRD{l:List (Op×Nat)}{x:A}{i:Nat}:wpE pr L ((⟨dst,none,.ext x i⟩,mask)::l) s Q↔oB (((O.ext x i).res (zae s.tm)).bind (opv s.h.get s.c)) fun r=>zax r.c r.wr=true/\
    zem mask L r.rd (r.wr.map (·.1))/\wpE pr (L++[(r.rd,r.wr.map (·.1))]) l (s.ae dst r.d r.wr r.c) Q:=zdU rfl
theorem e_un{l:List (Op×Nat)}{x:A}{op:UnOp}:wpE pr L ((⟨dst,none,.un op x⟩,mask)::l) s Q↔oB (((O.un op x).res (zae s.tm)).bind (opv s.h.get s.c)) fun r=>zax r.c r.wr=true/\
    zem mask L r.rd (r.wr.map (·.1))/\wpE pr (L++[(r.rd,r.wr.map (·.1))]) l (s.ae dst r.d r.wr r.c) Q:=zdU rfl
theorem zRA{l:List (Op×Nat)}{ks:List Nat}{ne:Bool}{x y:A}:wpE pr L ((⟨dst,none,.eqa ks ne x y⟩,mask)::l) s Q↔oB (((O.eqa ks ne x y).res (zae s.tm)).bind (opv s.h.get s.c)) fun r=>zax r.c r.wr=true/\
    zem mask L r.rd (r.wr.map (·.1))/\wpE pr (L++[(r.rd,r.wr.map (·.1))]) l (s.ae dst r.d r.wr r.c) Q:=zdU rfl
theorem zRp{l:List (Op×Nat)}{es byt:Nat}{x y:A}:wpE pr L ((⟨dst,none,.app es byt x y⟩,mask)::l) s Q↔oB (((O.app es byt x y).res (zae s.tm)).bind (opv s.h.get s.c)) fun r=>zax r.c r.wr=true/\
    zem mask L r.rd (r.wr.map (·.1))/\wpE pr (L++[(r.rd,r.wr.map (·.1))]) l (s.ae dst r.d r.wr r.c) Q:=zdU rfl
theorem zRx{l:List (Op×Nat)}{es m:Nat}{z:List F}{ps:List (Nat×A)}:wpE pr L ((⟨dst,none,.bsl es z m ps⟩,mask)::l) s Q↔oB (((O.bsl es z m ps).res (zae s.tm)).bind (opv s.h.get s.c)) fun r=>zax r.c r.wr=true/\
    zem mask L r.rd (r.wr.map (·.1))/\wpE pr (L++[(r.rd,r.wr.map (·.1))]) l (s.ae dst r.d r.wr r.c) Q:=zdU rfl
theorem zRu{l:List (Op×Nat)}{es m:Nat}{z:List F}{ps:List (Nat×A)}:wpE pr L ((⟨dst,none,.bsf es z m ps⟩,mask)::l) s Q↔oB (((O.bsf es z m ps).res (zae s.tm)).bind (opv s.h.get s.c)) fun r=>zax r.c r.wr=true/\
    zem mask L r.rd (r.wr.map (·.1))/\wpE pr (L++[(r.rd,r.wr.map (·.1))]) l (s.ae dst r.d r.wr r.c) Q:=zdU rfl
theorem zRK{l:List (Op×Nat)}{es:Nat}{x:A}{lo hi mx:Option A}:wpE pr L ((⟨dst,none,.slc es x lo hi mx⟩,mask)::l) s Q↔oB (((O.slc es x lo hi mx).res (zae s.tm)).bind (opv s.h.get s.c)) fun r=>zax r.c r.wr=true/\
    zem mask L r.rd (r.wr.map (·.1))/\wpE pr (L++[(r.rd,r.wr.map (·.1))]) l (s.ae dst r.d r.wr r.c) Q:=zdU rfl
theorem zRz{l:List (Op×Nat)}{k:IntKind}{x:A}:wpE pr L ((⟨dst,none,.cvi k x⟩,mask)::l) s Q↔oB (((O.cvi k x).res (zae s.tm)).bind (opv s.h.get s.c)) fun r=>zax r.c r.wr=true/\
    zem mask L r.rd (r.wr.map (·.1))/\wpE pr (L++[(r.rd,r.wr.map (·.1))]) l (s.ae dst r.d r.wr r.c) Q:=zdU rfl
def zSX{l:List Op}{ks:List Nat}{ne:Bool}{x y:A}:wpO pr (⟨dst,none,.eqa ks ne x y⟩ ::l) s Q↔oB (((O.eqa ks ne x y).res (zae s.tm)).bind (opv s.h.get s.c)) fun r=>zax r.c r.wr=true/\wpO pr l (s.aft dst r.d r.wr r.c) Q:=zfu rfl
def zST{l:List Op}{es byt:Nat}{x y:A}:wpO pr (⟨dst,none,.app es byt x y⟩ ::l) s Q↔oB (((O.app es byt x y).res (zae s.tm)).bind (opv s.h.get s.c)) fun r=>zax r.c r.wr=true/\wpO pr l (s.aft dst r.d r.wr r.c) Q:=zfu rfl
def zSV{l:List Op}{es m:Nat}{z:List F}{ps:List (Nat×A)}:wpO pr (⟨dst,none,.bsl es z m ps⟩ ::l) s Q↔oB (((O.bsl es z m ps).res (zae s.tm)).bind (opv s.h.get s.c)) fun r=>zax r.c r.wr=true/\wpO pr l (s.aft dst r.d r.wr r.c) Q:=zfu rfl
def zSU{l:List Op}{es m:Nat}{z:List F}{ps:List (Nat×A)}:wpO pr (⟨dst,none,.bsf es z m ps⟩ ::l) s Q↔oB (((O.bsf es z m ps).res (zae s.tm)).bind (opv s.h.get s.c)) fun r=>zax r.c r.wr=true/\wpO pr l (s.aft dst r.d r.wr r.c) Q:=zfu rfl
def zS2{l:List Op}{es:Nat}{x:A}{lo hi mx:Option A}:wpO pr (⟨dst,none,.slc es x lo hi mx⟩ ::l) s Q↔oB (((O.slc es x lo hi mx).res (zae s.tm)).bind (opv s.h.get s.c)) fun r=>zax r.c r.wr=true/\wpO pr l (s.aft dst r.d r.wr r.c) Q:=zfu rfl
def zSW{l:List Op}{k:IntKind}{x:A}:wpO pr (⟨dst,none,.cvi k x⟩ ::l) s Q↔oB (((O.cvi k x).res (zae s.tm)).bind (opv s.h.get s.c)) fun r=>zax r.c r.wr=true/\wpO pr l (s.aft dst r.d r.wr r.c) Q:=zfu rfl
theorem zZq{c:C}{Q:Ex->St->Prop}(h:wpC pr c s fun x s'=>match x with
  | .nrm=>wpC pr (.loop c) s' Q
  |x=>Q x s'):wpC pr (.loop c) s Q:=by
 obtain⟨x,s1,hq,ev⟩ :=zgW c s _ h;cases x with
 |nrm=>
  obtain⟨x2,s2,m,h2,e2⟩ :=hq;exact⟨x2,s2,m+1,h2,(ev.and e2).mono fun n ⟨p,q⟩ =>by simp only[iter,p];exact q⟩
 |exit i=>exact⟨.exit i,s1,1,hq,ev.mono fun n p=>by simp only[iter,p]⟩
 |ret=>exact⟨.ret,s1,1,hq,ev.mono fun n p=>by simp only[iter,p]⟩
end
def slc(es:Nat)(l:List (List F)):F:=match l with
 |[]=> .nils
 |_=> .sl es l
def zAp:zd5 (.f .nils)=some 0:=rfl
def zDJ(es:Nat)(els:List (List F)):zd5 (.f (.sl es els))=some els.length:=rfl
def zJ3(id off len es lim:Nat)(ex:Bool):zd5 (.sl id off len es lim ex)=some len:=rfl
def zJQ(es es':Nat)(els:List (List F))(i:Nat):iaB es (.f (.sl es' els)) i=if es=es' then(els[i]?).map D.fptr else none:=rfl
def zR1(es id off m es' lim:Nat)(ex:Bool)(i:Nat):iaB es (.sl id off m es' lim ex) i=if es=es'/\i<m then some (.ptr id es (off+i) 0)else none:=rfl
def zga(es:Nat)(l:List (List F)):(slc es l).d= .f (slc es l):=by cases l<;>rfl
def zeQ(es:Nat)(l:List (List F)):zd5 (.f (slc es l))=some l.length:=by cases l<;>rfl
def zfX(es:Nat)(l:List (List F))(n:Nat):iaB es (.f (slc es l)) n=l[n]?.map D.fptr:=by cases l<;>simp[slc,iaB]
def zcI(es:Nat):slc es []= .nils:=rfl
def zcy(es:Nat)(x:List F)(l:List (List F)):slc es (x::l)= .sl es (x::l):=rfl
def zlc{es:Nat}{l:List (List F)}(h:l≠[]):F.sl es l=slc es l:=by
 cases l with
 |nil=>exact absurd rfl h
 |cons=>rfl
def zDh(a b:List UInt8):zbS .lss (.s a) (.s b)=some (.b (Go.Op.bytesLess a b)):=rfl
def zDf(a b:List UInt8):zbS .gtr (.s a) (.s b)=some (.b (!(Go.Op.bytesLess a b||a==b))):=rfl
def zDe(a b:List UInt8):zbS .eql (.s a) (.s b)=some (.b (a==b)):=rfl
def zDi(a b:List UInt8):zbS .neq (.s a) (.s b)=some (.b (!(a==b))):=rfl
theorem zab1{es byt c id ro:Nat}{h:Nat->Option Ob}{els new:List (List D)}{rd:List Nat}(ho:h id=some (.arr es ro els))(h0:new.length≠0)(h1:new.length<=zaR)(h2:new.length*byt<=zaR):
  zcj es byt h c (.sl id 0 0 es 0 true) new rd=some {d:= .sl c 0 new.length es new.length false,rd:=id::rd,wr:=[(c,some (.arr es 0 new))],c:=c+1}:=by
 unfold zcj;rw[Z49 h0];have hn:¬(new=[]):=fun e=>h0 (by simp[e])
 simp[ho,hn,h1,h2]
theorem zLL{es byt c:Nat}{h:Nat->Option Ob}{id off len lim:Nat}{ex:Bool}{rd:List Nat}:
  zcj es byt h c (.sl id off len es lim ex) [] rd=some {d:= .sl id off len es lim ex,rd,c}:=by
 unfold zcj;simp
def zZj{es byt c id off len es' lim:Nat}{ex:Bool}{h:Nat->Option Ob}{new:List (List D)}{rd:List Nat}:zcj es byt h c (.sl id off len es' lim ex) new rd=if new.length=0 then some {d:= .sl id off len es' lim ex,rd,c} else
    match h id with
    | some (.arr es'' ro els)=>if es=es'/\es'=es''/\off+len<=els.length then
        if off+len+new.length<=lim then
          if off+len+new.length<=els.length/\ro<=off+len/\zfA els (els.take (off+len)++new++els.drop (off+len+new.length))=true then
            some { d:= .sl id off (len+new.length) es lim ex,rd:=id::rd,
                   wr:=[(id,some (.arr es ro (els.take (off+len)++new++els.drop (off+len+new.length))))],c}
          else none
        else if len+new.length<=zaR/\(len+new.length)*byt<=zaR then
          if ex then
            some { d:= .sl c 0 (len+new.length) es (len+new.length) false,rd:=id::rd,
                   wr:=[(c,some (.arr es 0 ((els.drop off).take len++new)))],c:=c+1}
          else if off=0/\len=els.length/\ro<=len then
            some {d:= .sl c 0 (off+len+new.length) es (off+len+new.length) false,rd:=id::rd,wr:=[(id,none),(c,some (.arr es ro (els++new)))],c:=c+1}
          else if off=0/\ro<=len/\els.length<=off+len+new.length/\zfA els (els.take len++new)=true then
            some {d:= .sl c 0 (off+len+new.length) es (off+len+new.length) false,rd:=id::rd,wr:=[(id,none),(c,some (.arr es ro (els.take len++new)))],c:=c+1}
          else none
        else none
      else none
    |_=>none:=rfl
def zaU{n:Nat}(h:n<=1000000000):(n<=zaR)=True:=by
 have:n<=140737488355328:=by omega
 simpa [zaR]using this
def leF{a b:Nat}(h:b<a):(a<=b)=False:=by simp;exact h
def zZK(f:D->Option (F×List Nat)):zbi f []=some ([],[]):=rfl
theorem zsv(f:D->Option (F×List Nat))(x:List D)(l:List (List D)):zbi f (x::l)=match zb6 f x with
  |none=>none
  |some (y,r)=>match zbi f l with
   |none=>none
   |some (m,r')=>some (y::m,r++r'):=rfl
theorem zDz(f:D->Option (F×List Nat)):∀a b:List (List D),zbi f (a++b)=match zbi f a with
  |none=>none
  |some (y,r)=>match zbi f b with
   |none=>none
   |some (m,r')=>some (y++m,r++r')
 |[],b=>by
  simp only[Z28,zZK];cases zbi f b with
  |none=>rfl
  |some p=>simp
 |x::a,b=>by
  simp only[Z29,zsv,zDz f a b];cases zb6 f x with
  |none=>rfl
  |some p=>
   cases zbi f a with
   |none=>rfl
   |some q=>
    cases zbi f b with
    |none=>rfl
    |some w=>simp
theorem zFJ{α:Type}(h:Nat->Option Ob)(k:Nat)(g:α->F):∀l:List α,zbi (frz h (k+1)) (l.map fun a=>[D.f (g a)])=some (l.map fun a=>[g a],[])
 |[]=>rfl
 |a::l=>by
  have e:zb6 (frz h (k+1)) [D.f (g a)]=some ([g a],[]):=rfl;simp only[Z10,zsv,zFJ h k g l,e];rfl
theorem zrO(h:Nat->Option Ob)(k:Nat):∀l:List (List F),zbi (frz h (k+1)) (l.map fun a=>a.map D.f)=some (l,[])
 |[]=>rfl
 |a::l=>by
  have e:∀x:List F,zb6 (frz h (k+1)) (x.map D.f)=some (x,[]):=by
   intro x
   induction x with
   |nil=>rfl
   |cons y x ih=>simp only[Z10,zb6,ih];rfl
  simp only[Z10,zsv,zrO h k l,e];rfl
namespace Sm
def vF(n:Int):List F:=[.i .i64 1,.i .i64 n,.s []]
def tmF:Trm->List F
 | .var s=>[.s s,.i .i64 0,.i .i64 0,.s []]
 | .cst n=>[.s [],.i .i64 1,.i .i64 n,.s []]
def atF(a:Atm):List F:=[.s a.r,.b a.neg,slc 4 (a.ts.map tmF)]
def cmF(k:Cm):List F:= .i .i64 k.op::(tmF k.l++tmF k.r)
def csF(c:CQ):F:=if c.ne=true/\c.cs=[]then .sl 9 []else slc 9 (c.cs.map cmF)
def asF(c:CQ):F:=if c.na=true/\c.as=[]then .sl 3 []else slc 3 (c.as.map atF)
def cqF(c:CQ):List F:=[asF c,csF c]
def valsF(l:List Int):F:=slc 3 (l.map vF)
def zbQ(l:List Str):F:=slc 1 (l.map fun s=>[.s s])
structure Rl where
 nm:Str
 ce:Bool
 co:F
 tu:List (List Int×List F)
def tuF(t:List Int×List F):List F:=valsF t.1::t.2
def rlF(r:Rl):List F:=[.s r.nm,.b r.ce,r.co,slc 4 (r.tu.map tuF)]
def zfD(l:List Int):F:=slc 1 (l.map fun v=>[valsF [v]])
def zaN:Trm->Prop
 | .var s=>s≠[]
 | .cst _=>True
end Sm
end Go.Vse
end
section
namespace Go.Vse
variable [Globs]
section
variable {pr:Pr}
def sq(pr:Pr)(b:C)(Q:Ex->St->Prop)(x:Ex)(s:St):Prop:=match x with
 | .nrm=>wpC pr b s Q
 |x=>Q x s
def kb(id:Nat)(Q:Ex->St->Prop)(x:Ex)(s:St):Prop:=match x with
 | .exit i=>if i=id then Q .nrm s else Q (.exit i) s
 |x=>Q x s
@[congr] theorem sq_congr{b:C}{Q:Ex->St->Prop}{x:Ex}{s:St}:sq pr b Q x s=sq pr b Q x s:=rfl
@[congr] theorem kb_congr{id:Nat}{Q:Ex->St->Prop}{x:Ex}{s:St}:kb id Q x s=kb id Q x s:=rfl
def zSN{a b:C}{s:St}{Q:Ex->St->Prop}:wpC pr (.seq a b) s Q=wpC pr a s (sq pr b Q):=rfl
def zSc{id:Nat}{c:C}{s:St}{Q:Ex->St->Prop}:wpC pr (.blk id c) s Q=wpC pr c s (kb id Q):=rfl
def zKX{b:C}{Q:Ex->St->Prop}{s:St}:sq pr b Q .nrm s=wpC pr b s Q:=rfl
def zK1{b:C}{Q:Ex->St->Prop}{s:St}:sq pr b Q .ret s=Q .ret s:=rfl
def zEk{b:C}{Q:Ex->St->Prop}{s:St}{i:Nat}:sq pr b Q (.exit i) s=Q (.exit i) s:=rfl
def zJ0{id:Nat}{Q:Ex->St->Prop}{s:St}:kb id Q .nrm s=Q .nrm s:=rfl
def zJ1{id:Nat}{Q:Ex->St->Prop}{s:St}:kb id Q .ret s=Q .ret s:=rfl
def zDG{id:Nat}{Q:Ex->St->Prop}{s:St}{i:Nat}:kb id Q (.exit i) s=if i=id then Q .nrm s else Q (.exit i) s:=rfl
def k_reg{ops:List Op}{s:St}{Q:Ex->St->Prop}:wpC pr (.reg ops) s Q=wpO pr ops s (Q .nrm):=rfl
def aB(pr:Pr)(f:Nat)(fs:List F)(k:F->Prop):Prop:=∃x,Ans pr f fs x/\k x
@[congr] theorem aB_congr{f:Nat}{fs fs':List F}{k:F->Prop}(h:fs=fs'):aB pr f fs k=aB pr f fs' k:=by rw[h]
def Ans.uniq{f:Nat}{fs:List F}{x y:F}(h1:Ans pr f fs x)(h2:Ans pr f fs y):x=y:=by
 obtain⟨q,rd,⟨n,hn⟩,e1⟩ :=h1;obtain⟨q',rd',⟨m,hm⟩,e2⟩ :=h2;have a:zd0 pr (Nat.max n m) f (F.dL fs) .e 0=some q:=hn (Nat.max n m) (Z135 ..);have b:zd0 pr (Nat.max n m) f (F.dL fs) .e 0=some q':=hm (Nat.max n m) (Z78 ..);rw[a]at b;cases b;rw[e1]at e2;cases e2;rfl
def zah{f:Nat}{fs:List F}{y:F}(h:Ans pr f fs y){k:F->Prop}:aB pr f fs k↔k y:=
 ⟨fun⟨x,hx,hk⟩ =>by rw[Ans.uniq h hx];exact hk,fun hk=>⟨y,h,hk⟩⟩
def lp(I:Nat->St->Prop)(k:Nat)(Q:Ex->St->Prop)(x:Ex)(s:St):Prop:=match x with
 | .nrm=>∃k',k'<k/\I k' s
 |x=>Q x s
@[congr] theorem lp_congr{I:Nat->St->Prop}{k:Nat}{Q:Ex->St->Prop}{x:Ex}{s:St}:lp I k Q x s=lp I k Q x s:=rfl
def zev{I:Nat->St->Prop}{k:Nat}{Q:Ex->St->Prop}{s:St}:lp I k Q .nrm s=∃k',k'<k/\I k' s:=rfl
def zJ4{I:Nat->St->Prop}{k:Nat}{Q:Ex->St->Prop}{s:St}:lp I k Q .ret s=Q .ret s:=rfl
def zDK{I:Nat->St->Prop}{k:Nat}{Q:Ex->St->Prop}{s:St}{i:Nat}:lp I k Q (.exit i) s=Q (.exit i) s:=rfl
end
end Go.Vse
end
section
namespace Go.Vse
variable [Globs]
section
variable {pr:Pr}
def loopQ{c:C}{Q:Ex->St->Prop}(I:Nat->St->Prop)(R:Ex->St->Prop)(hstep:∀k s,I k s->wpC pr c s (lp I k R))(k:Nat)(s:St)(h:I k s)(hQ:∀x s,R x s->Q x s):wpC pr (.loop c) s Q:=by
 have hl:wpC pr (.loop c) s R:=zac7 I hstep k s h;unfold wpC at hl|-;obtain⟨x,s',m,hr,e⟩ :=hl;exact⟨x,s',m,hQ x s' hr,e⟩
def zJt{es es':Nat}{h:Nat->Option Ob}{els:List (List F)}:elemsOf es h (.f (.sl es' els))=if es=es' then some (els.map (·.map D.f),[])else none:=rfl
def zDv{es:Nat}{h:Nat->Option Ob}:elemsOf es h (.f .nils)=some ([],[]):=rfl
theorem zNs{es:Nat}(l:List (List F))(a b:Nat)(h1:a<=b)(h2:b<=l.length):∃x:F,x.d= .f x/\(∀h:Nat->Option Ob,sliceB es h (.f (slc es l)) (some (.f (.i .i64 a))) (some (.f (.i .i64 b))) none=some (.f x,[]))/\
  (a=0->∀h:Nat->Option Ob,sliceB es h (.f (slc es l)) none (some (.f (.i .i64 b))) none=some (.f x,[]))/\
  (b=l.length->∀h:Nat->Option Ob,sliceB es h (.f (slc es l)) (some (.f (.i .i64 a))) none none=some (.f x,[]))/\
  (∀h:Nat->Option Ob,elemsOf es h (.f x)=some (((l.drop a).take (b - a)).map (·.map D.f),[])):=by
 cases l with
 |nil=>
  simp at h2;subst h2;have:a=0:=by omega
  subst this;exact⟨.nils,rfl,fun h=>rfl,fun _ h=>rfl,fun _ h=>rfl,fun h=>rfl⟩
 |cons w l=>
  refine⟨.sl es (((w::l).drop a).take (b - a)),rfl,?_,?_,?_,?_⟩
  .intro h;have h2':b<=l.length+1:=by simpa using h2
   simp[slc,sliceB,zbR,zcS,h1,h2']
  .intro ha h;subst ha;have h2':b<=l.length+1:=by simpa using h2
   simp[slc,sliceB,zbR,zcS,h2']
  .intro hb h;subst hb;have h1':a<=l.length+1:=by simpa using h1
   simp[slc,sliceB,zbR,zcS,h1']
  .intro h;simp[elemsOf]
end
end Go.Vse
end
section
namespace Go.Vse
def om{α β:Type}(o:Option α)(k:α->Option β):Option β:=o.bind k
@[congr] theorem om_congr{α β:Type}{o o':Option α}{k:α->Option β}(h:o=o'):om o k=om o' k:=by rw[h]
def zfx{α β:Type}(a:α)(k:α->Option β):om (some a) k=k a:=rfl
def mo_n{α β:Type}(f:α->Option β):zaw f []=some []:=rfl
def mo_c{α β:Type}(f:α->Option β)(x:α)(l:List α):zaw f (x::l)=om (f x) fun y=>om (zaw f l) fun m=>some (y::m):=by
 simp only[zaw,om];cases f x with
 |none=>rfl
 |some y=>cases zaw f l<;>rfl
def oo_n{α β:Type}(f:α->Option β):zea f none=some none:=rfl
def oo_s{α β:Type}(f:α->Option β)(x:α):zea f (some x)=om (f x) fun y=>some (some y):=by
 simp only[zea,om];cases f x<;>rfl
def fr_n(f:D->Option (F×List Nat)):zb6 f []=some ([],[]):=rfl
def fr_c(f:D->Option (F×List Nat))(d:D)(l:List D):zb6 f (d::l)=om (f d) fun p=>om (zb6 f l) fun q=>some (p.1::q.1,p.2++q.2):=by
 simp only[zb6,om];cases f d with
 |none=>rfl
 |some y=>cases zb6 f l<;>rfl
def zRR(f:D->Option (F×List Nat)):zbi f []=some ([],[]):=rfl
def zFK(f:D->Option (F×List Nat))(d:List D)(l:List (List D)):zbi f (d::l)=om (zb6 f d) fun p=>om (zbi f l) fun q=>some (p.1::q.1,p.2++q.2):=by
 simp only[zbi,om];cases zb6 f d with
 |none=>rfl
 |some y=>cases zbi f l<;>rfl
def zRQ [Globs](f:D->Option (F×List Nat))(a b:List (List D)):zbi f (a++b)=om (zbi f a) fun p=>om (zbi f b) fun q=>some (p.1++q.1,p.2++q.2):=by
 rw[zDz];simp only[om];cases zbi f a with
 |none=>rfl
 |some y=>cases zbi f b<;>rfl
def fzS(h:Nat->Option Ob)(k id off len es:Nat):Ob->Option (F×List Nat)
 | .arr es' _ els=>if es=es'/\off+len<=els.length then om (zbi (frz h k) ((els.drop off).take len)) fun p=>some (.sl es p.1,id::p.2)else none
 |_=>none
def zkz{h:Nat->Option Ob}{k id off len es es' ro:Nat}{els:List (List D)}:fzS h k id off len es (.arr es' ro els)=if es=es'/\off+len<=els.length then om (zbi (frz h k) ((els.drop off).take len)) fun p=>some (.sl es p.1,id::p.2)else none:=rfl
def zk3(h:Nat->Option Ob)(k id off len es lim:Nat)(ex:Bool):frz h (k+1) (.sl id off len es lim ex)=om (h id) (fzS h k id off len es):=by
 simp only[frz,om];cases h id with
 |none=>rfl
 |some o=>
  cases o with
  |arr es' ro els=>
   simp only[Z46,fzS];split
   .cases zbi (frz h k) ((els.drop off).take len)<;>rfl
   .rfl
  |_=>rfl
def zuz(h:Nat->Option Ob)(k:Nat)(cs:List D):frz h (k+1) (.ag cs)=om (zb6 (frz h k) cs) fun p=>some (.ag p.1,p.2):=by
 simp only[frz,om];cases zb6 (frz h k) cs<;>rfl
def zRS(h:Nat->Option Ob)(k:Nat)(cs:List D):frz h (k+1) (.tu cs)=om (zb6 (frz h k) cs) fun p=>some (.tu p.1,p.2):=by
 simp only[frz,om];cases zb6 (frz h k) cs<;>rfl
def f12f(h:Nat->Option Ob)(x:F):frz h 12 (.f x)=some (x,[]):=rfl
def f11f(h:Nat->Option Ob)(x:F):frz h 11 (.f x)=some (x,[]):=rfl
def f10f(h:Nat->Option Ob)(x:F):frz h 10 (.f x)=some (x,[]):=rfl
def f9f(h:Nat->Option Ob)(x:F):frz h 9 (.f x)=some (x,[]):=rfl
def f8f(h:Nat->Option Ob)(x:F):frz h 8 (.f x)=some (x,[]):=rfl
def f12a(h:Nat->Option Ob)(cs:List D):frz h 12 (.ag cs)=om (zb6 (frz h 11) cs) fun p=>some (.ag p.1,p.2):=zuz h 11 cs
def f11a(h:Nat->Option Ob)(cs:List D):frz h 11 (.ag cs)=om (zb6 (frz h 10) cs) fun p=>some (.ag p.1,p.2):=zuz h 10 cs
def f10a(h:Nat->Option Ob)(cs:List D):frz h 10 (.ag cs)=om (zb6 (frz h 9) cs) fun p=>some (.ag p.1,p.2):=zuz h 9 cs
def f9a(h:Nat->Option Ob)(cs:List D):frz h 9 (.ag cs)=om (zb6 (frz h 8) cs) fun p=>some (.ag p.1,p.2):=zuz h 8 cs
def f12t(h:Nat->Option Ob)(cs:List D):frz h 12 (.tu cs)=om (zb6 (frz h 11) cs) fun p=>some (.tu p.1,p.2):=zRS h 11 cs
def f12s(h:Nat->Option Ob)(id off len es lim:Nat)(ex:Bool):frz h 12 (.sl id off len es lim ex)=om (h id) (fzS h 11 id off len es):=zk3 ..
def f11s(h:Nat->Option Ob)(id off len es lim:Nat)(ex:Bool):frz h 11 (.sl id off len es lim ex)=om (h id) (fzS h 10 id off len es):=zk3 ..
def f10s(h:Nat->Option Ob)(id off len es lim:Nat)(ex:Bool):frz h 10 (.sl id off len es lim ex)=om (h id) (fzS h 9 id off len es):=zk3 ..
def f9s(h:Nat->Option Ob)(id off len es lim:Nat)(ex:Bool):frz h 9 (.sl id off len es lim ex)=om (h id) (fzS h 8 id off len es):=zk3 ..
def ldO(g:Bool)(n id es i j:Nat):Ob->Option (D×List Nat)
 | .arr es' _ els=>if es=es' then om els[i]? fun el=>om (zee g j n el) fun d=>some (d,[id])else none
 |_=>none
def zDH{g:Bool}{n id es i j es' ro:Nat}{els:List (List D)}:ldO g n id es i j (.arr es' ro els)=if es=es' then om els[i]? fun el=>om (zee g j n el) fun d=>some (d,[id])else none:=rfl
def ld_p{g:Bool}{n:Nat}{h:Nat->Option Ob}{id es i j:Nat}:zes g n h (.ptr id es i j)=om (h id) (ldO g n id es i j):=by
 simp only[zes,om];cases h id with
 |none=>rfl
 |some o=>
  cases o with
  |arr es' ro els=>
   simp only[Z46,ldO];split
   .simp only[om];cases els[i]? with
    |none=>rfl
    |some el=>simp only[Z46];cases zee g j n el<;>rfl
   .rfl
  |_=>rfl
def zSS{g:Bool}{n:Nat}{h:Nat->Option Ob}{cs:List F}:zes g n h (.fptr cs)=om (zmw g n cs) fun d=>some (d,[]):=by
 simp only[zes,om];cases zmw g n cs<;>rfl
def pF_t{n:Nat}{cs:List F}:zmw true n cs=if n<=cs.length then some (.ag ((cs.take n).map D.f))else none:=rfl
def pF_f{n:Nat}{cs:List F}:zmw false n cs=om cs[0]? fun x=>some (.f x):=by
 simp only[zmw,om];cases cs[0]? <;>rfl
def pD_t{o n:Nat}{cs:List D}:zee true o n cs=if o+n<=cs.length then some (.ag ((cs.drop o).take n))else none:=rfl
def pD_f{o n:Nat}{cs:List D}:zee false o n cs=cs[o]? :=rfl
def stO(n id es i j:Nat)(v:D):Ob->Option (Nat×Ob)
 | .arr es' ro els=>if es=es'/\ro<=i then om els[i]? fun el=>om v.cells fun cs=>if cs.length=n then om (over el j cs) fun el'=>if zfA els (els.set i el')=true then some (id,.arr es ro (els.set i el'))else none else none else none
 |_=>none
def zEo{n id es i j es' ro:Nat}{v:D}{els:List (List D)}:stO n id es i j v (.arr es' ro els)=if es=es'/\ro<=i then om els[i]? fun el=>om v.cells fun cs=>if cs.length=n then om (over el j cs) fun el'=>if zfA els (els.set i el')=true then some (id,.arr es ro (els.set i el'))else none else none else none:=rfl
def st_p{n:Nat}{h:Nat->Option Ob}{id es i j:Nat}{v:D}:zfm n h (.ptr id es i j) v=om (h id) (stO n id es i j v):=by
 simp only[zfm,om];cases h id with
 |none=>rfl
 |some o=>
  cases o with
  |arr es' ro els=>
   simp only[Z46,stO];split
   .simp only[om];cases els[i]? with
    |none=>rfl
    |some el=>
     simp only[Z46];cases v.cells with
     |none=>rfl
     |some cs=>
      simp only[Z46];split
      .cases over el j cs with
       |none=>rfl
       |some el'=>rfl
      .rfl
   .rfl
  |_=>rfl
def zDT(x y:List (List D)):zfA x y=(!hd8 x||hd8 y):=rfl
def h8_i(n:Int)(l:List (List D)):hd8 ([.f (.i .u8 n)]::l)=true:=rfl
def zJM:hd8 []=false:=rfl
def h8_2(a b:D)(c:List D)(l:List (List D)):hd8 ((a::b::c)::l)=false:=by
 unfold hd8;split
 .rename_i h;simp at h
 .rfl
def zJL(n:Int)(l:List (List D)):hd8 ([.f (.i .i64 n)]::l)=false:=rfl
def h8_b(n:Bool)(l:List (List D)):hd8 ([.f (.b n)]::l)=false:=rfl
def h8_s(n:List UInt8)(l:List (List D)):hd8 ([.f (.s n)]::l)=false:=rfl
def zDF(l:List (List D)):hd8 ([.f .nils]::l)=false:=rfl
def zJK(e:Nat)(x:List (List F))(l:List (List D)):hd8 ([.f (.sl e x)]::l)=false:=rfl
def zRX(a b c d e:Nat)(x:Bool)(l:List (List D)):hd8 ([.sl a b c d e x]::l)=false:=rfl
def zJO(a b c d:Nat)(l:List (List D)):hd8 ([.ptr a b c d]::l)=false:=rfl
def zRc(cs:List D):(D.ag cs).cells=some cs:=rfl
def ce_i(k:IntKind)(n:Int):(D.f (.i k n)).cells=some [.f (.i k n)]:=rfl
def ce_b(b:Bool):(D.f (.b b)).cells=some [.f (.b b)]:=rfl
def ce_s(l:List UInt8):(D.f (.s l)).cells=some [.f (.s l)]:=rfl
def zDn:(D.f .nils).cells=some [.f .nils]:=rfl
def zJf(e:Nat)(l:List (List F)):(D.f (.sl e l)).cells=some [.f (.sl e l)]:=rfl
def zfz(e:Nat)(l:List (List F)):(D.f (slc e l)).cells=some [.f (slc e l)]:=by cases l<;>rfl
def zRd(a b c d e:Nat)(x:Bool):(D.sl a b c d e x).cells=some [.sl a b c d e x]:=rfl
def zJh(a b c d:Nat):(D.ptr a b c d).cells=some [.ptr a b c d]:=rfl
def zDm(x:List F):(D.fptr x).cells=some [.fptr x]:=rfl
def d_ag(cs:List F):(F.ag cs).d= .ag (F.dL cs):=rfl
def d_tu(cs:List F):(F.tu cs).d= .tu (F.dL cs):=rfl
def d_i(k:IntKind)(n:Int):(F.i k n).d= .f (.i k n):=rfl
def d_b(b:Bool):(F.b b).d= .f (.b b):=rfl
def d_s(l:List UInt8):(F.s l).d= .f (.s l):=rfl
def zJp:(F.nils).d= .f .nils:=rfl
def d_un:(F.un).d= .f .un:=rfl
def d_sl(e:Nat)(l:List (List F)):(F.sl e l).d= .f (.sl e l):=rfl
def dl_n:F.dL []=[]:=rfl
def dl_c(x:F)(l:List F):F.dL (x::l)=x.d::F.dL l:=rfl
def ti_i(k:IntKind)(n:Int):zcS (.f (.i k n))=if 0<=n then some n.toNat else none:=rfl
def fa_p(o id es i j:Nat):faB o (.ptr id es i j)=some (.ptr id es i (j+o)):=rfl
def fa_f(o:Nat)(cs:List F):faB o (.fptr cs)=some (.fptr (cs.drop o)):=rfl
def ov(cs:List D)(o:Nat)(new:List D):over cs o new=if o+new.length<=cs.length then some (cs.take o++new++cs.drop (o+new.length))else none:=rfl
def fb_n(cs:List D):zeU cs []=some cs:=rfl
def fb_c(cs:List D)(o n:Nat)(d:D)(l:List (Nat×Nat×D)):zeU cs ((o,n,d)::l)=om d.cells fun x=>if x.length=n then om (over cs o x) fun y=>zeU y l else none:=by
 simp only[zeU,om];cases d.cells with
 |none=>rfl
 |some x=>
  simp only[Z46];split
  .cases over cs o x<;>rfl
  .rfl
def fe_n(es:Nat)(els:List (List D)):zfr es els []=some els:=rfl
def fe_c(es:Nat)(els:List (List D))(i:Nat)(d:D)(l:List (Nat×D)):zfr es els ((i,d)::l)=om d.cells fun cs=>if cs.length=es/\i<els.length then zfr es (els.set i cs) l else none:=by
 simp only[zfr,om];cases d.cells with
 |none=>rfl
 |some x=>rfl
def zdo(h:T Ob):wrT h []=h:=rfl
def zdp(h:T Ob)(id:Nat)(ob:Ob)(l:List (Nat×Option Ob)):wrT h ((id,some ob)::l)=wrT (h.set id ob) l:=rfl
def zdn(h:T Ob)(id:Nat)(l:List (Nat×Option Ob)):wrT h ((id,none)::l)=wrT (h.del id) l:=rfl
def wo_n(c:Nat):zax c []=true:=rfl
def wo_c(c id:Nat)(o:Option Ob)(l:List (Nat×Option Ob)):zax c ((id,o)::l)=(Nat.blt id c&&zax c l):=rfl
def roO(h:Nat->Option Ob)(id:Nat)(l:List Nat):Option Ob->List (Nat×Option Ob)
 |some (.arr es ro els)=>if els.length<=ro then zaF h l else(id,some (.arr es els.length els))::zaF h l
 |_=>zaF h l
def ro_n(h:Nat->Option Ob):zaF h []=[]:=rfl
def ro_c(h:Nat->Option Ob)(id:Nat)(l:List Nat):zaF h (id::l)=roO h id l (h id):=by
 simp only[zaF,roO];cases h id with
 |none=>rfl
 |some o=>cases o<;>rfl
def zKq(h:Nat->Option Ob)(id:Nat)(l:List Nat)(es ro:Nat)(els:List (List D)):roO h id l (some (.arr es ro els))=if els.length<=ro then zaF h l else(id,some (.arr es els.length els))::zaF h l:=rfl
structure WD [Globs](pr:Pr)(ops:List (Op×Nat))(s:St)(Q:Ex->St->Prop):Prop where
 out:wpC pr (.dreg ops) s Q
def zJU [Globs]{pr:Pr}{ops:List (Op×Nat)}{s:St}{Q:Ex->St->Prop}:wpC pr (.dreg ops) s Q=WD pr ops s Q:=propext ⟨fun h=>⟨h⟩,fun h=>h.out⟩
def zaC [Globs]{pr:Pr}{ops:List (Op×Nat)}{s:St}{Q:Ex->St->Prop}(h:wpE pr [] ops s (Q .nrm)):WD pr ops s Q:=⟨zab3 h⟩
def zTI(h:Nat->Option Ob)(c:Nat)(cs:List D)(i:Nat):opv h c (.ext (.tu cs) i)=om cs[i]? fun d=>some {d,c}:=by
 simp only[opv,om,okD];cases cs[i]? <;>rfl
def zTK(h:Nat->Option Ob)(c:Nat)(b:Bool):opv h c (.un .not (.f (.b b)))=some {d:= .f (.b !b),c}:=rfl
def zTE(h:Nat->Option Ob)(c:Nat)(ks:List Nat)(ne:Bool)(a b:List D):opv h c (.eqa ks ne (.ag a) (.ag b))=om (zbW ks a b) fun t=>some {d:= .f (.b (if ne then !t else t)),c}:=by
 simp only[opv,om,okF];cases zbW ks a b<;>rfl
def zjl(h:Nat->Option Ob)(c:Nat)(k k':IntKind)(n:Int):opv h c (.cvi k (.f (.i k' n)))=some {d:= .f (.i k (k.wrap n)),c}:=rfl
def zTL(h:Nat->Option Ob)(c es:Nat)(x:D)(lo hi mx:Option D):opv h c (.slc es x lo hi mx)=om (sliceB es h x lo hi mx) fun p=>some {d:=p.1,rd:=p.2,c}:=by
 simp only[opv,om];cases sliceB es h x lo hi mx<;>rfl
def zTx(h:Nat->Option Ob)(c es byt:Nat)(s x:D):opv h c (.app es byt s x)=om (elemsOf es h x) fun p=>zcj es byt h c s p.1 p.2:=by
 simp only[opv,om];cases elemsOf es h x<;>rfl
def zTB(h:Nat->Option Ob)(c es m:Nat)(z:List F)(ps:List (Nat×D)):opv h c (.bsl es z m ps)=om (zfr es (List.replicate m (z.map D.f)) ps) fun els=>some {d:= .sl c 0 m es m true,wr:=[(c,some (.arr es 0 els))],c:=c+1}:=by
 simp only[opv,om];cases zfr es (List.replicate m (z.map D.f)) ps<;>rfl
def zLS(c es m:Nat)(els:List (List D)):Option (List (List F))->Option Rs
 |some fs=>some {d:= .f (.sl es fs),c}
 |none=>some {d:= .sl c 0 m es m true,wr:=[(c,some (.arr es 0 els))],c:=c+1}
def zI6(c es m:Nat)(els:List (List D))(fs:List (List F)):zLS c es m els (some fs)=some {d:= .f (.sl es fs),c}:=rfl
def zI0(c es m:Nat)(els:List (List D)):zLS c es m els none=some {d:= .sl c 0 m es m true,wr:=[(c,some (.arr es 0 els))],c:=c+1}:=rfl
def zTA(h:Nat->Option Ob)(c es m:Nat)(z:List F)(ps:List (Nat×D)):opv h c (.bsf es z m ps)=om (zfr es (List.replicate m (z.map D.f)) ps) fun els=>zLS c es m els (zfT els):=by
 simp only[opv,om,okF];cases zfr es (List.replicate m (z.map D.f)) ps with
 |none=>rfl
 |some els=>simp only[Z46];cases zfT els<;>rfl
def fc_n:zfc []=some []:=rfl
def fc_f(x:F)(l:List D):zfc (.f x::l)=om (zfc l) fun m=>some (x::m):=by
 simp only[zfc,om];cases zfc l<;>rfl
def zRO(a b c d e:Nat)(x:Bool)(l:List D):zfc (.sl a b c d e x::l)=none:=rfl
def fw_n:zfT []=some []:=rfl
def fw_c(x:List D)(l:List (List D)):zfT (x::l)=om (zfc x) fun y=>om (zfT l) fun m=>some (y::m):=by
 simp only[zfT,om];cases zfc x with
 |none=>rfl
 |some y=>cases zfT l<;>rfl
def elO(es id off len es':Nat):Ob->Option (List (List D)×List Nat)
 | .arr es'' _ els=>if es=es'/\es'=es''/\off+len<=els.length then some ((els.drop off).take len,[id])else none
 |_=>none
def zv3{es id off len es' es'' ro:Nat}{els:List (List D)}:elO es id off len es' (.arr es'' ro els)=if es=es'/\es'=es''/\off+len<=els.length then some ((els.drop off).take len,[id])else none:=rfl
def zFC{es id off len es' lim:Nat}{ex:Bool}{h:Nat->Option Ob}:elemsOf es h (.sl id off len es' lim ex)=om (h id) (elO es id off len es'):=by
 simp only[elemsOf,om];cases h id with
 |none=>rfl
 |some o=>cases o<;>rfl
def apO(es byt c id off len es' lim:Nat)(ex:Bool)(new:List (List D))(rd:List Nat):Ob->Option Rs
  | .arr es'' ro els=>if es=es'/\es'=es''/\off+len<=els.length then
        if off+len+new.length<=lim then
          if off+len+new.length<=els.length/\ro<=off+len/\zfA els (els.take (off+len)++new++els.drop (off+len+new.length))=true then
            some { d:= .sl id off (len+new.length) es lim ex,rd:=id::rd,
                   wr:=[(id,some (.arr es ro (els.take (off+len)++new++els.drop (off+len+new.length))))],c}
          else none
        else if len+new.length<=zaR/\(len+new.length)*byt<=zaR then
          if ex=true then
            some { d:= .sl c 0 (len+new.length) es (len+new.length) false,rd:=id::rd,
                   wr:=[(c,some (.arr es 0 ((els.drop off).take len++new)))],c:=c+1}
          else if off=0/\len=els.length/\ro<=len then
            some {d:= .sl c 0 (off+len+new.length) es (off+len+new.length) false,rd:=id::rd,wr:=[(id,none),(c,some (.arr es ro (els++new)))],c:=c+1}
          else if off=0/\ro<=len/\els.length<=off+len+new.length/\zfA els (els.take len++new)=true then
            some {d:= .sl c 0 (off+len+new.length) es (off+len+new.length) false,rd:=id::rd,wr:=[(id,none),(c,some (.arr es ro (els.take len++new)))],c:=c+1}
          else none
        else none
      else none
  |_=>none
def zkr{es byt c:Nat}{h:Nat->Option Ob}{new:List (List D)}{rd:List Nat}:zcj es byt h c (.f .nils) new rd=if new.length=0 then some {d:= .f .nils,rd,c} else
  if new.length<=zaR/\new.length*byt<=zaR then some {d:= .sl c 0 new.length es new.length false,rd,wr:=[(c,some (.arr es 0 new))],c:=c+1} else none:=rfl
theorem zos [Globs]{es byt c id off len es' lim:Nat}{ex:Bool}{h:Nat->Option Ob}{new:List (List D)}{rd:List Nat}:zcj es byt h c (.sl id off len es' lim ex) new rd=
  if new.length=0 then some {d:= .sl id off len es' lim ex,rd,c} else om (h id) (apO es byt c id off len es' lim ex new rd):=by
 rw[zZj];split
 .rfl
 .simp only[om];cases h id with
  |none=>rfl
  |some o=>cases o<;>rfl
def rd_1(s:St)(v:Rv):resD s [v]=resV s v:=by
 simp only[resD,zaw];cases resV s v<;>rfl
def rd_2(s:St)(v w:Rv):resD s [v,w]=om (resV s v) fun x=>om (resV s w) fun y=>some (.tu [x,y]):=by
 simp only[resD,zaw,om];cases resV s v with
 |none=>rfl
 |some x=>cases resV s w<;>rfl
def rv_t(s:St)(n:Nat):resV s (.t n)=s.tm.get n:=rfl
def rv_c(s:St)(n sz:Nat)(g:Bool):resV s (.cell n g sz)=om (s.tm.get n) fun p=>om (zes g sz s.h.get p) fun y=>some y.1:=by
 simp only[resV,om];cases s.tm.get n with
 |none=>rfl
 |some p=>simp only[Z46];cases zes g sz s.h.get p<;>rfl
def zAa{res:List Rv}{y:F}{s:St}:zv5 res y .ret s↔oB (resD s res) fun d=>oB (frz s.h.get 12 d) fun p=>p.1=y:=by
 simp only[zv5,true_and,oB];cases resD s res with
 |none=>simp
 |some d=>
  simp only[Z45,exists_eq_left'];cases frz s.h.get 12 d with
  |none=>simp
  |some p=>obtain⟨a,b⟩ :=p;simp
def zJv{res:List Rv}{y:F}{s:St}:zv5 res y .nrm s↔oB (resD s res) fun d=>oB (frz s.h.get 12 d) fun p=>p.1=y:=by
 rw[<-zAa];rfl
end Go.Vse
end
section
namespace Go.Vse
def Grow(h:T Ob)(lo c es:Nat)(d:D)(els:List (List D)):Prop:=
 (d= .f .nils/\els=[])\/∃id,d= .sl id 0 els.length es els.length false/\els≠[]/\h.get id=some (.arr es 0 els)/\lo<=id/\id<c
def Grow.nil{h:T Ob}{lo c es:Nat}:Grow h lo c es (.f .nils) []:= .inl ⟨rfl,rfl⟩
theorem zMC [Globs]{h:T Ob}{lo c es byt:Nat}{d:D}{els new:List (List D)}{rd:List Nat}(hg:Grow h lo c es d els)(hlo:lo<=c)(hlen:els.length+new.length<=1000000)(hb:byt<=1000):
  ∃r,zcj es byt h.get c d new rd=some r/\zax r.c r.wr=true/\Grow (wrT h r.wr) lo r.c es r.d (els++new)/\c<=r.c/\∀id,id<lo->(wrT h r.wr).get id=h.get id:=by
 have hm:∀n,n<=1000000->n<=zaR:=fun n hn=>by have:=zaU (n:=n) (by omega);simpa using this
 have hmb:∀n,n<=1000000->n*byt<=zaR:=fun n hn=>by
  have:n*byt<=1000000*1000:=Z144 hn hb;have h2:=zaU (n:=n*byt) (by omega);simpa using h2
 by_cases h0:new.length=0
 .have hn:new=[]:=Z17.1 h0;subst hn;rcases hg with⟨rfl,rfl⟩ |⟨id,rfl,he,ho,hl,hc⟩
  .exact⟨{d:= .f .nils,rd,c},by rw[zkr];simp,rfl,.inl ⟨rfl,rfl⟩,Z2 _,fun _ _=>rfl⟩
  .exact⟨{d:= .sl id 0 els.length es els.length false,rd,c},by rw[zos];simp,rfl,.inr ⟨id,by simp,by simpa using he,by simpa [wrT]using ho,hl,hc⟩,Z2 _,fun _ _=>rfl⟩
 .rcases hg with⟨rfl,rfl⟩ |⟨id,rfl,he,ho,hl,hc⟩
  .refine⟨{d:= .sl c 0 new.length es new.length false,rd,wr:=[(c,some (.arr es 0 new))],c:=c+1},?_,?_,.inr ⟨c,rfl,?_,?_,hlo,by simp⟩,by simp,?_⟩
   .rw[zkr,Z49 h0,Z51 ⟨hm _ (by simpa using hlen),hmb _ (by simpa using hlen)⟩]
   .simp[zax,Z79]
   .simpa using fun e=>h0 (by simp[e])
   .simp[wrT,T.zaM]
   .intro i hi;have:i≠c:=by omega
    simp[wrT,T.zaM,this]
  .refine⟨{d:= .sl c 0 (els.length+new.length) es (els.length+new.length) false,rd:=id::rd,wr:=[(id,none),(c,some (.arr es 0 (els++new)))],c:=c+1},?_,?_,.inr ⟨c,by simp,?_,?_,hlo,by simp⟩,by simp,?_⟩
   .rw[zos,Z49 h0,ho];have h1:¬(0+els.length+new.length<=els.length):=by omega
    have h2:=hm (els.length+new.length) hlen;have h3:=hmb (els.length+new.length) hlen;simp[om,apO,h1,h2,h3];omega
   .simp[zax,Z79];omega
   .simp[he]
   .simp[wrT,T.zaM]
   .intro i hi;have h1:i≠c:=by omega
    have h2:i≠id:=by omega
    simp[wrT,T.zaM,T.zcZ,h1,h2]
def zfJ{h h':T Ob}{lo c c' es:Nat}{d:D}{els:List (List D)}(hg:Grow h lo c es d els)(hh:∀id,id<c->h'.get id=h.get id)(hc:c<=c'):Grow h' lo c' es d els:=by
 rcases hg with⟨rfl,rfl⟩ |⟨id,rfl,he,ho,hl,hlt⟩
 .exact .inl ⟨rfl,rfl⟩
 .exact .inr ⟨id,rfl,he,by rw[hh id hlt];exact ho,hl,by omega⟩
theorem zrR [Globs]{h:T Ob}{lo c es byt:Nat}{d:D}{els new:List (List D)}{rd:List Nat}{K:Rs->Prop}(hg:Grow h lo c es d els)(hlo:lo<=c)(hlen:els.length+new.length<=1000000)(hb:byt<=1000)
  (hK:∀r:Rs,zax r.c r.wr=true->Grow (wrT h r.wr) lo r.c es r.d (els++new)->c<=r.c->(∀id,id<lo->(wrT h r.wr).get id=h.get id)->K r):oB (zcj es byt h.get c d new rd) K:=by
 obtain⟨r,h1,h2,h3,h4,h5⟩ :=zMC (byt:=byt) (rd:=rd) hg hlo hlen hb;rw[h1];exact hK r h2 h3 h4 h5
def zMD [Globs]{h:T Ob}{lo c es k:Nat}{d:D}{els:List (List D)}{L:List (List F)}(hg:Grow h lo c es d els)(hf:zbi (frz h.get k) els=some (L,[])):∃rd,frz h.get (k+1) d=some (slc es L,rd):=by
 rcases hg with⟨rfl,rfl⟩ |⟨id,rfl,he,ho,hl,hc⟩
 .simp only[zbi,Z45,Z66]at hf;rw[<-hf.1];exact⟨[],rfl⟩
 .have hL:L≠[]:=by
   rintro rfl;cases els with
   |nil=>exact he rfl
   |cons x l=>
    rw[zFK]at hf;simp only[om]at hf;cases h1:zb6 (frz h.get k) x with
    |none=>rw[h1]at hf;simp at hf
    |some p=>
     rw[h1]at hf;cases h2:zbi (frz h.get k) l with
     |none=>rw[h2]at hf;simp at hf
     |some q=>rw[h2]at hf;simp at hf
  refine⟨[id],?_⟩;rw[zk3,ho,zfx,zkz];simp only[true_and,Z25,Z2,Z60,Z34,Z7,hf,zfx];rw[zlc hL]
section
variable [Globs]{pr:Pr}
structure WL(pr:Pr)(c:C)(s:St)(Q:Ex->St->Prop):Prop where
 out:wpC pr (.loop c) s Q
def rn(pr:Pr)(c:C)(Q:Ex->St->Prop)(x:Ex)(s:St):Prop:=match x with
 | .nrm=>WL pr c s Q
 |x=>Q x s
def zKo{c:C}{Q:Ex->St->Prop}{s:St}:rn pr c Q .nrm s=WL pr c s Q:=rfl
def zKp{c:C}{Q:Ex->St->Prop}{s:St}:rn pr c Q .ret s=Q .ret s:=rfl
def zDX{c:C}{Q:Ex->St->Prop}{s:St}{i:Nat}:rn pr c Q (.exit i) s=Q (.exit i) s:=rfl
def round{c:C}{s:St}{Q:Ex->St->Prop}(h:wpC pr c s (rn pr c Q)):WL pr c s Q:=by
 refine⟨zZq ?_⟩;have e:rn pr c Q=fun x s'=>match x with
  | .nrm=>wpC pr (.loop c) s' Q
  |x=>Q x s':=by
  funext x s'
  cases x with
  |nrm=>exact propext ⟨fun h=>h.out,fun h=>⟨h⟩⟩
  |ret=>rfl
  |exit i=>rfl
 rw[e]at h;exact h
def zJV{c:C}{s:St}{Q:Ex->St->Prop}:wpC pr (.loop c) s Q=WL pr c s Q:=propext ⟨fun h=>⟨h⟩,fun h=>h.out⟩
def zfU{c:C}{Q:Ex->St->Prop}(I:Nat->St->Prop)(R:Ex->St->Prop)(hstep:∀k s,I k s->wpC pr c s (lp I k R))(k:Nat)(s:St)(h:I k s)(hQ:∀x s,R x s->Q x s):WL pr c s Q:=⟨loopQ I R hstep k s h hQ⟩
end
end Go.Vse
end
section
namespace Go.Vse
variable [Globs]
def zFD(res:List Rv)(P:F->Prop)(x:Ex)(s:St):Prop:=
 (match x with| .exit _=>False|_=>True)/\∃d,resD s res=some d/\∃y rd,frz s.h.get 12 d=some (y,rd)/\P y
def zvX{pr:Pr}{f:Nat}{fn:Fn}(hf:pr.fn f=some fn){fs:List F}{P:F->Prop}(hw:wpC pr fn.body (st0 (F.dL fs) .e 0) (zFD fn.res P)):∃y,P y/\Ans pr f fs y:=by
 obtain⟨x,s,⟨hx,d,hd,y,rd,hz,hP⟩,ev⟩ :=zgW _ _ _ hw;refine⟨y,hP,if Nat.beq s.lw 0&&d.isF then ⟨d,.e,0,0,s.mx⟩else ⟨d,s.h,s.c,s.lw,s.mx⟩,rd,?_,?_⟩
 .have key:EV fun m=>zha (evC (zd0 pr m) m) fn (F.dL fs) .e 0=some (if Nat.beq s.lw 0&&d.isF then ⟨d,.e,0,0,s.mx⟩else ⟨d,s.h,s.c,s.lw,s.mx⟩):=by
   refine ev.mono fun m hm=> ?_
   unfold zha;unfold st0 at hm;rw[hm];cases x with
   |exit i=>exact hx.elim
   |nrm=>simp only[hd];split<;>rfl
   |ret=>simp only[hd];split<;>rfl
  obtain⟨N,hN⟩ :=key;refine⟨N+1,fun m hm=> ?_⟩;obtain⟨m,rfl⟩ :∃m',m=m'+1:=⟨m - 1,by omega⟩
  simp only[zd0,hf];exact hN m (by omega)
 .split
  .rename_i hb;simp only[Z14]at hb;have hr:=zrP 12 d y rd hb.2 hz;subst hr;exact zju 12 d y [] hz fun id hid=>by simp at hid
  .exact hz
def zz7{res:List Rv}{P:F->Prop}{s:St}:zFD res P .ret s↔oB (resD s res) fun d=>oB (frz s.h.get 12 d) fun p=>P p.1:=by
 simp only[zFD,true_and,oB];cases resD s res with
 |none=>simp
 |some d=>
  simp only[Z45,exists_eq_left'];cases frz s.h.get 12 d with
  |none=>simp
  |some p=>
   obtain⟨a,b⟩ :=p;simp only[Z45,Z66];exact⟨fun⟨y,rd,⟨e1,e2⟩,h⟩ =>by rw[e1];exact h,fun h=>⟨a,b,⟨rfl,rfl⟩,h⟩⟩
def zJu{res:List Rv}{P:F->Prop}{s:St}:zFD res P .nrm s↔oB (resD s res) fun d=>oB (frz s.h.get 12 d) fun p=>P p.1:=by
 rw[<-zz7];rfl
omit [Globs]in
def fza(h:Nat->Option Ob)(l:List D):zeu h l=zb6 (frz h 12) l:=rfl
omit [Globs]in
omit [Globs]in
omit [Globs]in
omit [Globs]in
def oi_n(d:Nat):zbR d none=some d:=rfl
omit [Globs]in
def oi_s(d:Nat)(x:D):zbR d (some x)=zcS x:=rfl
omit [Globs]in
def zS7{es:Nat}{h:Nat->Option Ob}:sliceB es h (.f .nils) none (some (.f (.i .i64 0))) none=some (.f .nils,[]):=rfl
omit [Globs]in
def zS9{es:Nat}{h:Nat->Option Ob}:sliceB es h (.f .nils) (some (.f (.i .i64 0))) none none=some (.f .nils,[]):=rfl
omit [Globs]in
theorem zKM{es es':Nat}{h:Nat->Option Ob}{els:List (List F)}{lo hi:Option D}:sliceB es h (.f (.sl es' els)) lo hi none=om (zbR 0 lo) fun l=>om (zbR els.length hi) fun r=>
  if es=es'/\l<=r/\r<=els.length then some (.f (.sl es ((els.drop l).take (r - l))),[])else none:=by
 simp only[sliceB,om];cases zbR 0 lo with
 |none=>rfl
 |some l=>simp only[Z46];cases zbR els.length hi<;>rfl
section
variable {pr:Pr}{s:St}{Q:St->Prop}{dst:Option Nat}{L:List (List Nat×List Nat)}{mask:Nat}
def zS0{l:List Op}{g:Bool}{off n:Nat}{x:A}:wpO pr (⟨dst,none,.fld g off n x⟩ ::l) s Q↔oB (((O.fld g off n x).res (zae s.tm)).bind (opv s.h.get s.c)) fun r=>zax r.c r.wr=true/\wpO pr l (s.aft dst r.d r.wr r.c) Q:=zfu rfl
theorem zRE{l:List (Op×Nat)}{g:Bool}{off n:Nat}{x:A}:wpE pr L ((⟨dst,none,.fld g off n x⟩,mask)::l) s Q↔oB (((O.fld g off n x).res (zae s.tm)).bind (opv s.h.get s.c)) fun r=>zax r.c r.wr=true/\
    zem mask L r.rd (r.wr.map (·.1))/\wpE pr (L++[(r.rd,r.wr.map (·.1))]) l (s.ae dst r.d r.wr r.c) Q:=zdU rfl
omit [Globs]in
def zTJ(h:Nat->Option Ob)(c:Nat)(g:Bool)(off n:Nat)(cs:List D):opv h c (.fld g off n (.ag cs))=om (zee g off n cs) fun d=>some {d,c}:=by
 simp only[opv,om,okD];cases zee g off n cs<;>rfl
end
def zBl{pr:Pr}{c:C}{S:St}{Q:Ex->St->Prop}(P:St->Prop)(h1:P S)(h2:∀s,P s->WL pr c s Q):WL pr c S Q:=h2 S h1
end Go.Vse
end
section
namespace Go.Vse
set_option maxRecDepth 100000
def ob_s{α β:Type}(a:α)(f:α->Option β):(some a).bind f=f a:=rfl
def ob_m{α β:Type}(a:α)(f:α->β):(some a).map f=some (f a):=rfl
def ob_b{α β:Type}(a:Option α)(f:α->Option β):(a>>=f)=a.bind f:=rfl
def cm_n{m:Nat}{rd wr:List Nat}:zem m [] rd wr=True:=rfl
def cm_c{m:Nat}{r w:List Nat}{L:List (List Nat×List Nat)}{rd wr:List Nat}:zem m ((r,w)::L) rd wr=((m%2=1->zeo rd w/\zeo wr w/\zeo wr r)/\zem (m/2) L rd wr):=rfl
def fn_n(f:Nat):fnD f []= .f (.fn f):=rfl
def fn_c(f:Nat)(x:D)(l:List D):fnD f (x::l)= .fn f [] (x::l):=rfl
def zKA(f:A->Option D)(x:A)(i:Nat):O.res f (.ext x i)=(f x).bind fun y=>some (.ext y i):=rfl
def zS5(f:A->Option D)(op:UnOp)(x:A):O.res f (.un op x)=(f x).bind fun y=>some (.un op y):=rfl
def zKu(f:A->Option D)(k:IntKind)(x:A):O.res f (.cvi k x)=(f x).bind fun y=>some (.cvi k y):=rfl
def zKw(f:A->Option D)(ks:List Nat)(ne:Bool)(x y:A):O.res f (.eqa ks ne x y)=(f x).bind fun a=>(f y).bind fun b=>some (.eqa ks ne a b):=rfl
def zKr(f:A->Option D)(es b:Nat)(x y:A):O.res f (.app es b x y)=(f x).bind fun a=>(f y).bind fun c=>some (.app es b a c):=rfl
def zKC(f:A->Option D)(g:Bool)(o n:Nat)(x:A):O.res f (.fld g o n x)=(f x).bind fun y=>some (.fld g o n y):=rfl
def zKF(f:A->Option D)(es:Nat)(x:A)(a b c:Option A):O.res f (.slc es x a b c)=(f x).bind fun y=>(zea f a).bind fun a=>(zea f b).bind fun b=>(zea f c).bind fun c=>some (.slc es y a b c):=rfl
def zKt(f:A->Option D)(es:Nat)(z:List F)(m:Nat)(ps:List (Nat×A)):O.res f (.bsl es z m ps)=(zaw (fun p:Nat×A=>(f p.2).bind fun y=>some (p.1,y)) ps).bind fun qs=>some (.bsl es z m qs):=rfl
def zKs(f:A->Option D)(es:Nat)(z:List F)(m:Nat)(ps:List (Nat×A)):O.res f (.bsf es z m ps)=(zaw (fun p:Nat×A=>(f p.2).bind fun y=>some (p.1,y)) ps).bind fun qs=>some (.bsf es z m qs):=rfl
def fw(l:List F):List F:=l
def fw_e(l:List F):fw l=l:=rfl
theorem zDx [Globs]{pr:Pr}{l:List Op}{s:St}{Q:St->Prop}{dst:Option Nat}{f:Nat}{args:List A}:wpO pr (⟨dst,none,.callp f args⟩ ::l) s Q↔oB (zaw (zae s.tm) args) fun ds=>oB (zeu s.h.get ds) fun y=>aB pr f (fw y.1) fun x=>
  zax s.c (zaF s.h.get y.2)=true/\wpO pr l (s.aft dst x.d (zaF s.h.get y.2) s.c) Q:=z1c
theorem zAd [Globs]{pr:Pr}{l:List (Op×Nat)}{s:St}{Q:St->Prop}{dst:Option Nat}{L:List (List Nat×List Nat)}{mask f:Nat}{args:List A}:wpE pr L ((⟨dst,none,.callp f args⟩,mask)::l) s Q↔oB (zaw (zae s.tm) args) fun ds=>oB (zeu s.h.get ds) fun y=>aB pr f (fw y.1) fun x=>zax s.c (zaF s.h.get y.2)=true/\
    zem mask L y.2 ((zaF s.h.get y.2).map (·.1))/\wpE pr (L++[(y.2,(zaF s.h.get y.2).map (·.1))]) l (s.ae dst x.d (zaF s.h.get y.2) s.c) Q:=zZA
section
variable [Globs]{pr:Pr}{s:St}{Q:St->Prop}{dst:Option Nat}{L:List (List Nat×List Nat)}{mask:Nat}
def zSY{l:List Op}{ne:Bool}{x y:A}:wpO pr (⟨dst,none,.eqb ne x y⟩ ::l) s Q↔oB (((O.eqb ne x y).res (zae s.tm)).bind (opv s.h.get s.c)) fun r=>zax r.c r.wr=true/\wpO pr l (s.aft dst r.d r.wr r.c) Q:=zfu rfl
def zRC{l:List (Op×Nat)}{kd:Nat}{ne:Bool}{x y:A}:wpE pr L ((⟨dst,none,.eqn kd ne x y⟩,mask)::l) s Q↔oB (((O.eqn kd ne x y).res (zae s.tm)).bind (opv s.h.get s.c)) fun r=>zax r.c r.wr=true/\zem mask L r.rd (r.wr.map (·.1))/\wpE pr (L++[(r.rd,r.wr.map (·.1))]) l (s.ae dst r.d r.wr r.c) Q:=zdU rfl
def zSZ{l:List Op}{kd:Nat}{ne:Bool}{x y:A}:wpO pr (⟨dst,none,.eqn kd ne x y⟩ ::l) s Q↔oB (((O.eqn kd ne x y).res (zae s.tm)).bind (opv s.h.get s.c)) fun r=>zax r.c r.wr=true/\wpO pr l (s.aft dst r.d r.wr r.c) Q:=zfu rfl
def zRH{l:List (Op×Nat)}{es b:Nat}{z:List F}{x y:A}:wpE pr L ((⟨dst,none,.mks es b z x y⟩,mask)::l) s Q↔oB (((O.mks es b z x y).res (zae s.tm)).bind (opv s.h.get s.c)) fun r=>zax r.c r.wr=true/\zem mask L r.rd (r.wr.map (·.1))/\wpE pr (L++[(r.rd,r.wr.map (·.1))]) l (s.ae dst r.d r.wr r.c) Q:=zdU rfl
def zS1{l:List Op}{es b:Nat}{z:List F}{x y:A}:wpO pr (⟨dst,none,.mks es b z x y⟩ ::l) s Q↔oB (((O.mks es b z x y).res (zae s.tm)).bind (opv s.h.get s.c)) fun r=>zax r.c r.wr=true/\wpO pr l (s.aft dst r.d r.wr r.c) Q:=zfu rfl
def e_mm{l:List (Op×Nat)}{mx:Bool}{x y:A}:wpE pr L ((⟨dst,none,.mm mx x y⟩,mask)::l) s Q↔oB (((O.mm mx x y).res (zae s.tm)).bind (opv s.h.get s.c)) fun r=>zax r.c r.wr=true/\zem mask L r.rd (r.wr.map (·.1))/\wpE pr (L++[(r.rd,r.wr.map (·.1))]) l (s.ae dst r.d r.wr r.c) Q:=zdU rfl
def o_mm{l:List Op}{mx:Bool}{x y:A}:wpO pr (⟨dst,none,.mm mx x y⟩ ::l) s Q↔oB (((O.mm mx x y).res (zae s.tm)).bind (opv s.h.get s.c)) fun r=>zax r.c r.wr=true/\wpO pr l (s.aft dst r.d r.wr r.c) Q:=zfu rfl
end
def zKx(f:A->Option D)(ne:Bool)(x y:A):O.res f (.eqb ne x y)=(f x).bind fun a=>(f y).bind fun b=>some (.eqb ne a b):=rfl
def zKz(f:A->Option D)(kd:Nat)(ne:Bool)(x y:A):O.res f (.eqn kd ne x y)=(f x).bind fun a=>(f y).bind fun b=>some (.eqn kd ne a b):=rfl
def zKD(f:A->Option D)(es b:Nat)(z:List F)(x y:A):O.res f (.mks es b z x y)=(f x).bind fun a=>(f y).bind fun c=>some (.mks es b z a c):=rfl
def zS3(f:A->Option D)(mx:Bool)(x y:A):O.res f (.mm mx x y)=(f x).bind fun a=>(f y).bind fun c=>some (.mm mx a c):=rfl
def zTF(h:Nat->Option Ob)(c:Nat)(ne p q:Bool):opv h c (.eqb ne (.f (.b p)) (.f (.b q)))=some {d:= .f (.b (if ne then !(p==q)else p==q)),c}:=rfl
def v_mm(h:Nat->Option Ob)(c:Nat)(mx:Bool)(k:IntKind)(a b:Int):opv h c (.mm mx (.f (.i k a)) (.f (.i k b)))=some {d:= .f (.i k (if mx then(if b>a then b else a)else(if b<a then b else a))),c}:=by simp[opv,okF]
def rulA [Globs]:=
 qI @zSN (qI @k_reg (qI @zJU (qI @zJV (qI @zKo (qI @zKp (qI @zDX (qI @zSc (qI @zKX (qI @zK1 (qI @zEk (qI @zJ0 (qI @zJ1 (qI @zDG (qI @zJ4 (qI @zDK (qI @zQ7 (qI @zJc (qI @zI9 (qI @zTS (qI @zTR (qI @y_mv (qI @zLr (qI @y_ld (qI @zTT (qI @zT5 (qI @zT1 (qI @y_fa (qI @zTY (qI @zTX (qI @y_st (qI @y_ia (qI @zT2 (qI @zTU (qI @zDx (qI @zLq (qI @zEv (qI @zRJ (qI @e_mv (qI @zJs (qI @e_ld (qI @zRs (qI @zRB (qI @e_len (qI @e_fa (qI @e_ia (qI @zRt (qI @zRI (qI @e_st (qI @zAd (qI @zDs (qI @zQ5 (qI @zIZ (qI @zzZ (qI @zwL (qI @zfa (qI @zco (qI @zdi (qI @zdg (qI @zHj (qI @zcc (qI @zc7 (qI @zc3 (qI @zEX (qI @zcn (qI @zdf (qI @zde (qI @zG8 (qI @zDS (qI @zJ8 (qI @zJ7 (qI @zQ3 (qI @zQ1 (qI @zCO (qI @zIX (qI @zCQ (qI @zcp (qI @zdm (qI @zdk (qI @zHk (qI @zbr (qI @zci (qI @zcf (qI @zzJ (qI @zqW (qI @zw2 (qI @T.zaM (qI @T.zcZ (qI @T.zyg (qI @fza (qI @zDb (qI @zC9 (qI @zC6 (qI @zC7 (qI @zC4 (qI @zDd (qI @zC3 (qI @zDk (qI @zDh (qI @zDf (qI @zDe (qI @zDi (qI @zRD (qI @e_un (qI @zRA (qI @zRp (qI @zRx (qI @zRu (qI @zRK (qI @zRz (qI @zSX (qI @zST (qI @zSV (qI @zSU (qI @zS2 (qI @zSW (qI @zga (qI @zeQ (qI @zfX (qI @zAp (qI @zDJ (qI @zJ3 (qI @zJQ (qI @zR1 (qI @zfx (qI @mo_n (qI @mo_c (qI @oo_n (qI @oo_s (qI @fr_n (qI @fr_c (qI @zRR (qI @zFK (qI @zRQ (qI @zkz (qI @f12f (qI @f11f (qI @f10f (qI @f9f (qI @f8f (qI @f12a (qI @f11a (qI @f10a (qI @f9a (qI @f12t (qI @f12s (qI @f11s (qI @f10s (qI @f9s (qI @zDH (qI @ld_p (qI @zSS (qI @pF_t (qI @pF_f (qI @pD_t (qI @pD_f (qI @zEo (qI @st_p (qI @zDT (qI @h8_i (qI @zJM (qI @h8_2 (qI @zJL (qI @h8_b (qI @h8_s (qI @zDF (qI @zJK (qI @zRX (qI @zJO (qI @zRc (qI @ce_i (qI @ce_b (qI @ce_s (qI @zDn (qI @zJf (qI @zfz (qI @zRd (qI @zJh (qI @zDm (qI @d_ag (qI @d_tu (qI @d_i (qI @d_b (qI @d_s (qI @zJp (qI @d_un (qI @d_sl (qI @dl_n (qI @dl_c (qI @ti_i (qI @fa_p (qI @fa_f (qI @ov (qI @fb_n (qI @fb_c (qI @fe_n (qI @fe_c (qI @zdo (qI @zdp (qI @zdn (qI @wo_n (qI @wo_c (qI @ro_n (qI @ro_c (qI @zKq (qI @zTI (qI @zTK (qI @zTE (qI @zjl (qI @zTL (qI @zTx (qI @zTB (qI @zTA (qI @zI6 (qI @zI0 (qI @fc_n (qI @fc_f (qI @zRO (qI @fw_n (qI @fw_c (qI @zDv (qI @zJt (qI @zv3 (qI @zFC (qI @zkr (qI @zos (qI @rd_1 (qI @rd_2 (qI @rv_t (qI @rv_c (qI @zAa (qI @zJv (qI @zz7 (qI @zJu (qI @zS0 (qI @zRE (qI @zTJ (qI @oi_n (qI @oi_s (qI @zS7 (qI @zS9 (qI @zKM (qI @zSY (qI @zRC (qI @zSZ (qI @zRH (qI @zS1 (qI @e_mm (qI @o_mm (qI @zKx (qI @zKz (qI @zKD (qI @zS3 (qI @zTF (qI @v_mm (qI @fw_e (qI @ob_s (qI @ob_m (qI @ob_b (qI @cm_n (qI @cm_c (qI @fn_n (qI @fn_c (qI @zKA (qI @zS5 (qI @zKu (qI @zKw (qI @zKr (qI @zKC (qI @zKF (qI @zKt (@zKs)))))))))))))))))))))))))))))))))))))))))))))))))))))))))))))))))))))))))))))))))))))))))))))))))))))))))))))))))))))))))))))))))))))))))))))))))))))))))))))))))))))))))))))))))))))))))))))))))))))))))))))))))))))))))))))))))))))))))))))))))))))))))))))))))))))))))))))))
def zkI [Globs]:=
 qI @zSN (qI @k_reg (qI @zJU (qI @zJV (qI @zKo (qI @zKp (qI @zDX (qI @zSc (qI @zKX (qI @zK1 (qI @zEk (qI @zJ0 (qI @zJ1 (qI @zDG (qI @zJ4 (qI @zDK (qI @zQ7 (qI @zJc (qI @zI9 (qI @zTS (qI @zTR (qI @y_mv (qI @zLr (qI @y_ld (qI @zTT (qI @zT5 (qI @zT1 (qI @y_fa (qI @zTY (qI @zTX (qI @y_st (qI @y_ia (qI @zT2 (qI @zTU (qI @zDx (qI @zLq (qI @zEv (qI @zRJ (qI @e_mv (qI @zJs (qI @e_ld (qI @zRs (qI @zRB (qI @e_len (qI @e_fa (qI @e_ia (qI @zRt (qI @zRI (qI @e_st (qI @zAd (qI @zDs (qI @zQ5 (qI @zIZ (qI @zzZ (qI @zwL (qI @zfa (qI @zco (qI @zdi (qI @zdg (qI @zHj (qI @zcc (qI @zc7 (qI @zc3 (qI @zEX (qI @zcn (qI @zdf (qI @zde (qI @zG8 (qI @zDS (qI @zJ8 (qI @zJ7 (qI @zQ3 (qI @zQ1 (qI @zCO (qI @zIX (qI @zCQ (qI @zcp (qI @zdm (qI @zdk (qI @zHk (qI @zbr (qI @zci (qI @zcf (qI @zzJ (qI @zqW (qI @zw2 (qI @T.zaM (qI @T.zcZ (qI @T.zyg (qI @fza (qI @zDb (qI @zC9 (qI @zC6 (qI @zC7 (qI @zC4 (qI @zDd (qI @zC3 (qI @zDk (qI @zDh (qI @zDf (qI @zDe (qI @zDi (qI @zRD (qI @e_un (qI @zRA (qI @zRp (qI @zRx (qI @zRu (qI @zRK (qI @zRz (qI @zSX (qI @zST (qI @zSV (qI @zSU (qI @zS2 (qI @zSW (qI @zga (qI @zeQ (qI @zfX (qI @zAp (qI @zDJ (qI @zJ3 (qI @zJQ (qI @zR1 (qI @zfx (qI @mo_n (qI @mo_c (qI @oo_n (qI @oo_s (qI @fr_n (qI @fr_c (qI @zRR (qI @zFK (qI @zRQ (qI @zkz (qI @f12f (qI @f11f (qI @f10f (qI @f9f (qI @f8f (qI @f12a (qI @f11a (qI @f10a (qI @f9a (qI @f12t (qI @f12s (qI @f11s (qI @f10s (qI @f9s (qI @zDH (qI @ld_p (qI @zSS (qI @pF_t (qI @pF_f (qI @pD_t (qI @pD_f (qI @zEo (qI @st_p (qI @zDT (qI @h8_i (qI @zJM (qI @h8_2 (qI @zJL (qI @h8_b (qI @h8_s (qI @zDF (qI @zJK (qI @zRX (qI @zJO (qI @zRc (qI @ce_i (qI @ce_b (qI @ce_s (qI @zDn (qI @zJf (qI @zfz (qI @zRd (qI @zJh (qI @zDm (qI @d_ag (qI @d_tu (qI @d_i (qI @d_b (qI @d_s (qI @zJp (qI @d_un (qI @d_sl (qI @dl_n (qI @dl_c (qI @ti_i (qI @fa_p (qI @fa_f (qI @ov (qI @fb_n (qI @fb_c (qI @fe_n (qI @fe_c (qI @zdo (qI @zdp (qI @zdn (qI @wo_n (qI @wo_c (qI @ro_n (qI @ro_c (qI @zKq (qI @zTI (qI @zTK (qI @zTE (qI @zjl (qI @zTL (qI @zTx (qI @zTB (qI @zTA (qI @zI6 (qI @zI0 (qI @fc_n (qI @fc_f (qI @zRO (qI @fw_n (qI @fw_c (qI @zDv (qI @zJt (qI @zv3 (qI @zFC (qI @rd_1 (qI @rd_2 (qI @rv_t (qI @rv_c (qI @zAa (qI @zJv (qI @zz7 (qI @zJu (qI @zS0 (qI @zRE (qI @zTJ (qI @oi_n (qI @oi_s (qI @zS7 (qI @zS9 (qI @zKM (qI @zSY (qI @zRC (qI @zSZ (qI @zRH (qI @zS1 (qI @e_mm (qI @o_mm (qI @zKx (qI @zKz (qI @zKD (qI @zS3 (qI @zTF (qI @v_mm (qI @fw_e (qI @ob_s (qI @ob_m (qI @ob_b (qI @cm_n (qI @cm_c (qI @fn_n (qI @fn_c (qI @zKA (qI @zS5 (qI @zKu (qI @zKw (qI @zKr (qI @zKC (qI @zKF (qI @zKt (@zKs)))))))))))))))))))))))))))))))))))))))))))))))))))))))))))))))))))))))))))))))))))))))))))))))))))))))))))))))))))))))))))))))))))))))))))))))))))))))))))))))))))))))))))))))))))))))))))))))))))))))))))))))))))))))))))))))))))))))))))))))))))))))))))))))))))))))))))))
end Go.Vse
end
section
namespace Go.Vse
variable [Globs]
section
variable {pr:Pr}{α σ ρ:Type}
def nxF(J:Nat->St->Prop)(R1:Nat->Ex->St->Prop)(hit:Prop)(n:Nat)(x:Ex)(s:St):Prop:=match x with
 | .nrm=>¬hit/\J (n+1) s
 |x=>hit/\R1 n x s
def zhz{J:Nat->St->Prop}{R1:Nat->Ex->St->Prop}{hit:Prop}{n:Nat}{s:St}:nxF J R1 hit n .nrm s=(¬hit/\J (n+1) s):=rfl
def zhA{J:Nat->St->Prop}{R1:Nat->Ex->St->Prop}{hit:Prop}{n:Nat}{s:St}:nxF J R1 hit n .ret s=(hit/\R1 n .ret s):=rfl
def zhy{J:Nat->St->Prop}{R1:Nat->Ex->St->Prop}{hit:Prop}{n i:Nat}{s:St}:nxF J R1 hit n (.exit i) s=(hit/\R1 n (.exit i) s):=rfl
def nxE(R:Ex->St->Prop)(x:Ex)(s:St):Prop:=match x with
 | .nrm=>False
 |x=>R x s
def zhu{R:Ex->St->Prop}{s:St}:nxE R .nrm s=False:=rfl
def zhv{R:Ex->St->Prop}{s:St}:nxE R .ret s=R .ret s:=rfl
def zht{R:Ex->St->Prop}{i:Nat}{s:St}:nxE R (.exit i) s=R (.exit i) s:=rfl
def zGN{c:C}{Q:Ex->St->Prop}(I:Nat->St->Prop)(hstep:∀k s,I k s->∃P:Ex->St->Prop,wpC pr c s P/\∀x s',P x s'->lp I k Q x s'):∀(k:Nat) (s:St),I k s->wpC pr (.loop c) s Q:=by
 intro k
 induction k using Nat.strongRecOn with
 |ind k ih=>
  intro s hI;obtain⟨P,hw,hP⟩ :=hstep k s hI;obtain⟨x,s1,hq,ev⟩ :=zgW c s _ hw;have hq:=hP x s1 hq;cases x with
  |nrm=>
   obtain⟨k',hlt,hI'⟩ :=hq;obtain⟨x2,s2,m,h2,e2⟩ :=ih k' hlt s1 hI';exact⟨x2,s2,m+1,h2,(ev.and e2).mono fun n ⟨p,q⟩ =>by simp only[iter,p];exact q⟩
  |exit i=>exact⟨.exit i,s1,1,hq,ev.mono fun n p=>by simp only[iter,p]⟩
  |ret=>exact⟨.ret,s1,1,hq,ev.mono fun n p=>by simp only[iter,p]⟩
theorem zlt{c:C}{Q:Ex->St->Prop}(l:List α)(p:α->Bool)(J:Nat->St->Prop)(R0:Ex->St->Prop)(R1:Nat->Ex->St->Prop)
  (hb:∀n s (h:n<l.length),J n s->wpC pr c s (nxF J R1 (p l[n]=true) n))
  (he:∀s,J l.length s->wpC pr c s (nxE R0))(s:St)(h0:J 0 s)
  (q0:(∀a∈l,p a=false)->∀x s,R0 x s->Q x s)(q1:∀n (h:n<l.length),p l[n]=true->(∀m (h':m<n),p (l[m]'(by omega))=false)->∀x s,R1 n x s->Q x s):WL pr c s Q:=by
 refine⟨zGN (fun k s=>∃n,n<=l.length/\k=l.length - n/\J n s/\∀m (h:m<n) (h':m<l.length),p l[m]=false) ?_ l.length s ⟨0,Z61 _,rfl,h0,fun m h=>by omega⟩⟩;rintro k s ⟨n,hn,rfl,hJ,hA⟩
 by_cases hlt:n<l.length
 .refine⟨_,hb n s hlt hJ,fun x s' hx=> ?_⟩;cases x with
  |nrm=>
   refine⟨l.length - (n+1),by omega,n+1,by omega,rfl,hx.2,fun m hm h'=> ?_⟩
   by_cases hmn:m<n
   .exact hA m hmn h'
   .have:m=n:=by omega
    subst this;simpa using hx.1
  |ret=>exact q1 n hlt hx.1 (fun m h=>hA m h (by omega)) _ _ hx.2
  |exit i=>exact q1 n hlt hx.1 (fun m h=>hA m h (by omega)) _ _ hx.2
 .have:n=l.length:=by omega
  subst this;have hq:=q0 fun a ha=>by
   obtain⟨m,hm,rfl⟩ :=Z101.1 ha;exact hA m hm hm
  refine⟨_,he s hJ,fun x s' hx=> ?_⟩;cases x with
  |nrm=>exact hx.elim
  |ret=>exact hq _ _ hx
  |exit i=>exact hq _ _ hx
omit [Globs]in
theorem zss:∀(l:List α) (p:α->Bool) (n:Nat) (h:n<l.length),p l[n]=true->(∀m (h':m<n),p (l[m]'(by omega))=false)->l.find? p=some l[n]
 |[],_,_,h,_,_=>by simp at h
 |a::l,p,0,h,h1,_=>by simp at h1;simp[h1]
 |a::l,p,n+1,h,h1,h2=>by
  have h0:p a=false:=h2 0 (by omega);simp only[List.find?_cons,h0];exact zss l p n (by simpa using h) (by simpa using h1) fun m hm=>by simpa using h2 (m+1) (by omega)
omit [Globs]in
def zvY{l:List α}{p:α->Bool}{n:Nat}(h:n<l.length)(h1:p l[n]=true):l.any p=true:=Z30.2 ⟨l[n],Z1 h,h1⟩
omit [Globs]in
def zzM{l:List α}{p:α->Bool}(h:∀a∈l,p a=false):l.any p=false:=by simpa using h
omit [Globs]in
def zZH{l:List α}{p:α->Bool}(h:∀a∈l,p a=false):l.find? p=none:=by simpa using h
def nxG(J:Nat->σ->St->Prop)(n:Nat)(b:σ)(x:Ex)(s:St):Prop:=match x with
 | .nrm=>J (n+1) b s
 |_=>False
def zhB{J:Nat->σ->St->Prop}{n:Nat}{b:σ}{s:St}:nxG J n b .nrm s=J (n+1) b s:=rfl
theorem foldW{c:C}{Q:Ex->St->Prop}(l:List α)(f:σ->α->σ)(a0:σ)(J:Nat->σ->St->Prop)(R:Ex->St->Prop)
  (hb:∀n a s (h:n<l.length),a=(l.take n).foldl f a0->J n a s->wpC pr c s (nxG J n (f a l[n])))
  (he:∀s,J l.length (l.foldl f a0) s->wpC pr c s (nxE R))(s:St)(h0:J 0 a0 s)(hq:∀x s,R x s->Q x s):WL pr c s Q:=by
 refine⟨zGN (fun k s=>∃n,n<=l.length/\k=l.length - n/\J n ((l.take n).foldl f a0) s) ?_ l.length s ⟨0,Z61 _,rfl,by simpa using h0⟩⟩;rintro k s ⟨n,hn,rfl,hJ⟩
 by_cases hlt:n<l.length
 .refine⟨_,hb n _ s hlt rfl hJ,fun x s' hx=> ?_⟩;cases x with
  |nrm=>
   refine⟨l.length - (n+1),by omega,n+1,by omega,rfl,?_⟩;rw[Z105,Z0 hlt,Z151,Z142];exact hx
  |ret=>exact hx.elim
  |exit i=>exact hx.elim
 .have:n=l.length:=by omega
  subst this;rw[Z7]at hJ;refine⟨_,he s hJ,fun x s' hx=> ?_⟩;cases x with
  |nrm=>exact hx.elim
  |ret=>exact hq _ _ hx
  |exit i=>exact hq _ _ hx
def nxI(J:Nat->St->Prop)(n:Nat)(x:Ex)(s:St):Prop:=match x with
 | .nrm=>J (n+1) s
 |_=>False
def zhK{J:Nat->St->Prop}{n:Nat}{s:St}:nxI J n .nrm s=J (n+1) s:=rfl
theorem zjr{c:C}{Q:Ex->St->Prop}(len:Nat)(J:Nat->St->Prop)(R:Ex->St->Prop)
  (hb:∀n s,n<len->J n s->wpC pr c s (nxI J n))(he:∀s,J len s->wpC pr c s (nxE R))(s:St)(h0:J 0 s)(hq:∀x s,R x s->Q x s):WL pr c s Q:=by
 refine⟨zGN (fun k s=>∃n,n<=len/\k=len - n/\J n s) ?_ len s ⟨0,Z61 _,rfl,h0⟩⟩;rintro k s ⟨n,hn,rfl,hJ⟩
 by_cases hlt:n<len
 .refine⟨_,hb n s hlt hJ,fun x s' hx=> ?_⟩;cases x with
  |nrm=>exact⟨len - (n+1),by omega,n+1,by omega,rfl,hx⟩
  |ret=>exact hx.elim
  |exit i=>exact hx.elim
 .have:n=len:=by omega
  subst this;refine⟨_,he s hJ,fun x s' hx=> ?_⟩;cases x with
  |nrm=>exact hx.elim
  |ret=>exact hq _ _ hx
  |exit i=>exact hq _ _ hx
def nxH(J:Nat->σ->St->Prop)(R:ρ->Ex->St->Prop)(n:Nat)(b:σ⊕ρ)(x:Ex)(s:St):Prop:=match x with
 | .nrm=>∃a,b= .inl a/\J (n+1) a s
 |x=>∃r,b= .inr r/\R r x s
def zhH{J:Nat->σ->St->Prop}{R:ρ->Ex->St->Prop}{n:Nat}{b:σ⊕ρ}{s:St}:nxH J R n b .nrm s=∃a,b= .inl a/\J (n+1) a s:=rfl
def zhJ{J:Nat->σ->St->Prop}{R:ρ->Ex->St->Prop}{n:Nat}{b:σ⊕ρ}{s:St}:nxH J R n b .ret s=∃r,b= .inr r/\R r .ret s:=rfl
def zhD{J:Nat->σ->St->Prop}{R:ρ->Ex->St->Prop}{n i:Nat}{b:σ⊕ρ}{s:St}:nxH J R n b (.exit i) s=∃r,b= .inr r/\R r (.exit i) s:=rfl
def nxS{β:Type}(J:Nat->St->Prop)(R:β->Ex->St->Prop)(n:Nat)(b:Option β)(x:Ex)(s:St):Prop:=match x with
 | .nrm=>b=none/\J (n+1) s
 |x=>∃r,b=some r/\R r x s
def zhN{β:Type}{J:Nat->St->Prop}{R:β->Ex->St->Prop}{n:Nat}{b:Option β}{s:St}:nxS J R n b .nrm s=(b=none/\J (n+1) s):=rfl
def zhO{β:Type}{J:Nat->St->Prop}{R:β->Ex->St->Prop}{n:Nat}{b:Option β}{s:St}:nxS J R n b .ret s=∃r,b=some r/\R r .ret s:=rfl
def zhL{β:Type}{J:Nat->St->Prop}{R:β->Ex->St->Prop}{n i:Nat}{b:Option β}{s:St}:nxS J R n b (.exit i) s=∃r,b=some r/\R r (.exit i) s:=rfl
end
omit [Globs]in
omit [Globs]in
omit [Globs]in
def rR [Globs]:=And.intro rulA (qI @zhK (qI @Function.comp_def.{1,1,1} (qI @Nat.blt_eq (qI @zhz (qI @zhA (qI @zhy (qI @zhu (qI @zhv (qI @zht (qI @zhB (qI @zhH (qI @zhJ (qI @zhD (qI @zhN (qI @zhO (qI @zhL (qI @apO.eq_1 (@apO.eq_2))))))))))))))))))
end Go.Vse
end
