/- Matching of conjunctive queries over relations of integers, as plain functions; what splitting a query by a constant does to its answers. -/
import Derived.Test.YtdlcolcidohbkaaGreatDoorVe
set_option linter.all false
section
namespace Go.Vse.Sm
abbrev Str:=List UInt8
inductive Trm where
 |var (s:Str)
 |cst (n:Int)
 deriving DecidableEq
structure Atm where
 r:Str
 neg:Bool
 ts:List Trm
structure Cm where
 op:Int
 l:Trm
 r:Trm
structure CQ where
 as:List Atm
 cs:List Cm
 ne:Bool:=false
 na:Bool:=false
abbrev Env:=List (Str×Int)
abbrev Rels:=List (Str×List (List Int))
def lk:Env->Str->Option Int
 |[],_=>none
 |(n,v)::e,s=>if n=s then some v else lk e s
def gtm(e:Env):Trm->Option Int
 | .cst n=>some n
 | .var s=>lk e s
def bnd(e:Env)(t:Trm)(v:Int):Env×Bool:=
 match gtm e t with
 |some w=>(e,decide (v=w))
 |none=>match t with
  | .var s=>(e++[(s,v)],true)
  | .cst _=>(e,true)
def zGA:Env->List Trm->List Int->Env×Bool
 |e,t::ts,v::vs=>if(bnd e t v).2 then zGA (bnd e t v).1 ts vs else bnd e t v
 |e,_,_=>(e,true)
def fits(e:Env)(a:Atm)(vs:List Int):Env×Bool:=
 if a.ts.length=vs.length then zGA e a.ts vs else(e,false)
def zn0:Rels->Str->List (List Int)
 |[],_=>[]
 |(n,t)::l,s=>if n=s then t else zn0 l s
def zg4(op a b:Int):Bool:=
 if op=1 then decide (a=b)else if op=2 then decide (a≠b)else if op=3 then decide (a<b)else decide (op=4)&&decide (a<=b)
inductive Asc:List Int->Prop
 |nil:Asc []
 |cons {v:Int} {l:List Int}:(∀w∈l,v<w)->Asc l->Asc (v::l)
def sTm(x:Str)(k:Int):Trm->Trm
 | .var s=>if s=x then .cst k else .var s
 | .cst n=> .cst n
def sAt(x:Str)(k:Int)(a:Atm):Atm:={r:=a.r,neg:=a.neg,ts:=a.ts.map (sTm x k)}
def sCm(x:Str)(k:Int)(m:Cm):Cm:={op:=m.op,l:=sTm x k m.l,r:=sTm x k m.r}
def sub(c:CQ)(x:Str)(k:Int):CQ:={as:=c.as.map (sAt x k),cs:=c.cs.map (sCm x k)}
def del(x:Str):Env->Env
 |[]=>[]
 |(n,v)::e=>if n=x then del x e else(n,v)::del x e
end Go.Vse.Sm
end
section
namespace Go.Vse
variable [Globs]
section
variable {pr:Pr}{s:St}{Q:St->Prop}{dst:Option Nat}{L:List (List Nat×List Nat)}{mask:Nat}
theorem e_ext{l:List (Op×Nat)}{x:A}{i:Nat}:wpE pr L ((⟨dst,none,.ext x i⟩,mask)::l) s Q↔oB (((O.ext x i).res (zae s.tm)).bind (opv s.h.get s.c)) fun r=>zas r.c r.wr=true/\
    zcY mask L r.rd (r.wr.map (·.1))/\wpE pr (L++[(r.rd,r.wr.map (·.1))]) l (s.ae dst r.d r.wr r.c) Q:=zcE rfl
theorem e_un{l:List (Op×Nat)}{x:A}{op:UnOp}:wpE pr L ((⟨dst,none,.un op x⟩,mask)::l) s Q↔oB (((O.un op x).res (zae s.tm)).bind (opv s.h.get s.c)) fun r=>zas r.c r.wr=true/\
    zcY mask L r.rd (r.wr.map (·.1))/\wpE pr (L++[(r.rd,r.wr.map (·.1))]) l (s.ae dst r.d r.wr r.c) Q:=zcE rfl
theorem e_eqa{l:List (Op×Nat)}{ks:List Nat}{ne:Bool}{x y:A}:wpE pr L ((⟨dst,none,.eqa ks ne x y⟩,mask)::l) s Q↔oB (((O.eqa ks ne x y).res (zae s.tm)).bind (opv s.h.get s.c)) fun r=>zas r.c r.wr=true/\
    zcY mask L r.rd (r.wr.map (·.1))/\wpE pr (L++[(r.rd,r.wr.map (·.1))]) l (s.ae dst r.d r.wr r.c) Q:=zcE rfl
theorem e_app{l:List (Op×Nat)}{es byt:Nat}{x y:A}:wpE pr L ((⟨dst,none,.app es byt x y⟩,mask)::l) s Q↔oB (((O.app es byt x y).res (zae s.tm)).bind (opv s.h.get s.c)) fun r=>zas r.c r.wr=true/\
    zcY mask L r.rd (r.wr.map (·.1))/\wpE pr (L++[(r.rd,r.wr.map (·.1))]) l (s.ae dst r.d r.wr r.c) Q:=zcE rfl
theorem e_bsl{l:List (Op×Nat)}{es m:Nat}{z:List F}{ps:List (Nat×A)}:wpE pr L ((⟨dst,none,.bsl es z m ps⟩,mask)::l) s Q↔oB (((O.bsl es z m ps).res (zae s.tm)).bind (opv s.h.get s.c)) fun r=>zas r.c r.wr=true/\
    zcY mask L r.rd (r.wr.map (·.1))/\wpE pr (L++[(r.rd,r.wr.map (·.1))]) l (s.ae dst r.d r.wr r.c) Q:=zcE rfl
theorem e_bsf{l:List (Op×Nat)}{es m:Nat}{z:List F}{ps:List (Nat×A)}:wpE pr L ((⟨dst,none,.bsf es z m ps⟩,mask)::l) s Q↔oB (((O.bsf es z m ps).res (zae s.tm)).bind (opv s.h.get s.c)) fun r=>zas r.c r.wr=true/\
    zcY mask L r.rd (r.wr.map (·.1))/\wpE pr (L++[(r.rd,r.wr.map (·.1))]) l (s.ae dst r.d r.wr r.c) Q:=zcE rfl
theorem e_slc{l:List (Op×Nat)}{es:Nat}{x:A}{lo hi mx:Option A}:wpE pr L ((⟨dst,none,.slc es x lo hi mx⟩,mask)::l) s Q↔oB (((O.slc es x lo hi mx).res (zae s.tm)).bind (opv s.h.get s.c)) fun r=>zas r.c r.wr=true/\
    zcY mask L r.rd (r.wr.map (·.1))/\wpE pr (L++[(r.rd,r.wr.map (·.1))]) l (s.ae dst r.d r.wr r.c) Q:=zcE rfl
theorem e_cvi{l:List (Op×Nat)}{k:IntKind}{x:A}:wpE pr L ((⟨dst,none,.cvi k x⟩,mask)::l) s Q↔oB (((O.cvi k x).res (zae s.tm)).bind (opv s.h.get s.c)) fun r=>zas r.c r.wr=true/\
    zcY mask L r.rd (r.wr.map (·.1))/\wpE pr (L++[(r.rd,r.wr.map (·.1))]) l (s.ae dst r.d r.wr r.c) Q:=zcE rfl
def o_eqa{l:List Op}{ks:List Nat}{ne:Bool}{x y:A}:wpO pr (⟨dst,none,.eqa ks ne x y⟩ ::l) s Q↔oB (((O.eqa ks ne x y).res (zae s.tm)).bind (opv s.h.get s.c)) fun r=>zas r.c r.wr=true/\wpO pr l (s.aft dst r.d r.wr r.c) Q:=zdK rfl
def o_app{l:List Op}{es byt:Nat}{x y:A}:wpO pr (⟨dst,none,.app es byt x y⟩ ::l) s Q↔oB (((O.app es byt x y).res (zae s.tm)).bind (opv s.h.get s.c)) fun r=>zas r.c r.wr=true/\wpO pr l (s.aft dst r.d r.wr r.c) Q:=zdK rfl
def o_bsl{l:List Op}{es m:Nat}{z:List F}{ps:List (Nat×A)}:wpO pr (⟨dst,none,.bsl es z m ps⟩ ::l) s Q↔oB (((O.bsl es z m ps).res (zae s.tm)).bind (opv s.h.get s.c)) fun r=>zas r.c r.wr=true/\wpO pr l (s.aft dst r.d r.wr r.c) Q:=zdK rfl
def o_bsf{l:List Op}{es m:Nat}{z:List F}{ps:List (Nat×A)}:wpO pr (⟨dst,none,.bsf es z m ps⟩ ::l) s Q↔oB (((O.bsf es z m ps).res (zae s.tm)).bind (opv s.h.get s.c)) fun r=>zas r.c r.wr=true/\wpO pr l (s.aft dst r.d r.wr r.c) Q:=zdK rfl
def o_slc{l:List Op}{es:Nat}{x:A}{lo hi mx:Option A}:wpO pr (⟨dst,none,.slc es x lo hi mx⟩ ::l) s Q↔oB (((O.slc es x lo hi mx).res (zae s.tm)).bind (opv s.h.get s.c)) fun r=>zas r.c r.wr=true/\wpO pr l (s.aft dst r.d r.wr r.c) Q:=zdK rfl
def o_cvi{l:List Op}{k:IntKind}{x:A}:wpO pr (⟨dst,none,.cvi k x⟩ ::l) s Q↔oB (((O.cvi k x).res (zae s.tm)).bind (opv s.h.get s.c)) fun r=>zas r.c r.wr=true/\wpO pr l (s.aft dst r.d r.wr r.c) Q:=zdK rfl
theorem zH3{c:C}{Q:Ex->St->Prop}(h:wpC pr c s fun x s'=>match x with
  | .nrm=>wpC pr (.loop c) s' Q
  |x=>Q x s'):wpC pr (.loop c) s Q:=by
 obtain⟨x,s1,hq,ev⟩ :=ze1 c s _ h;cases x with
 |nrm=>
  obtain⟨x2,s2,m,h2,e2⟩ :=hq;exact⟨x2,s2,m+1,h2,(ev.and e2).mono fun n ⟨p,q⟩ =>by simp only[iter,p];exact q⟩
 |exit i=>exact⟨.exit i,s1,1,hq,ev.mono fun n p=>by simp only[iter,p]⟩
 |ret=>exact⟨.ret,s1,1,hq,ev.mono fun n p=>by simp only[iter,p]⟩
end
def slc(es:Nat)(l:List (List F)):F:=match l with
 |[]=> .nils
 |_=> .sl es l
def zEr:zci (.f .nils)=some 0:=rfl
def zJi(es:Nat)(els:List (List F)):zci (.f (.sl es els))=some els.length:=rfl
def zPp(id off len es lim:Nat)(ex:Bool):zci (.sl id off len es lim ex)=some len:=rfl
def zOY(es es':Nat)(els:List (List F))(i:Nat):iaB es (.f (.sl es' els)) i=if es=es' then(els[i]?).map D.fptr else none:=rfl
def ia_sl(es id off m es' lim:Nat)(ex:Bool)(i:Nat):iaB es (.sl id off m es' lim ex) i=if es=es'/\i<m then some (.ptr id es (off+i) 0)else none:=rfl
def zeh(es:Nat)(l:List (List F)):(slc es l).d= .f (slc es l):=by cases l<;>rfl
def zd0(es:Nat)(l:List (List F)):zci (.f (slc es l))=some l.length:=by cases l<;>rfl
def zeY(es:Nat)(l:List (List F))(n:Nat):iaB es (.f (slc es l)) n=l[n]?.map D.fptr:=by cases l<;>simp[slc,iaB]
def zbr(es:Nat):slc es []= .nils:=rfl
def zaV(es:Nat)(x:List F)(l:List (List F)):slc es (x::l)= .sl es (x::l):=rfl
def zk4{es:Nat}{l:List (List F)}(h:l≠[]):F.sl es l=slc es l:=by
 cases l with
 |nil=>exact absurd rfl h
 |cons=>rfl
def zHY(a b:List UInt8):zaK .lss (.s a) (.s b)=some (.b (Go.Op.bytesLess a b)):=rfl
def zHX(a b:List UInt8):zaK .gtr (.s a) (.s b)=some (.b (!(Go.Op.bytesLess a b||a==b))):=rfl
def zHW(a b:List UInt8):zaK .eql (.s a) (.s b)=some (.b (a==b)):=rfl
def zHZ(a b:List UInt8):zaK .neq (.s a) (.s b)=some (.b (!(a==b))):=rfl
theorem ztO{es byt c id ro:Nat}{h:Nat->Option Ob}{els new:List (List D)}{rd:List Nat}(ho:h id=some (.arr es ro els))(h0:new.length≠0)(h1:new.length<=zav)(h2:new.length*byt<=zav):
  za3 es byt h c (.sl id 0 0 es 0 true) new rd=some {d:= .sl c 0 new.length es new.length false,rd:=id::rd,wr:=[(c,some (.arr es 0 new))],c:=c+1}:=by
 unfold za3;rw[Z49 h0];have hn:¬(new=[]):=fun e=>h0 (by simp[e])
 simp[ho,hn,h1,h2]
theorem zDv{es byt c:Nat}{h:Nat->Option Ob}{id off len lim:Nat}{ex:Bool}{rd:List Nat}:
  za3 es byt h c (.sl id off len es lim ex) [] rd=some {d:= .sl id off len es lim ex,rd,c}:=by
 unfold za3;simp
def zHu{es byt c id off len es' lim:Nat}{ex:Bool}{h:Nat->Option Ob}{new:List (List D)}{rd:List Nat}:za3 es byt h c (.sl id off len es' lim ex) new rd=if new.length=0 then some {d:= .sl id off len es' lim ex,rd,c} else
    match h id with
    | some (.arr es'' ro els)=>if es=es'/\es'=es''/\off+len<=els.length then
        if off+len+new.length<=lim then
          if off+len+new.length<=els.length/\ro<=off+len/\ze5 els (els.take (off+len)++new++els.drop (off+len+new.length))=true then
            some { d:= .sl id off (len+new.length) es lim ex,rd:=id::rd,
                   wr:=[(id,some (.arr es ro (els.take (off+len)++new++els.drop (off+len+new.length))))],c}
          else none
        else if len+new.length<=zav/\(len+new.length)*byt<=zav then
          if ex then
            some { d:= .sl c 0 (len+new.length) es (len+new.length) false,rd:=id::rd,
                   wr:=[(c,some (.arr es 0 ((els.drop off).take len++new)))],c:=c+1}
          else if off=0/\len=els.length/\ro<=len then
            some {d:= .sl c 0 (off+len+new.length) es (off+len+new.length) false,rd:=id::rd,wr:=[(id,none),(c,some (.arr es ro (els++new)))],c:=c+1}
          else if off=0/\ro<=len/\els.length<=off+len+new.length/\ze5 els (els.take len++new)=true then
            some {d:= .sl c 0 (off+len+new.length) es (off+len+new.length) false,rd:=id::rd,wr:=[(id,none),(c,some (.arr es ro (els.take len++new)))],c:=c+1}
          else none
        else none
      else none
    |_=>none:=rfl
def zcL{n:Nat}(h:n<=1000000000):(n<=zav)=True:=by
 have:n<=140737488355328:=by omega
 simpa [zav]using this
def leF{a b:Nat}(h:b<a):(a<=b)=False:=by simp;exact h
def zIy(f:D->Option (F×List Nat)):zaU f []=some ([],[]):=rfl
theorem zph(f:D->Option (F×List Nat))(x:List D)(l:List (List D)):zaU f (x::l)=match zaT f x with
  |none=>none
  |some (y,r)=>match zaU f l with
   |none=>none
   |some (m,r')=>some (y::m,r++r'):=rfl
theorem zwT(f:D->Option (F×List Nat)):∀a b:List (List D),zaU f (a++b)=match zaU f a with
  |none=>none
  |some (y,r)=>match zaU f b with
   |none=>none
   |some (m,r')=>some (y++m,r++r')
 |[],b=>by
  simp only[Z28,zIy];cases zaU f b with
  |none=>rfl
  |some p=>simp
 |x::a,b=>by
  simp only[Z29,zph,zwT f a b];cases zaT f x with
  |none=>rfl
  |some p=>
   cases zaU f a with
   |none=>rfl
   |some q=>
    cases zaU f b with
    |none=>rfl
    |some w=>simp
theorem zGC{α:Type}(h:Nat->Option Ob)(k:Nat)(g:α->F):∀l:List α,zaU (frz h (k+1)) (l.map fun a=>[D.f (g a)])=some (l.map fun a=>[g a],[])
 |[]=>rfl
 |a::l=>by
  have e:zaT (frz h (k+1)) [D.f (g a)]=some ([g a],[]):=rfl;simp only[Z10,zph,zGC h k g l,e];rfl
theorem zmC(h:Nat->Option Ob)(k:Nat):∀l:List (List F),zaU (frz h (k+1)) (l.map fun a=>a.map D.f)=some (l,[])
 |[]=>rfl
 |a::l=>by
  have e:∀x:List F,zaT (frz h (k+1)) (x.map D.f)=some (x,[]):=by
   intro x
   induction x with
   |nil=>rfl
   |cons y x ih=>simp only[Z10,zaT,ih];rfl
  simp only[Z10,zph,zmC h k l,e];rfl
namespace Sm
def vF(n:Int):List F:=[.i .i64 1,.i .i64 n,.s []]
def tmF:Trm->List F
 | .var s=>[.s s,.i .i64 0,.i .i64 0,.s []]
 | .cst n=>[.s [],.i .i64 1,.i .i64 n,.s []]
def atF(a:Atm):List F:=[.s a.r,.b a.neg,slc 4 (a.ts.map tmF)]
def cmF(k:Cm):List F:= .i .i64 k.op::(tmF k.l++tmF k.r)
def csF(c:CQ):F:=if c.ne=true/\c.cs=[]then .sl 9 []else slc 9 (c.cs.map cmF)
def asF(c:CQ):F:=if c.na=true/\c.as=[]then .sl 3 []else slc 3 (c.as.map atF)
def cqF(c:CQ):List F:=[asF c,csF c]
def valsF(l:List Int):F:=slc 3 (l.map vF)
def zah(l:List Str):F:=slc 1 (l.map fun s=>[.s s])
structure Rl where
 nm:Str
 ce:Bool
 co:F
 tu:List (List Int×List F)
def tuF(t:List Int×List F):List F:=valsF t.1::t.2
def rlF(r:Rl):List F:=[.s r.nm,.b r.ce,r.co,slc 4 (r.tu.map tuF)]
def ziD(l:List Rl):Rels:=l.map fun r=>(r.nm,r.tu.map (·.1))
def zDr:Trm->Prop
 | .var s=>s≠[]
 | .cst _=>True
end Sm
end Go.Vse
end
section
namespace Go.Vse.Sm
def teS(σ:Str->Int):Trm->Int
 | .var s=>σ s
 | .cst n=>n
def satS(L:List Rl)(c:CQ)(σ:Str->Int):Prop:=∀a∈c.as,a.ts.map (teS σ)∈zn0 (ziD L) a.r
def rlt:List Int->List Int->Bool
 |[],_::_=>true
 |_,[]=>false
 |a::u,b::v=>decide (a<b)||(decide (a=b)&&rlt u v)
def zdz(R:List (List Int)):F:=slc 1 (R.map fun v=>[F.sl 3 (v.map vF)])
structure AnsR(L:List Rl)(hd:List Str)(cs:List CQ)(R:List (List Int)):Prop where
 s:R.Pairwise fun u v=>rlt u v=true
 m:∀v,v∈R↔∃c∈cs,∃σ,satS L c σ/\v=hd.map σ
def qryF(hd:List Str)(cs:List CQ):F:= .ag [zah hd,slc 2 (cs.map cqF)]
def zFn(L:List Rl):F:=slc 4 (L.map rlF)
theorem zoE:∀u,rlt u u=false
 |[]=>rfl
 |a::u=>by simp[rlt,zoE u]
theorem zCB:∀{u v w},rlt u v=true->rlt v w=true->rlt u w=true
 |[],[],_,h,_=>by simp[rlt]at h
 |[],_::_,[],_,h=>by simp[rlt]at h
 |[],_::_,_::_,_,_=>rfl
 |_::_,[],_,h,_=>by simp[rlt]at h
 |_::_,_::_,[],_,h=>by simp[rlt]at h
 |a::u,b::v,c::w,h1,h2=>by
  simp only[rlt,Z115,Z86,Z14]at h1 h2|-;rcases h1 with h1|⟨rfl,h1⟩
  .rcases h2 with h2|⟨rfl,h2⟩
   .exact .inl (by omega)
   .exact .inl h1
  .rcases h2 with h2|⟨rfl,h2⟩
   .exact .inl h2
   .exact .inr ⟨rfl,zCB h1 h2⟩
theorem zCx:∀{a b:List (List Int)},a.Pairwise (fun u v=>rlt u v=true)->b.Pairwise (fun u v=>rlt u v=true)->(∀v,v∈a↔v∈b)->a=b
 |[],[],_,_,_=>rfl
 |[],y::_,_,_,h=>by have:=(h y).2 (by simp);simp at this
 |x::_,[],_,_,h=>by have:=(h x).1 (by simp);simp at this
 |x::a,y::b,h1,h2,h=>by
  obtain⟨p1,p2⟩ :=Z56.1 h1;obtain⟨q1,q2⟩ :=Z56.1 h2;have exy:x=y:=by
   rcases Z5.1 ((h x).1 (by simp))with e|e
   .exact e
   .rcases Z5.1 ((h y).2 (by simp))with e'|e'
    .exact e'.symm
    .have:=zCB (p1 y e') (q1 x e);rw[zoE]at this;cases this
  subst exy;rw[zCx p2 q2 fun v=> ?_];constructor
  .intro hv;rcases Z5.1 ((h v).1 (Z40 _ hv))with rfl|e
   .have:=p1 v hv;rw[zoE]at this;cases this
   .exact e
  .intro hv;rcases Z5.1 ((h v).2 (Z40 _ hv))with rfl|e
   .have:=q1 v hv;rw[zoE]at this;cases this
   .exact e
def zhH{n:Nat}{l m:List (List F)}(h:slc n l=slc n m):l=m:=by
 cases l<;>cases m<;>simp[slc]at h|-;exact h
theorem map_inj{α β:Type}{f:α->β}(hf:∀a b,f a=f b->a=b):∀{l m:List α},l.map f=m.map f->l=m
 |[],[],_=>rfl
 |[],_::_,h=>by simp at h
 |_::_,[],h=>by simp at h
 |a::l,b::m,h=>by
  simp only[Z10,List.cons.injEq]at h;rw[hf a b h.1,map_inj hf h.2]
def zDk{u v:List Int}(h:valsF u=valsF v):u=v:=map_inj (fun a b e=>by simpa [vF]using e) (zhH h)
def zKO(a b:Trm)(h:tmF a=tmF b):a=b:=by
 cases a<;>cases b<;>simp[tmF]at h|- <;>exact h
def zHA(a b:Atm)(h:atF a=atF b):a=b:=by
 obtain⟨r,n,t⟩ :=a;obtain⟨r',n',t'⟩ :=b;simp only[atF,List.cons.injEq,F.s.injEq,F.b.injEq,and_true]at h;obtain⟨rfl,rfl,h⟩ :=h;rw[map_inj zKO (zhH h)]
def zHv{a b:CQ}(h:asF a=asF b):a.as=b.as:=by
 unfold asF at h;split at h
 .rename_i h1;split at h
  .rename_i h2;rw[h1.2,h2.2]
  .cases hb:b.as with
   |nil=>exact h1.2
   |cons x l=>rw[hb]at h;simp[slc]at h
 .split at h
  .rename_i h2;cases ha:a.as with
   |nil=>rw[h2.2]
   |cons x l=>rw[ha]at h;simp[slc]at h
  .exact map_inj zHA (zhH h)
def zFf{L M:List Rl}(h:L.map rlF=M.map rlF):ziD L=ziD M:=by
  induction L generalizing M with
  |nil=>cases M<;>simp_all [ziD]
  | cons a L ih=>
    cases M with
    |nil=>simp at h
    | cons b M=>
      simp only[Z10,List.cons.injEq]at h;obtain⟨h1,h2⟩ :=h;simp only[rlF,List.cons.injEq,F.s.injEq,F.b.injEq,and_true]at h1;obtain⟨e1,_,_,e4⟩ :=h1;have e5:a.tu.map (·.1)=b.tu.map (·.1):=by
        have key:∀{l m:List (List Int×List F)},l.map tuF=m.map tuF->l.map (·.1)=m.map (·.1):=by
          intro l
          induction l with
          |nil=>intro m h;cases m<;>simp_all
          | cons x l ih=>
            intro m h;cases m with
            |nil=>simp at h
            | cons y m=>
              simp only[Z10,List.cons.injEq,tuF]at h;simp only[Z10,zDk h.1.1,ih h.2]
        exact key (zhH e4)
      have:=ih h2;simp only[ziD,Z10]at this|-;rw[this,e1,e5]
end Go.Vse.Sm
end
section
namespace Go.Vse.Sm
def zlC(L:List Rl)(c:CQ)(σ:Str->Int):Prop:=(∀a∈c.as,a.ts.map (teS σ)∈zn0 (ziD L) a.r↔a.neg=false)/\∀k∈c.cs,zg4 k.op (teS σ k.l) (teS σ k.r)=true
structure zxZ(L:List Rl)(hd:List Str)(cs:List CQ)(R:List (List Int)):Prop where
 s:R.Pairwise fun u v=>rlt u v=true
 m:∀v,v∈R↔∃c∈cs,∃σ,zlC L c σ/\v=hd.map σ
def SpG(args:List D)(h:T Ob)(n:Nat)(q:CR):Prop:=∃L hd cs R,args=F.dL [zFn L,qryF hd cs]/\zxZ L hd cs R/\h= .e/\n=0/\q=⟨.f (zdz R),.e,0,0,0⟩
def zIe(a b:Cm)(h:cmF a=cmF b):a=b:=by
 obtain⟨o,l,r⟩ :=a;obtain⟨o',l',r'⟩ :=b;cases l<;>cases r<;>cases l'<;>cases r'<;>simp[cmF,tmF]at h|- <;>simp[h]
def zIk{a b:CQ}(h:csF a=csF b):a.cs=b.cs:=by
 unfold csF at h;split at h
 .rename_i h1;split at h
  .rename_i h2;rw[h1.2,h2.2]
  .cases hb:b.cs with
   |nil=>exact h1.2
   |cons x l=>rw[hb]at h;simp[slc]at h
 .split at h
  .rename_i h2;cases ha:a.cs with
   |nil=>rw[h2.2]
   |cons x l=>rw[ha]at h;simp[slc]at h
  .exact map_inj zIe (zhH h)
theorem zBH:∀{l m:List CQ},l.map cqF=m.map cqF->l.map (fun c=>(c.as,c.cs))=m.map fun c=>(c.as,c.cs)
 |[],[],_=>rfl
 |[],_::_,h=>by simp at h
 |_::_,[],h=>by simp at h
 |a::l,b::m,h=>by
  simp only[Z10,List.cons.injEq]at h;have h1:=h.1;simp only[cqF,List.cons.injEq,and_true]at h1;simp only[Z10,zHv h1.1,zIk h1.2,zBH h.2]
def zHr{L L':List Rl}{hd hd':List Str}{cs cs':List CQ}{R R':List (List Int)}(h1:zFn L=zFn L')(h2:zah hd=zah hd')(h3:slc 2 (cs.map cqF)=slc 2 (cs'.map cqF))(a:zxZ L hd cs R)(b:zxZ L' hd' cs' R'):R=R':=by
 have e1:=zFf (zhH h1);have e2:hd=hd':=map_inj (fun a b e=>by simpa using e) (zhH h2);have e3:=zBH (zhH h3);subst e2;have key:∀{L L':List Rl} {cs cs':List CQ} (v:List Int),ziD L=ziD L'->cs.map (fun c=>(c.as,c.cs))=cs'.map (fun c=>(c.as,c.cs))->(∃c∈cs,∃σ,zlC L c σ/\v=hd.map σ)->∃c∈cs',∃σ,zlC L' c σ/\v=hd.map σ:=by
  rintro L L' cs cs' v e1 e3 ⟨c,hc,σ,hs,hv⟩;have:(c.as,c.cs)∈cs.map fun c=>(c.as,c.cs):=Z12.2 ⟨c,hc,rfl⟩
  rw[e3]at this;obtain⟨c',hc',e⟩ :=Z12.1 this;simp only[Z66]at e;exact⟨c',hc',σ,⟨fun a ha=>by rw[<-e1];exact hs.1 a (e.1▸ha),fun k hk=>hs.2 k (e.2▸hk)⟩,hv⟩
 refine zCx a.s b.s fun v=>(a.m v).trans (Iff.trans ⟨key v e1 e3,key v e1.symm e3.symm⟩ (b.m v).symm)
end Go.Vse.Sm
end
section
namespace Go.Vse
variable [Globs]
section
variable {pr:Pr}
def sq(pr:Pr)(b:C)(Q:Ex->St->Prop)(x:Ex)(s:St):Prop:=match x with
 | .nrm=>wpC pr b s Q
 |x=>Q x s
def kb(id:Nat)(Q:Ex->St->Prop)(x:Ex)(s:St):Prop:=match x with
 | .exit i=>if i=id then Q .nrm s else Q (.exit i) s
 |x=>Q x s
@[congr] theorem sq_congr{b:C}{Q:Ex->St->Prop}{x:Ex}{s:St}:sq pr b Q x s=sq pr b Q x s:=rfl
@[congr] theorem kb_congr{id:Nat}{Q:Ex->St->Prop}{x:Ex}{s:St}:kb id Q x s=kb id Q x s:=rfl
def k_seq{a b:C}{s:St}{Q:Ex->St->Prop}:wpC pr (.seq a b) s Q=wpC pr a s (sq pr b Q):=rfl
def k_blk{id:Nat}{c:C}{s:St}{Q:Ex->St->Prop}:wpC pr (.blk id c) s Q=wpC pr c s (kb id Q):=rfl
def zQ0{b:C}{Q:Ex->St->Prop}{s:St}:sq pr b Q .nrm s=wpC pr b s Q:=rfl
def zQ1{b:C}{Q:Ex->St->Prop}{s:St}:sq pr b Q .ret s=Q .ret s:=rfl
def zKH{b:C}{Q:Ex->St->Prop}{s:St}{i:Nat}:sq pr b Q (.exit i) s=Q (.exit i) s:=rfl
def zPh{id:Nat}{Q:Ex->St->Prop}{s:St}:kb id Q .nrm s=Q .nrm s:=rfl
def zPj{id:Nat}{Q:Ex->St->Prop}{s:St}:kb id Q .ret s=Q .ret s:=rfl
def zJf{id:Nat}{Q:Ex->St->Prop}{s:St}{i:Nat}:kb id Q (.exit i) s=if i=id then Q .nrm s else Q (.exit i) s:=rfl
def k_reg{ops:List Op}{s:St}{Q:Ex->St->Prop}:wpC pr (.reg ops) s Q=wpO pr ops s (Q .nrm):=rfl
def aB(pr:Pr)(f:Nat)(fs:List F)(k:F->Prop):Prop:=∃x,Ans pr f fs x/\k x
@[congr] theorem aB_congr{f:Nat}{fs fs':List F}{k:F->Prop}(h:fs=fs'):aB pr f fs k=aB pr f fs' k:=by rw[h]
def Ans.uniq{f:Nat}{fs:List F}{x y:F}(h1:Ans pr f fs x)(h2:Ans pr f fs y):x=y:=by
 obtain⟨q,rd,⟨n,hn⟩,e1⟩ :=h1;obtain⟨q',rd',⟨m,hm⟩,e2⟩ :=h2;have a:zbW pr (Nat.max n m) f (F.dL fs) .e 0=some q:=hn (Nat.max n m) (Z135 ..);have b:zbW pr (Nat.max n m) f (F.dL fs) .e 0=some q':=hm (Nat.max n m) (Z78 ..);rw[a]at b;cases b;rw[e1]at e2;cases e2;rfl
def zad{f:Nat}{fs:List F}{y:F}(h:Ans pr f fs y){k:F->Prop}:aB pr f fs k↔k y:=
 ⟨fun⟨x,hx,hk⟩ =>by rw[Ans.uniq h hx];exact hk,fun hk=>⟨y,h,hk⟩⟩
def lp(I:Nat->St->Prop)(k:Nat)(Q:Ex->St->Prop)(x:Ex)(s:St):Prop:=match x with
 | .nrm=>∃k',k'<k/\I k' s
 |x=>Q x s
@[congr] theorem lp_congr{I:Nat->St->Prop}{k:Nat}{Q:Ex->St->Prop}{x:Ex}{s:St}:lp I k Q x s=lp I k Q x s:=rfl
def zdq{I:Nat->St->Prop}{k:Nat}{Q:Ex->St->Prop}{s:St}:lp I k Q .nrm s=∃k',k'<k/\I k' s:=rfl
def zPq{I:Nat->St->Prop}{k:Nat}{Q:Ex->St->Prop}{s:St}:lp I k Q .ret s=Q .ret s:=rfl
def zJl{I:Nat->St->Prop}{k:Nat}{Q:Ex->St->Prop}{s:St}{i:Nat}:lp I k Q (.exit i) s=Q (.exit i) s:=rfl
end
end Go.Vse
end
section
namespace Go.Vse
variable [Globs]
section
variable {pr:Pr}
def loopQ{c:C}{Q:Ex->St->Prop}(I:Nat->St->Prop)(R:Ex->St->Prop)(hstep:∀k s,I k s->wpC pr c s (lp I k R))(k:Nat)(s:St)(h:I k s)(hQ:∀x s,R x s->Q x s):wpC pr (.loop c) s Q:=by
 have hl:wpC pr (.loop c) s R:=zRC I hstep k s h;unfold wpC at hl|-;obtain⟨x,s',m,hr,e⟩ :=hl;exact⟨x,s',m,hQ x s' hr,e⟩
def zMI{es es':Nat}{h:Nat->Option Ob}{els:List (List F)}:elemsOf es h (.f (.sl es' els))=if es=es' then some (els.map (·.map D.f),[])else none:=rfl
def zIp{es:Nat}{h:Nat->Option Ob}:elemsOf es h (.f .nils)=some ([],[]):=rfl
end
end Go.Vse
end
section
namespace Go.Vse
def om{α β:Type}(o:Option α)(k:α->Option β):Option β:=o.bind k
@[congr] theorem om_congr{α β:Type}{o o':Option α}{k:α->Option β}(h:o=o'):om o k=om o' k:=by rw[h]
def zeu{α β:Type}(a:α)(k:α->Option β):om (some a) k=k a:=rfl
def mo_n{α β:Type}(f:α->Option β):zat f []=some []:=rfl
def mo_c{α β:Type}(f:α->Option β)(x:α)(l:List α):zat f (x::l)=om (f x) fun y=>om (zat f l) fun m=>some (y::m):=by
 simp only[zat,om];cases f x with
 |none=>rfl
 |some y=>cases zat f l<;>rfl
def oo_n{α β:Type}(f:α->Option β):zdp f none=some none:=rfl
def oo_s{α β:Type}(f:α->Option β)(x:α):zdp f (some x)=om (f x) fun y=>some (some y):=by
 simp only[zdp,om];cases f x<;>rfl
def fr_n(f:D->Option (F×List Nat)):zaT f []=some ([],[]):=rfl
def fr_c(f:D->Option (F×List Nat))(d:D)(l:List D):zaT f (d::l)=om (f d) fun p=>om (zaT f l) fun q=>some (p.1::q.1,p.2++q.2):=by
 simp only[zaT,om];cases f d with
 |none=>rfl
 |some y=>cases zaT f l<;>rfl
def frr_n(f:D->Option (F×List Nat)):zaU f []=some ([],[]):=rfl
def zzF(f:D->Option (F×List Nat))(d:List D)(l:List (List D)):zaU f (d::l)=om (zaT f d) fun p=>om (zaU f l) fun q=>some (p.1::q.1,p.2++q.2):=by
 simp only[zaU,om];cases zaT f d with
 |none=>rfl
 |some y=>cases zaU f l<;>rfl
def frr_a [Globs](f:D->Option (F×List Nat))(a b:List (List D)):zaU f (a++b)=om (zaU f a) fun p=>om (zaU f b) fun q=>some (p.1++q.1,p.2++q.2):=by
 rw[zwT];simp only[om];cases zaU f a with
 |none=>rfl
 |some y=>cases zaU f b<;>rfl
def fzS(h:Nat->Option Ob)(k id off len es:Nat):Ob->Option (F×List Nat)
 | .arr es' _ els=>if es=es'/\off+len<=els.length then om (zaU (frz h k) ((els.drop off).take len)) fun p=>some (.sl es p.1,id::p.2)else none
 |_=>none
def zjW{h:Nat->Option Ob}{k id off len es es' ro:Nat}{els:List (List D)}:fzS h k id off len es (.arr es' ro els)=if es=es'/\off+len<=els.length then om (zaU (frz h k) ((els.drop off).take len)) fun p=>some (.sl es p.1,id::p.2)else none:=rfl
def zfw(h:Nat->Option Ob)(k id off len es lim:Nat)(ex:Bool):frz h (k+1) (.sl id off len es lim ex)=om (h id) (fzS h k id off len es):=by
 simp only[frz,om];cases h id with
 |none=>rfl
 |some o=>
  cases o with
  |arr es' ro els=>
   simp only[Z46,fzS];split
   .cases zaU (frz h k) ((els.drop off).take len)<;>rfl
   .rfl
  |_=>rfl
def zqu(h:Nat->Option Ob)(k:Nat)(cs:List D):frz h (k+1) (.ag cs)=om (zaT (frz h k) cs) fun p=>some (.ag p.1,p.2):=by
 simp only[frz,om];cases zaT (frz h k) cs<;>rfl
def zGH(h:Nat->Option Ob)(k:Nat)(cs:List D):frz h (k+1) (.tu cs)=om (zaT (frz h k) cs) fun p=>some (.tu p.1,p.2):=by
 simp only[frz,om];cases zaT (frz h k) cs<;>rfl
def f12f(h:Nat->Option Ob)(x:F):frz h 12 (.f x)=some (x,[]):=rfl
def f11f(h:Nat->Option Ob)(x:F):frz h 11 (.f x)=some (x,[]):=rfl
def f10f(h:Nat->Option Ob)(x:F):frz h 10 (.f x)=some (x,[]):=rfl
def f9f(h:Nat->Option Ob)(x:F):frz h 9 (.f x)=some (x,[]):=rfl
def f8f(h:Nat->Option Ob)(x:F):frz h 8 (.f x)=some (x,[]):=rfl
def f12a(h:Nat->Option Ob)(cs:List D):frz h 12 (.ag cs)=om (zaT (frz h 11) cs) fun p=>some (.ag p.1,p.2):=zqu h 11 cs
def f11a(h:Nat->Option Ob)(cs:List D):frz h 11 (.ag cs)=om (zaT (frz h 10) cs) fun p=>some (.ag p.1,p.2):=zqu h 10 cs
def f10a(h:Nat->Option Ob)(cs:List D):frz h 10 (.ag cs)=om (zaT (frz h 9) cs) fun p=>some (.ag p.1,p.2):=zqu h 9 cs
def f9a(h:Nat->Option Ob)(cs:List D):frz h 9 (.ag cs)=om (zaT (frz h 8) cs) fun p=>some (.ag p.1,p.2):=zqu h 8 cs
def f12t(h:Nat->Option Ob)(cs:List D):frz h 12 (.tu cs)=om (zaT (frz h 11) cs) fun p=>some (.tu p.1,p.2):=zGH h 11 cs
def f12s(h:Nat->Option Ob)(id off len es lim:Nat)(ex:Bool):frz h 12 (.sl id off len es lim ex)=om (h id) (fzS h 11 id off len es):=zfw ..
def f11s(h:Nat->Option Ob)(id off len es lim:Nat)(ex:Bool):frz h 11 (.sl id off len es lim ex)=om (h id) (fzS h 10 id off len es):=zfw ..
def f10s(h:Nat->Option Ob)(id off len es lim:Nat)(ex:Bool):frz h 10 (.sl id off len es lim ex)=om (h id) (fzS h 9 id off len es):=zfw ..
def f9s(h:Nat->Option Ob)(id off len es lim:Nat)(ex:Bool):frz h 9 (.sl id off len es lim ex)=om (h id) (fzS h 8 id off len es):=zfw ..
def ldO(g:Bool)(n id es i j:Nat):Ob->Option (D×List Nat)
 | .arr es' _ els=>if es=es' then om els[i]? fun el=>om (zcW g j n el) fun d=>some (d,[id])else none
 |_=>none
def zJh{g:Bool}{n id es i j es' ro:Nat}{els:List (List D)}:ldO g n id es i j (.arr es' ro els)=if es=es' then om els[i]? fun el=>om (zcW g j n el) fun d=>some (d,[id])else none:=rfl
def ld_p{g:Bool}{n:Nat}{h:Nat->Option Ob}{id es i j:Nat}:zc3 g n h (.ptr id es i j)=om (h id) (ldO g n id es i j):=by
 simp only[zc3,om];cases h id with
 |none=>rfl
 |some o=>
  cases o with
  |arr es' ro els=>
   simp only[Z46,ldO];split
   .simp only[om];cases els[i]? with
    |none=>rfl
    |some el=>simp only[Z46];cases zcW g j n el<;>rfl
   .rfl
  |_=>rfl
def zGN{g:Bool}{n:Nat}{h:Nat->Option Ob}{cs:List F}:zc3 g n h (.fptr cs)=om (zk0 g n cs) fun d=>some (d,[]):=by
 simp only[zc3,om];cases zk0 g n cs<;>rfl
def pF_t{n:Nat}{cs:List F}:zk0 true n cs=if n<=cs.length then some (.ag ((cs.take n).map D.f))else none:=rfl
def pF_f{n:Nat}{cs:List F}:zk0 false n cs=om cs[0]? fun x=>some (.f x):=by
 simp only[zk0,om];cases cs[0]? <;>rfl
def pD_t{o n:Nat}{cs:List D}:zcW true o n cs=if o+n<=cs.length then some (.ag ((cs.drop o).take n))else none:=rfl
def pD_f{o n:Nat}{cs:List D}:zcW false o n cs=cs[o]? :=rfl
def stO(n id es i j:Nat)(v:D):Ob->Option (Nat×Ob)
 | .arr es' ro els=>if es=es'/\ro<=i then om els[i]? fun el=>om v.cells fun cs=>if cs.length=n then om (over el j cs) fun el'=>if ze5 els (els.set i el')=true then some (id,.arr es ro (els.set i el'))else none else none else none
 |_=>none
def zKJ{n id es i j es' ro:Nat}{v:D}{els:List (List D)}:stO n id es i j v (.arr es' ro els)=if es=es'/\ro<=i then om els[i]? fun el=>om v.cells fun cs=>if cs.length=n then om (over el j cs) fun el'=>if ze5 els (els.set i el')=true then some (id,.arr es ro (els.set i el'))else none else none else none:=rfl
def st_p{n:Nat}{h:Nat->Option Ob}{id es i j:Nat}{v:D}:zd7 n h (.ptr id es i j) v=om (h id) (stO n id es i j v):=by
 simp only[zd7,om];cases h id with
 |none=>rfl
 |some o=>
  cases o with
  |arr es' ro els=>
   simp only[Z46,stO];split
   .simp only[om];cases els[i]? with
    |none=>rfl
    |some el=>
     simp only[Z46];cases v.cells with
     |none=>rfl
     |some cs=>
      simp only[Z46];split
      .cases over el j cs with
       |none=>rfl
       |some el'=>rfl
      .rfl
   .rfl
  |_=>rfl
def zJt(x y:List (List D)):ze5 x y=(!hd8 x||hd8 y):=rfl
def h8_i(n:Int)(l:List (List D)):hd8 ([.f (.i .u8 n)]::l)=true:=rfl
def zOR:hd8 []=false:=rfl
def h8_2(a b:D)(c:List D)(l:List (List D)):hd8 ((a::b::c)::l)=false:=by
 unfold hd8;split
 .rename_i h;simp at h
 .rfl
def zOO(n:Int)(l:List (List D)):hd8 ([.f (.i .i64 n)]::l)=false:=rfl
def h8_b(n:Bool)(l:List (List D)):hd8 ([.f (.b n)]::l)=false:=rfl
def h8_s(n:List UInt8)(l:List (List D)):hd8 ([.f (.s n)]::l)=false:=rfl
def zIX(l:List (List D)):hd8 ([.f .nils]::l)=false:=rfl
def zON(e:Nat)(x:List (List F))(l:List (List D)):hd8 ([.f (.sl e x)]::l)=false:=rfl
def h8_sl(a b c d e:Nat)(x:Bool)(l:List (List D)):hd8 ([.sl a b c d e x]::l)=false:=rfl
def zOT(a b c d:Nat)(l:List (List D)):hd8 ([.ptr a b c d]::l)=false:=rfl
def ce_ag(cs:List D):(D.ag cs).cells=some cs:=rfl
def ce_i(k:IntKind)(n:Int):(D.f (.i k n)).cells=some [.f (.i k n)]:=rfl
def ce_b(b:Bool):(D.f (.b b)).cells=some [.f (.b b)]:=rfl
def ce_s(l:List UInt8):(D.f (.s l)).cells=some [.f (.s l)]:=rfl
def zIa:(D.f .nils).cells=some [.f .nils]:=rfl
def zL0(e:Nat)(l:List (List F)):(D.f (.sl e l)).cells=some [.f (.sl e l)]:=rfl
def zcF(e:Nat)(l:List (List F)):(D.f (slc e l)).cells=some [.f (slc e l)]:=by cases l<;>rfl
def ce_sl(a b c d e:Nat)(x:Bool):(D.sl a b c d e x).cells=some [.sl a b c d e x]:=rfl
def zL1(a b c d:Nat):(D.ptr a b c d).cells=some [.ptr a b c d]:=rfl
def zH5(x:List F):(D.fptr x).cells=some [.fptr x]:=rfl
def d_ag(cs:List F):(F.ag cs).d= .ag (F.dL cs):=rfl
def d_tu(cs:List F):(F.tu cs).d= .tu (F.dL cs):=rfl
def d_i(k:IntKind)(n:Int):(F.i k n).d= .f (.i k n):=rfl
def d_b(b:Bool):(F.b b).d= .f (.b b):=rfl
def d_s(l:List UInt8):(F.s l).d= .f (.s l):=rfl
def zMh:(F.nils).d= .f .nils:=rfl
def d_un:(F.un).d= .f .un:=rfl
def d_sl(e:Nat)(l:List (List F)):(F.sl e l).d= .f (.sl e l):=rfl
def dl_n:F.dL []=[]:=rfl
def dl_c(x:F)(l:List F):F.dL (x::l)=x.d::F.dL l:=rfl
def ti_i(k:IntKind)(n:Int):zbv (.f (.i k n))=if 0<=n then some n.toNat else none:=rfl
def fa_p(o id es i j:Nat):faB o (.ptr id es i j)=some (.ptr id es i (j+o)):=rfl
def fa_f(o:Nat)(cs:List F):faB o (.fptr cs)=some (.fptr (cs.drop o)):=rfl
def ov(cs:List D)(o:Nat)(new:List D):over cs o new=if o+new.length<=cs.length then some (cs.take o++new++cs.drop (o+new.length))else none:=rfl
def fb_n(cs:List D):zdH cs []=some cs:=rfl
def fb_c(cs:List D)(o n:Nat)(d:D)(l:List (Nat×Nat×D)):zdH cs ((o,n,d)::l)=om d.cells fun x=>if x.length=n then om (over cs o x) fun y=>zdH y l else none:=by
 simp only[zdH,om];cases d.cells with
 |none=>rfl
 |some x=>
  simp only[Z46];split
  .cases over cs o x<;>rfl
  .rfl
def fe_n(es:Nat)(els:List (List D)):zee es els []=some els:=rfl
def fe_c(es:Nat)(els:List (List D))(i:Nat)(d:D)(l:List (Nat×D)):zee es els ((i,d)::l)=om d.cells fun cs=>if cs.length=es/\i<els.length then zee es (els.set i cs) l else none:=by
 simp only[zee,om];cases d.cells with
 |none=>rfl
 |some x=>rfl
def zct(h:T Ob):wrT h []=h:=rfl
def zcu(h:T Ob)(id:Nat)(ob:Ob)(l:List (Nat×Option Ob)):wrT h ((id,some ob)::l)=wrT (h.set id ob) l:=rfl
def zcs(h:T Ob)(id:Nat)(l:List (Nat×Option Ob)):wrT h ((id,none)::l)=wrT (h.del id) l:=rfl
def wo_n(c:Nat):zas c []=true:=rfl
def wo_c(c id:Nat)(o:Option Ob)(l:List (Nat×Option Ob)):zas c ((id,o)::l)=(Nat.blt id c&&zas c l):=rfl
def roO(h:Nat->Option Ob)(id:Nat)(l:List Nat):Option Ob->List (Nat×Option Ob)
 |some (.arr es ro els)=>if els.length<=ro then zau h l else(id,some (.arr es els.length els))::zau h l
 |_=>zau h l
def ro_n(h:Nat->Option Ob):zau h []=[]:=rfl
def zFs(h:Nat->Option Ob)(id:Nat)(l:List Nat):zau h (id::l)=roO h id l (h id):=by
 simp only[zau,roO];cases h id with
 |none=>rfl
 |some o=>cases o<;>rfl
def zCC(h:Nat->Option Ob)(id:Nat)(l:List Nat)(es ro:Nat)(els:List (List D)):roO h id l (some (.arr es ro els))=if els.length<=ro then zau h l else(id,some (.arr es els.length els))::zau h l:=rfl
structure WD [Globs](pr:Pr)(ops:List (Op×Nat))(s:St)(Q:Ex->St->Prop):Prop where
 out:wpC pr (.dreg ops) s Q
def zPa [Globs]{pr:Pr}{ops:List (Op×Nat)}{s:St}{Q:Ex->St->Prop}:wpC pr (.dreg ops) s Q=WD pr ops s Q:=propext ⟨fun h=>⟨h⟩,fun h=>h.out⟩
def zaw [Globs]{pr:Pr}{ops:List (Op×Nat)}{s:St}{Q:Ex->St->Prop}(h:wpE pr [] ops s (Q .nrm)):WD pr ops s Q:=⟨zLS h⟩
def v_ext(h:Nat->Option Ob)(c:Nat)(cs:List D)(i:Nat):opv h c (.ext (.tu cs) i)=om cs[i]? fun d=>some {d,c}:=by
 simp only[opv,om,okD];cases cs[i]? <;>rfl
def v_not(h:Nat->Option Ob)(c:Nat)(b:Bool):opv h c (.un .not (.f (.b b)))=some {d:= .f (.b !b),c}:=rfl
def v_eqa(h:Nat->Option Ob)(c:Nat)(ks:List Nat)(ne:Bool)(a b:List D):opv h c (.eqa ks ne (.ag a) (.ag b))=om (za8 ks a b) fun t=>some {d:= .f (.b (if ne then !t else t)),c}:=by
 simp only[opv,om,okF];cases za8 ks a b<;>rfl
def zHd(h:Nat->Option Ob)(c:Nat)(k k':IntKind)(n:Int):opv h c (.cvi k (.f (.i k' n)))=some {d:= .f (.i k (k.wrap n)),c}:=rfl
def v_slc(h:Nat->Option Ob)(c es:Nat)(x:D)(lo hi mx:Option D):opv h c (.slc es x lo hi mx)=om (sliceB es h x lo hi mx) fun p=>some {d:=p.1,rd:=p.2,c}:=by
 simp only[opv,om];cases sliceB es h x lo hi mx<;>rfl
def v_app(h:Nat->Option Ob)(c es byt:Nat)(s x:D):opv h c (.app es byt s x)=om (elemsOf es h x) fun p=>za3 es byt h c s p.1 p.2:=by
 simp only[opv,om];cases elemsOf es h x<;>rfl
def v_bsl(h:Nat->Option Ob)(c es m:Nat)(z:List F)(ps:List (Nat×D)):opv h c (.bsl es z m ps)=om (zee es (List.replicate m (z.map D.f)) ps) fun els=>some {d:= .sl c 0 m es m true,wr:=[(c,some (.arr es 0 els))],c:=c+1}:=by
 simp only[opv,om];cases zee es (List.replicate m (z.map D.f)) ps<;>rfl
def zDG(c es m:Nat)(els:List (List D)):Option (List (List F))->Option Rs
 |some fs=>some {d:= .f (.sl es fs),c}
 |none=>some {d:= .sl c 0 m es m true,wr:=[(c,some (.arr es 0 els))],c:=c+1}
def zLN(c es m:Nat)(els:List (List D))(fs:List (List F)):zDG c es m els (some fs)=some {d:= .f (.sl es fs),c}:=rfl
def zLM(c es m:Nat)(els:List (List D)):zDG c es m els none=some {d:= .sl c 0 m es m true,wr:=[(c,some (.arr es 0 els))],c:=c+1}:=rfl
def v_bsf(h:Nat->Option Ob)(c es m:Nat)(z:List F)(ps:List (Nat×D)):opv h c (.bsf es z m ps)=om (zee es (List.replicate m (z.map D.f)) ps) fun els=>zDG c es m els (zeQ els):=by
 simp only[opv,om,okF];cases zee es (List.replicate m (z.map D.f)) ps with
 |none=>rfl
 |some els=>simp only[Z46];cases zeQ els<;>rfl
def fc_n:zdx []=some []:=rfl
def fc_f(x:F)(l:List D):zdx (.f x::l)=om (zdx l) fun m=>some (x::m):=by
 simp only[zdx,om];cases zdx l<;>rfl
def fc_sl(a b c d e:Nat)(x:Bool)(l:List D):zdx (.sl a b c d e x::l)=none:=rfl
def fw_n:zeQ []=some []:=rfl
def fw_c(x:List D)(l:List (List D)):zeQ (x::l)=om (zdx x) fun y=>om (zeQ l) fun m=>some (y::m):=by
 simp only[zeQ,om];cases zdx x with
 |none=>rfl
 |some y=>cases zeQ l<;>rfl
def elO(es id off len es':Nat):Ob->Option (List (List D)×List Nat)
 | .arr es'' _ els=>if es=es'/\es'=es''/\off+len<=els.length then some ((els.drop off).take len,[id])else none
 |_=>none
def zwN{es id off len es' es'' ro:Nat}{els:List (List D)}:elO es id off len es' (.arr es'' ro els)=if es=es'/\es'=es''/\off+len<=els.length then some ((els.drop off).take len,[id])else none:=rfl
def zGy{es id off len es' lim:Nat}{ex:Bool}{h:Nat->Option Ob}:elemsOf es h (.sl id off len es' lim ex)=om (h id) (elO es id off len es'):=by
 simp only[elemsOf,om];cases h id with
 |none=>rfl
 |some o=>cases o<;>rfl
def apO(es byt c id off len es' lim:Nat)(ex:Bool)(new:List (List D))(rd:List Nat):Ob->Option Rs
  | .arr es'' ro els=>if es=es'/\es'=es''/\off+len<=els.length then
        if off+len+new.length<=lim then
          if off+len+new.length<=els.length/\ro<=off+len/\ze5 els (els.take (off+len)++new++els.drop (off+len+new.length))=true then
            some { d:= .sl id off (len+new.length) es lim ex,rd:=id::rd,
                   wr:=[(id,some (.arr es ro (els.take (off+len)++new++els.drop (off+len+new.length))))],c}
          else none
        else if len+new.length<=zav/\(len+new.length)*byt<=zav then
          if ex=true then
            some { d:= .sl c 0 (len+new.length) es (len+new.length) false,rd:=id::rd,
                   wr:=[(c,some (.arr es 0 ((els.drop off).take len++new)))],c:=c+1}
          else if off=0/\len=els.length/\ro<=len then
            some {d:= .sl c 0 (off+len+new.length) es (off+len+new.length) false,rd:=id::rd,wr:=[(id,none),(c,some (.arr es ro (els++new)))],c:=c+1}
          else if off=0/\ro<=len/\els.length<=off+len+new.length/\ze5 els (els.take len++new)=true then
            some {d:= .sl c 0 (off+len+new.length) es (off+len+new.length) false,rd:=id::rd,wr:=[(id,none),(c,some (.arr es ro (els.take len++new)))],c:=c+1}
          else none
        else none
      else none
  |_=>none
def zhm{es byt c:Nat}{h:Nat->Option Ob}{new:List (List D)}{rd:List Nat}:za3 es byt h c (.f .nils) new rd=if new.length=0 then some {d:= .f .nils,rd,c} else
  if new.length<=zav/\new.length*byt<=zav then some {d:= .sl c 0 new.length es new.length false,rd,wr:=[(c,some (.arr es 0 new))],c:=c+1} else none:=rfl
theorem zkN [Globs]{es byt c id off len es' lim:Nat}{ex:Bool}{h:Nat->Option Ob}{new:List (List D)}{rd:List Nat}:za3 es byt h c (.sl id off len es' lim ex) new rd=
  if new.length=0 then some {d:= .sl id off len es' lim ex,rd,c} else om (h id) (apO es byt c id off len es' lim ex new rd):=by
 rw[zHu];split
 .rfl
 .simp only[om];cases h id with
  |none=>rfl
  |some o=>cases o<;>rfl
def rd_1(s:St)(v:Rv):resD s [v]=resV s v:=by
 simp only[resD,zat];cases resV s v<;>rfl
def rd_2(s:St)(v w:Rv):resD s [v,w]=om (resV s v) fun x=>om (resV s w) fun y=>some (.tu [x,y]):=by
 simp only[resD,zat,om];cases resV s v with
 |none=>rfl
 |some x=>cases resV s w<;>rfl
def rv_t(s:St)(n:Nat):resV s (.t n)=s.tm.get n:=rfl
def rv_c(s:St)(n sz:Nat)(g:Bool):resV s (.cell n g sz)=om (s.tm.get n) fun p=>om (zc3 g sz s.h.get p) fun y=>some y.1:=by
 simp only[resV,om];cases s.tm.get n with
 |none=>rfl
 |some p=>simp only[Z46];cases zc3 g sz s.h.get p<;>rfl
def zB0{res:List Rv}{y:F}{s:St}:zuB res y .ret s↔oB (resD s res) fun d=>oB (frz s.h.get 12 d) fun p=>p.1=y:=by
 simp only[zuB,true_and,oB];cases resD s res with
 |none=>simp
 |some d=>
  simp only[Z45,exists_eq_left'];cases frz s.h.get 12 d with
  |none=>simp
  |some p=>obtain⟨a,b⟩ :=p;simp
def zMK{res:List Rv}{y:F}{s:St}:zuB res y .nrm s↔oB (resD s res) fun d=>oB (frz s.h.get 12 d) fun p=>p.1=y:=by
 rw[<-zB0];rfl
end Go.Vse
end
section
namespace Go.Vse
def Grow(h:T Ob)(lo c es:Nat)(d:D)(els:List (List D)):Prop:=
 (d= .f .nils/\els=[])\/∃id,d= .sl id 0 els.length es els.length false/\els≠[]/\h.get id=some (.arr es 0 els)/\lo<=id/\id<c
def Grow.nil{h:T Ob}{lo c es:Nat}:Grow h lo c es (.f .nils) []:= .inl ⟨rfl,rfl⟩
theorem zEb [Globs]{h:T Ob}{lo c es byt:Nat}{d:D}{els new:List (List D)}{rd:List Nat}(hg:Grow h lo c es d els)(hlo:lo<=c)(hlen:els.length+new.length<=1000000)(hb:byt<=1000):
  ∃r,za3 es byt h.get c d new rd=some r/\zas r.c r.wr=true/\Grow (wrT h r.wr) lo r.c es r.d (els++new)/\c<=r.c/\∀id,id<lo->(wrT h r.wr).get id=h.get id:=by
 have hm:∀n,n<=1000000->n<=zav:=fun n hn=>by have:=zcL (n:=n) (by omega);simpa using this
 have hmb:∀n,n<=1000000->n*byt<=zav:=fun n hn=>by
  have:n*byt<=1000000*1000:=Z144 hn hb;have h2:=zcL (n:=n*byt) (by omega);simpa using h2
 by_cases h0:new.length=0
 .have hn:new=[]:=Z17.1 h0;subst hn;rcases hg with⟨rfl,rfl⟩ |⟨id,rfl,he,ho,hl,hc⟩
  .exact⟨{d:= .f .nils,rd,c},by rw[zhm];simp,rfl,.inl ⟨rfl,rfl⟩,Z2 _,fun _ _=>rfl⟩
  .exact⟨{d:= .sl id 0 els.length es els.length false,rd,c},by rw[zkN];simp,rfl,.inr ⟨id,by simp,by simpa using he,by simpa [wrT]using ho,hl,hc⟩,Z2 _,fun _ _=>rfl⟩
 .rcases hg with⟨rfl,rfl⟩ |⟨id,rfl,he,ho,hl,hc⟩
  .refine⟨{d:= .sl c 0 new.length es new.length false,rd,wr:=[(c,some (.arr es 0 new))],c:=c+1},?_,?_,.inr ⟨c,rfl,?_,?_,hlo,by simp⟩,by simp,?_⟩
   .rw[zhm,Z49 h0,Z51 ⟨hm _ (by simpa using hlen),hmb _ (by simpa using hlen)⟩]
   .simp[zas,Z79]
   .simpa using fun e=>h0 (by simp[e])
   .simp[wrT,T.zab]
   .intro i hi;have:i≠c:=by omega
    simp[wrT,T.zab,this]
  .refine⟨{d:= .sl c 0 (els.length+new.length) es (els.length+new.length) false,rd:=id::rd,wr:=[(id,none),(c,some (.arr es 0 (els++new)))],c:=c+1},?_,?_,.inr ⟨c,by simp,?_,?_,hlo,by simp⟩,by simp,?_⟩
   .rw[zkN,Z49 h0,ho];have h1:¬(0+els.length+new.length<=els.length):=by omega
    have h2:=hm (els.length+new.length) hlen;have h3:=hmb (els.length+new.length) hlen;simp[om,apO,h1,h2,h3];omega
   .simp[zas,Z79];omega
   .simp[he]
   .simp[wrT,T.zab]
   .intro i hi;have h1:i≠c:=by omega
    have h2:i≠id:=by omega
    simp[wrT,T.zab,T.zbB,h1,h2]
def zeI{h h':T Ob}{lo c c' es:Nat}{d:D}{els:List (List D)}(hg:Grow h lo c es d els)(hh:∀id,id<c->h'.get id=h.get id)(hc:c<=c'):Grow h' lo c' es d els:=by
 rcases hg with⟨rfl,rfl⟩ |⟨id,rfl,he,ho,hl,hlt⟩
 .exact .inl ⟨rfl,rfl⟩
 .exact .inr ⟨id,rfl,he,by rw[hh id hlt];exact ho,hl,by omega⟩
theorem zou [Globs]{h:T Ob}{lo c es byt:Nat}{d:D}{els new:List (List D)}{rd:List Nat}{K:Rs->Prop}(hg:Grow h lo c es d els)(hlo:lo<=c)(hlen:els.length+new.length<=1000000)(hb:byt<=1000)
  (hK:∀r:Rs,zas r.c r.wr=true->Grow (wrT h r.wr) lo r.c es r.d (els++new)->c<=r.c->(∀id,id<lo->(wrT h r.wr).get id=h.get id)->K r):oB (za3 es byt h.get c d new rd) K:=by
 obtain⟨r,h1,h2,h3,h4,h5⟩ :=zEb (byt:=byt) (rd:=rd) hg hlo hlen hb;rw[h1];exact hK r h2 h3 h4 h5
def zEc [Globs]{h:T Ob}{lo c es k:Nat}{d:D}{els:List (List D)}{L:List (List F)}(hg:Grow h lo c es d els)(hf:zaU (frz h.get k) els=some (L,[])):∃rd,frz h.get (k+1) d=some (slc es L,rd):=by
 rcases hg with⟨rfl,rfl⟩ |⟨id,rfl,he,ho,hl,hc⟩
 .simp only[zaU,Z45,Z66]at hf;rw[<-hf.1];exact⟨[],rfl⟩
 .have hL:L≠[]:=by
   rintro rfl;cases els with
   |nil=>exact he rfl
   |cons x l=>
    rw[zzF]at hf;simp only[om]at hf;cases h1:zaT (frz h.get k) x with
    |none=>rw[h1]at hf;simp at hf
    |some p=>
     rw[h1]at hf;cases h2:zaU (frz h.get k) l with
     |none=>rw[h2]at hf;simp at hf
     |some q=>rw[h2]at hf;simp at hf
  refine⟨[id],?_⟩;rw[zfw,ho,zeu,zjW];simp only[true_and,Z25,Z2,Z60,Z34,Z7,hf,zeu];rw[zk4 hL]
section
variable [Globs]{pr:Pr}
structure WL(pr:Pr)(c:C)(s:St)(Q:Ex->St->Prop):Prop where
 out:wpC pr (.loop c) s Q
def rn(pr:Pr)(c:C)(Q:Ex->St->Prop)(x:Ex)(s:St):Prop:=match x with
 | .nrm=>WL pr c s Q
 |x=>Q x s
def zPU{c:C}{Q:Ex->St->Prop}{s:St}:rn pr c Q .nrm s=WL pr c s Q:=rfl
def zPV{c:C}{Q:Ex->St->Prop}{s:St}:rn pr c Q .ret s=Q .ret s:=rfl
def zJL{c:C}{Q:Ex->St->Prop}{s:St}{i:Nat}:rn pr c Q (.exit i) s=Q (.exit i) s:=rfl
def round{c:C}{s:St}{Q:Ex->St->Prop}(h:wpC pr c s (rn pr c Q)):WL pr c s Q:=by
 refine⟨zH3 ?_⟩;have e:rn pr c Q=fun x s'=>match x with
  | .nrm=>wpC pr (.loop c) s' Q
  |x=>Q x s':=by
  funext x s'
  cases x with
  |nrm=>exact propext ⟨fun h=>h.out,fun h=>⟨h⟩⟩
  |ret=>rfl
  |exit i=>rfl
 rw[e]at h;exact h
def zPb{c:C}{s:St}{Q:Ex->St->Prop}:wpC pr (.loop c) s Q=WL pr c s Q:=propext ⟨fun h=>⟨h⟩,fun h=>h.out⟩
def zcS{c:C}{Q:Ex->St->Prop}(I:Nat->St->Prop)(R:Ex->St->Prop)(hstep:∀k s,I k s->wpC pr c s (lp I k R))(k:Nat)(s:St)(h:I k s)(hQ:∀x s,R x s->Q x s):WL pr c s Q:=⟨loopQ I R hstep k s h hQ⟩
end
end Go.Vse
end
section
namespace Go.Vse
variable [Globs]
def zzz(res:List Rv)(P:F->Prop)(x:Ex)(s:St):Prop:=
 (match x with| .exit _=>False|_=>True)/\∃d,resD s res=some d/\∃y rd,frz s.h.get 12 d=some (y,rd)/\P y
def zrv{pr:Pr}{f:Nat}{fn:Fn}(hf:pr.fn f=some fn){fs:List F}{P:F->Prop}(hw:wpC pr fn.body (st0 (F.dL fs) .e 0) (zzz fn.res P)):∃y,P y/\Ans pr f fs y:=by
 obtain⟨x,s,⟨hx,d,hd,y,rd,hz,hP⟩,ev⟩ :=ze1 _ _ _ hw;refine⟨y,hP,if Nat.beq s.lw 0&&d.isF then ⟨d,.e,0,0,s.mx⟩else ⟨d,s.h,s.c,s.lw,s.mx⟩,rd,?_,?_⟩
 .have key:EV fun m=>zfd (evC (zbW pr m) m) fn (F.dL fs) .e 0=some (if Nat.beq s.lw 0&&d.isF then ⟨d,.e,0,0,s.mx⟩else ⟨d,s.h,s.c,s.lw,s.mx⟩):=by
   refine ev.mono fun m hm=> ?_
   unfold zfd;unfold st0 at hm;rw[hm];cases x with
   |exit i=>exact hx.elim
   |nrm=>simp only[hd];split<;>rfl
   |ret=>simp only[hd];split<;>rfl
  obtain⟨N,hN⟩ :=key;refine⟨N+1,fun m hm=> ?_⟩;obtain⟨m,rfl⟩ :∃m',m=m'+1:=⟨m - 1,by omega⟩
  simp only[zbW,hf];exact hN m (by omega)
 .split
  .rename_i hb;simp only[Z14]at hb;have hr:=zos 12 d y rd hb.2 hz;subst hr;exact zhr 12 d y [] hz fun id hid=>by simp at hid
  .exact hz
def zBZ{res:List Rv}{P:F->Prop}{s:St}:zzz res P .ret s↔oB (resD s res) fun d=>oB (frz s.h.get 12 d) fun p=>P p.1:=by
 simp only[zzz,true_and,oB];cases resD s res with
 |none=>simp
 |some d=>
  simp only[Z45,exists_eq_left'];cases frz s.h.get 12 d with
  |none=>simp
  |some p=>
   obtain⟨a,b⟩ :=p;simp only[Z45,Z66];exact⟨fun⟨y,rd,⟨e1,e2⟩,h⟩ =>by rw[e1];exact h,fun h=>⟨a,b,⟨rfl,rfl⟩,h⟩⟩
def zMJ{res:List Rv}{P:F->Prop}{s:St}:zzz res P .nrm s↔oB (resD s res) fun d=>oB (frz s.h.get 12 d) fun p=>P p.1:=by
 rw[<-zBZ];rfl
omit [Globs]in
def fza(h:Nat->Option Ob)(l:List D):zbU h l=zaT (frz h 12) l:=rfl
omit [Globs]in
def oi_n(d:Nat):zbN d none=some d:=rfl
omit [Globs]in
def oi_s(d:Nat)(x:D):zbN d (some x)=zbv x:=rfl
omit [Globs]in
def sb_n1{es:Nat}{h:Nat->Option Ob}:sliceB es h (.f .nils) none (some (.f (.i .i64 0))) none=some (.f .nils,[]):=rfl
omit [Globs]in
def sb_n2{es:Nat}{h:Nat->Option Ob}:sliceB es h (.f .nils) (some (.f (.i .i64 0))) none none=some (.f .nils,[]):=rfl
omit [Globs]in
theorem zQN{es es':Nat}{h:Nat->Option Ob}{els:List (List F)}{lo hi:Option D}:sliceB es h (.f (.sl es' els)) lo hi none=om (zbN 0 lo) fun l=>om (zbN els.length hi) fun r=>
  if es=es'/\l<=r/\r<=els.length then some (.f (.sl es ((els.drop l).take (r - l))),[])else none:=by
 simp only[sliceB,om];cases zbN 0 lo with
 |none=>rfl
 |some l=>simp only[Z46];cases zbN els.length hi<;>rfl
section
variable {pr:Pr}{s:St}{Q:St->Prop}{dst:Option Nat}{L:List (List Nat×List Nat)}{mask:Nat}
def o_fld{l:List Op}{g:Bool}{off n:Nat}{x:A}:wpO pr (⟨dst,none,.fld g off n x⟩ ::l) s Q↔oB (((O.fld g off n x).res (zae s.tm)).bind (opv s.h.get s.c)) fun r=>zas r.c r.wr=true/\wpO pr l (s.aft dst r.d r.wr r.c) Q:=zdK rfl
theorem e_fld{l:List (Op×Nat)}{g:Bool}{off n:Nat}{x:A}:wpE pr L ((⟨dst,none,.fld g off n x⟩,mask)::l) s Q↔oB (((O.fld g off n x).res (zae s.tm)).bind (opv s.h.get s.c)) fun r=>zas r.c r.wr=true/\
    zcY mask L r.rd (r.wr.map (·.1))/\wpE pr (L++[(r.rd,r.wr.map (·.1))]) l (s.ae dst r.d r.wr r.c) Q:=zcE rfl
omit [Globs]in
def v_fld(h:Nat->Option Ob)(c:Nat)(g:Bool)(off n:Nat)(cs:List D):opv h c (.fld g off n (.ag cs))=om (zcW g off n cs) fun d=>some {d,c}:=by
 simp only[opv,om,okD];cases zcW g off n cs<;>rfl
end
def zwc{pr:Pr}{c:C}{S:St}{Q:Ex->St->Prop}(P:St->Prop)(h1:P S)(h2:∀s,P s->WL pr c s Q):WL pr c S Q:=h2 S h1
end Go.Vse
end
section
namespace Go.Vse
set_option maxRecDepth 100000
def ob_s{α β:Type}(a:α)(f:α->Option β):(some a).bind f=f a:=rfl
def ob_m{α β:Type}(a:α)(f:α->β):(some a).map f=some (f a):=rfl
def ob_b{α β:Type}(a:Option α)(f:α->Option β):(a>>=f)=a.bind f:=rfl
def cm_n{m:Nat}{rd wr:List Nat}:zcY m [] rd wr=True:=rfl
def cm_c{m:Nat}{r w:List Nat}{L:List (List Nat×List Nat)}{rd wr:List Nat}:zcY m ((r,w)::L) rd wr=((m%2=1->zcJ rd w/\zcJ wr w/\zcJ wr r)/\zcY (m/2) L rd wr):=rfl
def fn_n(f:Nat):fnD f []= .f (.fn f):=rfl
def fn_c(f:Nat)(x:D)(l:List D):fnD f (x::l)= .fn f [] (x::l):=rfl
def zQo(f:A->Option D)(x:A)(i:Nat):O.res f (.ext x i)=(f x).bind fun y=>some (.ext y i):=rfl
def zAY(f:A->Option D)(op:UnOp)(x:A):O.res f (.un op x)=(f x).bind fun y=>some (.un op y):=rfl
def zQd(f:A->Option D)(k:IntKind)(x:A):O.res f (.cvi k x)=(f x).bind fun y=>some (.cvi k y):=rfl
def zQf(f:A->Option D)(ks:List Nat)(ne:Bool)(x y:A):O.res f (.eqa ks ne x y)=(f x).bind fun a=>(f y).bind fun b=>some (.eqa ks ne a b):=rfl
def zP5(f:A->Option D)(es b:Nat)(x y:A):O.res f (.app es b x y)=(f x).bind fun a=>(f y).bind fun c=>some (.app es b a c):=rfl
def zQs(f:A->Option D)(g:Bool)(o n:Nat)(x:A):O.res f (.fld g o n x)=(f x).bind fun y=>some (.fld g o n y):=rfl
def zQK(f:A->Option D)(es:Nat)(x:A)(a b c:Option A):O.res f (.slc es x a b c)=(f x).bind fun y=>(zdp f a).bind fun a=>(zdp f b).bind fun b=>(zdp f c).bind fun c=>some (.slc es y a b c):=rfl
def zQa(f:A->Option D)(es:Nat)(z:List F)(m:Nat)(ps:List (Nat×A)):O.res f (.bsl es z m ps)=(zat (fun p:Nat×A=>(f p.2).bind fun y=>some (p.1,y)) ps).bind fun qs=>some (.bsl es z m qs):=rfl
def zP8(f:A->Option D)(es:Nat)(z:List F)(m:Nat)(ps:List (Nat×A)):O.res f (.bsf es z m ps)=(zat (fun p:Nat×A=>(f p.2).bind fun y=>some (p.1,y)) ps).bind fun qs=>some (.bsf es z m qs):=rfl
def fw(l:List F):List F:=l
def fw_e(l:List F):fw l=l:=rfl
theorem zIt [Globs]{pr:Pr}{l:List Op}{s:St}{Q:St->Prop}{dst:Option Nat}{f:Nat}{args:List A}:wpO pr (⟨dst,none,.callp f args⟩ ::l) s Q↔oB (zat (zae s.tm) args) fun ds=>oB (zbU s.h.get ds) fun y=>aB pr f (fw y.1) fun x=>
  zas s.c (zau s.h.get y.2)=true/\wpO pr l (s.aft dst x.d (zau s.h.get y.2) s.c) Q:=zK9
theorem zD3 [Globs]{pr:Pr}{l:List (Op×Nat)}{s:St}{Q:St->Prop}{dst:Option Nat}{L:List (List Nat×List Nat)}{mask f:Nat}{args:List A}:wpE pr L ((⟨dst,none,.callp f args⟩,mask)::l) s Q↔oB (zat (zae s.tm) args) fun ds=>oB (zbU s.h.get ds) fun y=>aB pr f (fw y.1) fun x=>zas s.c (zau s.h.get y.2)=true/\
    zcY mask L y.2 ((zau s.h.get y.2).map (·.1))/\wpE pr (L++[(y.2,(zau s.h.get y.2).map (·.1))]) l (s.ae dst x.d (zau s.h.get y.2) s.c) Q:=zIl
section
variable [Globs]{pr:Pr}{s:St}{Q:St->Prop}{dst:Option Nat}{L:List (List Nat×List Nat)}{mask:Nat}
def o_eqb{l:List Op}{ne:Bool}{x y:A}:wpO pr (⟨dst,none,.eqb ne x y⟩ ::l) s Q↔oB (((O.eqb ne x y).res (zae s.tm)).bind (opv s.h.get s.c)) fun r=>zas r.c r.wr=true/\wpO pr l (s.aft dst r.d r.wr r.c) Q:=zdK rfl
def e_eqn{l:List (Op×Nat)}{kd:Nat}{ne:Bool}{x y:A}:wpE pr L ((⟨dst,none,.eqn kd ne x y⟩,mask)::l) s Q↔oB (((O.eqn kd ne x y).res (zae s.tm)).bind (opv s.h.get s.c)) fun r=>zas r.c r.wr=true/\zcY mask L r.rd (r.wr.map (·.1))/\wpE pr (L++[(r.rd,r.wr.map (·.1))]) l (s.ae dst r.d r.wr r.c) Q:=zcE rfl
def o_eqn{l:List Op}{kd:Nat}{ne:Bool}{x y:A}:wpO pr (⟨dst,none,.eqn kd ne x y⟩ ::l) s Q↔oB (((O.eqn kd ne x y).res (zae s.tm)).bind (opv s.h.get s.c)) fun r=>zas r.c r.wr=true/\wpO pr l (s.aft dst r.d r.wr r.c) Q:=zdK rfl
def e_mks{l:List (Op×Nat)}{es b:Nat}{z:List F}{x y:A}:wpE pr L ((⟨dst,none,.mks es b z x y⟩,mask)::l) s Q↔oB (((O.mks es b z x y).res (zae s.tm)).bind (opv s.h.get s.c)) fun r=>zas r.c r.wr=true/\zcY mask L r.rd (r.wr.map (·.1))/\wpE pr (L++[(r.rd,r.wr.map (·.1))]) l (s.ae dst r.d r.wr r.c) Q:=zcE rfl
def o_mks{l:List Op}{es b:Nat}{z:List F}{x y:A}:wpO pr (⟨dst,none,.mks es b z x y⟩ ::l) s Q↔oB (((O.mks es b z x y).res (zae s.tm)).bind (opv s.h.get s.c)) fun r=>zas r.c r.wr=true/\wpO pr l (s.aft dst r.d r.wr r.c) Q:=zdK rfl
def e_mm{l:List (Op×Nat)}{mx:Bool}{x y:A}:wpE pr L ((⟨dst,none,.mm mx x y⟩,mask)::l) s Q↔oB (((O.mm mx x y).res (zae s.tm)).bind (opv s.h.get s.c)) fun r=>zas r.c r.wr=true/\zcY mask L r.rd (r.wr.map (·.1))/\wpE pr (L++[(r.rd,r.wr.map (·.1))]) l (s.ae dst r.d r.wr r.c) Q:=zcE rfl
def o_mm{l:List Op}{mx:Bool}{x y:A}:wpO pr (⟨dst,none,.mm mx x y⟩ ::l) s Q↔oB (((O.mm mx x y).res (zae s.tm)).bind (opv s.h.get s.c)) fun r=>zas r.c r.wr=true/\wpO pr l (s.aft dst r.d r.wr r.c) Q:=zdK rfl
end
def zQg(f:A->Option D)(ne:Bool)(x y:A):O.res f (.eqb ne x y)=(f x).bind fun a=>(f y).bind fun b=>some (.eqb ne a b):=rfl
def zQi(f:A->Option D)(kd:Nat)(ne:Bool)(x y:A):O.res f (.eqn kd ne x y)=(f x).bind fun a=>(f y).bind fun b=>some (.eqn kd ne a b):=rfl
def zQw(f:A->Option D)(es b:Nat)(z:List F)(x y:A):O.res f (.mks es b z x y)=(f x).bind fun a=>(f y).bind fun c=>some (.mks es b z a c):=rfl
def rs_mm(f:A->Option D)(mx:Bool)(x y:A):O.res f (.mm mx x y)=(f x).bind fun a=>(f y).bind fun c=>some (.mm mx a c):=rfl
def v_eqb(h:Nat->Option Ob)(c:Nat)(ne p q:Bool):opv h c (.eqb ne (.f (.b p)) (.f (.b q)))=some {d:= .f (.b (if ne then !(p==q)else p==q)),c}:=rfl
def v_mm(h:Nat->Option Ob)(c:Nat)(mx:Bool)(k:IntKind)(a b:Int):opv h c (.mm mx (.f (.i k a)) (.f (.i k b)))=some {d:= .f (.i k (if mx then(if b>a then b else a)else(if b<a then b else a))),c}:=by simp[opv,okF]
def zh8 [Globs]:=
 qI @k_seq (qI @k_reg (qI @zPa (qI @zPb (qI @zPU (qI @zPV (qI @zJL (qI @k_blk (qI @zQ0 (qI @zQ1 (qI @zKH (qI @zPh (qI @zPj (qI @zJf (qI @zPq (qI @zJl (qI @c_ret (qI @zLV (qI @zLT (qI @x_nil (qI @x_new (qI @y_mv (qI @zRP (qI @y_ld (qI @y_bin (qI @y_not (qI @y_len (qI @y_fa (qI @y_ext (qI @y_box (qI @y_st (qI @y_ia (qI @y_mkf (qI @y_bld (qI @zIt (qI @zRO (qI @zLe (qI @e_nil (qI @e_mv (qI @zMk (qI @e_ld (qI @e_bin (qI @e_eqb (qI @e_len (qI @e_fa (qI @e_ia (qI @e_bld (qI @e_new (qI @e_st (qI @zD3 (qI @zIm (qI @asG_b (qI @zLH (qI @zmq (qI @zns (qI @zeo (qI @zbj (qI @zco (qI @zcn (qI @zG5 (qI @zbd (qI @zcb (qI @zca (qI @zF7 (qI @zbi (qI @zcm (qI @zcj (qI @zGZ (qI @zJs (qI @zPC (qI @zPx (qI @asF_f (qI @asB_b (qI @zHw (qI @zLF (qI @zHz (qI @zbk (qI @zcr (qI @zcp (qI @zHc (qI @za0 (qI @zbh (qI @zbf (qI @zBl (qI @zsE (qI @zCr (qI @T.zab (qI @T.zbB (qI @T.zAn (qI @fza (qI @zHS (qI @zHR (qI @zHO (qI @zHP (qI @zHL (qI @zHT (qI @zHJ (qI @zH0 (qI @zHY (qI @zHX (qI @zHW (qI @zHZ (qI @e_ext (qI @e_un (qI @e_eqa (qI @e_app (qI @e_bsl (qI @e_bsf (qI @e_slc (qI @e_cvi (qI @o_eqa (qI @o_app (qI @o_bsl (qI @o_bsf (qI @o_slc (qI @o_cvi (qI @zeh (qI @zd0 (qI @zeY (qI @zEr (qI @zJi (qI @zPp (qI @zOY (qI @ia_sl (qI @zeu (qI @mo_n (qI @mo_c (qI @oo_n (qI @oo_s (qI @fr_n (qI @fr_c (qI @frr_n (qI @zzF (qI @frr_a (qI @zjW (qI @f12f (qI @f11f (qI @f10f (qI @f9f (qI @f8f (qI @f12a (qI @f11a (qI @f10a (qI @f9a (qI @f12t (qI @f12s (qI @f11s (qI @f10s (qI @f9s (qI @zJh (qI @ld_p (qI @zGN (qI @pF_t (qI @pF_f (qI @pD_t (qI @pD_f (qI @zKJ (qI @st_p (qI @zJt (qI @h8_i (qI @zOR (qI @h8_2 (qI @zOO (qI @h8_b (qI @h8_s (qI @zIX (qI @zON (qI @h8_sl (qI @zOT (qI @ce_ag (qI @ce_i (qI @ce_b (qI @ce_s (qI @zIa (qI @zL0 (qI @zcF (qI @ce_sl (qI @zL1 (qI @zH5 (qI @d_ag (qI @d_tu (qI @d_i (qI @d_b (qI @d_s (qI @zMh (qI @d_un (qI @d_sl (qI @dl_n (qI @dl_c (qI @ti_i (qI @fa_p (qI @fa_f (qI @ov (qI @fb_n (qI @fb_c (qI @fe_n (qI @fe_c (qI @zct (qI @zcu (qI @zcs (qI @wo_n (qI @wo_c (qI @ro_n (qI @zFs (qI @zCC (qI @v_ext (qI @v_not (qI @v_eqa (qI @zHd (qI @v_slc (qI @v_app (qI @v_bsl (qI @v_bsf (qI @zLN (qI @zLM (qI @fc_n (qI @fc_f (qI @fc_sl (qI @fw_n (qI @fw_c (qI @zIp (qI @zMI (qI @zwN (qI @zGy (qI @rd_1 (qI @rd_2 (qI @rv_t (qI @rv_c (qI @zB0 (qI @zMK (qI @zBZ (qI @zMJ (qI @o_fld (qI @e_fld (qI @v_fld (qI @oi_n (qI @oi_s (qI @sb_n1 (qI @sb_n2 (qI @zQN (qI @o_eqb (qI @e_eqn (qI @o_eqn (qI @e_mks (qI @o_mks (qI @e_mm (qI @o_mm (qI @zQg (qI @zQi (qI @zQw (qI @rs_mm (qI @v_eqb (qI @v_mm (qI @fw_e (qI @ob_s (qI @ob_m (qI @ob_b (qI @cm_n (qI @cm_c (qI @fn_n (qI @fn_c (qI @zQo (qI @zAY (qI @zQd (qI @zQf (qI @zP5 (qI @zQs (qI @zQK (qI @zQa (@zP8)))))))))))))))))))))))))))))))))))))))))))))))))))))))))))))))))))))))))))))))))))))))))))))))))))))))))))))))))))))))))))))))))))))))))))))))))))))))))))))))))))))))))))))))))))))))))))))))))))))))))))))))))))))))))))))))))))))))))))))))))))))))))))))))))))))))))))))
def rulA [Globs]:=And.intro zh8 (qI @zhm @zkN)
end Go.Vse
end
section
namespace Go.Vse
variable [Globs]
section
variable {pr:Pr}{α σ ρ:Type}
def nxF(J:Nat->St->Prop)(R1:Nat->Ex->St->Prop)(hit:Prop)(n:Nat)(x:Ex)(s:St):Prop:=match x with
 | .nrm=>¬hit/\J (n+1) s
 |x=>hit/\R1 n x s
def zfT{J:Nat->St->Prop}{R1:Nat->Ex->St->Prop}{hit:Prop}{n:Nat}{s:St}:nxF J R1 hit n .nrm s=(¬hit/\J (n+1) s):=rfl
def zfU{J:Nat->St->Prop}{R1:Nat->Ex->St->Prop}{hit:Prop}{n:Nat}{s:St}:nxF J R1 hit n .ret s=(hit/\R1 n .ret s):=rfl
def zfS{J:Nat->St->Prop}{R1:Nat->Ex->St->Prop}{hit:Prop}{n i:Nat}{s:St}:nxF J R1 hit n (.exit i) s=(hit/\R1 n (.exit i) s):=rfl
def nxE(R:Ex->St->Prop)(x:Ex)(s:St):Prop:=match x with
 | .nrm=>False
 |x=>R x s
def zfQ{R:Ex->St->Prop}{s:St}:nxE R .nrm s=False:=rfl
def zfR{R:Ex->St->Prop}{s:St}:nxE R .ret s=R .ret s:=rfl
def zfN{R:Ex->St->Prop}{i:Nat}{s:St}:nxE R (.exit i) s=R (.exit i) s:=rfl
def zAv{c:C}{Q:Ex->St->Prop}(I:Nat->St->Prop)(hstep:∀k s,I k s->∃P:Ex->St->Prop,wpC pr c s P/\∀x s',P x s'->lp I k Q x s'):∀(k:Nat) (s:St),I k s->wpC pr (.loop c) s Q:=by
 intro k
 induction k using Nat.strongRecOn with
 |ind k ih=>
  intro s hI;obtain⟨P,hw,hP⟩ :=hstep k s hI;obtain⟨x,s1,hq,ev⟩ :=ze1 c s _ hw;have hq:=hP x s1 hq;cases x with
  |nrm=>
   obtain⟨k',hlt,hI'⟩ :=hq;obtain⟨x2,s2,m,h2,e2⟩ :=ih k' hlt s1 hI';exact⟨x2,s2,m+1,h2,(ev.and e2).mono fun n ⟨p,q⟩ =>by simp only[iter,p];exact q⟩
  |exit i=>exact⟨.exit i,s1,1,hq,ev.mono fun n p=>by simp only[iter,p]⟩
  |ret=>exact⟨.ret,s1,1,hq,ev.mono fun n p=>by simp only[iter,p]⟩
theorem zmy{c:C}{Q:Ex->St->Prop}(l:List α)(p:α->Bool)(J:Nat->St->Prop)(R0:Ex->St->Prop)(R1:Nat->Ex->St->Prop)
  (hb:∀n s (h:n<l.length),J n s->wpC pr c s (nxF J R1 (p l[n]=true) n))
  (he:∀s,J l.length s->wpC pr c s (nxE R0))(s:St)(h0:J 0 s)
  (q0:(∀a∈l,p a=false)->∀x s,R0 x s->Q x s)(q1:∀n (h:n<l.length),p l[n]=true->(∀m (h':m<n),p (l[m]'(by omega))=false)->∀x s,R1 n x s->Q x s):WL pr c s Q:=by
 refine⟨zAv (fun k s=>∃n,n<=l.length/\k=l.length - n/\J n s/\∀m (h:m<n) (h':m<l.length),p l[m]=false) ?_ l.length s ⟨0,Z61 _,rfl,h0,fun m h=>by omega⟩⟩;rintro k s ⟨n,hn,rfl,hJ,hA⟩
 by_cases hlt:n<l.length
 .refine⟨_,hb n s hlt hJ,fun x s' hx=> ?_⟩;cases x with
  |nrm=>
   refine⟨l.length - (n+1),by omega,n+1,by omega,rfl,hx.2,fun m hm h'=> ?_⟩
   by_cases hmn:m<n
   .exact hA m hmn h'
   .have:m=n:=by omega
    subst this;simpa using hx.1
  |ret=>exact q1 n hlt hx.1 (fun m h=>hA m h (by omega)) _ _ hx.2
  |exit i=>exact q1 n hlt hx.1 (fun m h=>hA m h (by omega)) _ _ hx.2
 .have:n=l.length:=by omega
  subst this;have hq:=q0 fun a ha=>by
   obtain⟨m,hm,rfl⟩ :=Z101.1 ha;exact hA m hm hm
  refine⟨_,he s hJ,fun x s' hx=> ?_⟩;cases x with
  |nrm=>exact hx.elim
  |ret=>exact hq _ _ hx
  |exit i=>exact hq _ _ hx
def nxG(J:Nat->σ->St->Prop)(n:Nat)(b:σ)(x:Ex)(s:St):Prop:=match x with
 | .nrm=>J (n+1) b s
 |_=>False
def zfV{J:Nat->σ->St->Prop}{n:Nat}{b:σ}{s:St}:nxG J n b .nrm s=J (n+1) b s:=rfl
theorem foldW{c:C}{Q:Ex->St->Prop}(l:List α)(f:σ->α->σ)(a0:σ)(J:Nat->σ->St->Prop)(R:Ex->St->Prop)
  (hb:∀n a s (h:n<l.length),a=(l.take n).foldl f a0->J n a s->wpC pr c s (nxG J n (f a l[n])))
  (he:∀s,J l.length (l.foldl f a0) s->wpC pr c s (nxE R))(s:St)(h0:J 0 a0 s)(hq:∀x s,R x s->Q x s):WL pr c s Q:=by
 refine⟨zAv (fun k s=>∃n,n<=l.length/\k=l.length - n/\J n ((l.take n).foldl f a0) s) ?_ l.length s ⟨0,Z61 _,rfl,by simpa using h0⟩⟩;rintro k s ⟨n,hn,rfl,hJ⟩
 by_cases hlt:n<l.length
 .refine⟨_,hb n _ s hlt rfl hJ,fun x s' hx=> ?_⟩;cases x with
  |nrm=>
   refine⟨l.length - (n+1),by omega,n+1,by omega,rfl,?_⟩;rw[Z105,Z0 hlt,Z151,Z142];exact hx
  |ret=>exact hx.elim
  |exit i=>exact hx.elim
 .have:n=l.length:=by omega
  subst this;rw[Z7]at hJ;refine⟨_,he s hJ,fun x s' hx=> ?_⟩;cases x with
  |nrm=>exact hx.elim
  |ret=>exact hq _ _ hx
  |exit i=>exact hq _ _ hx
def nxI(J:Nat->St->Prop)(n:Nat)(x:Ex)(s:St):Prop:=match x with
 | .nrm=>J (n+1) s
 |_=>False
def zf0{J:Nat->St->Prop}{n:Nat}{s:St}:nxI J n .nrm s=J (n+1) s:=rfl
theorem zbD{c:C}{Q:Ex->St->Prop}(len:Nat)(J:Nat->St->Prop)(R:Ex->St->Prop)
  (hb:∀n s,n<len->J n s->wpC pr c s (nxI J n))(he:∀s,J len s->wpC pr c s (nxE R))(s:St)(h0:J 0 s)(hq:∀x s,R x s->Q x s):WL pr c s Q:=by
 refine⟨zAv (fun k s=>∃n,n<=len/\k=len - n/\J n s) ?_ len s ⟨0,Z61 _,rfl,h0⟩⟩;rintro k s ⟨n,hn,rfl,hJ⟩
 by_cases hlt:n<len
 .refine⟨_,hb n s hlt hJ,fun x s' hx=> ?_⟩;cases x with
  |nrm=>exact⟨len - (n+1),by omega,n+1,by omega,rfl,hx⟩
  |ret=>exact hx.elim
  |exit i=>exact hx.elim
 .have:n=len:=by omega
  subst this;refine⟨_,he s hJ,fun x s' hx=> ?_⟩;cases x with
  |nrm=>exact hx.elim
  |ret=>exact hq _ _ hx
  |exit i=>exact hq _ _ hx
def nxH(J:Nat->σ->St->Prop)(R:ρ->Ex->St->Prop)(n:Nat)(b:σ⊕ρ)(x:Ex)(s:St):Prop:=match x with
 | .nrm=>∃a,b= .inl a/\J (n+1) a s
 |x=>∃r,b= .inr r/\R r x s
def zfX{J:Nat->σ->St->Prop}{R:ρ->Ex->St->Prop}{n:Nat}{b:σ⊕ρ}{s:St}:nxH J R n b .nrm s=∃a,b= .inl a/\J (n+1) a s:=rfl
def zfZ{J:Nat->σ->St->Prop}{R:ρ->Ex->St->Prop}{n:Nat}{b:σ⊕ρ}{s:St}:nxH J R n b .ret s=∃r,b= .inr r/\R r .ret s:=rfl
def zfW{J:Nat->σ->St->Prop}{R:ρ->Ex->St->Prop}{n i:Nat}{b:σ⊕ρ}{s:St}:nxH J R n b (.exit i) s=∃r,b= .inr r/\R r (.exit i) s:=rfl
def nxS{β:Type}(J:Nat->St->Prop)(R:β->Ex->St->Prop)(n:Nat)(b:Option β)(x:Ex)(s:St):Prop:=match x with
 | .nrm=>b=none/\J (n+1) s
 |x=>∃r,b=some r/\R r x s
def zf2{β:Type}{J:Nat->St->Prop}{R:β->Ex->St->Prop}{n:Nat}{b:Option β}{s:St}:nxS J R n b .nrm s=(b=none/\J (n+1) s):=rfl
def zf4{β:Type}{J:Nat->St->Prop}{R:β->Ex->St->Prop}{n:Nat}{b:Option β}{s:St}:nxS J R n b .ret s=∃r,b=some r/\R r .ret s:=rfl
def zf1{β:Type}{J:Nat->St->Prop}{R:β->Ex->St->Prop}{n i:Nat}{b:Option β}{s:St}:nxS J R n b (.exit i) s=∃r,b=some r/\R r (.exit i) s:=rfl
end
def rR [Globs]:=And.intro rulA (qI @zf0 (qI @Function.comp_def.{1,1,1} (qI @Nat.blt_eq (qI @zfT (qI @zfU (qI @zfS (qI @zfQ (qI @zfR (qI @zfN (qI @zfV (qI @zfX (qI @zfZ (qI @zfW (qI @zf2 (qI @zf4 (qI @zf1 (qI @apO.eq_1 (@apO.eq_2))))))))))))))))))
end Go.Vse
end
