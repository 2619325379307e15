/- semantics.Evaluate: a round of the loop over the answers; the loop. -/
import Derived.Test.YthcehnaehljnfaaGreatDoorPh
import Derived.KernelRfl
import Derived.IntWalk
set_option linter.all false
set_option maxRecDepth 100000
set_option maxHeartbeats 4000000
noncomputable section
section
namespace Go.Proofs.YthcehnaehljnfaaGreatDoor
open Go Go.Vse Go.Vse.Sm
def zhn{a:Act}{i:Nat}{v:Value}(h:a.tmps[i]? =some v):a.eval (.tmp i)=v:=by simp[Act.eval,Z19,h]
def zgD{a:Act}{i:Nat}{v:Value}(h:i<a.tmps.size):(a.put (some i) v).tmps[i]? =some v:=by simp[Act.put,h]
def znC{a:Act}{i j:Nat}{v:Value}(h:i≠j):(a.put (some i) v).tmps[j]? =a.tmps[j]? :=by simp only[Act.put];exact Z93 h
def zpv{a:Act}{i:Nat}{v:Value}:(a.put (some i) v).tmps.size=a.tmps.size:=by simp[Act.put]
def zjw{d:D}{j:Nat}(h:j≠5):((T.e:T D).set 5 d).get j=none:=by rw[TG,Z49 h];rfl
theorem zJu{amb:Mu}{w0 w:World}{key:List Int->Str}{E:List Er}{Mp lo c r bm cl:Nat}{idx:List Nat}{a:Act}{ρ:Nat->Option Nat}{h:T Ob}{d:D}{es:Array MapEntry}{seen:Array Nat}(hJ:LJ amb w0 key E Mp lo idx a w ρ h c d r bm es cl seen)(hE:E.length<=12){Q1:Exit->Act->World->Prop}
    (hend:(∀j,j<E.length->j∈idx)->∀a' w',AtS amb w0 29 (CS (T.e.set 5 d) h c) ρ a' w'->Q1 (.exit 0) a' w')
    (hmore:∀j a' w' ρ' h' c' d' seen',j∉idx->j<E.length->LJ amb w0 key E Mp lo (idx++[j]) a' w' ρ' h' c' d' r bm es cl seen'->Q1 .normal a' w'):evL.wp Tryz.prog Q1 a w:=by
  have hnt:=hJ.A.ss.nt;obtain⟨b,hb,es',cl',m1,m2,m3⟩ :=hJ.A.ss.sim.obj Mp _ hJ.m;have eb:b=bm:=Z53 (hb.symm.trans hJ.I.m);subst eb;have ee:=Z53 (m1.symm.trans hJ.I.e);simp only[Obj.map.injEq]at ee;obtain⟨rfl,rfl⟩ :=ee;rw[z0w];refine wp_seq ?_;obtain⟨id5,e5⟩ :=ev5;rw[e5];refine wp_region ?_;rw[o5_n,wpOps_cons];have h17:=zhn hJ.t;rcases run_next_at (P:=Tryz.prog) w (o5 0).type r b cl' cl' seen es' cl' hJ.I.i hJ.I.e m3.2 (Z2 _)with⟨h0,hrun⟩ |⟨e,hme,w1,hw1,hrun⟩
  . refine ziu o50.1 o50.2.2.1 (zsJ o50.2.1 (by rw[h17];exact hrun)) ?_;rw[o50.2.2.2,wpOps_cons];refine ziu o51.1 o51.2.2.1 (zo5 (v:= .bool false) o51.2.1 (zhn (zgD (by omega))) rfl) ?_;rw[o51.2.2.2];refine wp_seq ?_;refine wp_cond_false (zhn (zgD (by rw[zpv];omega))) ?_;refine wp_exit ?_;refine hend (fun j hj=> ?_) _ _ ((hJ.A.free (zjw (by omega)) _).free (zjw (by omega)) _);have hl:=m2.len;simp only[mpE,Z18,Z72]at hl;have hje:es'[j]? =some es'[j]:=Array.getElem?_eq_getElem (by omega);have hin:=all_seen es' seen h0 es'[j] (by simp);have hin2:(es'[j]'(by omega)).born∈seen.toList:=by simpa using hin
    rw[hJ.s]at hin2;obtain⟨i,hi,he⟩ :=List.mem_filterMap.1 hin2;obtain⟨x,hx,hxe⟩ :=Option.map_eq_some_iff.1 he;have hil:=hJ.b i hi;have hie:es'[i]? =some es'[i]:=Array.getElem?_eq_getElem (by omega);rw[hie]at hx;rw[<-Z53 hx]at hxe;have:i=j:=by
      have h1:i< (es'.toList.map (·.born)).length:=by simp;omega
      have h2:j< (es'.toList.map (·.born)).length:=by simp;omega
      exact (List.getElem_inj (h₀:=h1) (h₁:=h2) m3.1).1 (by simpa using hxe)
    exact this▸hi
  . obtain⟨hme1,hme2⟩ :=mem_left hme;refine ziu o50.1 o50.2.2.1 (zsJ o50.2.1 (by rw[h17];exact hrun)) ?_;rw[o50.2.2.2,wpOps_cons];refine ziu o51.1 o51.2.2.1 (zo5 (v:= .bool true) o51.2.1 (zhn (zgD (by omega))) rfl) ?_;rw[o51.2.2.2];generalize hw':ChangeMaps.setBlock w1 r (.mapIter (some b) cl' (seen.push e.born) cl')=w';obtain⟨A1,I1⟩ :=hJ.A.iter hJ.I hw1 hw'.symm;obtain⟨b2,hb2,es2,cl2,n1,n2,n3⟩ :=A1.ss.sim.obj Mp _ hJ.m;have eb:b2=b:=Z53 (hb2.symm.trans I1.m);subst eb;have ee:=Z53 (n1.symm.trans I1.e);simp only[Obj.map.injEq]at ee;obtain⟨rfl,rfl⟩ :=ee;obtain⟨j,hj⟩ :=List.mem_iff_getElem?.1 hme1;obtain⟨p,hp,hrel⟩ :=zHj n2 hj;simp only[mpE,Z36]at hp;obtain⟨q,hq,rfl⟩ :=Option.map_eq_some_iff.1 hp;have hqm:=Z39 hq;have hjl:j<E.length:=(Z8.1 hq).1;have hja:es2[j]? =some e:=by rw[<-Z69];exact hj
    have hjn:j∉idx:=fun hi=>by
      have:e.born∈seen.toList:=by
        rw[hJ.s];exact List.mem_filterMap.2 ⟨j,hi,by rw[hja];rfl⟩
      have h2:seen.contains e.born=true:=by simpa using this
      rw[h2]at hme2;cases hme2
    have A2:=(A1.free (zjw (d:=d) (j:=18) (by omega)) (.tuple #[.bool true,e.key,e.val])).free (zjw (d:=d) (j:=19) (by omega)) (.bool true);have t2:(((a.put (some 18) (.tuple #[.bool true,e.key,e.val])).put (some 19) (.bool true))).tmps[17]? =some (.pointer (some ⟨r,0,none⟩)):=by
      rw[znC (by omega),znC (by omega)];exact hJ.t
    refine wp_seq ?_;refine wp_cond_true (zhn (zgD (by rw[zpv];omega))) ?_;refine wp_skip ?_;generalize (a.put (some 18) (.tuple #[.bool true,e.key,e.val])).put (some 19) (.bool true)=a2 at A2 t2;have hnt2:=A2.ss.nt;refine wp_block ?_;refine wp_seq ?_;obtain⟨id6,e6⟩ :=ev6;rw[e6];refine wp_region ?_;rw[o6_n,wpOps_cons];refine ziu o60.1 o60.2.2.1 (zDb o60.2.1 (by rw[zhn t2];exact run_entry_at w' r b2 cl2 seen es2 cl2 e I1.i I1.e hme1 n3.1)) ?_;rw[o60.2.2.2,wpOps_cons];refine ziu o61.1 o61.2.2.1 (zo5 (v:=e.val) o61.2.1 (zhn (zgD (by omega))) rfl) ?_;rw[o61.2.2.2,wpOps_cons];refine ziu o62.1 o62.2.2.1 (zAh o62.2.1) ?_;rw[o62.2.2.2,zhn (zgD (by rw[zpv];omega))];obtain⟨ir,ro,eq1,k1,k2,k3⟩ :=hJ.e q hqm;have A3:=zRs ((A2.free (zjw (d:=d) (j:=20) (by omega)) (.tuple #[e.key,e.val])).free (zjw (d:=d) (j:=21) (by omega)) e.val) (j:=7) (by omega) hrel;have t3:(((a2.put (some 20) (.tuple #[e.key,e.val])).put (some 21) e.val).put (some 7) e.val).tmps[17]? =some (.pointer (some ⟨r,0,none⟩)):=by
      rw[znC (by omega),znC (by omega),znC (by omega)];exact t2
    show(Code.wp _ _ _ _ _);generalize ((a2.put (some 20) (.tuple #[e.key,e.val])).put (some 21) e.val).put (some 7) e.val=a3 at A3 t3;obtain⟨id7,e7⟩ :=ev7;rw[e7];simp only at A3;rw[eq1]at A3;have hil:idx.length<=E.length:=znB _ _ hJ.n hJ.b;have hRl:(idx.filterMap (E[·]?)).length<=idx.length:=List.length_filterMap_le _ _;refine zZm zhO o7c A3 (zIV (v:=q.2) hJ.g hJ.z hJ.l.1 hJ.l.2 (by omega)) o7d fun s' ρ' a' w2 hK hA' hKp ht=> ?_
    obtain⟨_,hc,hlw,d',h5,hG',hZ',hfr⟩ :=hK;have hoid:∀x,d.oid=some x->lo<=x:=fun x hx=>(zbr hJ.g hx).1
    have hl:=hJ.l;have hqe:(D.sl ir 0 q.2.length 3 q.2.length true,q.2)=q:=by rw[<-eq1]
    refine hmore j a' w2 ρ' s'.h s'.c d' _ hjn hjl ⟨zGU hA' fun i x hi=> ?_,hKp _ _ _ _ _ _ _ _ I1 (by show Mp<c;omega) hlw,ht.trans t3,?_,fun p hp=> ?_,?_,hZ',⟨hl.1,by omega⟩,?_,fun i hi=> ?_,?_⟩
    . rw[TG]at hi;split at hi
      . rename_i h5';subst h5';cases hi;exact h5
      . cases hi
    . rw[hfr Mp (by omega) fun e=>by have:=hoid _ e;omega];exact hJ.m
    . obtain⟨i1,r1,f1,f2,f3,f4⟩ :=hJ.e p hp;exact⟨i1,r1,f1,by rw[hfr i1 (by omega) fun e=>by have:=hoid _ e;omega];exact f2,f3,f4⟩
    . rw[List.filterMap_append,show[j].filterMap (E[·]?)=[q] by simp[hq]];rw[hqe]at hG';exact hG'
    . rw[Z90];exact⟨hJ.n,by simp,fun x hx y hy e=>by simp only[Z31]at hy;subst hy;subst e;exact hjn hx⟩
    . rcases Z4.1 hi with hi|hi
      . exact hJ.b i hi
      . simp only[Z31]at hi;omega
    . rw[Array.toList_push,hJ.s,List.filterMap_append];simp[hja]
theorem ztj{α:Type}:∀(E:List α),(List.range E.length).filterMap (E[·]?)=E
 |[]=>rfl
 |x::E=>by
  rw[Z23,List.range_succ_eq_map,List.filterMap_cons];simp only[List.getElem?_cons_zero,List.filterMap_map,Z67,List.getElem?_cons_succ];rw[ztj E]
def zKc{n:Nat}{l:List Nat}(h1:l.Nodup)(h2:∀j∈l,j<n)(h3:∀j,j<n->j∈l):l.Perm (List.range n):=
 (List.perm_ext_iff_of_nodup h1 List.nodup_range).2 fun a=>⟨fun h=>Z174.2 (h2 a h),fun h=>h3 a (Z174.1 h)⟩
def EvEnd(amb:Mu)(w0:World)(E:List Er)(Mp lo:Nat)(a:Act)(w:World):Prop:=∃ρ h c d R,AtS amb w0 29 (CS (T.e.set 5 d) h c) ρ a w/\Gro h lo c 1 d (rE R)/\GZ h d/\R.Perm E/\(∀p∈E,zuM h Mp lo p.1 p.2)/\lo<=c
def LJ.rows{amb:Mu}{w0 w:World}{key:List Int->Str}{E:List Er}{Mp lo c r bm cl:Nat}{idx:List Nat}{a:Act}{ρ:Nat->Option Nat}{h:T Ob}{d:D}{es:Array MapEntry}{seen:Array Nat}(hJ:LJ amb w0 key E Mp lo idx a w ρ h c d r bm es cl seen):∀p∈E,zuM h Mp lo p.1 p.2:=hJ.e
theorem zAC{amb:Mu}{w0:World}{key:List Int->Str}{E:List Er}{Mp lo:Nat}(hE:E.length<=12){Q:Exit->Act->World->Prop}(hQ:∀a w,EvEnd amb w0 E Mp lo a w->Q (.exit 0) a w):
  ∀(k:Nat) (idx:List Nat) (a:Act) (w:World) (ρ:Nat->Option Nat) (h:T Ob) (c:Nat) (d:D) (r bm:Nat) (es:Array MapEntry) (cl:Nat) (seen:Array Nat),LJ amb w0 key E Mp lo idx a w ρ h c d r bm es cl seen->E.length<=idx.length+k->Code.rounds Tryz.prog evL Q (k+1) a w
 |k,idx,a,w,ρ,h,c,d,r,bm,es,cl,seen,hJ,hk=>by
  rw[rounds_succ];refine zJu hJ hE (fun hall a' w' hA=> ?_) fun j a' w' ρ' h' c' d' seen' hj hjl hJ'=> ?_
  .show Q (.exit 0) a' w';refine hQ a' w' ⟨ρ,h,c,d,_,hA,hJ.g,hJ.z,?_,hJ.e,hJ.l.2⟩;have:=(zKc hJ.n hJ.b hall).filterMap (E[·]?)
   rwa[ztj]at this
  .show Code.rounds Tryz.prog evL Q k a' w';cases k with
   |zero=>
    have h1:=znB _ _ hJ'.n hJ'.b;simp at h1;omega
   |succ k=>exact zAC hE hQ k _ a' w' ρ' h' c' d' r bm es cl seen' hJ' (by simp;omega)
def o4(i:Nat):Oper:=(opsOf evR).getD i default
def ev4:∃id,evR= .region id (opsOf evR) true:=⟨4,by kernel_rfl⟩
def o4_n:(opsOf evR).size=6:=by kernel_rfl
def fol:Tryz.prog.follows .mixedOrders=true:=by kernel_rfl
def rdA:Region.ready .any (opsOf evR) #[false,false,false,false,false,false]=[0,2]:=by kernel_rfl
def rdB:Region.ready .any (opsOf evR) #[true,false,false,false,false,false]=[1,2]:=by kernel_rfl
def rdC:Region.ready .any (opsOf evR) #[false,false,true,false,false,false]=[0]:=by kernel_rfl
def rdD:Region.ready .any (opsOf evR) #[true,true,false,false,false,false]=[2]:=by kernel_rfl
def rdE:Region.ready .any (opsOf evR) #[true,false,true,false,false,false]=[1]:=by kernel_rfl
def rdF:Region.ready .any (opsOf evR) #[true,true,true,false,false,false]=[3]:=by kernel_rfl
def rdG:Region.ready .any (opsOf evR) #[true,true,true,true,false,false]=[4]:=by kernel_rfl
def rdH:Region.ready .any (opsOf evR) #[true,true,true,true,true,false]=[5]:=by kernel_rfl
def rdI:Region.ready .any (opsOf evR) #[true,true,true,true,true,true]=[]:=by kernel_rfl
def cE0:(opsOf evR)[0]? =some (o4 0)/\zbO Tryz.prog pur 29 (opsOf evR) (o4 0)=some ⟨some 12,none,.mv (.t 0)⟩ :=⟨by kernel_rfl,by kernel_rfl⟩
def cE1:(opsOf evR)[1]? =some (o4 1)/\zbO Tryz.prog pur 29 (opsOf evR) (o4 1)=some ⟨some 13,none,.call 27 [.t 12]⟩ :=⟨by kernel_rfl,by kernel_rfl⟩
def cE2:(opsOf evR)[2]? =some (o4 2)/\zbO Tryz.prog pur 29 (opsOf evR) (o4 2)=some ⟨some 14,none,.ld true 2 (.t 3)⟩ :=⟨by kernel_rfl,by kernel_rfl⟩
def cE3:(opsOf evR)[3]? =some (o4 3)/\zbO Tryz.prog pur 29 (opsOf evR) (o4 3)=some ⟨some 15,none,.call 26 [.t 13,.t 14]⟩ :=⟨by kernel_rfl,by kernel_rfl⟩
def cE4:(opsOf evR)[4]? =some (o4 4)/\zbO Tryz.prog pur 29 (opsOf evR) (o4 4)=some ⟨some 16,none,.call 28 [.t 15]⟩ :=⟨by kernel_rfl,by kernel_rfl⟩
def isMp:Option TypeDesc->Bool
 |some (.map _ _)=>true
 |_=>false
def zSJ{x:Option TypeDesc}(h:isMp x=true):∃k e,x=some (.map k e):=by
 unfold isMp at h;split at h
 .exact⟨_,_,rfl⟩
 .cases h
def cE5:(opsOf evR)[5]? =some (o4 5)/\(∃t,(o4 5).op= .range t (.tmp 16)/\∃k e,Tryz.prog.underlying t=some (.map k e))/\(o4 5).guard=none/\(o4 5).dst=some 17:=⟨by kernel_rfl,⟨83,by kernel_rfl,zSJ (by kernel_rfl)⟩,by kernel_rfl,by kernel_rfl⟩
def zfA{P:Program}{ops:Array Oper}{Q:Exit->Act->World->Prop}{n:Nat}{listed:Array Bool}{a:Act}{w:World}{l:List Nat}(hr:Region.ready .any ops listed=l)(hne:l≠[])(h:∀i∈l,wpOp P ops Q i (wpAny P .any ops Q n (listed.setIfInBounds i true)) a w):wpAny P .any ops Q (n+1) listed a w:=
 ⟨fun e=>absurd (hr▸e) hne,fun i hi=>h i (hr▸hi)⟩
structure Kr(L:List Rl)(hd:List Str)(qs:List (List Str×CQ))(x y z:Bool)(s:St):Prop where
 r:Rg [(0,.f (zbS L)),(3,.ptr 0 2 0 0),(5,.f .nils)] s
 h:s.h.get 0=some (.arr 2 0 [[.f (zak hd),.f (qsF (qs.map (·.2)))]])
 c:0<s.c
 x:x=true->s.tm.get 12=some (.f (zbS L))
 y:y=true->∃S,s.tm.get 13=some (.ptr S 2 0 0)/\zdm s.h s.c S L
 z:z=true->s.tm.get 14=some (.ag ((qyF hd qs).map D.f))
def kr_x{L:List Rl}{hd:List Str}{qs:List (List Str×CQ)}{z:Bool}{s:St}(H:Kr L hd qs false false z s):wpO pr [⟨some 12,none,.mv (.t 0)⟩] s (Kr L hd qs true false z):=by
 obtain⟨⟨k0,k3,k5,-⟩,g,hc,-,-,hz⟩ :=H;simp[rW,k0];exact⟨by simp only[Rg];simp[rW,k0,k3,k5],by simp only[rG];exact g,by simp only[rG];exact hc,(fun _=>by simp[rW]),(fun h=>by cases h),fun h=>by simp[rW];exact hz h⟩
def kr_z{L:List Rl}{hd:List Str}{qs:List (List Str×CQ)}{x y:Bool}{s:St}(H:Kr L hd qs x y false s):wpO pr [⟨some 14,none,.ld true 2 (.t 3)⟩] s (Kr L hd qs x y true):=by
 obtain⟨⟨k0,k3,k5,-⟩,g,hc,hx,hy,-⟩ :=H;simp[rW,k3,g];refine⟨by simp only[Rg];simp[rW,k0,k3,k5],by simp only[rG];exact g,by simp only[rG];exact hc,(fun h=>by simp[rW];exact hx h),fun h=> ?_,fun h=>by simp[rW];rfl⟩;obtain⟨S,h1,h2⟩ :=hy h;exact⟨S,by simp[rW,h1],by simp only[rG];exact h2⟩
def kr_y{L:List Rl}{hd:List Str}{qs:List (List Str×CQ)}{z:Bool}{s:St}(hLR:LR L)(H:Kr L hd qs true false z s):wpO pr [⟨some 13,none,.call 27 [.t 12]⟩] s (Kr L hd qs true true z):=by
 obtain⟨⟨k0,k3,k5,-⟩,g,hc,hx,-,hz⟩ :=H;have k12:=hx rfl;cases z with
 |false=>
  simp[rW,k12];refine zbQ [(0,.f (zbS L)),(3,.ptr 0 2 0 0),(5,.f .nils),(12,.f (zbS L))] (zPj hLR (h0:=s.h) (c0:=s.c)) rfl rfl (by simp only[Rg];simp[rW,k0,k3,k5,k12]) rfl ?_;rintro s2 d2 ⟨rfl,W,HSR⟩ hc2 j13 ⟨j0,j3,j5,j12,-⟩;refine⟨?_⟩;simp[rW];exact⟨by simp only[Rg];simp[rW,j0,j3,j5],by rw[HSR.f 0 hc];exact g,by omega,fun _=>j12,fun _=>⟨_,j13,(zIj HSR).lo (Z2 _)⟩,(fun h=>by cases h)⟩
 |true=>
  have k14:=hz rfl;simp[rW,k12];refine zbQ [(0,.f (zbS L)),(3,.ptr 0 2 0 0),(5,.f .nils),(12,.f (zbS L)),(14,.ag ((qyF hd qs).map D.f))] (zPj hLR (h0:=s.h) (c0:=s.c)) rfl rfl (by simp only[Rg];simp[rW,k0,k3,k5,k12,k14]) rfl ?_;rintro s2 d2 ⟨rfl,W,HSR⟩ hc2 j13 ⟨j0,j3,j5,j12,j14,-⟩;refine⟨?_⟩;simp[rW];exact⟨by simp only[Rg];simp[rW,j0,j3,j5],by rw[HSR.f 0 hc];exact g,by omega,fun _=>j12,fun _=>⟨_,j13,(zIj HSR).lo (Z2 _)⟩,fun _=>j14⟩
def Ku(L:List Rl)(hd:List Str)(qs:List (List Str×CQ))(s:St):Prop:=s.tm.get 5=some (.f .nils)/\∃S c1 U Z dd dh,s.tm.get 15=some (.ptr U 2 0 0)/\UnA L S c1 U hd qs s.h s.c Z dd dh
def kr_u{L:List Rl}{hd:List Str}{qs:List (List Str×CQ)}{s:St}(HL:zlo L)(HQ:zCw L hd qs)(H:Kr L hd qs true true true s):wpO pr [⟨some 15,none,.call 26 [.t 13,.t 14]⟩] s (Ku L hd qs):=by
 obtain⟨⟨k0,k3,k5,-⟩,g,hc,-,hy,hz⟩ :=H;obtain⟨S,k13,hS⟩ :=hy rfl;have k14:=hz rfl;simp[rW,k13,k14];refine zbQ [(5,.f .nils)] (eff26 (S:=S) (c1:=s.c) (h:=s.h) (c0:=s.c) HL HQ hS (Z2 _)) rfl rfl (by simp only[Rg];simp[rW,k5]) rfl ?_;rintro s3 d3 ⟨U,_,rfl,⟨Z,dd,dh,HA⟩,hf3⟩ hc3 i15 ⟨i5,-⟩;refine⟨?_⟩;simp[rW];exact⟨i5,S,_,U,Z,dd,dh,i15,HA⟩
def Km(L:List Rl)(Vz:Int->Prop)(key:List Int->Str)(hd:List Str)(qs:List (List Str×CQ))(s:St):Prop:=s.tm.get 5=some (.f .nils)/\∃Mp E,s.tm.get 16=some (.mp Mp)/\FmA (Vr Vz hd.length) key Mp E s.h s.c/\AnK L hd qs qs.length E
def kr_m{L:List Rl}{Vz:Int->Prop}{key:List Int->Str}{hd:List Str}{qs:List (List Str×CQ)}{s:St}(hK:ziZ (Vr Vz hd.length) key)(HQ:zoW L Vz hd qs)(H:Ku L hd qs s):wpO pr [⟨some 16,none,.call 28 [.t 15]⟩] s (Km L Vz key hd qs):=by
 obtain⟨k5,S,c1,U,Z,dd,dh,k15,HA⟩ :=H;simp[rW,k15];refine zbQ [(5,.f .nils)] (eff28 hK HQ HA) rfl rfl (by simp only[Rg];simp[rW,k5]) rfl ?_;rintro s3 d3 ⟨Mp,E,rfl,h1,h2⟩ hc3 i16 ⟨i5,-⟩;refine⟨?_⟩;simp[rW];exact⟨i5,Mp,E,i16,h1,h2⟩
theorem z0x{L:List Rl}{Vz:Int->Prop}{key:List Int->Str}{hd:List Str}{qs:List (List Str×CQ)}(hLR:LR L)(HL:zlo L)(hK:ziZ (Vr Vz hd.length) key)(HQ:zoW L Vz hd qs){amb:Mu}{w0 w:World}{s:St}{ρ:Nat->Option Nat}{a:Act}(hA:AtS amb w0 29 s ρ a w)(H:Kr L hd qs false false false s){Q:Exit->Act->World->Prop}
  (hQ:∀a w ρ h c r bm es cl Mp E,LJ amb w0 key E Mp c [] a w ρ h c (.f .nils) r bm es cl #[]->(E.map (·.2)).Nodup->AnK L hd qs qs.length E->Q .normal a w):evR.wp Tryz.prog Q a w:=by
 obtain⟨id4,e4⟩ :=ev4;rw[e4];refine wp_region_any fol ?_;rw[o4_n];have tail:∀s ρ a w,AtS amb w0 29 s ρ a w->Kr L hd qs true true true s->wpAny Tryz.prog .any (opsOf evR) Q 3 #[true,true,true,false,false,false] a w:=fun s ρ a w hA H=>by
  refine zfA (n:=2) rdF (by simp) fun i hi=> ?_
  simp only[Z31]at hi;subst hi;refine zqG zhO cE3.2 cE3.1 hA (kr_u HL HQ.v.u H) fun s1 ρ1 a1 w1 H1 A1=> ?_
  refine zfA (n:=1) rdG (by simp) fun i hi=> ?_
  simp only[Z31]at hi;subst hi;refine zqG zhO cE4.2 cE4.1 A1 (kr_m hK HQ H1) fun s2 ρ2 a2 w2 H2 A2=> ?_
  refine zfA (n:=0) rdH (by simp) fun i hi=> ?_
  simp only[Z31]at hi;subst hi;obtain⟨k5,Mp,E,k16,HF,hAn⟩ :=H2;obtain⟨v,hv,hr⟩ :=A2.ss.tmr 16 _ k16;have A3:=zGU A2 (t:=T.e.set 5 (.f .nils)) fun i x hi=>by
   rw[TG]at hi;split at hi
   .rename_i h5;subst h5;cases hi;exact k5
   .cases hi
  obtain⟨ho,⟨t,hop,k,e,hu⟩,hg,hdst⟩ :=cE5;obtain⟨bm,es,cl,w3,hrun,A4,I4,-,-⟩ :=zEi A3 (show(CS _ s2.h s2.c).h.get Mp=_ from HF.m) hr hu;refine ziu ho hg (zDd hop (by rw[zhn hv];exact hrun)) ?_;rw[hdst];refine⟨rdI,hQ _ w3 ρ2 s2.h s2.c _ bm es cl Mp E ⟨A4.free (zjw (by omega)) _,I4,zgD (by have:=A4.ss.nt;omega),HF.m,fun p hp=>(HF.e p hp).1,Gro.nil,(fun id es ro els e _=>by simp[D.oid]at e),⟨HF.b,Z2 _⟩,List.nodup_nil,(fun j hj=>by cases hj),rfl⟩ HF.n hAn⟩
 have stX:∀z s ρ a w K,AtS amb w0 29 s ρ a w->Kr L hd qs false false z s->(∀s ρ a w,AtS amb w0 29 s ρ a w->Kr L hd qs true false z s->K a w)->wpOp Tryz.prog (opsOf evR) Q 0 K a w:=fun z s ρ a w K hA H hK=>zqG zhO cE0.2 cE0.1 hA (kr_x H) fun s1 ρ1 a1 w1 H1 A1=>hK s1 ρ1 a1 w1 A1 H1
 have stY:∀z s ρ a w K,AtS amb w0 29 s ρ a w->Kr L hd qs true false z s->(∀s ρ a w,AtS amb w0 29 s ρ a w->Kr L hd qs true true z s->K a w)->wpOp Tryz.prog (opsOf evR) Q 1 K a w:=fun z s ρ a w K hA H hK=>zqG zhO cE1.2 cE1.1 hA (kr_y hLR H) fun s1 ρ1 a1 w1 H1 A1=>hK s1 ρ1 a1 w1 A1 H1
 have stZ:∀x y s ρ a w K,AtS amb w0 29 s ρ a w->Kr L hd qs x y false s->(∀s ρ a w,AtS amb w0 29 s ρ a w->Kr L hd qs x y true s->K a w)->wpOp Tryz.prog (opsOf evR) Q 2 K a w:=fun x y s ρ a w K hA H hK=>zqG zhO cE2.2 cE2.1 hA (kr_z H) fun s1 ρ1 a1 w1 H1 A1=>hK s1 ρ1 a1 w1 A1 H1
 have midE:∀s ρ a w,AtS amb w0 29 s ρ a w->Kr L hd qs true false true s->wpAny Tryz.prog .any (opsOf evR) Q 4 #[true,false,true,false,false,false] a w:=fun s ρ a w hA H=>by
  refine zfA (n:=3) rdE (by simp) fun i hi=> ?_
  simp only[Z31]at hi;subst hi;exact stY _ s ρ a w _ hA H fun s ρ a w hA H=>tail s ρ a w hA H
 refine zfA (n:=5) rdA (by simp) fun i hi=> ?_
 simp only[Z5,Z164,or_false]at hi;rcases hi with rfl|rfl
 .refine stX _ s ρ a _ _ hA.drew H fun s ρ a w hA H=> ?_
  refine zfA (n:=4) rdB (by simp) fun i hi=> ?_
  simp only[Z5,Z164,or_false]at hi;rcases hi with rfl|rfl
  .refine stY _ s ρ a w _ hA H fun s ρ a w hA H=> ?_
   refine zfA (n:=3) rdD (by simp) fun i hi=> ?_
   simp only[Z31]at hi;subst hi;exact stZ _ _ s ρ a w _ hA H fun s ρ a w hA H=>tail s ρ a w hA H
  .exact stZ _ _ s ρ a w _ hA H fun s ρ a w hA H=>midE s ρ a w hA H
 .refine stZ _ _ s ρ a _ _ hA.drew H fun s ρ a w hA H=> ?_
  refine zfA (n:=4) rdC (by simp) fun i hi=> ?_
  simp only[Z31]at hi;subst hi;exact stX _ s ρ a w _ hA H fun s ρ a w hA H=>midE s ρ a w hA H
theorem zHP{α:Type}[DecidableEq α]:∀(l B:List α),l.Nodup->(∀v∈l,v∈B)->l.length<=B.length
 |[],_,_,_=>Z61 _
 |x::l,B,h,hs=>by
  obtain⟨h1,h2⟩ :=Z74.1 h;have hx:=hs x (by simp);have:=zHP l (B.erase x) h2 fun v hv=>(List.mem_erase_of_ne (fun e:v=x=>h1 (e▸hv))).2 (hs v (by simp[hv]))
  rw[List.length_erase_of_mem hx]at this;have:=List.length_pos_of_mem hx;simp only[Z23];omega
def K1(L:List Rl)(hd:List Str)(qs:List (List Str×CQ))(x:Ex)(s:St):Prop:=x= .nrm/\Rg [(0,.f (zbS L)),(3,.ptr 0 2 0 0)] s/\s.h.get 0=some (.arr 2 0 [[.f (zak hd),.f (qsF (qs.map (·.2)))]])/\0<s.c
def walk0(L:List Rl)(hd:List Str)(qs:List (List Str×CQ)):wpC pr g8.body.l (st0 (F.dL [zbS L,.ag (qyF hd qs)]) .e 0) (K1 L hd qs):=by
  have hsd:(zak hd).d= .f (zak hd):=zbl hd;have hqd:(qsF (qs.map (·.2))).d= .f (qsF (qs.map (·.2))):=zeH _;have e:F.dL [zbS L,.ag (qyF hd qs)]=[.f (zbS L),.ag [.f (zak hd),.f (qsF (qs.map (·.2)))]]:=by
    simp only[F.dL,F.d,ziK,qyF,hsd,hqd]
  rw[e];unfold g8;simp only[rU,C.l,C.r,C.b,C.o];simp[rW,st0,zay];refine⟨rfl,by simp only[Rg];simp[rW],by simp[rW],by simp only[rG];omega⟩
def walk1{L:List Rl}{hd:List Str}{qs:List (List Str×CQ)}(hval:Ans pr 25 [zbS L,.ag (qyF hd qs)] (.b true)){s:St}(H:K1 L hd qs .nrm s):wpC pr g8.body.r.l s (K1 L hd qs):=by
  obtain⟨-,⟨k0,k3,-⟩,g,hc⟩ :=H;have hsd:(zak hd).d= .f (zak hd):=zbl hd;have hqd:(qsF (qs.map (·.2))).d= .f (qsF (qs.map (·.2))):=zeH _;have ec:qyF hd qs=[zak hd,qsF (qs.map (·.2))]:=rfl;rw[ec]at hval;have q1:=fun k=>zaC (k:=k) hval
  unfold g8;simp only[rU,C.l,C.r,C.b,C.o];simp[rW,k0,k3,g,q1];exact⟨rfl,by simp only[Rg];simp[rW,k0,k3],by simp only[rG];exact g,by simp only[rG];exact hc⟩
def walk2{L:List Rl}{hd:List Str}{qs:List (List Str×CQ)}{s:St}(H:K1 L hd qs .nrm s):wpC pr g8.body.r.r.l s (fun x s=>x= .nrm/\Kr L hd qs false false false s):=by
 obtain⟨-,⟨k0,k3,-⟩,g,hc⟩ :=H;unfold g8;simp only[rU,C.l,C.r,C.b,C.o];simp[rW];exact⟨by simp only[Rg];simp[rW,k0,k3],by simp only[rG];exact g,by simp only[rG];exact hc,(fun h=>by cases h),(fun h=>by cases h),(fun h=>by cases h)⟩
theorem walk4{E R0:List Er}{R:List (List Int)}{Mp lo c:Nat}{h:T Ob}{d:D}(hG:Gro h lo c 1 d (rE R0))(hZ:GZ h d)(hp:R0.Perm E)(hE:∀p∈E,zuM h Mp lo p.1 p.2)(hn:(E.map (·.2)).Nodup)(hl:E.length<=12)(hv:∀p∈E,p.2.length<1000)(hlo:lo<=c)(hS:zmS R)(hR:∀v,v∈R↔v∈E.map (·.2)):
    wpC pr g8.body.r.r.r.r (CS (T.e.set 5 d) h c) fun x s=>x= .ret/\∃d' rd,resD s [.t 4]=some d'/\frz s.h.get 12 d'=some (zeY R,rd):=by
  have hlen:=hp.length_eq;have hrow:∀p∈R0,zf4 h c p.1 p.2/\p.2.length<1000:=fun p hm=>by
    have hm2:=hp.mem_iff.1 hm;obtain⟨id,ro,e,h1,h2,h3⟩ :=hE p hm2;exact⟨⟨id,ro,true,e,h1,by omega⟩,hv p hm2⟩
  obtain⟨s1,s2⟩ :=insE R0 (by omega);have hRR:(Go.Sort.insertionSort ltE R0.toArray 0 R0.length).toList.map (·.2)=R:=by
    have hnd:((Go.Sort.insertionSort ltE R0.toArray 0 R0.length).toList.map (·.2)).Nodup:=((s1.trans hp).map (·.2)).nodup_iff.2 hn;refine zBB (zUn s2 hnd) hS fun v=> ?_
    rw[hR];exact ((s1.trans hp).map (·.2)).mem_iff
  unfold g8;simp only[rU,C.l,C.r,C.b,C.o];unfold CS;rcases hG with⟨rfl,he⟩ |⟨id,ro,rfl,g1,g2,g3,g4⟩
  . have hR0:R0=[]:=by simpa [rE]using he
    subst hR0;have hRn:R=[]:=by rw[<-hRR];simpa using s1
    subst hRn;simp[rW];refine zbQ [(5,.f .nils)] (z0l (h:=h) (c:=c)) rfl rfl (by simp only[Rg];simp[rW]) rfl ?_;rintro s3 d3 hf hc3 - ⟨k5,-⟩;refine⟨?_⟩;simp[rW,k5];rfl
  . have hro:ro=0:=hZ id 1 ro _ rfl g2;subst hro;have hl1:(rE R0).length=R0.length:=by simp[rE]
    rw[hl1];simp[rW];refine zbQ [(5,.sl id 0 R0.length 1 R0.length false)] (eff29 (h:=h) (c:=c) (d:=R0.toArray) (n:=R0.length) (ex:=false) (by simpa using g2) (by simp) (by simpa using hrow) (by omega) (by omega)) rfl rfl (by simp only[Rg];simp[rW]) rfl ?_;rintro s3 d3 HS hc3 - ⟨k5,-⟩;refine⟨?_⟩;simp[rW,k5];have hD:(Go.Sort.insertionSort ltE R0.toArray 0 R0.length).toList.length=R0.length:=s1.length_eq;have hne:R≠[]:=fun e=>by
      have h1:=congrArg List.length hRR;rw[e]at h1;simp only[Z18,Z170]at h1;exact g1 (Z17.1 (by omega))
    have hRl:R.length=R0.length:=by rw[<-hRR,Z18,hD]
    have hat:zOZ s3.h s3.c (.sl id 0 R0.length 1 R0.length false) R:=by
      refine .inr ⟨id,false,_,by rw[hRl],HS.row,hRR,hne,fun p hm=> ?_⟩;obtain⟨⟨i,ro,ex,e,h1,h2⟩,h3⟩ :=HS.el p hm;refine⟨i,ro,ex,e,?_,by have:=HS.le;omega⟩;rw[HS.fr i h2 fun e=>by rw[e,g2]at h1;simp at h1];exact h1
    obtain⟨rd,hz⟩ :=zUc hat 9;have hz2:frz s3.h.get (11+1) (.sl id 0 R0.length 1 R0.length false)=some (zeY R,rd):=hz;rw[zfw]at hz2;exact⟨rd,hz2⟩
def ev_rs:zat (zhB Tryz.prog) Tryz.f8.results.toList=some [.t 4]:=by kernel_rfl
def zhy(L:List Rl)(hd:List Str)(qs:List (List Str×CQ))(v:List Int):Prop:=∃q∈qs,∃w,zkI L q.1 q.2 w/\v=hvl q.1 hd w
theorem zR5{L:List Rl}{Vz:Int->Prop}{key:List Int->Str}{hd:List Str}{qs:List (List Str×CQ)}{R B:List (List Int)}(hLR:LR L)(HL:zlo L)(hK:ziZ (Vr Vz hd.length) key)(HQ:zoW L Vz hd qs)(hval:Ans pr 25 [zbS L,.ag (qyF hd qs)] (.b true))(hS:zmS R)(hR:∀v,v∈R↔zhy L hd qs v)(hB:∀v,zhy L hd qs v->v∈B)(hBl:B.length<=12):
  zgx Tryz.prog 8 (F.dL [zbS L,.ag (qyF hd qs)]) .e 0 ⟨.f (zeY R),.e,0,0,0⟩ :=by
 refine zG3 Tryz.func8 (by decide) z0s ev_rs (show 2<=29 by decide) fun amb w0 a hA=> ?_
 rw[z0u];refine wp_seq (zqH zhO ck0 hA (walk0 L hd qs) fun x s ρ a w hK1 hA _=> ?_);obtain⟨rfl,hK1⟩ :=hK1;refine wp_seq (zqH zhO ck1 hA (walk1 hval ⟨rfl,hK1⟩) fun x s ρ a w hK1 hA _=> ?_);obtain⟨rfl,hK1⟩ :=hK1;refine wp_seq (zqH zhO ck2 hA (walk2 ⟨rfl,hK1⟩) fun x s ρ a w hK2 hA _=> ?_);obtain⟨rfl,hK2⟩ :=hK2;refine wp_seq (wp_seq (z0x hLR HL hK HQ hA hK2 fun a w ρ h c r bm es cl Mp E hJ hn hAn=> ?_));have hAv:∀v,v∈E.map (·.2)↔zhy L hd qs v:=fun v=>(hAn v).trans ⟨fun⟨i,q,_,h2,h3⟩ =>⟨q,Z39 h2,h3⟩,fun⟨q,h2,h3⟩ =>by
  obtain⟨i,hi⟩ :=List.mem_iff_getElem?.1 h2;exact⟨i,q,(Z8.1 hi).1,hi,h3⟩⟩
 have hEl:E.length<=12:=by
  have:=zHP _ B hn fun v hv=>hB v ((hAv v).1 hv)
  simp only[Z18]at this;omega
 have hhl:=HQ.v.u.hl;refine wp_block (wp_loop_rounds (E.length+1) (zAC hEl (fun a w hE=> ?_) E.length [] a w ρ h c _ r bm es cl _ hJ (by simp)));obtain⟨ρ,h,c,d,R0,hA,hG,hZ,hp,hE,hlo⟩ :=hE;refine zqH zhO ck4 hA (walk4 hG hZ hp hE hn hEl (fun p hp=> ?_) hlo hS fun v=>(hR v).trans (hAv v).symm) fun x s ρ a w hK4 hA _=> ?_
 .obtain⟨q,_,w,_,e⟩ :=(hAv p.2).1 (List.mem_map_of_mem hp);rw[e];simp only[hvl,Z18];exact hhl
 .obtain⟨rfl,d',rd,h1,h2⟩ :=hK4;exact⟨.inr rfl,s,ρ,d',rd,hA,h1,h2⟩
theorem znk:∀(L:List Rl) (s:Str) (w:List Int),hasB L (riN L s) w=true↔w∈znN (za0 L) s
 |[],s,w=>by simp[hasB,znN,za0]
 |r::L,s,w=>by
  by_cases h:r.nm=s
  .have e:riN (r::L) s=0:=by simp[riN,List.findIdx_cons,h]
   rw[e];simp only[hasB,List.getElem?_cons_zero,za0,Z10,znN,Z51 h];rw[Z30,Z12];constructor
   .rintro⟨t,ht,e⟩;exact⟨t,ht,by simpa using e⟩
   .rintro⟨t,ht,e⟩;exact⟨t,ht,by simpa using e⟩
  .have hb:(r.nm==s)=false:=by simpa using h
   have e:riN (r::L) s=riN L s+1:=by simp only[riN,List.findIdx_cons,hb,cond_false]
   rw[e];have ih:=znk L s w;simp only[hasB,List.getElem?_cons_succ,za0,Z10,znN,Z49 h]at ih|-;exact ih
def zUu{ns:List Str}{v:List Int}{σ:Str->Int}(h:∀s∈ns,σ s=zfQ ns v (.var s)){t:Trm}(ht:ziw ns t):teS σ t=zfQ ns v t:=by
 cases t with
 |cst n=>rfl
 |var s=>exact h s ht.2
def zz2{ns:List Str}{v:List Int}{σ:Str->Int}(h:∀s∈ns,σ s=zfQ ns v (.var s)){ts:List Trm}(ht:∀t∈ts,ziw ns t):ts.map (teS σ)=ts.map (zfQ ns v):=Z68 fun t hm=>zUu h (ht t hm)
def zLe{ns:List Str}(hn:ns.Nodup){v:List Int}{i:Nat}(hi:i<ns.length):zfQ ns v (.var ns[i])=v.getD i 0:=by
 simp only[zfQ];rw[zhq hn hi]
def zuN(c:CQ):Prop:=c.cs=[]/\∀a∈c.as,a.neg=false
def zBe{L:List Rl}{ns:List Str}{c:CQ}(hC:zmq L ns c)(hP:zuN c){v:List Int}{σ:Str->Int}(hl:v.length=ns.length)(h:∀s∈ns,σ s=zfQ ns v (.var s)):zkI L ns c v↔zsp L c σ:=by
 constructor
 .intro H a ha;have:=H.a a ha;rw[hP.2 a ha,Bool.not_false,znk]at this;rw[zz2 h (hC.t a ha)];exact this
 .intro H;refine⟨hl,fun a ha=> ?_,fun k hk=> ?_⟩
  .have:=H a ha;rw[zz2 h (hC.t a ha),<-znk]at this;rw[this,hP.2 a ha];rfl
  .rw[hP.1]at hk;cases hk
theorem zAR:∀u v,zaO u v<0->rlt u v=true
 |[],[],h=>by simp[zaO]at h
 |[],_::_,_=>rfl
 |_::_,[],h=>by simp[zaO]at h
 |a::u,b::v,h=>by
  simp only[zaO]at h;simp only[rlt,Z115,Z86,Z14];unfold zbq at h
  by_cases h1:a=b
  .subst h1;simp only[Z60,ne_eq,not_true_eq_false,Z63]at h;exact .inr ⟨rfl,zAR u v h⟩
  .rw[Z49 h1]at h
   by_cases h2:a<b
   .exact .inl h2
   .rw[Z49 h2]at h;simp at h
def zAt{L:List Rl}{hd:List Str}{qs:List (List Str×CQ)}(hC:∀q∈qs,zmq L q.1 q.2/\q.1.Nodup/\zuN q.2)(hh:∀q∈qs,∀s∈hd,s∈q.1)(v:List Int):zhy L hd qs v↔∃c∈qs.map (·.2),∃σ,zsp L c σ/\v=hd.map σ:=by
 constructor
 .rintro⟨q,hq,w,hw,rfl⟩;obtain⟨h1,h2,h3⟩ :=hC q hq;exact⟨q.2,List.mem_map_of_mem hq,fun s=>zfQ q.1 w (.var s),(zBe h1 h3 hw.l fun _ _=>rfl).1 hw,rfl⟩
 .rintro⟨c,hc,σ,hs,rfl⟩;obtain⟨q,hq,rfl⟩ :=Z12.1 hc;obtain⟨h1,h2,h3⟩ :=hC q hq;have key:∀s∈q.1,σ s=zfQ q.1 (q.1.map σ) (.var s):=fun s hs=>by
   obtain⟨i,hi,rfl⟩ :=Z101.1 hs;rw[zLe h2 hi];simp[List.getD,hi]
  exact⟨q,hq,q.1.map σ,(zBe h1 h3 (by simp) key).2 hs,Z68 fun s hs'=>key s (hh q hq s hs')⟩
def dL_ag{a b a' b' c d:F}(h:F.dL [a,.ag [b,c]]=F.dL [a',.ag [b',d]])(ha:a.d= .f a)(ha':a'.d= .f a')(hb:b.d= .f b)(hb':b'.d= .f b')(hc:c.d= .f c)(hd:d.d= .f d):a=a'/\b=b'/\c=d:=by
 simp only[F.dL,F.d,ha,ha',hb,hb',hc,hd,List.cons.injEq,D.f.injEq,D.ag.injEq,and_true]at h;exact⟨h.1,h.2.1,h.2.2⟩
def z1j{args:List D}{h:T Ob}{n:Nat}(hx:∃q,zgx Tryz.prog 8 args h n q/\SpE args h n q):∃q,Con pr 8 args h n q/\SpE args h n q:=by
 have hx':∃q,zgx Tryz.prog 8 args h n q/\(8=8/\SpE args h n q):=by
  obtain⟨q,h1,h2⟩ :=hx;exact⟨q,h1,rfl,h2⟩
 refine⟨Classical.choose hx',⟨1,fun m hm=> ?_⟩,(Classical.choose_spec hx').2.2⟩;obtain⟨k,rfl⟩ :∃k,m=k+1:=⟨m - 1,by omega⟩
 have e1:pr.fn 8=none:=by kernel_rfl
 have e2:pr.ext 8 args=none:=by kernel_rfl
 have e3:pr.exq 8 args h n=some (Classical.choose hx'):=by
  show zo6 8 args h n=_;unfold zo6;rw[dif_pos hx']
 simp only[zb8,e1,e2,e3]
theorem ans8{L:List Rl}{Vz:Int->Prop}{key:List Int->Str}{hd:List Str}{qs:List (List Str×CQ)}{R B:List (List Int)}(hLR:LR L)(HL:zlo L)(hK:ziZ (Vr Vz hd.length) key)(HQ:zoW L Vz hd qs)(hC:∀q∈qs,zmq L q.1 q.2/\q.1.Nodup/\zuN q.2)(hval:Ans pr 25 [zbS L,.ag (qyF hd qs)] (.b true))(hS:zmS R)(hR:∀v,v∈R↔zhy L hd qs v)(hB:∀v,zhy L hd qs v->v∈B)(hBl:B.length<=12):
  Ans pr 8 [zbS L,.ag (qyF hd qs)] (zeY R):=by
 have hcl:=zR5 hLR HL hK HQ hval hS hR hB hBl;have hAR:zBL L hd (qs.map (·.2)) R:=⟨hS.imp fun{u v} h=>zAR u v h,fun v=>(hR v).trans (zAt hC HQ.h v)⟩
 obtain⟨q,h1,L',hd',cs',R',e1,e2,-,-,rfl⟩ :=z1j ⟨_,hcl,L,hd,qs.map (·.2),R,rfl,hAR,rfl,rfl,rfl⟩;have hsd:∀l,(zak l).d= .f (zak l):=zbl
 obtain⟨g1,g2,g3⟩ :=dL_ag (b:=zak hd) (c:=qsF (qs.map (·.2))) (b':=zak hd') (d:=slc 2 (cs'.map cqF)) e1 (ziK L) (zeM ..) (hsd _) (hsd _) (zeH _) (zeM ..);have:=zQ9 g1 g2 g3 hAR e2;subst this;exact⟨_,[],h1,rfl⟩
def uni:Env->List Trm->List Int->Option Env
 |e,[],[]=>some e
 |e,.cst n::ts,v::vs=>if n=v then uni e ts vs else none
 |e,.var s::ts,v::vs=>match lk e s with
  |some u=>if u=v then uni e ts vs else none
  |none=>uni ((s,v)::e) ts vs
 |_,_,_=>none
def mt(l:zCu):List Atm->Env->Bool
 |[],_=>true
 |a::at_,e=>(znN l a.r).any fun t=>match uni e a.ts t with
  |some e'=>mt l at_ e'
  |none=>false
def AgE(e:Env)(σ:Str->Int):Prop:=∀s v,lk e s=some v->σ s=v
def zxO{e:Env}{σ:Str->Int}{s:Str}{v:Int}(h:lk e s=none):AgE ((s,v)::e) σ↔AgE e σ/\σ s=v:=by
 constructor
 .intro H;refine⟨fun x u hx=>H x u ?_,H s v (by simp[lk])⟩;have:s≠x:=fun e1=>by subst e1;rw[h]at hx;cases hx
  simp[lk,this,hx]
 .rintro⟨H,hs⟩ x u hx;simp only[lk]at hx;split at hx
  .rename_i e1;subst e1;cases hx;exact hs
  .exact H x u hx
theorem zjD(σ:Str->Int):∀(ts:List Trm) (vs:List Int) (e:Env),match uni e ts vs with
  |some e'=>(AgE e' σ↔AgE e σ/\ts.map (teS σ)=vs)
  |none=>AgE e σ->ts.map (teS σ)≠vs
 |[],[],e=>by simp[uni]
 |[],_::_,e=>by simp[uni]
 | .cst n::ts,[],e=>by simp[uni]
 | .var s::ts,[],e=>by simp[uni]
 | .cst n::ts,v::vs,e=>by
  have ih:=zjD σ ts vs e;simp only[uni]
  by_cases h:n=v
  .rw[Z51 h];subst h;cases hu:uni e ts vs with
   |none=>rw[hu]at ih;simpa [teS]using ih
   |some e'=>rw[hu]at ih;simpa [teS]using ih
  .rw[Z49 h];simp[teS,h]
 | .var s::ts,v::vs,e=>by
  simp only[uni];cases hl:lk e s with
  |some u=>
   have ih:=zjD σ ts vs e;simp only
   by_cases h:u=v
   .rw[Z51 h];subst h;cases hu:uni e ts vs with
    |none=>
     rw[hu]at ih;intro hA;have:=ih hA;simp[this]
    |some e'=>
     rw[hu]at ih;simp only at ih|-;rw[ih];constructor
     .rintro⟨h1,h2⟩;exact⟨h1,by simp[teS,h1 s u hl,h2]⟩
     .rintro⟨h1,h2⟩;simp only[Z10,List.cons.injEq]at h2;exact⟨h1,h2.2⟩
   .rw[Z49 h];intro hA hm;simp only[Z10,List.cons.injEq,teS]at hm;exact h ((hA s u hl).symm.trans hm.1)
  |none=>
   have ih:=zjD σ ts vs ((s,v)::e);simp only;cases hu:uni ((s,v)::e) ts vs with
   |none=>
    rw[hu]at ih;simp only at ih|-;intro hA hm;simp only[Z10,List.cons.injEq,teS]at hm;exact ih ((zxO hl).2 ⟨hA,hm.1⟩) hm.2
   |some e'=>
    rw[hu]at ih;simp only at ih|-;rw[ih,zxO hl];simp only[Z10,List.cons.injEq,teS,and_assoc]
theorem zyV(l:zCu):∀(at_:List Atm) (e:Env),mt l at_ e=true↔∃σ,AgE e σ/\∀a∈at_,a.ts.map (teS σ)∈znN l a.r
 |[],e=>by
  simp only[mt,true_iff];exact⟨fun s=>(lk e s).getD 0,fun s v h=>by simp[h],by simp⟩
 |a::at_,e=>by
  simp only[mt,Z30];constructor
  .rintro⟨t,ht,h⟩;cases hu:uni e a.ts t with
   |none=>rw[hu]at h;cases h
   |some e'=>
    rw[hu]at h;obtain⟨σ,h1,h2⟩ :=(zyV l at_ e').1 h;have:=zjD σ a.ts t e;rw[hu]at this;obtain⟨h3,h4⟩ :=this.1 h1;exact⟨σ,h3,fun b hb=>by
     rcases Z5.1 hb with rfl|hb
     .rw[h4];exact ht
     .exact h2 b hb⟩
  .rintro⟨σ,h1,h2⟩;refine⟨_,h2 a (by simp),?_⟩;have:=zjD σ a.ts (a.ts.map (teS σ)) e;cases hu:uni e a.ts (a.ts.map (teS σ))with
   |none=>rw[hu]at this;exact absurd rfl (this h1)
   |some e'=>
    rw[hu]at this;exact (zyV l at_ e').2 ⟨σ,this.2 ⟨h1,rfl⟩,fun b hb=>h2 b (by simp[hb])⟩
def e0H(hd:List Str):Env:=hd.map fun s=>(s,100)
abbrev Tr:=CQ×List Str×List Rl
end Go.Proofs.YthcehnaehljnfaaGreatDoor
end
