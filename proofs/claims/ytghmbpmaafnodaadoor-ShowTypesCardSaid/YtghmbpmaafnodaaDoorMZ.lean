/-
  Texts of one proof, laid together: Vm Rx Sa Sb Sc Sd Sk Ql Se Ec Ed Sf Wg Vn ShPd Y9 Vp ShLg Ka ShLa Kb ShLe Kd.
-/
import Derived.Test.YtghmbpmaafnodaaDoorMT
set_option linter.unusedVariables false
set_option linter.unusedSimpArgs false
set_option linter.defProp false
open Option renaming some→D,none→Z
open Bool renaming true→X,false→U
open Go.b9.aa renaming int→I,str→Y,bool→C
open Go.IntKind renaming i64→J
namespace Go.Proofs.YtghmbpmaafnodaaDoor
open Go.b9
open Nat (reduceAdd reduceLeDiff)
def dH.sk{α:Type}{K:hK α}{H:ad}{ok:Nat->Prop}{l:List α}{v:aa}(h:dH K H ok l v)(c:¬l.length=0):∃L i cap ro els,v= .ay L i l.length K.esz (Option.map (· +l.length) cap)/\ok L/\H.get L=D (.row ro K.esz els)/\∀(j:Nat) (a:α),l[j]? =D a->∃cs,els[i+j]? =D cs/\K.V H ok a cs:=by
 rcases h with⟨_,rfl⟩|⟨L,i,cap,ro,els,d,e,k,m⟩|⟨_,_,_,_,rfl⟩
 ·simp at c
 ·exact⟨L,i,cap,ro,els,d,e,k,m⟩
 ·simp at c
def Bt:∀l:List Fn,(∀x∈l,nX x/\dv x.body<=1000000000)->(flat (cI (l.map eZ.f))).length<=2000000000*l.length
 |[],_=>by simp[cI,cY]
 |x::r,h=>by
  have u:=Bt r λy i=>h y (List.mem_cons_of_mem _ i)
  obtain⟨aF,k⟩:=h x (List.mem_cons_self ..);have s:=eN aF.n;have o:=rS x.params aF.p;have j:=aF.l;obtain⟨d,a,e⟩:=aF.b;have m:=qf (deep:=1) e af;have q:(il x).length<=30:=by
   unfold il;rcases aF.r with⟨a,c⟩|⟨a,_⟩
   ·have:=fs c;have:=c.2.1;have:=hS x.dF x.rd;rw[a,aU];simp only[List.length_append,List.length_cons,List.length_nil];omega
   ·rw[a];simp
  rw[List.map_cons,AL];simp only[List.length_append,List.length_cons,List.length_nil,mh];omega
section
variable {N:Nat}{H0:ad}{r L i n n0 p m0:Nat}{cap:Option Nat}{ro:Bool}{els:List (List aa)}{ok:Nat->Prop}{Q:aa->ad->Prop}{acc:aB}
def B1(ap:100<=N)(o:∀l,ok l->l<n0)(G:ok L)(ax:n<=100){all:List e3}(aB:n=all.length)(hw:∀x∈all,nY x)
  (K:∀m H,eM n0 p m H (acc++flat (cI (all.map .r)))->cF p m0 H0 m H->W (jO (aA P aw) N (.ptr r 0 0) (.ptr p 0 0) H) Q):∀(es:List e3) (j k:Nat) (done:List e3) (m:Nat) (H:ad),all=done++es->done.length=j->es.length<k->H.get L=D (.row ro 3 els)->(∀(j:Nat) (a:e3),all[j]? =D a->∃cs,els[i+j]? =D cs/\iL.V H ok a cs)->eM n0 p m H (acc++flat (cI (done.map .r)))->acc.length+(flat (cI (done.map .r))).length+100000*es.length<=50000000000->cF p m0 H0 m H->
  W (kf (aA P aw) N k (.ptr r 0 0) (.ptr p 0 0) (.ay L i n 3 cap) (I J n) (I J j) H) Q
 |_,_,0,_,_,_,_,_,z,_,_,_,_,_=>af
 |[],j,k+1,done,m,H,d,u,z,v,A,c,O,w=>by
  rw[List.append_nil]at d;subst d;have y:¬((j:Int)<(n:Int)):=af;simp-implicitDefEqProofs(disch:=try exact aj)only[kf,oU,reduceAdd,reduceLeDiff,reduceIte,av,y,decide_false];exact K m H c w
 |x::es,j,k+1,done,m,H,d,u,z,v,A,c,O,w=>by
  simp only[List.length_cons]at z O;have aW:all.length=done.length+(es.length+1):=by rw[d,List.length_append,List.length_cons]
  have y:(j:Int)<(n:Int):=af;have aD:((j:Int)).toNat=j:=af;have am:(0:Int)<=(j:Int):=af;have aO:IntKind.i64.wrap ((j:Int)+1)=((j+1:Nat):Int):=by rw[wrap_i64 af af];omega
  have B:all[j]? =D x:=by rw[d,List.getElem?_append_right af,u,Nat.sub_self];rfl
  obtain⟨cs,aZ,bD,rfl,az⟩:=A j x B;have aF:=hw x (List.mem_of_getElem? B);have bE:=az.one;have a2:=eN aF.n;have aX:=u4 x.fields aF.f;have aV:=aF.l;have ab:=aM.push H (.row U 3 [[Y x.name,bD,I J x.pos]]);have ak:=ad.bx H (.row U 3 [[Y x.name,bD,I J x.pos]]);have ah:H.next≠p/\H.next≠m:=by have:=c.lm;have:=c.iF.lt;omega
  simp-implicitDefEqProofs(disch:=try exact aj)only[kf,oU,reduceAdd,reduceLeDiff,reduceIte,av,y,decide_true,am,aD,v,aZ,bE,qZ];refine aL (gk (c.aK ab) (deep:=0) rfl [[114,101,99,111,114,100,32],x.name,[32,123]] (by simp) (by simp) af (by simp only[List.flatten_cons,List.flatten_nil,List.length_append,List.length_cons,List.length_nil];omega) rfl rfl rfl) ?_;rintro _ e ⟨aJ,m3,F,ae⟩;refine⟨aJ,?_⟩;have al:=ae.get ak ah.1 ah.2;have wt:=(cF.aK (p:=p) (m:=m) ab).trans ae;have aH:=wt.aY c.aF c.hm o;have aC:=az.aY aH;have aq:=az.mM;simp-implicitDefEqProofs(disch:=try exact aj)only[reduceAdd,reduceLeDiff,reduceIte,av,al,aq]
  have a1:x∈all:=List.mem_of_getElem? B;have next:∀m H',eM n0 p m H' (acc++flat (cI (done.map .r))++(pad 0++([[114,101,99,111,114,100,32],x.name,[32,123]].flatten++[10]))++flat (eI x.fields))->cF p m3 e m H'->W (lT (aA P aw) N (kf (aA P aw) N k) (.ptr r 0 0) (.ptr p 0 0) (.ay L i n 3 cap) (I J n) (I J j) H') Q:=by
   intro m5 aR aG aP;have a0:=F.hm;simp-implicitDefEqProofs(disch:=try exact aj)only[lT,kV,bd,br];refine aL (gk aG (deep:=0) rfl [[125]] (by simp) (by simp) af (by simp only[List.flatten_cons,List.flatten_nil,List.length_append,List.length_cons,List.length_nil,kc];omega) rfl rfl rfl) ?_;rintro _ ai ⟨aN,m6,T,aQ⟩;refine⟨aN,?_⟩;simp-implicitDefEqProofs(disch:=try exact aj)only[kV,bd,br,c7,aO];have ag:=(wt.trans aP).trans aQ;have aa:=ag.aY c.aF c.hm o;have S:acc++flat (cI (done.map .r))++(pad 0++([[114,101,99,111,114,100,32],x.name,[32,123]].flatten++[10]))++flat (eI x.fields)++(pad 0++([[125]].flatten++[10]))=acc++flat (cI ((done++[x]).map .r)):=by
    rw[List.map_append,oG,c2,List.map_cons,List.map_nil,HF,cI,cY,kc];simp[q_]
   rw[S]at T;have hlen:(flat (cI ((done++[x]).map eZ.r))).length<=(flat (cI (done.map eZ.r))).length+100000:=by
    have:=congrArg List.length S;simp only[List.length_append,List.flatten_cons,List.flatten_nil,List.length_cons,List.length_nil,kc]at this;omega
   exact B1 ap o G ax aB hw K es (j+1) k (done++[x]) m6 ai (by rw[d,List.append_assoc];rfl) (by rw[List.length_append,u];rfl) af (aa L _ G v).2 (λj a h=>by obtain⟨cs,q,s⟩:=A j a h;exact⟨cs,q,iL.aY aa s⟩) T af (w.trans ag)
  by_cases E:x.fields.length=0
  ·have aE:=List.length_eq_zero_iff.1 E;have an:¬((0:Int)<((0:Nat):Int)):=af;obtain⟨M,rfl⟩:∃M,N=M+1:=⟨N-1,af⟩;rw[E];simp-implicitDefEqProofs(disch:=try exact aj)only[kY,oV,reduceAdd,reduceLeDiff,reduceIte,av,an,decide_false];exact next m3 e (by rw[aE,eI,cY,List.append_nil];exact F) (cF.aK (.refl _))
  ·obtain⟨aS,i2,aT,a3,aU,rfl,ao,R,au⟩:=aC.sk E;have aI:fK.esz=4:=rfl;rw[aI]at R;exact BY (H0:=e) (m0:=m3) (n0:=n0) o ao af rfl aF.f (λj a h=>by obtain⟨cs,q,s⟩:=au j a h;rw[q,show cs=a.cells from s]) next x.fields 0 N [] m3 e rfl rfl af R (by rw[eI,cY,List.append_nil];exact F) (by simp only[List.length_append,List.flatten_cons,List.flatten_nil,List.length_cons,List.length_nil,kc,eI,cY];omega) (cF.aK (.refl _))
end
def Jz{H:ad}{ok:Nat->Prop}{bA bJ bD:aa}{g:dm}(G:dH iL H ok g.c_ bA)(R:dH fK H ok g.globals bJ)(M:dH hR H ok g.funcs bD)(ax:∀l,ok l->l<H.next)(V:e2.hJ H)(hw:xf g):W (aA P aw 10 [.agg [bA,bJ,bD]] H) λv H'=>v= Y (flat (mX g))/\aM H H':=by
 refine cA (λ_=>J3 1000) ?_;have bE:=G.one;have bX:=R.one;have ck:=M.one;have ap:∀l,dT l (.agg [bA,bJ,bD])=D (.ptr l 0 0,.row U 3 [[bA,bJ,bD]]):=λl=>hr l _ (by simp only[List.all_cons,List.all_nil,bE,bX,ck,Bool.and_self])
 have aq:∀l,oa (D 81) l (.agg [.nilPtr,.ar])=D (.ptr l 0 0,.bS 81 2 [[.nilPtr,.ar]]):=λl=>rfl
 have pp:=(aM.push H (.row U 3 [[bA,bJ,bD]])).bs (.bS 81 2 [[.nilPtr,.ar]]);have E:=(aM.push (H.push (.row U 3 [[bA,bJ,bD]])) (.bS 81 2 [[.nilPtr,.ar]])).get (ad.bx H (.row U 3 [[bA,bJ,bD]]));have F:=ad.bx (H.push (.row U 3 [[bA,bJ,bD]])) (.bS 81 2 [[.nilPtr,.ar]]);have az:(H.push (.row U 3 [[bA,bJ,bD]])).next=H.next+1:=by simp
 have aB:((H.push (.row U 3 [[bA,bJ,bD]])).push (.bS 81 2 [[.nilPtr,.ar]])).next=H.next+2:=by simp
 have ae:=G.aY (dd.aK pp);have S:=R.aY (dd.aK pp);have O:=M.aY (dd.aK pp);have ab:=V.aK pp;have aG:=ad.aR V.sZ;rw[sq];have y:=λH'=>G.u1 H'
 simp-implicitDefEqProofs(disch:=try exact aj)only[reduceAdd,reduceLeDiff,reduceIte,av,ap,aq,E,y];simp only[az]at F;generalize (H.push (.row U 3 [[bA,bJ,bD]])).push (.bS 81 2 [[.nilPtr,.ar]])=H1 at pp E F aB ae S O ab ⊢;have z:∀l,ok l->l<H.next+1:=λl h=>by have:=ax l h;omega
 have ag:eM (H.next+1) (H.next+1) (H.next+1) H1 []:=⟨af,bf _,bf _,af,⟨λh=>absurd rfl h,af,.nilPtr,.ar,F,.inl rfl,.inl ⟨rfl,rfl⟩⟩,ab⟩;have e:flat (mX g)=flat (cI (g.c_.map .r))++flat (cI (g.globals.map .g))++flat (cI (g.funcs.map .f)):=by
  unfold mX;rw[oG,oG,c2,c2,List.append_assoc]
 have aF:=Bv _ hw.nc;have aE:=Bu _ hw.dh;have aZ:=hw.gw;have aI:=hw.mN;have aJ:=hw.oB;have o:cI []=[]:=rfl;have ah:∀m c,eM (H.next+1) (H.next+1) m c (flat (cI (g.c_.map .r))++flat (cI (g.globals.map .g))++flat (cI (g.funcs.map .f)))->cF (H.next+1) (H.next+1) H1 m c->W (lS (aA P aw) 1000 (.ptr (H.next+1) 0 0) c) λv H'=>v= Y (flat (mX g))/\aM H H':=by
  intro m c q d;have aD:=Bt _ hw.cq;obtain⟨al,ao,aH,e7⟩:=M5 q.iF (by simp only[List.length_append];omega);have aC:c.next<=al.next:=af
  simp-implicitDefEqProofs(disch:=try exact aj)only[lS,reduceAdd,reduceLeDiff,reduceIte,av,ao,eK,aC];refine a_.2 ⟨by rw[e],by have:=pp.1;have:=d.next;omega,λl au=> ?_⟩;have:=q.hm;rw[e7 l af,d.2.2 l af af];exact pp.2 l au
 have ai:∀m c,eM (H.next+1) (H.next+1) m c (flat (cI (g.c_.map .r))++flat (cI (g.globals.map .g)))->cF (H.next+1) (H.next+1) H1 m c->W (lR (aA P aw) 1000 (.ptr H.next 0 0) (.ptr (H.next+1) 0 0) c) λv H'=>v= Y (flat (mX g))/\aM H H':=by
  intro m c q d;have g2:=d.get E af af;have K:=d.aY (bf _) (bf _) z;have Q:=O.aY K;have y:=λH'=>Q.u2 H'
  simp-implicitDefEqProofs(disch:=try exact aj)only[lR,reduceAdd,reduceLeDiff,reduceIte,av,g2,y];by_cases n:g.funcs.length=0
  ·have A:=List.length_eq_zero_iff.1 n;have s:¬((0:Int)<((0:Nat):Int)):=af;rw[n];simp-implicitDefEqProofs(disch:=try exact aj)only[kW,oS,reduceAdd,reduceLeDiff,reduceIte,av,s,decide_false];exact ah m c (by rw[A,List.map_nil,o,cY,List.append_nil];exact q) d
  ·obtain⟨L,i,cap,ro,els,rfl,x,p,u⟩:=Q.sk n;have B:hR.esz=7:=rfl;rw[B]at p;exact BZ (N:=1000) (H0:=H1) (m0:=H.next+1) z x af rfl hw.cq ah g.funcs 0 1000 [] m c rfl rfl af p u (by rw[List.map_nil,o,cY,List.append_nil];exact q) (by rw[List.map_nil,o,cY];simp only[List.length_append,List.length_nil];omega) d
 have ak:∀m c,eM (H.next+1) (H.next+1) m c (flat (cI (g.c_.map .r)))->cF (H.next+1) (H.next+1) H1 m c->W (jO (aA P aw) 1000 (.ptr H.next 0 0) (.ptr (H.next+1) 0 0) c) λv H'=>v= Y (flat (mX g))/\aM H H':=by
  intro m c q d;have g2:=d.get E af af;have K:=d.aY (bf _) (bf _) z;have T:=S.aY K;have y:=λH'=>T.mM H'
  simp-implicitDefEqProofs(disch:=try exact aj)only[jO,reduceAdd,reduceLeDiff,reduceIte,av,g2,y];by_cases n:g.globals.length=0
  ·have A:=List.length_eq_zero_iff.1 n;have s:¬((0:Int)<((0:Nat):Int)):=af;rw[n];simp-implicitDefEqProofs(disch:=try exact aj)only[kX,oT,reduceAdd,reduceLeDiff,reduceIte,av,s,decide_false];exact ai m c (by rw[A,List.map_nil,o,cY,List.append_nil];exact q) d
  ·obtain⟨L,i,cap,ro,els,rfl,x,p,u⟩:=T.sk n;have B:fK.esz=4:=rfl;rw[B]at p;exact B0 (N:=1000) (H0:=H1) (m0:=H.next+1) z x af rfl hw.dh (λj a h=>by obtain⟨cs,am,an⟩:=u j a h;rw[am,show cs=a.cells from an]) ai g.globals 0 1000 [] m c rfl rfl af p (by rw[List.map_nil,o,cY,List.append_nil];exact q) (by rw[List.map_nil,o,cY];simp only[List.length_nil];omega) d
 by_cases n:g.c_.length=0
 ·have A:=List.length_eq_zero_iff.1 n;have s:¬((0:Int)<((0:Nat):Int)):=af;rw[n];simp-implicitDefEqProofs(disch:=try exact aj)only[kf,oU,reduceAdd,reduceLeDiff,reduceIte,av,s,decide_false];exact ak _ H1 (by rw[A,List.map_nil,o,cY];exact ag) (cF.aK (.refl _))
 ·obtain⟨L,i,cap,ro,els,rfl,x,p,u⟩:=ae.sk n;have B:iL.esz=3:=rfl;rw[B]at p;exact B1 (N:=1000) (H0:=H1) (m0:=H.next+1) (acc:=[]) af z x af rfl hw.nc (λm H k w=>ak m H (by rw[List.nil_append]at k;exact k) w) g.c_ 0 1000 [] _ H1 rfl rfl af p u (by rw[List.map_nil,o,cY];exact ag) (by rw[List.map_nil,o,cY];simp only[List.length_nil];omega) (cF.aK (.refl _))
def hM.append{B:Nat}{e:bB}(h:tz B e):∀{l:List bB},hM B l->hM B (l++[e])
 |[],_=>by rw[List.nil_append,hM,hM];exact⟨h,trivial⟩
 |x::xs,a=>by
  rw[hM]at a;rw[List.cons_append,hM];exact⟨a.1,hM.append h a.2⟩
section
variable {T:List Tok}
end
def NP{s:aB}(c:(dq s).2.1=0){q:dm×aq}(n:hg (dq s).1 800000000 800000000 .none ⟨0,0,0,0⟩=D q)(p:q.2.aD=0):xf q.1/\q.1.c_.length<=12/\q.1.globals.length<=8/\q.1.funcs.length<=16:=by
 obtain⟨aE,v⟩:=q5 c;have B:=s6 s;have z:s.length<=6000:=by
  unfold dq at c;split at c
  ·simp at c
  ·omega
 have hlen:(dq s).1.length<=6001:=af;have d:Good (dq s).1 ((dq s).1.length:Int):=⟨af,λa h=>(wC h).2.1,λt o=>Ey t o⟩;have i:ml (dq s).1:=Gi af;obtain⟨G,A⟩:=oK d i 800000000 800000000 .none ⟨0,0,0,0⟩ q (λ_=>⟨by simp,by simp,by simp,by simp⟩) (λ_=>⟨(λx h=>by cases h),(λx h=>by cases h),(λx h=>by cases h),by simp[dm.none],by simp[dm.none],by simp[dm.none],by simp[dm.none,lk]⟩) n p;have hw:=G.w;have key:∀l:List Fn,∀x∈l,dv x.body<=lk l:=by
  intro l
  induction l with
  |nil=>intro x h;cases h
  |cons y r u=>
   intro x h;have e:lk (y::r)=dv y.body+lk r:=by simp[lk]
   rcases List.mem_cons.1 h with rfl|h
   ·omega
   ·have:=u x h;omega
 have m:=G.gw;have k:=G.mN;have j:=G.oB;exact⟨⟨G.nc,G.dh,λx h=>⟨G.cq x h,by have:=key _ x h;omega⟩,af,af,af⟩,m,k,j⟩
structure kH where
 r:Nat
 g:Nat
 h:Nat
 l:List eZ
section
variable (G:dm)(K:Nat->Int)
def kH.more(s:kH):Bool:=Nat.blt s.r G.c_.length||(Nat.blt s.g G.globals.length||Nat.blt s.h G.funcs.length)
def kH.step(k:Int)(s:kH):kH:=
 if k=0/\s.r<G.c_.length then {s with r:=s.r+1,l:=s.l++(G.c_[s.r]?.map eZ.r).toList}
 else if k=1/\s.g<G.globals.length then {s with g:=s.g+1,l:=s.l++(G.globals[s.g]?.map eZ.g).toList}
 else if k=2/\s.h<G.funcs.length then {s with h:=s.h+1,l:=s.l++(G.funcs[s.h]?.map eZ.f).toList}
 else s
def kH.rem(s:kH):Nat:=(G.c_.length-s.r)+((G.globals.length-s.g)+(G.funcs.length-s.h))
def kH.has(s:kH)(c:Nat):Prop:=(c=0/\s.r<G.c_.length)\/(c=1/\s.g<G.globals.length)\/(c=2/\s.h<G.funcs.length)
end
def eZ.cH:eZ->eZ
 | .r x=> .r x.cH
 | .g x=> .g x.cH
 | .f x=> .f x.cH
section
set_option maxRecDepth 100000
noncomputable section
def nh(G:ax)(ag au:aa)(H:ad):O:=cp H [Y [],I J 0] λh v=>cp v [I J 0,I J 0] λbn o=>j (ch P 59 [(0,ag),(1,au)]) λx=>bV o (dT (o).next x) λe p=>aG p (G 53 [e] p) λy w=>cp w [Y [],I J 0] λu q=>a8 q (aT P q 40 u y) λs=>aG s (G 21 [e] s) λbH c=>j (fk .not bH) λz=>aV (D z) (a8 c (aT P c 40 h (.agg [Y [],I J 0])) λa=>j (bW e) λA=>j (aI P 59 A 3) λk=>j (al P a 29 k) λl=>a8 a (aT P a 29 bn l) λd=>bif ((bg (al P c 29 k) l&&(bg (al P a 29 k) l&&X))&&X)then(j (al P d 40 h) λr=>j (al P d 29 bn) λi=>D (.tuple [r,I J 0,i],d))else Z) (j (al P c 40 u) λB=>a8 c (aT P c 40 h B) λa=>j (bW e) λE=>j (aI P 59 E 1) λm=>j (al P a 3 m) λn=>a8 a (aT P a 29 bn (.agg [I J 0,I J 0])) λd=>bif ((bg (al P c 3 m) n&&(bg (al P a 3 m) n&&X))&&X)then(j (al P d 40 h) λr=>j (al P d 29 bn) λi=>D (.tuple [r,n,i],d))else Z)
def J7(N:Nat){ag au:aa}{H:ad}{r:aa×ad}(h:nh (aA P aw) ag au H=D r):aA P aw 19 [ag,au] H=D r:=cQ N (S:=λG=>nh G ag au H) Tryd.func19 (λ_=>by delta nh;kernel_rfl) h
end
end
def GM(ak:aa)(c:ak.one=X)(a:Int):ch P 59 [(0,ak),(1,I J a)]=D (.agg [ak,I J a,I J 0,I J 0,I J 0]):=by
 cases ak<;>first|(cases c;done)|kernel_rfl
def dU(p:(aB×Int)×aq):(aB×Int)×Int×Int×Int:=if p.2.aD=0 then(p.1,p.2.at_,0,0)else(([],0),0,p.2.aD,p.2.cO)
def xa{H:ad}{T:List Tok}{ak:aa}(n:eC H ak T)(at_:Int):
  W (aA P aw 19 [ak,I J at_] H) λv H'=>v= .tuple [.agg [Y (dU (b_ T ⟨at_,0,0,0⟩)).1.1,I J (dU (b_ T ⟨at_,0,0,0⟩)).1.2],I J (dU (b_ T ⟨at_,0,0,0⟩)).2.1,.agg [I J (dU (b_ T ⟨at_,0,0,0⟩)).2.2.1,I J (dU (b_ T ⟨at_,0,0,0⟩)).2.2.2]]/\aM H H':=by
 refine cA (λ_=>J7 0) ?_;have m:=n.one;generalize z:b_ T ⟨at_,0,0,0⟩=q;have E:=(aM.push H (.row U 2 [[Y [],I J 0]])).bs (.row U 2 [[I J 0,I J 0]]);have u:=GM ak m at_;have w:∀l,dT l (.agg [ak,I J at_,I J 0,I J 0,I J 0])=D (.ptr l 0 0,.row U 5 [[ak,I J at_,I J 0,I J 0,I J 0]]):=λl=>hr l _ (by simp only[List.all_cons,List.all_nil,gO,m,Bool.and_self])
 simp-implicitDefEqProofs(disch:=try exact aj)only[nh,reduceAdd,reduceLeDiff,reduceIte,av,u,w];have o:=E.bs (.row U 5 [[ak,I J at_,I J 0,I J 0,I J 0]]);have B:bG (((H.push (.row U 2 [[Y [],I J 0]])).push (.row U 2 [[I J 0,I J 0]])).push (.row U 5 [[ak,I J at_,I J 0,I J 0,I J 0]])) (H.next+2) T ak ⟨at_,0,0,0⟩:=
  ⟨ad.p7 (by simp only[ad.bQ];omega) (by simp only[ad.bQ];omega),n.aK o⟩
 refine aL (oP B) ?_;rintro _ a ⟨rfl,m5,d⟩;refine⟨m5.1,?_⟩;rw[z]at d ⊢;have y:=m5.1;simp only[ad.bQ]at y;simp-implicitDefEqProofs(disch:=try exact aj)only[nh,reduceAdd,reduceLeDiff,reduceIte,av];have p:=aM.push a (.row U 2 [[Y q.1.1,I J q.1.2]]);refine aL (jN (d.rd.aK p)) ?_;rintro _ F ⟨rfl,rfl⟩;refine⟨bf _,?_⟩;have j:=d.rd.aK p;unfold bt at j;have k:=d.rd;unfold bt at k;have e:a.get H.next=D (.row U 2 [[Y [],I J 0]]):=m5.get (by simp-implicitDefEqProofs(disch:=try exact aj)only[dw]) af
 have h:a.get (H.next+1)=D (.row U 2 [[I J 0,I J 0]]):=m5.get (by simp-implicitDefEqProofs(disch:=try exact aj)only[dw]) af;have G:=ad.aR e;have K:=ad.aR h;have s:aM H a:=⟨af,λl x=>by rw[m5.2 l (by simp only[ad.bQ];omega) af];exact o.2 l x⟩;by_cases c:q.2.aD=0
 ·have i:(q.2.aD==0)=true:=by simpa using c
  rw[show dU q=(q.1,q.2.at_,0,0) by simp[dU,c]];simp-implicitDefEqProofs(disch:=try exact aj)only[nh,reduceAdd,reduceLeDiff,reduceIte,av,i,Bool.not_true,Bool.not_false,j,k,e,h,List.append_nil,Bool.and_true];exact a_.2 ⟨rfl,((s.bs _).cz (bf _) _).cz af _⟩
 ·have i:(q.2.aD==0)=false:=by simpa using c
  rw[show dU q=(([],0),0,q.2.aD,q.2.cO) by simp[dU,c]];have A:bg (D (.agg [I J q.2.aD,I J q.2.cO])) (.agg [I J q.2.aD,I J q.2.cO])=true:=by simp[bg,aa.beq,gf.beq]
  simp-implicitDefEqProofs(disch:=try exact aj)only[nh,reduceAdd,reduceLeDiff,reduceIte,av,i,Bool.not_true,Bool.not_false,j,k,e,h,A,Bool.and_true];exact a_.2 ⟨rfl,((s.bs _).cz (bf _) _).cz af _⟩
def IF(a:List bw)(h:hq a):(lO a 0).length=(dJ a).length+1:=by
 have:=congrArg List.length (sc a 0 h);simpa [ie]using this
def Nk(l:List Tok):gX (l++[⟨0,[],0,0⟩]) 0 l:=by
 have:=FK l [⟨0,[],0,0⟩] [];simp only[List.nil_append,List.length_nil]at this;exact this
def I7:mq []:=λb r h=>by cases h
def Jb{x:aB}{z:Int}(h:h7 x z):(dq (flat (ca x z))).2.1=0/\dU (b_ (dq (flat (ca x z))).1 ⟨0,0,0,0⟩)=((x,z),((dq (flat (ca x z))).1.length:Int)-1,0,0):=by
 have aF:=Jv h;have e:h9 (ca x z):=by have:=aF.k [] trivial I7;rwa[List.append_nil]at this
 have hlen:=hS x z;have j:=fs h;have i:(flat (ca x z)).length<=6000:=by have:=h.1;have:=h.2.1;omega
 rw[Ni e i];have len:=s8 _ e;have a:=Je h (T:=dJ (ca x z)++[⟨0,[],0,0⟩]) (a:=0) (o:=0) (Nk _) (Int.le_refl 0) af;have b:=Ja (T:=lO (ca x z) 0) (s:=⟨0,0,0,0⟩);rw[sc _ 0 aF.z,show(aq.cH ⟨0,0,0,0⟩)=st 0 0 from rfl,a]at b;have d:=congrArg Prod.fst b;have c:=congrArg Prod.snd b;simp only at d c;have f0:=congrArg aq.aD c;have a0:=congrArg aq.at_ c;simp only[aq.cH]at f0 a0;refine⟨rfl,?_⟩;unfold dU;simp only
 rw[if_pos f0.symm,<-d,IF _ aF.z,<-a0];simp only[bT,and_true,true_and];omega
def Jc{s:aB}(a:(dq s).2.1=0)(c:(b_ (dq s).1 ⟨0,0,0,0⟩).2.aD=0):h7 (b_ (dq s).1 ⟨0,0,0,0⟩).1.1 (b_ (dq s).1 ⟨0,0,0,0⟩).1.2:=by
 obtain⟨aE,d⟩:=q5 a;exact(mS aE.g (λ_=>⟨Int.le_refl 0,(show(0:Int)<=_ by omega),Int.le_refl 0,b1⟩) c).1
section
set_option maxRecDepth 100000
noncomputable section
def sr(G:ax)(H:ad):O:=aG H (G 9 [Y [102,117,110,99,32,109,97,105,110,40,41,123,105,102,32,49,60,50,123,112,114,105,110,116,40,49,43,50,41,42,51,59,125,125]] H) λi k=>j (eS i 0) λx=>j (eS i 1) λbn=>cp k [aa.ar,aa.ar,aa.ar] λau l=>cp l [I J 0,I J 0] λw e=>a8 e (aT P e 26 au x) λh=>a8 h (aT P h 29 w bn) λc=>j (al P c 26 au) λy=>aG c (G 10 [y] c) λz m=>j (an P .eql 9 X z (Y [102,117,110,99,32,109,97,105,110,40,41,32,123,10,32,32,105,102,32,49,32,60,32,50,32,123,10,32,32,32,32,112,114,105,110,116,32,40,49,32,43,32,50,41,32,42,32,51,59,10,32,32,125,10,125,10])) λa=>aP a X m (cm (.agg [Y [105,110,116],I J 2])) λp d=>aP a X d (λq=>eX d (G 20 [p] d) q) λs n=>aP a X n (bF (an P .eql 9 X s (Y [91,91,105,110,116,93,93]))) λu o=>j (cU a (D u) (D (C U))) λv=>D (v,o)
def J4(N:Nat){H:ad}{r:aa×ad}(h:sr (aA P aw) H=D r):aA P aw 12 [] H=D r:=cQ N (S:=λG=>sr G H) Tryd.func12 (λ_=>by delta sr;kernel_rfl) h
end
end
def rP:aB:=[102,117,110,99,32,109,97,105,110,40,41,123,105,102,32,49,60,50,123,112,114,105,110,116,40,49,43,50,41,42,51,59,125,125]
def rQ:aB:=[102,117,110,99,32,109,97,105,110,40,41,32,123,10,32,32,105,102,32,49,32,60,32,50,32,123,10,32,32,32,32,112,114,105,110,116,32,40,49,32,43,32,50,41,32,42,32,51,59,10,32,32,125,10,125,10]
def Be:Bool:=(dq rP).2.1==0&&(match hg (dq rP).1 800000000 800000000 .none ⟨0,0,0,0⟩with
 |some (g,s)=>s.aD==0&&flat (mX g)==rQ
 |none=>U)
set_option maxRecDepth 100000 in
def Ir:Be=true:=by decide+kernel
def Nl:flat (ca [105,110,116] 2)=[91,91,105,110,116,93,93]:=by decide+kernel
def dd.lt{H:ad}{ok:Nat->Prop}:dd H ok H (· <H.next):=λ_ _ _ g=>⟨ad.aR g,g⟩
def Bg{H:ad}(x:e2.hJ H):W (aA P aw 12 [] H) λv H'=>v= C X/\aM H H':=by
 refine cA (λ_=>J4 0) ?_;have a:=Ir;unfold Be at a;simp only[Bool.and_eq_true,beq_iff_eq]at a;obtain⟨l,a⟩:=a;split at a
 ·rename_i g s aF;simp only[Bool.and_eq_true,beq_iff_eq]at a;obtain⟨k,w⟩:=a;obtain⟨hw,-⟩:=NP l aF k;rw[sr];refine aL (JD rP (M:=800000000) (n:=800000000) (bf _) (bf _) (λ_=>aF)) ?_;rintro _ H1 ⟨bA,bJ,bD,rfl,d,e,i,m⟩;refine⟨m.1,?_⟩;have b6:sf rP g s=(g,0,0):=by unfold sf vF;rw[if_pos l,if_pos k]
  rw[b6]at d e i ⊢;simp only at d e i ⊢;have bE:=d.one;have bX:=e.one;have ck:=i.one;have c:=(aM.push H1 (.row U 3 [[bA,bJ,bD]])).bs (.row U 2 [[I J 0,I J 0]]);simp-implicitDefEqProofs(disch:=try exact aj)only[reduceAdd,reduceLeDiff,reduceIte,av,ad.gy,bE,bX,ck];generalize (H1.push (.row U 3 [[bA,bJ,bD]])).push (.row U 2 [[I J 0,I J 0]])=y at c ⊢;have q:=m.trans c;refine aL (Jz ((d.aY (dd.aK c)).aY dd.lt) ((e.aY (dd.aK c)).aY dd.lt) ((i.aY (dd.aK c)).aY dd.lt) (λ_ h=>h) (x.aK q) hw) ?_;rintro _ z ⟨rfl,o⟩;refine⟨o.1,?_⟩;rw[w];have j:(rQ==rQ)=true:=by simp
  unfold rQ at j ⊢;simp-implicitDefEqProofs(disch:=try exact aj)only[bd,br,c7,j];refine jw (type20 b1 b1 b1) ?_;rintro _ A ⟨rfl,p⟩;refine⟨p.1,?_⟩;rw[Nl];have u:(([91,91,105,110,116,93,93]:aB)==[91,91,105,110,116,93,93])=true:=b1;simp-implicitDefEqProofs(disch:=try exact aj)only[bd,br,c7,u];exact a_.2 ⟨rfl,(q.trans o).trans p⟩
 ·cases a
section
set_option maxRecDepth 100000
noncomputable section
def e7(G:ax)(ag:aa)(H:ad):O:=aG H (G 9 [ag] H) λy z=>j (eS y 0) λM=>j (eS y 1) λN=>cp z [aa.ar,aa.ar,aa.ar] λc A=>cp A [I J 0,I J 0] λx m=>a8 m (aT P m 26 c M) λn=>a8 n (aT P n 29 x N) λo=>bd P .len [9] [ag] o λE=>j (an P .gtr 3 X E (I J 4000)) λh=>aP h U o (bF (aI P 29 x 0)) λF p=>aP h U p (qr (al P p 27 F)) λK B=>aP h U B (bF (an P .neq 27 X K (I J 0))) λbH a=>j (cU h (D (C X)) (D bH)) λL=>aV (D L) (D ((C X),a)) (j (al P a 26 c) λs=>aG a (G 10 [s] a) λu e=>j (al P e 26 c) λv=>aG e (G 11 [v] e) λw d=>j (an P .eql 9 U u w) λi=>pw i X (λq=>eX d (G 12 [] d) q) λk=>j (cU i (D k.val) (D (C U))) λl=>bif pV [0,1,0,7,15,31,63,127,255] [0,1,3,4,5,6,7,8] [⟨0,.read s,λH=>al P H 26 c⟩,⟨1,.dM u e,λH=>Z⟩,⟨2,.read v,λH=>al P H 26 c⟩,⟨3,.dM w d,λH=>Z⟩,⟨4,.pure i,λH=>Z⟩,⟨5,.pure i,λH=>Z⟩,⟨6,k,λH=>Z⟩,⟨7,.pure l,λH=>Z⟩,⟨8,.pure l,λH=>Z⟩] a then(D (l,(k.heap d)))else Z)
end
end
def dH.beq{α:Type}{K:hK α}{H:ad}{ok:Nat->Prop}{l:List α}{v:aa}(h:dH K H ok l v):aa.beq v v=true:=by
 rcases h with⟨rfl,_⟩|⟨L,i,cap,ro,els,rfl,_⟩|⟨L,i,cap,rfl,_⟩<;>simp[aa.beq]
section
set_option maxRecDepth 100000
noncomputable section
def l_(G:ax)(ag:aa)(H:ad):O:=aG H (G 14 [ag] H) λR ah=>j (eS R 0) λbH=>j (eS R 1) λaD=>cp ah [I J 0,I J 0] λT w=>a8 w (aT P w 29 T aD) λE=>bd P .len [9] [ag] E λaE=>j (an P .gtr 3 X aE (I J 200)) λh=>aP h U E (bF (aI P 29 T 0)) λaF L=>aP h U L (qr (al P L 27 aF)) λaH aA=>aP h U aA (bF (an P .neq 27 X aH (I J 0))) λaJ l=>j (cU h (D (C X)) (D aJ)) λaK=>aV (D aK) (D ((C X),l)) (aG l (G 19 [bH,I J 0] l) λm aB=>j (eS m 0) λaL=>j (eS m 1) λaM=>j (eS m 2) λaN=>cp aB [Y [],I J 0] λn aC=>cp aC [I J 0,I J 0] λaf M=>a8 M (aT P M 40 n aL) λp=>a8 p (aT P p 29 af aN) λs=>j (aI P 29 af 0) λaO=>j (al P s 27 aO) λaQ=>j (an P .neq 27 X aQ (I J 0)) λa=>aP a U s (cm aM) λaR ai=>aP a U ai (cm bH) λS u=>aP a U u (λq=>gW (b4 P .empty .len [36] [S]) (b4 P u .len [36] [S]) q) λaS aj=>aP a U aj (bF (an P .sub 3 X aS (I J 1))) λaU ak=>aP a U ak (bF (an P .neq 3 U aR aU)) λaW d=>j (cU a (D (C X)) (D aW)) λaX=>aV (D aX) (aG d (G 12 [] d) λaY e=>D (aY,e)) (j (al P d 40 n) λaZ=>aG d (G 20 [aZ] d) λa0 e=>aG e (G 14 [a0] e) λV am=>j (eS V 0) λW=>j (eS V 1) λa1=>cp am [I J 0,I J 0] λbh v=>a8 v (aT P v 29 bh a1) λx=>aG x (G 19 [W,I J 0] x) λo ao=>j (eS o 0) λa2=>j (eS o 1) λa3=>j (eS o 2) λa4=>cp ao [Y [],I J 0] λN ap=>cp ap [I J 0,I J 0] λQ y=>a8 y (aT P y 40 N a2) λz=>a8 z (aT P z 29 Q a4) λA=>j (aI P 29 Q 0) λa5=>j (al P A 27 a5) λa6=>j (an P .eql 27 X a6 (I J 0)) λc=>aP c X A (cm a3) λa7 aq=>aP c X aq (cm W) λab B=>aP c X B (λq=>gW (b4 P .empty .len [36] [ab]) (b4 P B .len [36] [ab]) q) λa9 au=>aP c X au (bF (an P .sub 3 X a9 (I J 1))) λa_ av=>aP c X av (bF (an P .eql 3 U a7 a_)) λba F=>j (cU c (D ba) (D (C U))) λi=>aP i X F (qr (al P F 40 N)) λbb K=>aP i X K (qr (al P K 40 n)) λbc aw=>aP i X aw (bF (an P .eql 40 U bb bc)) λbe k=>j (cU i (D be) (D (C U))) λae=>aP ae X k (λq=>eX k (G 12 [] k) q) λbf az=>j (cU ae (D bf) (D (C U))) λbg=>D (bg,az)))
def Mn(G:ax)(N:Nat)(ag:aa)(H:ad):ru Tryd.f7 G N (kJ [ag]) H=l_ G ag H:=by
 refine dO (A:=ru Tryd.f7 G N) (aH _) ?_;delta l_;kernel_rfl
end
end
def Hf{c:Bool}(a bR:aB)(b cj:Int):an P .eql 40 c (.agg [Y a,I J b]) (.agg [Y bR,I J cj])=D (C (a==bR&&b==cj)):=
 Eq.trans ah (IU (a==bR) (b==cj))
def eC.Br{H:ad}{ak:aa}{T:List Tok}(h:eC H ak T)(H':ad):b4 P H' .len [36] [ak]=D (I J T.length):=by
 rcases h with⟨rfl,rfl⟩|⟨l,i,cap,rfl,_⟩
 ·exact rY
 ·exact qn
def Np{H:ad}(ai:e2.hJ H)(s:aB):W (l_ (aA P aw) (Y s) H) λv H'=>v= C X/\aM H H':=by
 rw[l_];refine aL (tA s) ?_;rintro _ H1 ⟨ak,rfl,M,O⟩;refine⟨O.1,?_⟩;have c:= @Jc s;have hlen:=s6 s;have K:(dq s).2.1=0->1<=(dq s).1.length:=λh=>(q5 h).2
 generalize dq s=x at M c hlen K ⊢;obtain⟨T,e,f⟩:=x;simp only at M c hlen K ⊢;have o:=aM.push H1 (.row U 2 [[I J e,I J f]]);have E:=ad.bx H1 (.row U 2 [[I J e,I J f]]);by_cases al:(200:Int)<s.length
 ·simp-implicitDefEqProofs(disch:=try exact aj)only[reduceAdd,reduceLeDiff,reduceIte,av,ad.gy,al,decide_true];exact a_.2 ⟨rfl,O.trans o⟩
 simp-implicitDefEqProofs(disch:=try exact aj)only[reduceAdd,reduceLeDiff,reduceIte,av,ad.gy,al,decide_false];generalize H1.push (.row U 2 [[I J e,I J f]])=aQ at o E ⊢;have az:=O.trans o;by_cases ag:e=0
 ·subst ag;have am:((0:Int) != 0)=false:=rfl;simp-implicitDefEqProofs(disch:=try exact aj)only[reduceAdd,reduceLeDiff,reduceIte,av,E,am];have an:=M.aK o;refine aL (xa an 0) ?_;rintro _ i ⟨rfl,Q⟩;refine⟨Q.1,?_⟩;have aO:=az.trans Q;have aN:=an.aK Q;have c:=c rfl;have aJ:=λH'=>aN.Br H'
  have aY:=K rfl;have w:IntKind.i64.wrap ((T.length:Int)-1)=(T.length:Int)-1:=wrap_i64 af af;generalize b_ T ⟨0,0,0,0⟩=r at c ⊢;obtain⟨⟨x,z⟩,st⟩:=r;simp only at c ⊢;have au:=(aM.push i (.row U 2 [[Y (dU ((x,z),st)).1.1,I J (dU ((x,z),st)).1.2]])).bs (.row U 2 [[I J (dU ((x,z),st)).2.2.1,I J (dU ((x,z),st)).2.2.2]]);have gc:=(aM.push (i.push (.row U 2 [[Y (dU ((x,z),st)).1.1,I J (dU ((x,z),st)).1.2]])) (.row U 2 [[I J (dU ((x,z),st)).2.2.1,I J (dU ((x,z),st)).2.2.2]])).get (ad.bx i (.row U 2 [[Y (dU ((x,z),st)).1.1,I J (dU ((x,z),st)).1.2]]))
  have a:=ad.bx (i.push (.row U 2 [[Y (dU ((x,z),st)).1.1,I J (dU ((x,z),st)).1.2]])) (.row U 2 [[I J (dU ((x,z),st)).2.2.1,I J (dU ((x,z),st)).2.2.2]]);simp only[ad.bQ]at a;simp-implicitDefEqProofs(disch:=try exact aj)only[reduceAdd,reduceLeDiff,reduceIte,av,ad.gy];generalize (i.push (.row U 2 [[Y (dU ((x,z),st)).1.1,I J (dU ((x,z),st)).1.2]])).push (.row U 2 [[I J (dU ((x,z),st)).2.2.1,I J (dU ((x,z),st)).2.2.2]])=aS at au gc a ⊢;have V:=aO.trans au;have known:∀{j:ad},aM H j->W (aG j (aA P aw 12 [] j) λx h=>D (x,h)) λv H'=>v= C X/\aM H H':=by
   intro j u;refine aL (Bg (ai.aK u)) ?_;rintro _ A ⟨rfl,d⟩;refine⟨d.1,?_⟩;exact a_.2 ⟨rfl,u.trans d⟩
  by_cases m:st.aD=0
  ·have B:dU ((x,z),st)=((x,z),st.at_,0,0):=by unfold dU;rw[if_pos m]
   rw[B]at gc a ⊢;simp only at gc a ⊢;have ok:=c m;simp-implicitDefEqProofs(disch:=try exact aj)only[reduceAdd,reduceLeDiff,reduceIte,av,gc,a,am,aJ,w];by_cases ah:st.at_=(T.length:Int)-1
   ·have G:(st.at_ != (T.length:Int)-1)=false:=by simpa using ah
    simp-implicitDefEqProofs(disch:=try exact aj)only[reduceAdd,reduceLeDiff,reduceIte,av,gc,a,G,w];refine aL (type20 ok.1 ok.2.1 (Nat.le_trans (fs ok) b1)) ?_;rintro _ j ⟨rfl,R⟩;refine⟨R.1,?_⟩;have aI:=R.get gc;have u:=V.trans R;refine aL (tA (flat (ca x z))) ?_;rintro _ A ⟨a2,rfl,hu,d⟩;refine⟨d.1,?_⟩;obtain⟨n,N⟩:=Jb ok;have aq:=s6 (flat (ca x z));have ao:=(q5 n).2;generalize dq (flat (ca x z))=y at n N hu aq ao ⊢;obtain⟨l,aW,hs⟩:=y;simp only at n N hu aq ao ⊢;subst n;have a0:=hS x z;have lo:=fs ok;have a1:=ok.2.1;have aZ:l.length<=100:=by
     have:z.toNat<=3:=af;omega
    have aP:IntKind.i64.wrap ((l.length:Int)-1)=(l.length:Int)-1:=wrap_i64 af af;have p:=aM.push A (.row U 2 [[I J 0,I J hs]]);simp-implicitDefEqProofs(disch:=try exact aj)only[reduceAdd,reduceLeDiff,reduceIte,av,ad.gy];generalize A.push (.row U 2 [[I J 0,I J hs]])=aT at p ⊢;have aa:=p.get (d.get aI);have lc:=ad.aR aa;have ap:=hu.aK p;refine aL (xa ap 0) ?_;rw[N];rintro _ k ⟨rfl,q⟩;refine⟨q.1,?_⟩;have ab:=q.get aa;have aX:=ad.aR ab;have hm:=λH'=>(ap.aK q).Br H'
    have S:=(aM.push k (.row U 2 [[Y x,I J z]])).bs (.row U 2 [[I J 0,I J 0]]);have ge:=(aM.push (k.push (.row U 2 [[Y x,I J z]])) (.row U 2 [[I J 0,I J 0]])).get (ad.bx k (.row U 2 [[Y x,I J z]]));have F:=ad.bx (k.push (.row U 2 [[Y x,I J z]])) (.row U 2 [[I J 0,I J 0]]);simp only[ad.bQ]at F;have ae:=S.get ab;simp only
    simp-implicitDefEqProofs(disch:=try exact aj)only[reduceAdd,reduceLeDiff,reduceIte,av,ad.gy];generalize (k.push (.row U 2 [[Y x,I J z]])).push (.row U 2 [[I J 0,I J 0]])=aU at S ge F ae ⊢;have aC:=(((u.trans d).trans p).trans q).trans S;have aE:((0:Int)==0)=true:=rfl;have aF:((l.length:Int)-1==(l.length:Int)-1)=true:=by simp
    have aH:(x==x&&z==z)=true:=by simp
    simp-implicitDefEqProofs(disch:=try exact aj)only[reduceAdd,reduceLeDiff,reduceIte,av,ge,F,ae,hm,aE,aF,aH,Hf,aP];refine jw (Bg (ai.aK aC)) ?_;rintro _ aV ⟨rfl,ax⟩;refine⟨ax.1,?_⟩;simp-implicitDefEqProofs(disch:=try exact aj)only[bd,br];exact a_.2 ⟨rfl,aC.trans ax⟩
   ·have G:(st.at_ != (T.length:Int)-1)=true:=by simpa using ah
    simp-implicitDefEqProofs(disch:=try exact aj)only[reduceAdd,reduceLeDiff,reduceIte,av,gc,a,G,w];exact known V
  ·have B:dU ((x,z),st)=(([],0),0,st.aD,st.cO):=by unfold dU;rw[if_neg m]
   rw[B]at gc a ⊢;simp only at gc a ⊢;have L:(st.aD != 0)=true:=by simpa using m
   simp-implicitDefEqProofs(disch:=try exact aj)only[reduceAdd,reduceLeDiff,reduceIte,av,gc,a,L,w];exact known V
 ·have L:(e != 0)=true:=by simpa using ag
  simp-implicitDefEqProofs(disch:=try exact aj)only[reduceAdd,reduceLeDiff,reduceIte,av,E,L];exact a_.2 ⟨rfl,az⟩
