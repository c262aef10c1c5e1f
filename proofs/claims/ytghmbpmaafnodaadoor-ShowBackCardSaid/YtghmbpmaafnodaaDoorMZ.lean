/-
  Texts of one proof, laid together: Vm Rx Sa Sb Sc Sd Sk Ql Se Ec Ed Sf Wg Vn ShPd Y9 Vp ShLg Ka ShLa Kb ShLb Kc.
-/
import Derived.Test.YtghmbpmaafnodaaDoorMT
set_option linter.unusedVariables false
set_option linter.unusedSimpArgs false
set_option linter.defProp false
open Option renaming some→D,none→C
open Bool renaming true→X,false→U
open Go.bn.aa renaming int→I,str→Z,bool→Y
open Go.IntKind renaming i64→J
namespace Go.Proofs.YtghmbpmaafnodaaDoor
open Go.bn
open Nat (reduceAdd reduceLeDiff)
def dD.wI{α:Type}{K:jB α}{H:af}{ok:Nat->Prop}{l:List α}{v:aa}(h:dD K H ok l v)(c:¬l.length=0):∃L i cap ro els,v= .aG L i l.length K.esz (Option.map (· +l.length) cap)/\ok L/\H.get L=D (.row ro K.esz els)/\∀(j:Nat) (a:α),l[j]? =D a->∃cs,els[i+j]? =D cs/\K.V H ok a cs:=by
 rcases h with⟨_,rfl⟩|⟨L,i,cap,ro,els,aq,aH,bu,er⟩|⟨_,_,_,_,rfl⟩
 ·simp at c
 ·exact⟨L,i,cap,ro,els,aq,aH,bu,er⟩
 ·simp at c
def F1:∀l:List Fn,(∀x∈l,ow x/\ec x.body<=1000000000)->(flat (cm (l.map dV.f))).length<=2000000000*l.length
 |[],_=>by simp[cm,ds]
 |x::r,h=>by
  have u:=F1 r λy i=>h y (List.mem_cons_of_mem _ i)
  obtain⟨aF,k⟩:=h x (List.mem_cons_self ..);have s:=fP aF.n;have o:=vO x.params aF.p;have j:=aF.l;obtain⟨d,a,e⟩:=aF.b;have m:=tP (deep:=1) e ae;have q:(j3 x).length<=30:=by
   unfold j3;rcases aF.r with⟨a,c⟩|⟨a,_⟩
   ·have:=ib c;have:=c.2.1;have:=kD x.c4 x.rd;rw[a,aS];simp only[List.length_append,List.length_cons,List.length_nil];omega
   ·rw[a];simp
  rw[List.map_cons,Fj];simp only[List.length_append,List.length_cons,List.length_nil,od];omega
section
variable {N:Nat}{H0:af}{r L i n n0 p m0:Nat}{cap:Option Nat}{ro:Bool}{els:List (List aa)}{ok:Nat->Prop}{Q:aa->af->Prop}{acc:aC}
def GC(an:100<=N)(o:∀l,ok l->l<n0)(E:ok L)(au:n<=100){all:List ep}(av:n=all.length)(hw:∀x∈all,ox x)
  (F:∀m H,fL n0 p m H (acc++flat (cm (all.map .r)))->c5 p m0 H0 m H->W (lK (aI P aB) N (.ptr r 0 0) (.ptr p 0 0) H) Q):∀(es:List ep) (j k:Nat) (done:List ep) (m:Nat) (H:af),all=done++es->done.length=j->es.length<k->H.get L=D (.row ro 3 els)->(∀(j:Nat) (a:ep),all[j]? =D a->∃cs,els[i+j]? =D cs/\hQ.V H ok a cs)->fL n0 p m H (acc++flat (cm (done.map .r)))->acc.length+(flat (cm (done.map .r))).length+100000*es.length<=50000000000->c5 p m0 H0 m H->
  W (mB (aI P aB) N k (.ptr r 0 0) (.ptr p 0 0) (.aG L i n 3 cap) (I J n) (I J j) H) Q
 |_,_,0,_,_,_,_,_,v,_,_,_,_,_=>ae
 |[],j,k+1,done,m,H,d,q,v,s,y,c,G,w=>by
  rw[List.append_nil]at d;subst d;have u:¬((j:Int)<(n:Int)):=ae;simp-implicitDefEqProofs(disch:=try exact ak)only[mB,sv,reduceAdd,reduceLeDiff,reduceIte,az,u,decide_false];exact F m H c w
 |x::es,j,k+1,done,m,H,d,q,v,s,y,c,G,w=>by
  simp only[List.length_cons]at v G;have aV:all.length=done.length+(es.length+1):=by rw[d,List.length_append,List.length_cons]
  have u:(j:Int)<(n:Int):=ae;have ax:((j:Int)).toNat=j:=ae;have aj:(0:Int)<=(j:Int):=ae;have aL:IntKind.i64.wrap ((j:Int)+1)=((j+1:Nat):Int):=by rw[wrap_i64 ae ae];omega
  have z:all[j]? =D x:=by rw[d,List.getElem?_append_right ae,q,Nat.sub_self];rfl
  obtain⟨cs,bb,bP,rfl,ar⟩:=y j x z;have aF:=hw x (List.mem_of_getElem? z);have bO:=ar.one;have a0:=fP aF.n;have aX:=zg x.fields aF.f;have aT:=aF.l;have T:=aU.push H (.row U 3 [[Z x.name,bP,I J x.pos]]);have ah:=af.bY H (.row U 3 [[Z x.name,bP,I J x.pos]]);have ad:H.next≠p/\H.next≠m:=by have:=c.lm;have:=c.km.lt;omega
  simp-implicitDefEqProofs(disch:=try exact ak)only[mB,sv,reduceAdd,reduceLeDiff,reduceIte,az,u,decide_true,aj,ax,s,bb,bO,uQ];refine aW (hR (c.aR T) (deep:=0) rfl [[114,101,99,111,114,100,32],x.name,[32,123]] (by simp) (by simp) ae (by simp only[List.flatten_cons,List.flatten_nil,List.length_append,List.length_cons,List.length_nil];omega) rfl rfl rfl) ?_;rintro _ e ⟨aJ,m3,B,aa⟩;refine⟨aJ,?_⟩;have ai:=aa.get ah ad.1 ad.2;have wt:=(c5.aR (p:=p) (m:=m) T).trans aa;have aD:=wt.a1 c.aF c.hm o;have aw:=ar.a1 aD;have ao:=ar.nv;simp-implicitDefEqProofs(disch:=try exact ak)only[reduceAdd,reduceLeDiff,reduceIte,az,ai,ao]
  have aZ:x∈all:=List.mem_of_getElem? z;have next:∀m H',fL n0 p m H' (acc++flat (cm (done.map .r))++(pad 0++([[114,101,99,111,114,100,32],x.name,[32,123]].flatten++[10]))++flat (eN x.fields))->c5 p m3 e m H'->W (pb (aI P aB) N (mB (aI P aB) N k) (.ptr r 0 0) (.ptr p 0 0) (.aG L i n 3 cap) (I J n) (I J j) H') Q:=by
   intro m5 aO aC aM;have aY:=B.hm;simp-implicitDefEqProofs(disch:=try exact ak)only[pb,nE,bg,bG];refine aW (hR aC (deep:=0) rfl [[125]] (by simp) (by simp) ae (by simp only[List.flatten_cons,List.flatten_nil,List.length_append,List.length_cons,List.length_nil,mw];omega) rfl rfl rfl) ?_;rintro _ ag ⟨aK,m6,R,aN⟩;refine⟨aK,?_⟩;simp-implicitDefEqProofs(disch:=try exact ak)only[nE,bg,bG,c3,aL];have ab:=(wt.trans aM).trans aN;have S:=ab.a1 c.aF c.hm o;have O:acc++flat (cm (done.map .r))++(pad 0++([[114,101,99,111,114,100,32],x.name,[32,123]].flatten++[10]))++flat (eN x.fields)++(pad 0++([[125]].flatten++[10]))=acc++flat (cm ((done++[x]).map .r)):=by
    rw[List.map_append,se,dw,List.map_cons,List.map_nil,NN,cm,ds,mw];simp[s4]
   rw[O]at R;have hlen:(flat (cm ((done++[x]).map dV.r))).length<=(flat (cm (done.map dV.r))).length+100000:=by
    have:=congrArg List.length O;simp only[List.length_append,List.flatten_cons,List.flatten_nil,List.length_cons,List.length_nil,mw]at this;omega
   exact GC an o E au av hw F es (j+1) k (done++[x]) m6 ag (by rw[d,List.append_assoc];rfl) (by rw[List.length_append,q];rfl) ae (S L _ E s).2 (λj a h=>by obtain⟨cs,aq,aH⟩:=y j a h;exact⟨cs,aq,hQ.a1 S aH⟩) R ae (w.trans ab)
  by_cases A:x.fields.length=0
  ·have ay:=List.length_eq_zero_iff.1 A;have al:¬((0:Int)<((0:Nat):Int)):=ae;obtain⟨M,rfl⟩:∃M,N=M+1:=⟨N-1,ae⟩;rw[A];simp-implicitDefEqProofs(disch:=try exact ak)only[nH,sw,reduceAdd,reduceLeDiff,reduceIte,az,al,decide_false];exact next m3 e (by rw[ay,eN,ds,List.append_nil];exact B) (c5.aR (.refl _))
  ·obtain⟨aP,i2,aQ,a2,aS,rfl,am,K,ap⟩:=aw.wI A;have aE:fv.esz=4:=rfl;rw[aE]at K;exact Gz (H0:=e) (m0:=m3) (n0:=n0) o am ae rfl aF.f (λj a h=>by obtain⟨cs,aq,aH⟩:=ap j a h;rw[aq,show cs=a.cells from aH]) next x.fields 0 N [] m3 e rfl rfl ae K (by rw[eN,ds,List.append_nil];exact B) (by simp only[List.length_append,List.flatten_cons,List.flatten_nil,List.length_cons,List.length_nil,mw,eN,ds];omega) (c5.aR (.refl _))
end
def z8{H:af}{ok:Nat->Prop}{bM bS bP:aa}{g:bE}(G:dD hQ H ok g.b7 bM)(R:dD fv H ok g.globals bS)(M:dD gg H ok g.funcs bP)(ap:∀l,ok l->l<H.next)(V:gl.jA H)(hw:vc g):W (aI P aB 10 [.agg [bM,bS,bP]] H) λv H'=>v= Z (flat (fI g))/\aU H H':=by
 refine cO (λ_=>Q4 1000) ?_;have bO:=G.one;have b2:=R.one;have cw:=M.one;have am:∀l,dR l (.agg [bM,bS,bP])=D (.ptr l 0 0,.row U 3 [[bM,bS,bP]]):=λl=>hn l _ (by simp only[List.all_cons,List.all_nil,bO,b2,cw,Bool.and_self])
 have an:∀l,rE (D 81) l (.agg [.nilPtr,.aA])=D (.ptr l 0 0,.ck 81 2 [[.nilPtr,.aA]]):=λl=>rfl
 have pp:=(aU.push H (.row U 3 [[bM,bS,bP]])).bT (.ck 81 2 [[.nilPtr,.aA]]);have E:=(aU.push (H.push (.row U 3 [[bM,bS,bP]])) (.ck 81 2 [[.nilPtr,.aA]])).get (af.bY H (.row U 3 [[bM,bS,bP]]));have F:=af.bY (H.push (.row U 3 [[bM,bS,bP]])) (.ck 81 2 [[.nilPtr,.aA]]);have ar:(H.push (.row U 3 [[bM,bS,bP]])).next=H.next+1:=by simp
 have au:((H.push (.row U 3 [[bM,bS,bP]])).push (.ck 81 2 [[.nilPtr,.aA]])).next=H.next+2:=by simp
 have ad:=G.a1 (cK.aR pp);have S:=R.a1 (cK.aR pp);have O:=M.a1 (cK.aR pp);have ab:=V.aR pp;have aC:=af.a6 V.xn;rw[wM];have y:=λH'=>G.r4 H'
 simp-implicitDefEqProofs(disch:=try exact ak)only[reduceAdd,reduceLeDiff,reduceIte,az,am,an,E,y];simp only[ar]at F;generalize (H.push (.row U 3 [[bM,bS,bP]])).push (.ck 81 2 [[.nilPtr,.aA]])=H1 at pp E F au ad S O ab ⊢;have z:∀l,ok l->l<H.next+1:=λl h=>by have:=ap l h;omega
 have ag:fL (H.next+1) (H.next+1) (H.next+1) H1 []:=⟨ae,bo _,bo _,ae,⟨λh=>absurd rfl h,ae,.nilPtr,.aA,F,.inl rfl,.inl ⟨rfl,rfl⟩⟩,ab⟩;have e:flat (fI g)=flat (cm (g.b7.map .r))++flat (cm (g.globals.map .g))++flat (cm (g.funcs.map .f)):=by
  unfold fI;rw[se,se,dw,dw,List.append_assoc]
 have ay:=F3 _ hw.o9;have ax:=F2 _ hw.dI;have bb:=hw.h_;have aE:=hw.qg;have aF:=hw.r_;have o:cm []=[]:=rfl;have ah:∀m c,fL (H.next+1) (H.next+1) m c (flat (cm (g.b7.map .r))++flat (cm (g.globals.map .g))++flat (cm (g.funcs.map .f)))->c5 (H.next+1) (H.next+1) H1 m c->W (pa (aI P aB) 1000 (.ptr (H.next+1) 0 0) c) λv H'=>v= Z (flat (fI g))/\aU H H':=by
  intro m c q d;have aw:=F1 _ hw.cP;obtain⟨al,bu,aD,fX⟩:=UM q.km (by simp only[List.length_append];omega);have av:c.next<=al.next:=ae
  simp-implicitDefEqProofs(disch:=try exact ak)only[pa,reduceAdd,reduceLeDiff,reduceIte,az,bu,fJ,av];refine a_.2 ⟨by rw[e],by have:=pp.1;have:=d.next;omega,λl ao=> ?_⟩;have:=q.hm;rw[fX l ae,d.2.2 l ae ae];exact pp.2 l ao
 have ai:∀m c,fL (H.next+1) (H.next+1) m c (flat (cm (g.b7.map .r))++flat (cm (g.globals.map .g)))->c5 (H.next+1) (H.next+1) H1 m c->W (o_ (aI P aB) 1000 (.ptr H.next 0 0) (.ptr (H.next+1) 0 0) c) λv H'=>v= Z (flat (fI g))/\aU H H':=by
  intro m c q d;have g2:=d.get E ae ae;have K:=d.a1 (bo _) (bo _) z;have Q:=O.a1 K;have y:=λH'=>Q.r5 H'
  simp-implicitDefEqProofs(disch:=try exact ak)only[o_,reduceAdd,reduceLeDiff,reduceIte,az,g2,y];by_cases n:g.funcs.length=0
  ·have A:=List.length_eq_zero_iff.1 n;have s:¬((0:Int)<((0:Nat):Int)):=ae;rw[n];simp-implicitDefEqProofs(disch:=try exact ak)only[nF,ss,reduceAdd,reduceLeDiff,reduceIte,az,s,decide_false];exact ah m c (by rw[A,List.map_nil,o,ds,List.append_nil];exact q) d
  ·obtain⟨L,i,cap,ro,els,rfl,x,p,u⟩:=Q.wI n;have B:gg.esz=7:=rfl;rw[B]at p;exact GA (N:=1000) (H0:=H1) (m0:=H.next+1) z x ae rfl hw.cP ah g.funcs 0 1000 [] m c rfl rfl ae p u (by rw[List.map_nil,o,ds,List.append_nil];exact q) (by rw[List.map_nil,o,ds];simp only[List.length_append,List.length_nil];omega) d
 have aj:∀m c,fL (H.next+1) (H.next+1) m c (flat (cm (g.b7.map .r)))->c5 (H.next+1) (H.next+1) H1 m c->W (lK (aI P aB) 1000 (.ptr H.next 0 0) (.ptr (H.next+1) 0 0) c) λv H'=>v= Z (flat (fI g))/\aU H H':=by
  intro m c q d;have g2:=d.get E ae ae;have K:=d.a1 (bo _) (bo _) z;have T:=S.a1 K;have y:=λH'=>T.nv H'
  simp-implicitDefEqProofs(disch:=try exact ak)only[lK,reduceAdd,reduceLeDiff,reduceIte,az,g2,y];by_cases n:g.globals.length=0
  ·have A:=List.length_eq_zero_iff.1 n;have s:¬((0:Int)<((0:Nat):Int)):=ae;rw[n];simp-implicitDefEqProofs(disch:=try exact ak)only[nG,su,reduceAdd,reduceLeDiff,reduceIte,az,s,decide_false];exact ai m c (by rw[A,List.map_nil,o,ds,List.append_nil];exact q) d
  ·obtain⟨L,i,cap,ro,els,rfl,x,p,u⟩:=T.wI n;have B:fv.esz=4:=rfl;rw[B]at p;exact GB (N:=1000) (H0:=H1) (m0:=H.next+1) z x ae rfl hw.dI (λj a h=>by obtain⟨cs,aq,aH⟩:=u j a h;rw[aq,show cs=a.cells from aH]) ai g.globals 0 1000 [] m c rfl rfl ae p (by rw[List.map_nil,o,ds,List.append_nil];exact q) (by rw[List.map_nil,o,ds];simp only[List.length_nil];omega) d
 by_cases n:g.b7.length=0
 ·have A:=List.length_eq_zero_iff.1 n;have s:¬((0:Int)<((0:Nat):Int)):=ae;rw[n];simp-implicitDefEqProofs(disch:=try exact ak)only[mB,sv,reduceAdd,reduceLeDiff,reduceIte,az,s,decide_false];exact aj _ H1 (by rw[A,List.map_nil,o,ds];exact ag) (c5.aR (.refl _))
 ·obtain⟨L,i,cap,ro,els,rfl,x,p,u⟩:=ad.wI n;have B:hQ.esz=3:=rfl;rw[B]at p;exact GC (N:=1000) (H0:=H1) (m0:=H.next+1) (acc:=[]) ae z x ae rfl hw.o9 (λm H k w=>aj m H (by rw[List.nil_append]at k;exact k) w) g.b7 0 1000 [] _ H1 rfl rfl ae p u (by rw[List.map_nil,o,ds];exact ag) (by rw[List.map_nil,o,ds];simp only[List.length_nil];omega) (c5.aR (.refl _))
def mZ(T:List Tok)(s:al):dq 1000000000 (dm T s).1:=by
 unfold dm;split
 ·exact dq.leaf _
 ·split
  ·rename_i e s' h;split
   ·exact(Jh T 1000000000 800000000 ae).row _ _ (e,s') h
   ·exact dq.leaf _
  ·exact dq.leaf _
def eJ.append{B:Nat}{e:bf}(h:hk B e):∀{l:List bf},eJ B l->eJ B (l++[e])
 |[],_=>by rw[List.nil_append,eJ,eJ];exact⟨h,trivial⟩
 |x::xs,a=>by
  rw[eJ]at a;rw[List.cons_append,eJ];exact⟨a.1,eJ.append h a.2⟩
def uT(a:b0){e:aE}(h:dq 1000000000 e):hk 1000000000 (.mk a [e] [] []):=by
 rw[hk,dM,dM,eJ];exact⟨⟨by simp,h,trivial⟩,⟨by simp,trivial⟩,⟨by simp,trivial⟩⟩
def Jg(a:b0):hk 1000000000 (.mk a [] [] []):=by
 rw[hk,dM,eJ];exact⟨⟨by simp,trivial⟩,⟨by simp,trivial⟩,⟨by simp,trivial⟩⟩
def Uu{e:bf}(p:Int)(h:hk 1000000000 e):hk 1000000000 (e.at p):=by
 cases e;rw[bf.at,hk];rw[hk]at h;exact h
structure Lk(T:List Tok)(n:Nat):Prop where
 stmt:∀s x,uU T n s=some x->hk 1000000000 x.1
 block:∀s x,ma T n s=some x->x.1.length<=1000000000/\eJ 1000000000 x.1
 loop:∀l s x,nb T n l s=some x->l.length+n<=1000000000->eJ 1000000000 l->x.1.length<=1000000000/\eJ 1000000000 x.1
 choose:∀s x,vo T n s=some x->hk 1000000000 x.1
 rep:∀s x,wF T n s=some x->hk 1000000000 x.1
def Jf(T:List Tok):∀n,n+2<=1000000000->Lk T n
 |0,_=>⟨λ_ _ h=>(by cases h),λ_ _ h=>(by cases h),λ_ _ _ h=>(by cases h),λ_ _ h=>(by cases h),λ_ _ h=>(by cases h)⟩
 |n+1,v=>by
  have d:=Jf T n ae;refine⟨λs x h=> ?_,λs x h=> ?_,λl s x h u ar=> ?_,λs x h=> ?_,λs x h=> ?_⟩
  ·rw[uU]at h;obtain⟨p,a,c⟩:=fa h;cases c;refine Uu _ ?_;have k:hk 1000000000 (o3 T s).1:=by
    unfold o3;cases bz T (dm T s).2 4 [61]with
    |false=>exact uT _ (mZ _ _)
    |true=>
     simp only[aS,xl];cases(dm T s).1.kind==4 with
     |true=>exact uT _ (mZ _ _)
     |false=>
      simp only[aN];rw[hk,dM,dM,dM,eJ];exact⟨⟨by simp,mZ _ _,mZ _ _,trivial⟩,⟨by simp,trivial⟩,⟨by simp,trivial⟩⟩
   revert a;cases(aj T s.at_).kind==3 with
   |false=>intro a;cases a;exact k
   |true=>
    simp only[aS];cases(aj T s.at_).text==[118,97,114]with
    |true=>intro a;cases a;exact Jg _
    |false=>
    simp only[aN];cases(aj T s.at_).text==[108,101,116]with
    |true=>intro a;cases a;exact uT _ (mZ _ _)
    |false=>
    simp only[aN];cases(aj T s.at_).text==[105,102]with
    |true=>exactλa=>d.choose _ _ a
    |false=>
    simp only[aN];cases(aj T s.at_).text==[119,104,105,108,101]with
    |true=>exactλa=>d.rep _ _ a
    |false=>
    simp only[aN];cases(aj T s.at_).text==[114,101,116,117,114,110]with
    |true=>
     intro a;cases a;unfold wH;cases bz T (aw s) 4 [59]with
     |true=>exact Jg _
     |false=>exact uT _ (mZ _ _)
    |false=>
    simp only[aN];cases(aj T s.at_).text==[112,114,105,110,116]with
    |true=>intro a;cases a;exact uT _ (mZ _ _)
    |false=>intro a;cases a;exact k
  ·rw[ma]at h;have j:∀{l:List bf},l=[]->l.length<=1000000000/\eJ 1000000000 l:=λ{l} h=>by rw[h,eJ];exact⟨by simp,trivial⟩
   revert h;cases bz T s 4 [123]with
   |false=>intro h;cases h;exact j rfl
   |true=>
    simp only[aS];split
    ·intro h;cases h;exact j rfl
    ·intro h;obtain⟨p,a,c⟩:=fa h;cases c;exact d.loop [] _ p a (by simp;omega) (by rw[eJ];trivial)
  ·rw[nb]at h;revert h;cases(s.an==0&& !bz T s 4 [125])with
   |false=>intro h;cases h;exact⟨by show l.length<=1000000000;omega,ar⟩
   |true=>
    intro h;obtain⟨p,a,c⟩:=fa h;exact d.loop _ _ _ c (by simp;omega) (eJ.append (d.stmt _ _ a) ar)
  ·rw[vo]at h;obtain⟨p,a,c⟩:=fa h;obtain⟨e,i⟩:=d.block _ _ a;revert c;cases bz T p.2 3 [101,108,115,101]with
   |false=>
    intro c;cases c;rw[hk,dM,dM];exact⟨⟨by simp,mZ _ _,trivial⟩,⟨e,i⟩,⟨by simp,by rw[eJ];trivial⟩⟩
   |true=>
    intro c;obtain⟨q,m,o⟩:=fa c;cases o;rw[hk,dM,dM];exact⟨⟨by simp,mZ _ _,trivial⟩,⟨e,i⟩,d.block _ _ m⟩
  ·rw[wF]at h;obtain⟨p,a,c⟩:=fa h;cases c;obtain⟨e,i⟩:=d.block _ _ a;rw[hk,dM,dM];exact⟨⟨by simp,mZ _ _,trivial⟩,⟨e,i⟩,⟨by simp,by rw[eJ];trivial⟩⟩
section
variable {T:List Tok}
def El:∀(n:Nat) (l:List bB) (s:al) (p:List bB×al),oJ T n l s=D p->p.1.length<=l.length+n
 |0,_,_,_,h=>by cases h
 |n+1,l,s,p,h=>by
  rw[oJ]at h;cases a:(s.an==0&& !bz T s 4 [125])with
  |true=>
   rw[a,aS]at h;have:=El n _ _ _ h;simp only[List.length_append,List.length_cons,List.length_nil]at this;omega
  |false=>rw[a,aN]at h;cases h;simp
def HF:∀(n:Nat) (l:List bB) (s:al) (p:List bB×al),k1 T n l s=D p->p.1.length<=l.length+n
 |0,_,_,_,h=>by cases h
 |n+1,l,s,p,h=>by
  rw[k1]at h;cases a:(fY T 4 [44] s).1 with
  |true=>
   rw[a,aS]at h;have:=HF n _ _ _ h;simp only[j2,List.length_append,List.length_cons,List.length_nil]at this;omega
  |false=>rw[a,aN]at h;cases h;simp
def Qb{l:List bf}{s:al}{st:al}(h:ma T 800000000 st=D (l,s)):(k2 l s).1.length<=1000000000/\eJ 1000000000 (k2 l s).1:=by
 unfold k2;split
 ·exact(Jf T 800000000 ae).block _ _ h
 ·rw[eJ];exact⟨by simp,trivial⟩
def MD(s:al):(lr T s).1.length<=1000000000/\eJ 1000000000 (lr T s).1:=by
 unfold lr;split
 ·rename_i p aF;exact Qb aF
 ·rw[eJ];exact⟨by simp,trivial⟩
def ur{M:Nat}(e:M<=800000000):∀(n:Nat) (g:bE) (s:al) (p:bE×al),td g->g.b7.length+n<=1000000000->g.globals.length+n<=1000000000->g.funcs.length+n<=1000000000->k3 T M n g s=D p->td p.1
 |0,_,_,_,_,_,_,_,h=>by cases h
 |n+1,g,s,p,d,v,w,x,h=>by
  rw[k3]at h;cases m:(s.an==0&&(aj T s.at_).kind != 0)with
  |false=>rw[m,aN]at h;cases h;exact d
  |true=>
   rw[m,aS]at h;cases i:bz T s 3 [114,101,99,111,114,100]with
   |true=>
    rw[i,aS]at h;obtain⟨⟨g2,s2⟩,aq,aH⟩:=fa h;have o:=QB aq;obtain⟨q,f1,f2⟩:=fa aq;have u:=El _ _ _ _ f1;simp only[List.length_nil]at u;simp only[aZ,cj]at f2;obtain⟨rfl,rfl⟩:=f2;simp only at o;refine ur e n _ _ p ?_ ?_ ?_ ?_ aH
    ·refine⟨⟨by simp;omega,λa c=> ?_⟩,d.kA,d.f⟩;rcases List.mem_append.1 c with c|c
     ·exact d.r.2 a c
     ·simp only[List.mem_cons,List.not_mem_nil,or_false]at c;rw[c];show q.1.length<=_;omega
    ·simp;omega
    ·simp only;omega
    ·simp only;omega
   |false=>
    rw[i,aN]at h;cases j:bz T s 3 [103,108,111,98,97,108]with
    |true=>
     rw[j,aS]at h;refine ur e n _ _ p ?_ ?_ ?_ ?_ h
     ·exact⟨d.r,by simp only[jH,List.length_append,List.length_cons,List.length_nil];omega,d.f⟩
     ·simp only[jH];omega
     ·simp only[jH,List.length_append,List.length_cons,List.length_nil];omega
     ·simp only[jH];omega
    |false=>
     rw[j,aN]at h;cases k:bz T s 3 [102,117,110,99]with
     |true=>
      rw[k,aS]at h;obtain⟨⟨g2,s2⟩,aq,aH⟩:=fa h;have o:=N1 aq;obtain⟨q,f1,f2⟩:=fa aq;have u:q.1.length<=M+1:=by
       unfold rP at f1;revert f1;cases bz T (b8 T [40] (fy T (aw (fk T X g.funcs.length 16 s))).2).2 4 [41]with
       |true=>intro f1;rw[aS]at f1;cases f1;simp
       |false=>
        intro f1;rw[aN]at f1;have:=HF _ _ _ _ f1;simp only[j2,List.nil_append,List.length_cons,List.length_nil]at this;omega
      simp only[aZ]at f2;have l:=congrArg Prod.fst f2;refine ur e n g2 s2 p ?_ ae ae ae aH;simp only at l;rw[<-l];unfold rO;split
      ·exact d
      ·refine⟨d.r,d.kA,by simp;omega,λa c=> ?_⟩;rcases List.mem_append.1 c with c|c
       ·exact d.f.2 a c
       ·simp only[List.mem_cons,List.not_mem_nil,or_false]at c;rw[c];exact⟨by show q.1.length<=_;omega,MD _⟩
     |false=>
      rw[k,aN]at h;exact ur e n g _ p d ae ae ae h
def zY:td .none:=⟨⟨by simp[bE.none],λa c=>by cases c⟩,by simp[bE.none],by simp[bE.none],λa c=>by cases c⟩
end
def Ay(a:bB):ig a a=true:=by simp[ig]
def T5(a:ep):kL a a=true:=by simp[kL,rJ Ay]
def TV(a:Fn):mW a a=true:=by simp[mW,rJ Ay,xj]
def T3(g:bE):n7 g g=true:=by simp[n7,rJ T5,rJ Ay,rJ TV]
def HW(s:aC):∃p q:bE×al,((dB s).2.1=0->k3 (dB s).1 800000000 800000000 .none ⟨0,0,0,0⟩=D p)/\((dB s).2.1=0->eh (dB s).1 800000000 800000000 .none ⟨0,0,0,0⟩=D q)/\gN s p.1 p.2=gN s q.1 q.2/\td (gN s p.1 p.2).1:=by
 by_cases a:(dB s).2.1=0
 ·obtain⟨ay,d⟩:=AZ a;obtain⟨p,q,c,e,i⟩:=Qp ay d;have j:=ur ae 800000000 .none ⟨0,0,0,0⟩ p zY (by simp[bE.none]) (by simp[bE.none]) (by simp[bE.none]) c;refine⟨p,q,λ_=>c,λ_=>e,?_,?_⟩
  ·unfold gN;rw[if_pos a,if_pos a,i]
  ·unfold gN nB;rw[if_pos a];split
   ·exact j
   ·exact zY
 ·refine⟨(.none,⟨0,0,0,0⟩),(.none,⟨0,0,0,0⟩),λh=>absurd h a,λh=>absurd h a,rfl,?_⟩;unfold gN;rw[if_neg a];exact zY
mutual
def TR:∀(a b:aE),lS a.aQ b.aQ=lS a b
 | .mk a ks,.mk b ls=>by
  rw[lv,lv,lS,lS,Av ks ls];rfl
def Av:∀(a b:List aE),gy (dX a) (dX b)=gy a b
 |[],[]=>rfl
 |[],_::_=>rfl
 |_::_,[]=>rfl
 |a::xs,b::c=>by rw[dX,dX,gy,gy,TR a b,Av xs c]
end
mutual
def TX:∀(a b:bf),lT a.aQ b.aQ=lT a b
 | .mk a es b c,.mk bt es' ct c'=>by
  rw[ik,ik,lT,lT,Av es es',xi b ct,xi c c'];rfl
def xi:∀(a b:List bf),fU (eD a) (eD b)=fU a b
 |[],[]=>rfl
 |[],_::_=>rfl
 |_::_,[]=>rfl
 |a::xs,b::c=>by rw[eD,eD,fU,fU,TX a b,xi xs c]
end
def rI{α:Type}{f:α->α->Bool}{g:α->α}(h:∀a b,f (g a) (g b)=f a b):∀(l m:List α),eV f (l.map g) (m.map g)=eV f l m
 |[],[]=>rfl
 |[],_::_=>rfl
 |_::_,[]=>rfl
 |a::xs,b::c=>by rw[List.map_cons,List.map_cons,eV,eV,h a b,rI h xs c]
def Ax(a b:bB):ig a.aQ b.aQ=ig a b:=rfl
def T4(a b:ep):kL a.aQ b.aQ=kL a b:=by
 unfold kL ep.aQ;rw[rI Ax]
def TT(a b:Fn):mW a.aQ b.aQ=mW a b:=by
 unfold mW Fn.aQ;simp only[rI Ax,xi]
def T0(a b:bE):n7 a.aQ b.aQ=n7 a b:=by
 unfold n7 bE.aQ;simp only[rI Ax,rI T4,rI TT]
def TZ{a b:bE}(h:a.aQ=b.aQ):n7 a b=true:=by
 rw[<-T0,h];exact T3 _
def Qo{s:aC}{g:bE}{z:al}(h:(gN s g z).2.1=0)(a:(dB s).2.1=0\/(dB s).2.1≠0):(dB s).2.1=0/\z.an=0/\gN s g z=(g,0,0):=by
 unfold gN at h ⊢;by_cases c:(dB s).2.1=0
 ·rw[if_pos c]at h ⊢;unfold nB at h ⊢;by_cases a:z.an=0
  ·rw[if_pos a];exact⟨c,a,rfl⟩
  ·rw[if_neg a]at h;exact absurd h a
 ·rw[if_neg c]at h;exact absurd h c
def Bg{s:aC}(c:(dB s).2.1=0){q:bE×al}(n:eh (dB s).1 800000000 800000000 .none ⟨0,0,0,0⟩=D q)(p:q.2.an=0):vc q.1/\q.1.b7.length<=12/\q.1.globals.length<=8/\q.1.funcs.length<=16:=by
 obtain⟨ay,v⟩:=AZ c;have B:=AY s;have z:s.length<=6000:=by
  unfold dB at c;split at c
  ·simp at c
  ·omega
 have hlen:(dB s).1.length<=6001:=ae;have d:Good (dB s).1 ((dB s).1.length:Int):=⟨ae,λa h=>(AX h).2.1,λt o=>J6 t o⟩;have i:h3 (dB s).1:=yb ae;obtain⟨G,A⟩:=si d i 800000000 800000000 .none ⟨0,0,0,0⟩ q (λ_=>⟨by simp,by simp,by simp,by simp⟩) (λ_=>⟨(λx h=>by cases h),(λx h=>by cases h),(λx h=>by cases h),by simp[bE.none],by simp[bE.none],by simp[bE.none],by simp[bE.none,oc]⟩) n p;have hw:=G.w;have key:∀l:List Fn,∀x∈l,ec x.body<=oc l:=by
  intro l
  induction l with
  |nil=>intro x h;cases h
  |cons y r u=>
   intro x h;have e:oc (y::r)=ec y.body+oc r:=by simp[oc]
   rcases List.mem_cons.1 h with rfl|h
   ·omega
   ·have:=u x h;omega
 have m:=G.h_;have k:=G.qg;have j:=G.r_;exact⟨⟨G.o9,G.dI,λx h=>⟨G.cP x h,by have:=key _ x h;omega⟩,ae,ae,ae⟩,m,k,j⟩
structure nk where
 r:Nat
 g:Nat
 h:Nat
 l:List dV
section
variable (G:bE)(K:Nat->Int)
def nk.more(s:nk):Bool:=Nat.blt s.r G.b7.length||(Nat.blt s.g G.globals.length||Nat.blt s.h G.funcs.length)
def nk.step(k:Int)(s:nk):nk:=
 if k=0/\s.r<G.b7.length then {s with r:=s.r+1,l:=s.l++(G.b7[s.r]?.map dV.r).toList}
 else if k=1/\s.g<G.globals.length then {s with g:=s.g+1,l:=s.l++(G.globals[s.g]?.map dV.g).toList}
 else if k=2/\s.h<G.funcs.length then {s with h:=s.h+1,l:=s.l++(G.funcs[s.h]?.map dV.f).toList}
 else s
def nk.rem(s:nk):Nat:=(G.b7.length-s.r)+((G.globals.length-s.g)+(G.funcs.length-s.h))
def nk.has(s:nk)(c:Nat):Prop:=(c=0/\s.r<G.b7.length)\/(c=1/\s.g<G.globals.length)\/(c=2/\s.h<G.funcs.length)
end
def Ph:∀e:aE,e.aQ.cc=e.cc
 | .mk a ks=>rfl
mutual
def wm:∀e:aE,aY e.aQ=aY e
 | .mk a ks=>by rw[aE.aQ,dZ,dZ,Hw ks];rfl
def Hw:∀ks:List aE,cD (dX ks)=cD ks
 |[]=>rfl
 |e::es=>by rw[dX,cD,cD,wm e,Hw es,Ph]
end
def Vt(es:List aE):ag (dX es)=ag es:=by
 cases es with
 |nil=>rfl
 |cons e r=>exact wm e
def Vv(es:List aE):av (dX es)=av es:=by
 match es with
 |[]=>rfl
 |[e]=>rfl
 |e::f::r=>exact wm f
def Nd(c:List bf):(eD c).isEmpty=c.isEmpty:=by cases c<;>rfl
def P_(a:b0)(es:List aE)(B:List bK)(ce:Bool)(zC:List bK)(d:aC):fo a.aQ (dX es) B ce zC d=fo a es B ce zC d:=by
 unfold fo;rw[Vt,Vv];cases es with
 |nil=>rfl
 |cons e r=>
  rw[dX];simp only[wm];rfl
mutual
def P9(deep:Nat):∀s:bf,dL deep s.aQ=dL deep s
 | .mk a es b c=>by rw[bf.aQ,dL,dL,wk (deep+1) b,wk (deep+1) c,Nd,P_]
def wk(deep:Nat):∀l:List bf,bH deep (eD l)=bH deep l
 |[]=>rfl
 |s::r=>by rw[eD,bH,bH,P9 deep s,wk deep r]
end
def zS(p:bB):c6 p.aQ=c6 p:=rfl
def Ht:∀l:List bB,eN (l.map bB.aQ)=eN l
 |[]=>rfl
 |p::r=>by rw[List.map_cons,eN,eN,Ht r,zS]
def Hx:∀l:List bB,jq (l.map bB.aQ)=jq l
 |[]=>rfl
 |p::r=>by rw[List.map_cons,jq,jq,Hx r,zS]
def P7(l:List bB):fQ (l.map bB.aQ)=fQ l:=by
 cases l with
 |nil=>rfl
 |cons p r=>rw[List.map_cons,fQ,fQ,Hx,zS]
def dV.aQ:dV->dV
 | .r x=> .r x.aQ
 | .g x=> .g x.aQ
 | .f x=> .f x.aQ
def P6(i:dV):iW i.aQ=iW i:=by
 cases i with
 |r x=>simp only[dV.aQ,iW,o0,ep.aQ,Ht]
 |g x=>rfl
 |f x=>simp only[dV.aQ,iW,qs,Fn.aQ,P7,wk]
def Hu:∀l:List dV,cm (l.map dV.aQ)=cm l
 |[]=>rfl
 |i::r=>by rw[List.map_cons,cm,cm,Hu r,P6]
def Hy(g:bE):fI g.aQ=fI g:=by
 have e:=Hu (g.b7.map dV.r++(g.globals.map dV.g++g.funcs.map dV.f));unfold fI;rw[<-e];unfold bE.aQ;simp only[List.map_append,List.map_map];rfl
def P8{g h:bE}(e:g.aQ=h.aQ):fI g=fI h:=by rw[<-Hy g,e,Hy]
def BI(g:bE):∀l m:List dV,g.fh (l++m)=(g.fh l).fh m:=by
 intro l
 induction l generalizing g with
 |nil=>intro m;rfl
 |cons i r a=>intro m;exact a (g.add i) m
def BM:∀(l:List ep) (g:bE),g.fh (l.map .r)={g with b7:=g.b7++l}
 |[],g=>by simp[bE.fh]
 |x::r,g=>by rw[List.map_cons,bE.fh,BM r];simp[bE.add]
def BK:∀(l:List bB) (g:bE),g.fh (l.map .g)={g with globals:=g.globals++l}
 |[],g=>by simp[bE.fh]
 |x::r,g=>by rw[List.map_cons,bE.fh,BK r];simp[bE.add]
def BJ:∀(l:List Fn) (g:bE),g.fh (l.map .f)={g with funcs:=g.funcs++l}
 |[],g=>by simp[bE.fh]
 |x::r,g=>by rw[List.map_cons,bE.fh,BJ r];simp[bE.add]
def Lx(g:bE):bE.none.fh (g.b7.map .r++(g.globals.map .g++g.funcs.map .f))=g:=by
 rw[BI,BI,BM,BK,BJ];simp[bE.none]
def Mt{g:bE}(hw:vc g)(m:g.b7.length<=12)(n:g.globals.length<=8)(o:g.funcs.length<=16)(j:(flat (fI g)).length<=6000):
  (dB (flat (fI g))).2.1=0/\∃q:bE×al,eh (dB (flat (fI g))).1 800000000 800000000 .none ⟨0,0,0,0⟩=D q/\q.2.an=0/\gN (flat (fI g)) q.1 q.2=(q.1,0,0)/\q.1.aQ=g.aQ/\n7 g q.1=X/\fI q.1=fI g:=by
 have a:=Lx g;have d:∀i∈g.b7.map dV.r++(g.globals.map dV.g++g.funcs.map dV.f),rp i:=by
  intro i h;simp only[List.mem_append,List.mem_map]at h;rcases h with⟨x,h,rfl⟩|⟨x,h,rfl⟩|⟨x,h,rfl⟩
  ·exact hw.o9 x h
  ·exact hw.dI x h
  ·exact(hw.cP x h).1
 obtain⟨p,q,aF,l,he,-⟩:=HW (flat (fI g));have u:=zZ _ d;have s:jC (fI g):=by have:=u.k [] trivial;rwa[List.append_nil]at this
 have v:=J7 s j;have c:(dB (flat (fI g))).2.1=0:=by rw[v]
 have hlen:=AY (flat (fI g));obtain⟨aT,a2,a3⟩:=Qy d (by rw[a];exact m) (by rw[a];exact n) (by rw[a];exact o) j (yb (by unfold dy;rw[List.length_map];exact Nat.le_trans hlen ae)) (l c);rw[a]at a3;have e:gN (flat (fI g)) q.1 q.2=(q.1,0,0):=by
  unfold gN nB;rw[if_pos c,if_pos a2]
 exact⟨c,q,l c,a2,e,a3,TZ a3.symm,P8 a3⟩
section
set_option maxRecDepth 100000
noncomputable section
end
end
section
set_option maxRecDepth 100000
noncomputable section
def wN(G:aD)(H:af):O:=aO H (G 9 [Z [102,117,110,99,32,109,97,105,110,40,41,123,105,102,32,49,60,50,123,112,114,105,110,116,40,49,43,50,41,42,51,59,125,125]] H) λi k=>j (h6 i 0) λx=>j (h6 i 1) λbD=>cX k [aa.aA,aa.aA,aa.aA] λav l=>cX l [I J 0,I J 0] λw e=>bm e (ba P e 26 av x) λh=>bm h (ba P h 29 w bD) λc=>j (ao P c 26 av) λy=>aO c (G 10 [y] c) λz m=>j (au P .eql 9 X z (Z [102,117,110,99,32,109,97,105,110,40,41,32,123,10,32,32,105,102,32,49,32,60,32,50,32,123,10,32,32,32,32,112,114,105,110,116,32,40,49,32,43,32,50,41,32,42,32,51,59,10,32,32,125,10,125,10])) λa=>aM a X m (cJ (.agg [Z [105,110,116],I J 2])) λp d=>aM a X d (λq=>eQ d (G 20 [p] d) q) λs n=>aM a X n (br (au P .eql 9 X s (Z [91,91,105,110,116,93,93]))) λu o=>j (cE a (D u) (D (Y U))) λv=>D (v,o)
def Q5(N:Nat){H:af}{r:aa×af}(h:wN (aI P aB) H=D r):aI P aB 12 [] H=D r:=cZ N (S:=λG=>wN G H) Tryd.func12 (λ_=>by delta wN;kernel_rfl) h
end
end
def vK:aC:=[102,117,110,99,32,109,97,105,110,40,41,123,105,102,32,49,60,50,123,112,114,105,110,116,40,49,43,50,41,42,51,59,125,125]
def vL:aC:=[102,117,110,99,32,109,97,105,110,40,41,32,123,10,32,32,105,102,32,49,32,60,32,50,32,123,10,32,32,32,32,112,114,105,110,116,32,40,49,32,43,32,50,41,32,42,32,51,59,10,32,32,125,10,125,10]
def FO:Bool:=(dB vK).2.1==0&&(match eh (dB vK).1 800000000 800000000 .none ⟨0,0,0,0⟩with
 |some (g,s)=>s.an==0&&flat (fI g)==vL
 |none=>U)
set_option maxRecDepth 100000 in
def OS:FO=true:=by decide+kernel
def U2:flat (cn [105,110,116] 2)=[91,91,105,110,116,93,93]:=by decide+kernel
def cK.lt{H:af}{ok:Nat->Prop}:cK H ok H (· <H.next):=λ_ _ _ g=>⟨af.a6 g,g⟩
def FQ{H:af}(u:gl.jA H):W (aI P aB 12 [] H) λv H'=>v= Y X/\aU H H':=by
 refine cO (λ_=>Q5 0) ?_;have a:=OS;unfold FO at a;simp only[Bool.and_eq_true,beq_iff_eq]at a;obtain⟨k,a⟩:=a;split at a
 ·rename_i g s aF;simp only[Bool.and_eq_true,beq_iff_eq]at a;obtain⟨j,q⟩:=a;obtain⟨hw,-⟩:=Bg k aF j;rw[wN];refine aW (Ab vK (M:=800000000) (n:=800000000) (bo _) (bo _) (λ_=>aF)) ?_;rintro _ H1 ⟨bM,bS,bP,rfl,d,e,i,l⟩;refine⟨l.1,?_⟩;have cg:gN vK g s=(g,0,0):=by unfold gN nB;rw[if_pos k,if_pos j]
  rw[cg]at d e i ⊢;simp only at d e i ⊢;have bO:=d.one;have b2:=e.one;have cw:=i.one;have c:=(aU.push H1 (.row U 3 [[bM,bS,bP]])).bT (.row U 2 [[I J 0,I J 0]]);simp-implicitDefEqProofs(disch:=try exact ak)only[reduceAdd,reduceLeDiff,reduceIte,az,af.iE,bO,b2,cw];generalize (H1.push (.row U 3 [[bM,bS,bP]])).push (.row U 2 [[I J 0,I J 0]])=w at c ⊢;have p:=l.trans c;refine aW (z8 ((d.a1 (cK.aR c)).a1 cK.lt) ((e.a1 (cK.aR c)).a1 cK.lt) ((i.a1 (cK.aR c)).a1 cK.lt) (λ_ h=>h) (u.aR p) hw) ?_;rintro _ x ⟨rfl,m⟩;refine⟨m.1,?_⟩;rw[q];have aq:(vL==vL)=true:=by simp
  unfold vL at aq ⊢;simp-implicitDefEqProofs(disch:=try exact ak)only[bg,bG,c3,aq];refine hl (type20 aK aK aK) ?_;rintro _ y ⟨rfl,o⟩;refine⟨o.1,?_⟩;rw[U2];have aH:(([91,91,105,110,116,93,93]:aC)==[91,91,105,110,116,93,93])=true:=aK;simp-implicitDefEqProofs(disch:=try exact ak)only[bg,bG,c3,aH];exact a_.2 ⟨rfl,(p.trans m).trans o⟩
 ·cases a
section
set_option maxRecDepth 100000
noncomputable section
def fX(G:aD)(ag:aa)(H:af):O:=aO H (G 9 [ag] H) λy z=>j (h6 y 0) λM=>j (h6 y 1) λN=>cX z [aa.aA,aa.aA,aa.aA] λc A=>cX A [I J 0,I J 0] λx m=>bm m (ba P m 26 c M) λn=>bm n (ba P n 29 x N) λo=>bg P .len [9] [ag] o λE=>j (au P .gtr 3 X E (I J 4000)) λh=>aM h U o (br (aJ P 29 x 0)) λF p=>aM h U p (qr (ao P p 27 F)) λK B=>aM h U B (br (au P .neq 27 X K (I J 0))) λbR a=>j (cE h (D (Y X)) (D bR)) λL=>a7 (D L) (D ((Y X),a)) (j (ao P a 26 c) λs=>aO a (G 10 [s] a) λu e=>j (ao P e 26 c) λv=>aO e (G 11 [v] e) λw d=>j (au P .eql 9 U u w) λi=>fZ i X (λq=>eQ d (G 12 [] d) q) λk=>j (cE i (D k.val) (D (Y U))) λl=>bif oF [0,1,0,7,15,31,63,127,255] [0,1,3,4,5,6,7,8] [⟨0,.read s,λH=>ao P H 26 c⟩,⟨1,.eL u e,λH=>C⟩,⟨2,.read v,λH=>ao P H 26 c⟩,⟨3,.eL w d,λH=>C⟩,⟨4,.pure i,λH=>C⟩,⟨5,.pure i,λH=>C⟩,⟨6,k,λH=>C⟩,⟨7,.pure l,λH=>C⟩,⟨8,.pure l,λH=>C⟩] a then(D (l,(k.heap d)))else C)
end
end
def dD.beq{α:Type}{K:jB α}{H:af}{ok:Nat->Prop}{l:List α}{v:aa}(h:dD K H ok l v):aa.beq v v=true:=by
 rcases h with⟨rfl,_⟩|⟨L,i,cap,ro,els,rfl,_⟩|⟨L,i,cap,rfl,_⟩<;>simp[aa.beq]
def Vs{s:aC}{q:bE×al}(c:(dB s).2.1=0->eh (dB s).1 800000000 800000000 .none ⟨0,0,0,0⟩=D q)(h:(gN s q.1 q.2).2.1=0):vc (gN s q.1 q.2).1/\(gN s q.1 q.2).1.b7.length<=12/\(gN s q.1 q.2).1.globals.length<=8/\(gN s q.1 q.2).1.funcs.length<=16:=by
 obtain⟨a,d,e⟩:=Qo h (Decidable.em _);rw[e];exact Bg a (c a) d
section
set_option maxRecDepth 100000
noncomputable section
def k5(G:aD)(ag:aa)(H:af):O:=aO H (G 9 [ag] H) λB M=>j (h6 B 0) λW=>j (h6 B 1) λab=>cX M [aa.aA,aa.aA,aa.aA] λp R=>cX R [I J 0,I J 0] λF x=>bm x (ba P x 26 p W) λy=>bm y (ba P y 29 F ab) λz=>bg P .len [9] [ag] z λad=>j (au P .gtr 3 X ad (I J 4000)) λe=>aM e U z (br (aJ P 29 F 0)) λae A=>aM e U A (qr (ao P A 27 ae)) λah V=>aM e U V (br (au P .neq 27 X ah (I J 0))) λai d=>j (cE e (D (Y X)) (D ai)) λaj=>a7 (D aj) (D ((Y X),d)) (j (ao P d 26 p) λak=>aO d (G 10 [ak] d) λo a=>bg P .len [9] [o] a λal=>j (au P .gtr 3 X al (I J 6000)) λam=>a7 (D am) (aO a (G 12 [] a) λan i=>D (an,i)) (aO a (G 9 [o] a) λE i=>j (h6 E 0) λap=>j (h6 E 1) λaq=>cX i [aa.aA,aa.aA,aa.aA] λbD N=>cX N [I J 0,I J 0] λL s=>bm s (ba P s 26 bD ap) λu=>bm u (ba P u 29 L aq) λk=>j (aJ P 29 L 0) λar=>j (ao P k 27 ar) λav=>j (au P .eql 27 X av (I J 0)) λh=>aM h X k (qr (ao P k 26 p)) λaw v=>aM h X v (qr (ao P v 26 bD)) λax l=>aM h X l (λq=>eQ l (G 13 [aw,ax] l) q) λay w=>j (cE h (D ay) (D (Y U))) λc=>aM c X w (qr (ao P w 26 bD)) λaz m=>aM c X m (λq=>eQ m (G 10 [az] m) q) λaB Q=>aM c X Q (cJ o) λaC S=>aM c X S (br (au P .eql 9 U aB aC)) λaE n=>j (cE c (D aE) (D (Y U))) λK=>aM K X n (λq=>eQ n (G 12 [] n) q) λaF T=>j (cE K (D aF) (D (Y U))) λaH=>D (aH,T)))
def S3(G:aD)(N:Nat)(ag:aa)(H:af):vm Tryd.f4 G N (nn [ag]) H=k5 G ag H:=by
 refine eo (A:=vm Tryd.f4 G N) (aL _) ?_;delta k5;kernel_rfl
end
end
def Mu{H:af}(w:gl.jA H)(s:aC):W (k5 (aI P aB) (Z s) H) λv H'=>v= Y X/\aU H H':=by
 rw[k5];obtain⟨p,q,-,ab,he,z⟩:=HW s;rw[he]at z;have hw:=Vs ab;refine aW (Ab s (g':=q.1) (s':=q.2) (bo _) (bo _) ab) ?_;rintro _ H1 ⟨bM,bS,bP,rfl,aT,a2,a3,G⟩;refine⟨G.1,?_⟩;have bO:=aT.one;have b2:=a2.one;have cw:=a3.one;generalize gN s q.1 q.2=x at hw z aT a2 a3 ⊢;obtain⟨g,e,f⟩:=x;simp only at hw z aT a2 a3 ⊢;have d:=(aU.push H1 (.row U 3 [[bM,bS,bP]])).bT (.row U 2 [[I J e,I J f]]);have o:=(aU.push (H1.push (.row U 3 [[bM,bS,bP]])) (.row U 2 [[I J e,I J f]])).get (af.bY H1 (.row U 3 [[bM,bS,bP]]));have u:=af.bY (H1.push (.row U 3 [[bM,bS,bP]])) (.row U 2 [[I J e,I J f]])
 simp only[af.ch]at u;by_cases V:(4000:Int)<s.length
 ·simp-implicitDefEqProofs(disch:=try exact ak)only[reduceAdd,reduceLeDiff,reduceIte,az,af.iE,bO,b2,cw,V,decide_true];exact a_.2 ⟨rfl,G.trans d⟩
 simp-implicitDefEqProofs(disch:=try exact ak)only[reduceAdd,reduceLeDiff,reduceIte,az,af.iE,bO,b2,cw,V,decide_false];generalize (H1.push (.row U 3 [[bM,bS,bP]])).push (.row U 2 [[I J e,I J f]])=aF at d o u ⊢;have E:=G.trans d;by_cases T:e=0
 ·subst T;have ap:((0:Int) != 0)=false:=rfl;simp-implicitDefEqProofs(disch:=try exact ak)only[reduceAdd,reduceLeDiff,reduceIte,az,o,u,ap];obtain⟨hw,au,av,ea⟩:=hw rfl;have N:=aT.a1 (cK.aR d);have O:=a2.a1 (cK.aR d);have b3:=a3.a1 (cK.aR d);refine aW (z8 (N.a1 cK.lt) (O.a1 cK.lt) (b3.a1 cK.lt) (λ_ h=>h) (w.aR E) hw) ?_;rintro _ aH ⟨rfl,A⟩;refine⟨A.1,?_⟩;have aj:=A.get o;have ah:=E.trans A;by_cases aa:(6000:Int)<(flat (fI g)).length
  ·simp-implicitDefEqProofs(disch:=try exact ak)only[reduceAdd,reduceLeDiff,reduceIte,az,aa,decide_true];refine aW (FQ (w.aR ah)) ?_;rintro _ c ⟨rfl,i⟩;refine⟨i.1,?_⟩;exact a_.2 ⟨rfl,ah.trans i⟩
  simp-implicitDefEqProofs(disch:=try exact ak)only[reduceAdd,reduceLeDiff,reduceIte,az,aa,decide_false];obtain⟨ao,y,ad,ar,ai,-,aE,aw⟩:=Mt hw au av ea ae;obtain⟨aq,-⟩:=Bg ao ad ar;refine aW (Ab (flat (fI g)) (g':=y.1) (s':=y.2) (bo _) (bo _) (λ_=>ad)) ?_;rw[ai];rintro _ c ⟨k,j,eZ,rfl,l,m,n,i⟩;refine⟨i.1,?_⟩;simp only at l m n ⊢;have ax:=l.one;have ay:=m.one;have aD:=n.one;have R:=i.get aj;have aN:=af.a6 R;have a:=(aU.push c (.row U 3 [[k,j,eZ]])).bT (.row U 2 [[I J 0,I J 0]]);have gc:=(aU.push (c.push (.row U 3 [[k,j,eZ]])) (.row U 2 [[I J 0,I J 0]])).get (af.bY c (.row U 3 [[k,j,eZ]]))
  have F:=af.bY (c.push (.row U 3 [[k,j,eZ]])) (.row U 2 [[I J 0,I J 0]]);simp only[af.ch]at F;have S:=a.get R;simp-implicitDefEqProofs(disch:=try exact ak)only[reduceAdd,reduceLeDiff,reduceIte,az,af.iE,ax,ay,aD];generalize (c.push (.row U 3 [[k,j,eZ]])).push (.row U 2 [[I J 0,I J 0]])=aJ at a gc F S ⊢;have Q:((0:Int)==0)=true:=rfl;have pp:=(A.trans i).trans a;simp-implicitDefEqProofs(disch:=try exact ak)only[reduceAdd,reduceLeDiff,reduceIte,az,S,gc,F,Q];refine hl (Q1 z (N.a1 (cK.aR pp)) (O.a1 (cK.aR pp)) (b3.a1 (cK.aR pp)) (l.a1 (cK.aR a)) (m.a1 (cK.aR a)) (n.a1 (cK.aR a))) ?_
  rintro _ aK ⟨rfl,B⟩;refine⟨B.1,?_⟩;have al:=B.get gc;have K:=a.trans B;rw[aE];simp-implicitDefEqProofs(disch:=try exact ak)only[reduceAdd,reduceLeDiff,reduceIte,az,al,Q];have M:=(E.trans pp).trans B;refine hl (z8 ((l.a1 (cK.aR K)).a1 cK.lt) ((m.a1 (cK.aR K)).a1 cK.lt) ((n.a1 (cK.aR K)).a1 cK.lt) (λ_ h=>h) (w.aR M) aq) ?_;rintro _ aL ⟨rfl,L⟩;refine⟨L.1,?_⟩;rw[aw];have an:(flat (fI g)==flat (fI g))=true:=by simp
  simp-implicitDefEqProofs(disch:=try exact ak)only[bg,bG,c3,an];refine hl (FQ (w.aR (M.trans L))) ?_;rintro _ aM ⟨rfl,ag⟩;refine⟨ag.1,?_⟩;simp-implicitDefEqProofs(disch:=try exact ak)only[bg,bG];exact a_.2 ⟨rfl,(M.trans L).trans ag⟩
 ·have am:(e != 0)=true:=by simpa using T
  simp-implicitDefEqProofs(disch:=try exact ak)only[reduceAdd,reduceLeDiff,reduceIte,az,o,u,am];exact a_.2 ⟨rfl,E⟩
