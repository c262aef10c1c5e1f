/-
  Texts of one proof, laid together: Vm Rx Sa Sb Sc Sd Sk Ql Se Ec Ed Sf Wg Vn ShPd Y9 Vp ShLg Ka ShLa Kb.
-/
import Derived.Test.YtghmbpmaafnodaaDoorMT
set_option linter.unusedVariables false
set_option linter.unusedSimpArgs false
set_option linter.defProp false
open Option renaming some→D,none→Z
open Bool renaming true→X,false→U
open Go.cn.ad renaming int→I,str→Y,bool→C
open Go.IntKind renaming i64→J
namespace Go.Proofs.YtghmbpmaafnodaaDoor
open Go.cn
open Nat (reduceAdd reduceLeDiff)
def dw.ug{α:Type}{K:hd α}{H:ae}{ok:Nat->Prop}{l:List α}{v:ad}(h:dw K H ok l v)(c:¬l.length=0):∃L i cap ro els,v= .aD L i l.length K.esz (Option.map (· +l.length) cap)/\ok L/\H.get L=D (.row ro K.esz els)/\∀(j:Nat) (a:α),l[j]? =D a->∃cs,els[i+j]? =D cs/\K.V H ok a cs:=by
 rcases h with⟨_,rfl⟩|⟨L,i,cap,ro,els,d,e,k,m⟩|⟨_,_,_,_,rfl⟩
 ·simp at c
 ·exact⟨L,i,cap,ro,els,d,e,k,m⟩
 ·simp at c
def C7:∀l:List Fn,(∀x∈l,n5 x/\dn x.body<=1000000000)->(flat (cb (l.map fc.f))).length<=2000000000*l.length
 |[],_=>by simp[cb,ch]
 |x::r,h=>by
  have u:=C7 r λy i=>h y (List.mem_cons_of_mem _ i)
  obtain⟨aC,k⟩:=h x (List.mem_cons_self ..);have s:=er aC.n;have o:=rJ x.params aC.p;have j:=aC.l;obtain⟨d,a,e⟩:=aC.b;have m:=lV (deep:=1) e af;have q:(gd x).length<=30:=by
   unfold gd;rcases aC.r with⟨a,c⟩|⟨a,_⟩
   ·have:=fh c;have:=c.2.1;have:=hE x.dB x.rd;rw[a,aR];simp only[List.length_append,List.length_cons,List.length_nil];omega
   ·rw[a];simp
  rw[List.map_cons,wm];simp only[List.length_append,List.length_cons,List.length_nil,kH];omega
section
variable {N:Nat}{H0:ae}{r L i n n0 p m0:Nat}{cap:Option Nat}{ro:Bool}{els:List (List ad)}{ok:Nat->Prop}{Q:ad->ae->Prop}{acc:aG}
def DI(ap:100<=N)(o:∀l,ok l->l<n0)(G:ok L)(au:n<=100){all:List e9}(av:n=all.length)(hw:∀x∈all,n6 x)
  (K:∀m H,e4 n0 p m H (acc++flat (cb (all.map .r)))->cR p m0 H0 m H->W (kt (aE P aA) N (.ptr r 0 0) (.ptr p 0 0) H) Q):∀(es:List e9) (j k:Nat) (done:List e9) (m:Nat) (H:ae),all=done++es->done.length=j->es.length<k->H.get L=D (.row ro 3 els)->(∀(j:Nat) (a:e9),all[j]? =D a->∃cs,els[i+j]? =D cs/\hV.V H ok a cs)->e4 n0 p m H (acc++flat (cb (done.map .r)))->acc.length+(flat (cb (done.map .r))).length+100000*es.length<=50000000000->cR p m0 H0 m H->
  W (k_ (aE P aA) N k (.ptr r 0 0) (.ptr p 0 0) (.aD L i n 3 cap) (I J n) (I J j) H) Q
 |_,_,0,_,_,_,_,_,z,_,_,_,_,_=>af
 |[],j,k+1,done,m,H,d,u,z,v,A,c,O,w=>by
  rw[List.append_nil]at d;subst d;have y:¬((j:Int)<(n:Int)):=af;simp-implicitDefEqProofs(disch:=try exact aj)only[k_,qm,reduceAdd,reduceLeDiff,reduceIte,ax,y,decide_false];exact K m H c w
 |x::es,j,k+1,done,m,H,d,u,z,v,A,c,O,w=>by
  simp only[List.length_cons]at z O;have aY:all.length=done.length+(es.length+1):=by rw[d,List.length_append,List.length_cons]
  have y:(j:Int)<(n:Int):=af;have ay:((j:Int)).toNat=j:=af;have am:(0:Int)<=(j:Int):=af;have aM:IntKind.i64.wrap ((j:Int)+1)=((j+1:Nat):Int):=by rw[wrap_i64 af af];omega
  have B:all[j]? =D x:=by rw[d,List.getElem?_append_right af,u,Nat.sub_self];rfl
  obtain⟨cs,aT,bu,rfl,aB⟩:=A j x B;have aC:=hw x (List.mem_of_getElem? B);have bz:=aB.one;have a2:=er aC.n;have aZ:=tx x.fields aC.f;have aX:=aC.l;have ab:=aP.push H (.row U 3 [[Y x.name,bu,I J x.pos]]);have ak:=ae.bM H (.row U 3 [[Y x.name,bu,I J x.pos]]);have ah:H.next≠p/\H.next≠m:=by have:=c.lm;have:=c.jf.lt;omega
  simp-implicitDefEqProofs(disch:=try exact aj)only[k_,qm,reduceAdd,reduceLeDiff,reduceIte,ax,y,decide_true,am,ay,v,aT,bz,sz];refine aO (gG (c.aL ab) (deep:=0) rfl [[114,101,99,111,114,100,32],x.name,[32,123]] (by simp) (by simp) af (by simp only[List.flatten_cons,List.flatten_nil,List.length_append,List.length_cons,List.length_nil];omega) rfl rfl rfl) ?_;rintro _ e ⟨aJ,m3,F,ad⟩;refine⟨aJ,?_⟩;have al:=ad.get ak ah.1 ah.2;have wt:=(cR.aL (p:=p) (m:=m) ab).trans ad;have aH:=wt.aW c.aC c.hm o;have aw:=aB.aW aH;have aq:=aB.k2;simp-implicitDefEqProofs(disch:=try exact aj)only[reduceAdd,reduceLeDiff,reduceIte,ax,al,aq]
  have a1:x∈all:=List.mem_of_getElem? B;have next:∀m H',e4 n0 p m H' (acc++flat (cb (done.map .r))++(pad 0++([[114,101,99,111,114,100,32],x.name,[32,123]].flatten++[10]))++flat (et x.fields))->cR p m3 e m H'->W (nk (aE P aA) N (k_ (aE P aA) N k) (.ptr r 0 0) (.ptr p 0 0) (.aD L i n 3 cap) (I J n) (I J j) H') Q:=by
   intro m5 aR aG aN;have a0:=F.hm;simp-implicitDefEqProofs(disch:=try exact aj)only[nk,l5,bg,bx];refine aO (gG aG (deep:=0) rfl [[125]] (by simp) (by simp) af (by simp only[List.flatten_cons,List.flatten_nil,List.length_append,List.length_cons,List.length_nil,k7];omega) rfl rfl rfl) ?_;rintro _ ai ⟨aK,m6,T,aQ⟩;refine⟨aK,?_⟩;simp-implicitDefEqProofs(disch:=try exact aj)only[l5,bg,bx,cZ,aM];have ag:=(wt.trans aN).trans aQ;have aa:=ag.aW c.aC c.hm o;have S:acc++flat (cb (done.map .r))++(pad 0++([[114,101,99,111,114,100,32],x.name,[32,123]].flatten++[10]))++flat (et x.fields)++(pad 0++([[125]].flatten++[10]))=acc++flat (cb ((done++[x]).map .r)):=by
    rw[List.map_append,mY,cv,List.map_cons,List.map_nil,Cp,cb,ch,k7];simp[qT]
   rw[S]at T;have hlen:(flat (cb ((done++[x]).map fc.r))).length<=(flat (cb (done.map fc.r))).length+100000:=by
    have:=congrArg List.length S;simp only[List.length_append,List.flatten_cons,List.flatten_nil,List.length_cons,List.length_nil,k7]at this;omega
   exact DI ap o G au av hw K es (j+1) k (done++[x]) m6 ai (by rw[d,List.append_assoc];rfl) (by rw[List.length_append,u];rfl) af (aa L _ G v).2 (λj a h=>by obtain⟨cs,q,s⟩:=A j a h;exact⟨cs,q,hV.aW aa s⟩) T af (w.trans ag)
  by_cases E:x.fields.length=0
  ·have aF:=List.length_eq_zero_iff.1 E;have an:¬((0:Int)<((0:Nat):Int)):=af;obtain⟨M,rfl⟩:∃M,N=M+1:=⟨N-1,af⟩;rw[E];simp-implicitDefEqProofs(disch:=try exact aj)only[l8,qn,reduceAdd,reduceLeDiff,reduceIte,ax,an,decide_false];exact next m3 e (by rw[aF,et,ch,List.append_nil];exact F) (cR.aL (.refl _))
  ·obtain⟨aS,i2,aU,a3,aV,rfl,ao,R,ar⟩:=aw.ug E;have aI:e5.esz=4:=rfl;rw[aI]at R;exact DF (H0:=e) (m0:=m3) (n0:=n0) o ao af rfl aC.f (λj a h=>by obtain⟨cs,q,s⟩:=ar j a h;rw[q,show cs=a.cells from s]) next x.fields 0 N [] m3 e rfl rfl af R (by rw[et,ch,List.append_nil];exact F) (by simp only[List.length_append,List.flatten_cons,List.flatten_nil,List.length_cons,List.length_nil,k7,et,ch];omega) (cR.aL (.refl _))
end
def Ew{H:ae}{ok:Nat->Prop}{bw bA bu:ad}{g:cj}(G:dw hV H ok g.cm bw)(R:dw e5 H ok g.globals bA)(M:dw gF H ok g.funcs bu)(au:∀l,ok l->l<H.next)(V:fk.ia H)(hw:pz g):W (aE P aA 10 [.agg [bw,bA,bu]] H) λv H'=>v= Y (flat (jQ g))/\aP H H':=by
 refine cG (λ_=>L6 1000) ?_;have bz:=G.one;have bH:=R.one;have bZ:=M.one;have ap:∀l,d_ l (.agg [bw,bA,bu])=D (.ptr l 0 0,.row U 3 [[bw,bA,bu]]):=λl=>hA l _ (by simp only[List.all_cons,List.all_nil,bz,bH,bZ,Bool.and_self])
 have aq:∀l,pK (D 81) l (.agg [.nilPtr,.az])=D (.ptr l 0 0,.b0 81 2 [[.nilPtr,.az]]):=λl=>rfl
 have pp:=(aP.push H (.row U 3 [[bw,bA,bu]])).bI (.b0 81 2 [[.nilPtr,.az]]);have E:=(aP.push (H.push (.row U 3 [[bw,bA,bu]])) (.b0 81 2 [[.nilPtr,.az]])).get (ae.bM H (.row U 3 [[bw,bA,bu]]));have F:=ae.bM (H.push (.row U 3 [[bw,bA,bu]])) (.b0 81 2 [[.nilPtr,.az]]);have av:(H.push (.row U 3 [[bw,bA,bu]])).next=H.next+1:=by simp
 have aw:((H.push (.row U 3 [[bw,bA,bu]])).push (.b0 81 2 [[.nilPtr,.az]])).next=H.next+2:=by simp
 have ab:=G.aW (cY.aL pp);have S:=R.aW (cY.aL pp);have O:=M.aW (cY.aL pp);have aa:=V.aL pp;have aG:=ae.aV V.u1;rw[uk];have y:=λH'=>G.tv H'
 simp-implicitDefEqProofs(disch:=try exact aj)only[reduceAdd,reduceLeDiff,reduceIte,ax,ap,aq,E,y];simp only[av]at F;generalize (H.push (.row U 3 [[bw,bA,bu]])).push (.b0 81 2 [[.nilPtr,.az]])=H1 at pp E F aw ab S O aa ⊢;have z:∀l,ok l->l<H.next+1:=λl h=>by have:=au l h;omega
 have ag:e4 (H.next+1) (H.next+1) (H.next+1) H1 []:=⟨af,bm _,bm _,af,⟨λh=>absurd rfl h,af,.nilPtr,.az,F,.inl rfl,.inl ⟨rfl,rfl⟩⟩,aa⟩;have e:flat (jQ g)=flat (cb (g.cm.map .r))++flat (cb (g.globals.map .g))++flat (cb (g.funcs.map .f)):=by
  unfold jQ;rw[mY,mY,cv,cv,List.append_assoc]
 have aF:=w4 _ hw.l4;have aC:=w3 _ hw.dr;have aT:=hw.gb;have aI:=hw.lX;have aJ:=hw.mU;have o:cb []=[]:=rfl;have ah:∀m c,e4 (H.next+1) (H.next+1) m c (flat (cb (g.cm.map .r))++flat (cb (g.globals.map .g))++flat (cb (g.funcs.map .f)))->cR (H.next+1) (H.next+1) H1 m c->W (nj (aE P aA) 1000 (.ptr (H.next+1) 0 0) c) λv H'=>v= Y (flat (jQ g))/\aP H H':=by
  intro m c q d;have aB:=C7 _ hw.cz;obtain⟨al,ao,aH,e1⟩:=PB q.jf (by simp only[List.length_append];omega);have ay:c.next<=al.next:=af
  simp-implicitDefEqProofs(disch:=try exact aj)only[nj,reduceAdd,reduceLeDiff,reduceIte,ax,ao,e2,ay];refine bb.2 ⟨by rw[e],by have:=pp.1;have:=d.next;omega,λl ar=> ?_⟩;have:=q.hm;rw[e1 l af,d.2.2 l af af];exact pp.2 l ar
 have ai:∀m c,e4 (H.next+1) (H.next+1) m c (flat (cb (g.cm.map .r))++flat (cb (g.globals.map .g)))->cR (H.next+1) (H.next+1) H1 m c->W (ni (aE P aA) 1000 (.ptr H.next 0 0) (.ptr (H.next+1) 0 0) c) λv H'=>v= Y (flat (jQ g))/\aP H H':=by
  intro m c q d;have g2:=d.get E af af;have K:=d.aW (bm _) (bm _) z;have Q:=O.aW K;have y:=λH'=>Q.tw H'
  simp-implicitDefEqProofs(disch:=try exact aj)only[ni,reduceAdd,reduceLeDiff,reduceIte,ax,g2,y];by_cases n:g.funcs.length=0
  ·have A:=List.length_eq_zero_iff.1 n;have s:¬((0:Int)<((0:Nat):Int)):=af;rw[n];simp-implicitDefEqProofs(disch:=try exact aj)only[l6,qk,reduceAdd,reduceLeDiff,reduceIte,ax,s,decide_false];exact ah m c (by rw[A,List.map_nil,o,ch,List.append_nil];exact q) d
  ·obtain⟨L,i,cap,ro,els,rfl,x,p,u⟩:=Q.ug n;have B:gF.esz=7:=rfl;rw[B]at p;exact DG (N:=1000) (H0:=H1) (m0:=H.next+1) z x af rfl hw.cz ah g.funcs 0 1000 [] m c rfl rfl af p u (by rw[List.map_nil,o,ch,List.append_nil];exact q) (by rw[List.map_nil,o,ch];simp only[List.length_append,List.length_nil];omega) d
 have ak:∀m c,e4 (H.next+1) (H.next+1) m c (flat (cb (g.cm.map .r)))->cR (H.next+1) (H.next+1) H1 m c->W (kt (aE P aA) 1000 (.ptr H.next 0 0) (.ptr (H.next+1) 0 0) c) λv H'=>v= Y (flat (jQ g))/\aP H H':=by
  intro m c q d;have g2:=d.get E af af;have K:=d.aW (bm _) (bm _) z;have T:=S.aW K;have y:=λH'=>T.k2 H'
  simp-implicitDefEqProofs(disch:=try exact aj)only[kt,reduceAdd,reduceLeDiff,reduceIte,ax,g2,y];by_cases n:g.globals.length=0
  ·have A:=List.length_eq_zero_iff.1 n;have s:¬((0:Int)<((0:Nat):Int)):=af;rw[n];simp-implicitDefEqProofs(disch:=try exact aj)only[l7,ql,reduceAdd,reduceLeDiff,reduceIte,ax,s,decide_false];exact ai m c (by rw[A,List.map_nil,o,ch,List.append_nil];exact q) d
  ·obtain⟨L,i,cap,ro,els,rfl,x,p,u⟩:=T.ug n;have B:e5.esz=4:=rfl;rw[B]at p;exact DH (N:=1000) (H0:=H1) (m0:=H.next+1) z x af rfl hw.dr (λj a h=>by obtain⟨cs,am,an⟩:=u j a h;rw[am,show cs=a.cells from an]) ai g.globals 0 1000 [] m c rfl rfl af p (by rw[List.map_nil,o,ch,List.append_nil];exact q) (by rw[List.map_nil,o,ch];simp only[List.length_nil];omega) d
 by_cases n:g.cm.length=0
 ·have A:=List.length_eq_zero_iff.1 n;have s:¬((0:Int)<((0:Nat):Int)):=af;rw[n];simp-implicitDefEqProofs(disch:=try exact aj)only[k_,qm,reduceAdd,reduceLeDiff,reduceIte,ax,s,decide_false];exact ak _ H1 (by rw[A,List.map_nil,o,ch];exact ag) (cR.aL (.refl _))
 ·obtain⟨L,i,cap,ro,els,rfl,x,p,u⟩:=ab.ug n;have B:hV.esz=3:=rfl;rw[B]at p;exact DI (N:=1000) (H0:=H1) (m0:=H.next+1) (acc:=[]) af z x af rfl hw.l4 (λm H k w=>ak m H (by rw[List.nil_append]at k;exact k) w) g.cm 0 1000 [] _ H1 rfl rfl af p u (by rw[List.map_nil,o,ch];exact ag) (by rw[List.map_nil,o,ch];simp only[List.length_nil];omega) (cR.aL (.refl _))
def lD(T:List Tok)(s:an):db 1000000000 (c6 T s).1:=by
 unfold c6;split
 ·exact db.leaf _
 ·split
  ·rename_i e s' h;split
   ·exact(FJ T 1000000000 800000000 af).row _ _ (e,s') h
   ·exact db.leaf _
  ·exact db.leaf _
def en.append{B:Nat}{e:br}(h:gP B e):∀{l:List br},en B l->en B (l++[e])
 |[],_=>by rw[List.nil_append,en,en];exact⟨h,trivial⟩
 |x::xs,a=>by
  rw[en]at a;rw[List.cons_append,en];exact⟨a.1,en.append h a.2⟩
def sC(a:b2){e:aJ}(h:db 1000000000 e):gP 1000000000 (.mk a [e] [] []):=by
 rw[gP,dG,dG,en];exact⟨⟨by simp,h,trivial⟩,⟨by simp,trivial⟩,⟨by simp,trivial⟩⟩
def FI(a:b2):gP 1000000000 (.mk a [] [] []):=by
 rw[gP,dG,en];exact⟨⟨by simp,trivial⟩,⟨by simp,trivial⟩,⟨by simp,trivial⟩⟩
def Pp{e:br}(p:Int)(h:gP 1000000000 e):gP 1000000000 (e.at p):=by
 cases e;rw[br.at,gP];rw[gP]at h;exact h
structure HB(T:List Tok)(n:Nat):Prop where
 stmt:∀s x,sD T n s=some x->gP 1000000000 x.1
 block:∀s x,kV T n s=some x->x.1.length<=1000000000/\en 1000000000 x.1
 loop:∀l s x,lF T n l s=some x->l.length+n<=1000000000->en 1000000000 l->x.1.length<=1000000000/\en 1000000000 x.1
 choose:∀s x,s9 T n s=some x->gP 1000000000 x.1
 rep:∀s x,ud T n s=some x->gP 1000000000 x.1
def FH(T:List Tok):∀n,n+2<=1000000000->HB T n
 |0,_=>⟨λ_ _ h=>(by cases h),λ_ _ h=>(by cases h),λ_ _ _ h=>(by cases h),λ_ _ h=>(by cases h),λ_ _ h=>(by cases h)⟩
 |n+1,v=>by
  have d:=FH T n af;refine⟨λs x h=> ?_,λs x h=> ?_,λl s x h u aB=> ?_,λs x h=> ?_,λs x h=> ?_⟩
  ·rw[sD]at h;obtain⟨p,a,c⟩:=ew h;cases c;refine Pp _ ?_;have k:gP 1000000000 (m_ T s).1:=by
    unfold m_;cases bo T (c6 T s).2 4 [61]with
    |false=>exact sC _ (lD _ _)
    |true=>
     simp only[aR,u0];cases(c6 T s).1.kind==4 with
     |true=>exact sC _ (lD _ _)
     |false=>
      simp only[aK];rw[gP,dG,dG,dG,en];exact⟨⟨by simp,lD _ _,lD _ _,trivial⟩,⟨by simp,trivial⟩,⟨by simp,trivial⟩⟩
   revert a;cases(al T s.at_).kind==3 with
   |false=>intro a;cases a;exact k
   |true=>
    simp only[aR];cases(al T s.at_).text==[118,97,114]with
    |true=>intro a;cases a;exact FI _
    |false=>
    simp only[aK];cases(al T s.at_).text==[108,101,116]with
    |true=>intro a;cases a;exact sC _ (lD _ _)
    |false=>
    simp only[aK];cases(al T s.at_).text==[105,102]with
    |true=>exactλa=>d.choose _ _ a
    |false=>
    simp only[aK];cases(al T s.at_).text==[119,104,105,108,101]with
    |true=>exactλa=>d.rep _ _ a
    |false=>
    simp only[aK];cases(al T s.at_).text==[114,101,116,117,114,110]with
    |true=>
     intro a;cases a;unfold uf;cases bo T (av s) 4 [59]with
     |true=>exact FI _
     |false=>exact sC _ (lD _ _)
    |false=>
    simp only[aK];cases(al T s.at_).text==[112,114,105,110,116]with
    |true=>intro a;cases a;exact sC _ (lD _ _)
    |false=>intro a;cases a;exact k
  ·rw[kV]at h;have j:∀{l:List br},l=[]->l.length<=1000000000/\en 1000000000 l:=λ{l} h=>by rw[h,en];exact⟨by simp,trivial⟩
   revert h;cases bo T s 4 [123]with
   |false=>intro h;cases h;exact j rfl
   |true=>
    simp only[aR];split
    ·intro h;cases h;exact j rfl
    ·intro h;obtain⟨p,a,c⟩:=ew h;cases c;exact d.loop [] _ p a (by simp;omega) (by rw[en];trivial)
  ·rw[lF]at h;revert h;cases(s.ak==0&& !bo T s 4 [125])with
   |false=>intro h;cases h;exact⟨by show l.length<=1000000000;omega,aB⟩
   |true=>
    intro h;obtain⟨p,a,c⟩:=ew h;exact d.loop _ _ _ c (by simp;omega) (en.append (d.stmt _ _ a) aB)
  ·rw[s9]at h;obtain⟨p,a,c⟩:=ew h;obtain⟨e,i⟩:=d.block _ _ a;revert c;cases bo T p.2 3 [101,108,115,101]with
   |false=>
    intro c;cases c;rw[gP,dG,dG];exact⟨⟨by simp,lD _ _,trivial⟩,⟨e,i⟩,⟨by simp,by rw[en];trivial⟩⟩
   |true=>
    intro c;obtain⟨q,m,o⟩:=ew c;cases o;rw[gP,dG,dG];exact⟨⟨by simp,lD _ _,trivial⟩,⟨e,i⟩,d.block _ _ m⟩
  ·rw[ud]at h;obtain⟨p,a,c⟩:=ew h;cases c;obtain⟨e,i⟩:=d.block _ _ a;rw[gP,dG,dG];exact⟨⟨by simp,lD _ _,trivial⟩,⟨e,i⟩,⟨by simp,by rw[en];trivial⟩⟩
section
variable {T:List Tok}
def Bv:∀(n:Nat) (l:List bF) (s:an) (p:List bF×an),mP T n l s=D p->p.1.length<=l.length+n
 |0,_,_,_,h=>by cases h
 |n+1,l,s,p,h=>by
  rw[mP]at h;cases a:(s.ak==0&& !bo T s 4 [125])with
  |true=>
   rw[a,aR]at h;have:=Bv n _ _ _ h;simp only[List.length_append,List.length_cons,List.length_nil]at this;omega
  |false=>rw[a,aK]at h;cases h;simp
def Em:∀(n:Nat) (l:List bF) (s:an) (p:List bF×an),jR T n l s=D p->p.1.length<=l.length+n
 |0,_,_,_,h=>by cases h
 |n+1,l,s,p,h=>by
  rw[jR]at h;cases a:(e_ T 4 [44] s).1 with
  |true=>
   rw[a,aR]at h;have:=Em n _ _ _ h;simp only[iP,List.length_append,List.length_cons,List.length_nil]at this;omega
  |false=>rw[a,aK]at h;cases h;simp
def Lq{l:List br}{s:an}{st:an}(h:kV T 800000000 st=D (l,s)):(jS l s).1.length<=1000000000/\en 1000000000 (jS l s).1:=by
 unfold jS;split
 ·exact(FH T 800000000 af).block _ _ h
 ·rw[en];exact⟨by simp,trivial⟩
def IW(s:an):(kf T s).1.length<=1000000000/\en 1000000000 (kf T s).1:=by
 unfold kf;split
 ·rename_i p aC;exact Lq aC
 ·rw[en];exact⟨by simp,trivial⟩
def sb{M:Nat}(i:M<=800000000):∀(n:Nat) (g:cj) (s:an) (p:cj×an),sQ g->g.cm.length+n<=1000000000->g.globals.length+n<=1000000000->g.funcs.length+n<=1000000000->jT T M n g s=D p->sQ p.1
 |0,_,_,_,_,_,_,_,h=>by cases h
 |n+1,g,s,p,d,x,y,z,h=>by
  rw[jT]at h;cases u:(s.ak==0&&(al T s.at_).kind != 0)with
  |false=>rw[u,aK]at h;cases h;exact d
  |true=>
   rw[u,aR]at h;cases k:bo T s 3 [114,101,99,111,114,100]with
   |true=>
    rw[k,aR]at h;obtain⟨⟨g2,s2⟩,e,j⟩:=ew h;have v:=LI e;obtain⟨q,f1,f2⟩:=ew e;have w:=Bv _ _ _ _ f1;simp only[List.length_nil]at w;simp only[aS,b5]at f2;obtain⟨rfl,rfl⟩:=f2;simp only at v;refine sb i n _ _ p ?_ ?_ ?_ ?_ j
    ·refine⟨⟨by simp;omega,λa c=> ?_⟩,d.jH,d.f⟩;rcases List.mem_append.1 c with c|c
     ·exact d.r.2 a c
     ·simp only[List.mem_cons,List.not_mem_nil,or_false]at c;rw[c];show q.1.length<=_;omega
    ·simp;omega
    ·simp only;omega
    ·simp only;omega
   |false=>
    rw[k,aK]at h;cases l:bo T s 3 [103,108,111,98,97,108]with
    |true=>
     rw[l,aR]at h;refine sb i n _ _ p ?_ ?_ ?_ ?_ h
     ·exact⟨d.r,by simp only[ik,List.length_append,List.length_cons,List.length_nil];omega,d.f⟩
     ·simp only[ik];omega
     ·simp only[ik,List.length_append,List.length_cons,List.length_nil];omega
     ·simp only[ik];omega
    |false=>
     rw[l,aK]at h;cases m:bo T s 3 [102,117,110,99]with
     |true=>
      rw[m,aR]at h;obtain⟨⟨g2,s2⟩,e,j⟩:=ew h;have v:=JU e;obtain⟨q,f1,f2⟩:=ew e;have w:q.1.length<=M+1:=by
       unfold pS at f1;revert f1;cases bo T (bR T [40] (eP T (av (eC T X g.funcs.length 16 s))).2).2 4 [41]with
       |true=>intro f1;rw[aR]at f1;cases f1;simp
       |false=>
        intro f1;rw[aK]at f1;have:=Em _ _ _ _ f1;simp only[iP,List.nil_append,List.length_cons,List.length_nil]at this;omega
      simp only[aS]at f2;have o:=congrArg Prod.fst f2;refine sb i n g2 s2 p ?_ af af af j;simp only at o;rw[<-o];unfold pR;split
      ·exact d
      ·refine⟨d.r,d.jH,by simp;omega,λa c=> ?_⟩;rcases List.mem_append.1 c with c|c
       ·exact d.f.2 a c
       ·simp only[List.mem_cons,List.not_mem_nil,or_false]at c;rw[c];exact⟨by show q.1.length<=_;omega,IW _⟩
     |false=>
      rw[m,aK]at h;exact sb i n g _ p d af af af h
def xE:sQ .none:=⟨⟨by simp[cj.none],λa c=>by cases c⟩,by simp[cj.none],by simp[cj.none],λa c=>by cases c⟩
end
def LA(s:aG):∃p q:cj×an,((dI s).2.1=0->jT (dI s).1 800000000 800000000 .none ⟨0,0,0,0⟩=D p)/\((dI s).2.1=0->fi (dI s).1 800000000 800000000 .none ⟨0,0,0,0⟩=D q)/\gV s p.1 p.2=gV s q.1 q.2/\sQ (gV s p.1 p.2).1:=by
 by_cases a:(dI s).2.1=0
 ·obtain⟨aw,d⟩:=yk a;obtain⟨p,q,c,e,i⟩:=Lz aw d;have j:=sb af 800000000 .none ⟨0,0,0,0⟩ p xE (by simp[cj.none]) (by simp[cj.none]) (by simp[cj.none]) c;refine⟨p,q,λ_=>c,λ_=>e,?_,?_⟩
  ·unfold gV;rw[if_pos a,if_pos a,i]
  ·unfold gV na;rw[if_pos a];split
   ·exact j
   ·exact xE
 ·refine⟨(.none,⟨0,0,0,0⟩),(.none,⟨0,0,0,0⟩),λh=>absurd h a,λh=>absurd h a,rfl,?_⟩;unfold gV;rw[if_neg a];exact xE
def Ly{s:aG}{g:cj}{z:an}(h:(gV s g z).2.1=0)(a:(dI s).2.1=0\/(dI s).2.1≠0):(dI s).2.1=0/\z.ak=0/\gV s g z=(g,0,0):=by
 unfold gV at h ⊢;by_cases c:(dI s).2.1=0
 ·rw[if_pos c]at h ⊢;unfold na at h ⊢;by_cases a:z.ak=0
  ·rw[if_pos a];exact⟨c,a,rfl⟩
  ·rw[if_neg a]at h;exact absurd h a
 ·rw[if_neg c]at h;exact absurd h c
def Ha{s:aG}(c:(dI s).2.1=0){q:cj×an}(n:fi (dI s).1 800000000 800000000 .none ⟨0,0,0,0⟩=D q)(p:q.2.ak=0):pz q.1/\q.1.cm.length<=12/\q.1.globals.length<=8/\q.1.funcs.length<=16:=by
 obtain⟨aw,v⟩:=yk c;have B:=Gp s;have z:s.length<=6000:=by
  unfold dI at c;split at c
  ·simp at c
  ·omega
 have hlen:(dI s).1.length<=6001:=af;have d:Good (dI s).1 ((dI s).1.length:Int):=⟨af,λa h=>(yi h).2.1,λt o=>Gq t o⟩;have i:nY (dI s).1:=y7 af;obtain⟨G,A⟩:=qc d i 800000000 800000000 .none ⟨0,0,0,0⟩ q (λ_=>⟨by simp,by simp,by simp,by simp⟩) (λ_=>⟨(λx h=>by cases h),(λx h=>by cases h),(λx h=>by cases h),by simp[cj.none],by simp[cj.none],by simp[cj.none],by simp[cj.none,mz]⟩) n p;have hw:=G.w;have key:∀l:List Fn,∀x∈l,dn x.body<=mz l:=by
  intro l
  induction l with
  |nil=>intro x h;cases h
  |cons y r u=>
   intro x h;have e:mz (y::r)=dn y.body+mz r:=by simp[mz]
   rcases List.mem_cons.1 h with rfl|h
   ·omega
   ·have:=u x h;omega
 have m:=G.gb;have k:=G.lX;have j:=G.mU;exact⟨⟨G.l4,G.dr,λx h=>⟨G.cz x h,by have:=key _ x h;omega⟩,af,af,af⟩,m,k,j⟩
structure lL where
 r:Nat
 g:Nat
 h:Nat
 l:List fc
section
variable (G:cj)(K:Nat->Int)
def lL.more(s:lL):Bool:=Nat.blt s.r G.cm.length||(Nat.blt s.g G.globals.length||Nat.blt s.h G.funcs.length)
def lL.step(k:Int)(s:lL):lL:=
 if k=0/\s.r<G.cm.length then {s with r:=s.r+1,l:=s.l++(G.cm[s.r]?.map fc.r).toList}
 else if k=1/\s.g<G.globals.length then {s with g:=s.g+1,l:=s.l++(G.globals[s.g]?.map fc.g).toList}
 else if k=2/\s.h<G.funcs.length then {s with h:=s.h+1,l:=s.l++(G.funcs[s.h]?.map fc.f).toList}
 else s
def lL.rem(s:lL):Nat:=(G.cm.length-s.r)+((G.globals.length-s.g)+(G.funcs.length-s.h))
def lL.has(s:lL)(c:Nat):Prop:=(c=0/\s.r<G.cm.length)\/(c=1/\s.g<G.globals.length)\/(c=2/\s.h<G.funcs.length)
end
def fc.eo:fc->fc
 | .r x=> .r x.eo
 | .g x=> .g x.eo
 | .f x=> .f x.eo
section
set_option maxRecDepth 100000
noncomputable section
end
end
section
set_option maxRecDepth 100000
noncomputable section
def uo(G:ay)(H:ae):O:=aI H (G 9 [Y [102,117,110,99,32,109,97,105,110,40,41,123,105,102,32,49,60,50,123,112,114,105,110,116,40,49,43,50,41,42,51,59,125,125]] H) λi k=>j (ic i 0) λx=>j (ic i 1) λba=>cT k [ad.az,ad.az,ad.az] λar l=>cT l [I J 0,I J 0] λw e=>bd e (aY P e 26 ar x) λh=>bd h (aY P h 29 w ba) λc=>j (aq P c 26 ar) λy=>aI c (G 10 [y] c) λz m=>j (ao P .eql 9 X z (Y [102,117,110,99,32,109,97,105,110,40,41,32,123,10,32,32,105,102,32,49,32,60,32,50,32,123,10,32,32,32,32,112,114,105,110,116,32,40,49,32,43,32,50,41,32,42,32,51,59,10,32,32,125,10,125,10])) λa=>aX a X m (cI (.agg [Y [105,110,116],I J 2])) λp d=>aX a X d (λq=>fj d (G 20 [p] d) q) λs n=>aX a X n (bU (ao P .eql 9 X s (Y [91,91,105,110,116,93,93]))) λu o=>j (dd a (D u) (D (C U))) λv=>D (v,o)
def L8(N:Nat){H:ae}{r:ad×ae}(h:uo (aE P aA) H=D r):aE P aA 12 [] H=D r:=cS N (S:=λG=>uo G H) Tryd.func12 (λ_=>by delta uo;kernel_rfl) h
end
end
def tp:aG:=[102,117,110,99,32,109,97,105,110,40,41,123,105,102,32,49,60,50,123,112,114,105,110,116,40,49,43,50,41,42,51,59,125,125]
def tq:aG:=[102,117,110,99,32,109,97,105,110,40,41,32,123,10,32,32,105,102,32,49,32,60,32,50,32,123,10,32,32,32,32,112,114,105,110,116,32,40,49,32,43,32,50,41,32,42,32,51,59,10,32,32,125,10,125,10]
def CW:Bool:=(dI tp).2.1==0&&(match fi (dI tp).1 800000000 800000000 .none ⟨0,0,0,0⟩with
 |some (g,s)=>s.ak==0&&flat (jQ g)==tq
 |none=>U)
set_option maxRecDepth 100000 in
def Kx:CW=true:=by decide+kernel
def PL:flat (c5 [105,110,116] 2)=[91,91,105,110,116,93,93]:=by decide+kernel
def cY.lt{H:ae}{ok:Nat->Prop}:cY H ok H (· <H.next):=λ_ _ _ g=>⟨ae.aV g,g⟩
def Ky{H:ae}(x:fk.ia H):W (aE P aA 12 [] H) λv H'=>v= C X/\aP H H':=by
 refine cG (λ_=>L8 0) ?_;have a:=Kx;unfold CW at a;simp only[Bool.and_eq_true,beq_iff_eq]at a;obtain⟨l,a⟩:=a;split at a
 ·rename_i g s aC;simp only[Bool.and_eq_true,beq_iff_eq]at a;obtain⟨k,w⟩:=a;obtain⟨hw,-⟩:=Ha l aC k;rw[uo];refine aO (EK tp (M:=800000000) (n:=800000000) (bm _) (bm _) (λ_=>aC)) ?_;rintro _ H1 ⟨bw,bA,bu,rfl,d,e,i,m⟩;refine⟨m.1,?_⟩;have b9:gV tp g s=(g,0,0):=by unfold gV na;rw[if_pos l,if_pos k]
  rw[b9]at d e i ⊢;simp only at d e i ⊢;have bz:=d.one;have bH:=e.one;have bZ:=i.one;have c:=(aP.push H1 (.row U 3 [[bw,bA,bu]])).bI (.row U 2 [[I J 0,I J 0]]);simp-implicitDefEqProofs(disch:=try exact aj)only[reduceAdd,reduceLeDiff,reduceIte,ax,ae.h1,bz,bH,bZ];generalize (H1.push (.row U 3 [[bw,bA,bu]])).push (.row U 2 [[I J 0,I J 0]])=y at c ⊢;have q:=m.trans c;refine aO (Ew ((d.aW (cY.aL c)).aW cY.lt) ((e.aW (cY.aL c)).aW cY.lt) ((i.aW (cY.aL c)).aW cY.lt) (λ_ h=>h) (x.aL q) hw) ?_;rintro _ z ⟨rfl,o⟩;refine⟨o.1,?_⟩;rw[w];have j:(tq==tq)=true:=by simp
  unfold tq at j ⊢;simp-implicitDefEqProofs(disch:=try exact aj)only[bg,bx,cZ,j];refine kb (type20 bk bk bk) ?_;rintro _ A ⟨rfl,p⟩;refine⟨p.1,?_⟩;rw[PL];have u:(([91,91,105,110,116,93,93]:aG)==[91,91,105,110,116,93,93])=true:=bk;simp-implicitDefEqProofs(disch:=try exact aj)only[bg,bx,cZ,u];exact bb.2 ⟨rfl,(q.trans o).trans p⟩
 ·cases a
section
set_option maxRecDepth 100000
noncomputable section
def e1(G:ay)(ag:ad)(H:ae):O:=aI H (G 9 [ag] H) λy z=>j (ic y 0) λM=>j (ic y 1) λN=>cT z [ad.az,ad.az,ad.az] λc A=>cT A [I J 0,I J 0] λx m=>bd m (aY P m 26 c M) λn=>bd n (aY P n 29 x N) λo=>bg P .len [9] [ag] o λE=>j (ao P .gtr 3 X E (I J 4000)) λh=>aX h U o (bU (aH P 29 x 0)) λF p=>aX h U p (qr (aq P p 27 F)) λK B=>aX h U B (bU (ao P .neq 27 X K (I J 0))) λbS a=>j (dd h (D (C X)) (D bS)) λL=>aU (D L) (D ((C X),a)) (j (aq P a 26 c) λs=>aI a (G 10 [s] a) λu e=>j (aq P e 26 c) λv=>aI e (G 11 [v] e) λw d=>j (ao P .eql 9 U u w) λi=>kK i X (λq=>fj d (G 12 [] d) q) λk=>j (dd i (D k.val) (D (C U))) λl=>bif oi [0,1,0,7,15,31,63,127,255] [0,1,3,4,5,6,7,8] [⟨0,.read s,λH=>aq P H 26 c⟩,⟨1,.ea u e,λH=>Z⟩,⟨2,.read v,λH=>aq P H 26 c⟩,⟨3,.ea w d,λH=>Z⟩,⟨4,.pure i,λH=>Z⟩,⟨5,.pure i,λH=>Z⟩,⟨6,k,λH=>Z⟩,⟨7,.pure l,λH=>Z⟩,⟨8,.pure l,λH=>Z⟩] a then(D (l,(k.heap d)))else Z)
def N5(G:ay)(N:Nat)(ag:ad)(H:ae):s7 Tryd.f3 G N (lN [ag]) H=e1 G ag H:=by
 refine dX (A:=s7 Tryd.f3 G N) (aF _) ?_;delta e1;kernel_rfl
end
end
def dw.beq{α:Type}{K:hd α}{H:ae}{ok:Nat->Prop}{l:List α}{v:ad}(h:dw K H ok l v):ad.beq v v=true:=by
 rcases h with⟨rfl,_⟩|⟨L,i,cap,ro,els,rfl,_⟩|⟨L,i,cap,rfl,_⟩<;>simp[ad.beq]
def LD{α β a:Type}{K:hd α}{c:hd β}{d:hd a}{H:ae}{ok:Nat->Prop}{l:List α}{m:List β}{n:List a}{u v w:ad}(h:dw K H ok l u)(a1:dw c H ok m v)(e:dw d H ok n w):bh (D (.agg [u,v,w])) (.agg [u,v,w])=true:=by
 simp[bh,ad.beq,gA.beq,h.beq,a1.beq,e.beq]
def Qc{s:aG}{q:cj×an}(c:(dI s).2.1=0->fi (dI s).1 800000000 800000000 .none ⟨0,0,0,0⟩=D q)(h:(gV s q.1 q.2).2.1=0):pz (gV s q.1 q.2).1/\(gV s q.1 q.2).1.cm.length<=12/\(gV s q.1 q.2).1.globals.length<=8/\(gV s q.1 q.2).1.funcs.length<=16:=by
 obtain⟨a,d,e⟩:=Ly h (Decidable.em _);rw[e];exact Ha a (c a) d
def Lw{H:ae}(B:fk.ia H)(s:aG):W (e1 (aE P aA) (Y s) H) λv H'=>v= C X/\aP H H':=by
 rw[e1];obtain⟨p,q,-,F,-,-⟩:=LA s;have hw:=Qc F;refine aO (EK s (g':=q.1) (s':=q.2) (bm _) (bm _) F) ?_;rintro _ H1 ⟨bw,bA,bu,rfl,aQ,a2,a3,m⟩;refine⟨m.1,?_⟩;have bz:=aQ.one;have bH:=a2.one;have bZ:=a3.one;generalize gV s q.1 q.2=x at hw aQ a2 a3 ⊢;obtain⟨g,e,f⟩:=x;simp only at hw aQ a2 a3 ⊢;have a:=(aP.push H1 (.row U 3 [[bw,bA,bu]])).bI (.row U 2 [[I J e,I J f]]);have d:=(aP.push (H1.push (.row U 3 [[bw,bA,bu]])) (.row U 2 [[I J e,I J f]])).get (ae.bM H1 (.row U 3 [[bw,bA,bu]]));have i:=ae.bM (H1.push (.row U 3 [[bw,bA,bu]])) (.row U 2 [[I J e,I J f]])
 simp only[ae.b8]at i;by_cases E:(4000:Int)<s.length
 ·simp-implicitDefEqProofs(disch:=try exact aj)only[reduceAdd,reduceLeDiff,reduceIte,ax,ae.h1,bz,bH,bZ,E,decide_true];exact bb.2 ⟨rfl,m.trans a⟩
 simp-implicitDefEqProofs(disch:=try exact aj)only[reduceAdd,reduceLeDiff,reduceIte,ax,ae.h1,bz,bH,bZ,E,decide_false];generalize (H1.push (.row U 3 [[bw,bA,bu]])).push (.row U 2 [[I J e,I J f]])=R at a d i ⊢;have u:=m.trans a;by_cases A:e=0
 ·subst A;have O:((0:Int) != 0)=false:=rfl;simp-implicitDefEqProofs(disch:=try exact aj)only[reduceAdd,reduceLeDiff,reduceIte,ax,d,i,O];obtain⟨hw,-⟩:=hw rfl;have w:=aQ.aW (cY.aL a);have y:=a2.aW (cY.aL a);have b3:=a3.aW (cY.aL a);refine aO (Ew (w.aW cY.lt) (y.aW cY.lt) (b3.aW cY.lt) (λ_ h=>h) (B.aL u) hw) ?_;rintro _ S ⟨rfl,c⟩;refine⟨c.1,?_⟩;have l:=c.get d;simp-implicitDefEqProofs(disch:=try exact aj)only[reduceAdd,reduceLeDiff,reduceIte,ax,l];refine aO (Lv (w.aW (cY.aL c)) (y.aW (cY.aL c)) (b3.aW (cY.aL c)) hw) ?_;rintro _ T ⟨rfl,n⟩;refine⟨n.1,?_⟩;have G:=(u.trans c).trans n;have M:(flat (jQ g)==flat (jQ g))=true:=by simp
  simp-implicitDefEqProofs(disch:=try exact aj)only[bg,bx,cZ,M,Qi,Qe,Qh,Qf,Qg];refine kb (Ky (B.aL G)) ?_;rintro _ V ⟨rfl,o⟩;refine⟨o.1,?_⟩;have z:=n.get l;have K:=o.get z;have j:∀k:ae,k.get H1.next=D (.row U 3 [[bw,bA,bu]])->bh (aq P k 26 (.ptr H1.next 0 0)) (.agg [bw,bA,bu])=true:=λk N=>by
   simp-implicitDefEqProofs(disch:=try exact aj)only[aq,cL,Nat.reduceAdd,Nat.reduceLeDiff,reduceIte,ad.cells,cQ,dN,N];exact LD aQ a2 a3
  simp-implicitDefEqProofs(disch:=try exact aj)only[bg,bx];refine HD (Ji ah ?_) ?_
  ·simp only[sM,nR,vn,vo,vm,List.forall_mem_cons];refine⟨λ_ _=> .inl rfl,λ_ _=> .inl rfl,λv Q=> .inr ?_,λ_ _=> .inl rfl,λ_ _=> .inl rfl,λ_ _=> .inl rfl,λ_ _=> .inl rfl,λ_ _=> .inl rfl,λ_ _=> .inl rfl,trivial⟩;cases Q;simp[j _ d,j _ l,j _ z,j _ K]
  ·exact bb.2 ⟨rfl,G.trans o⟩
 ·have L:(e != 0)=true:=by simpa using A
  simp-implicitDefEqProofs(disch:=try exact aj)only[reduceAdd,reduceLeDiff,reduceIte,ax,d,i,L];exact bb.2 ⟨rfl,u⟩
