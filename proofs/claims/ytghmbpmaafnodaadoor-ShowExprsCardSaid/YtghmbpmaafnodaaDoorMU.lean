/-
  Texts of one proof, laid together: Vm Rx Sa Sb Sc Sd Sk Ql Se Ec Ed Sf Wg Vn ShPd Y9 Vp ShLg Ka ShLa Kb ShLe Kd ShLf Kf.
-/
import Derived.Test.YtghmbpmaafnodaaDoorMT
set_option linter.unusedVariables false
set_option linter.unusedSimpArgs false
set_option linter.defProp false
open Option renaming some→D,none→C
open Bool renaming true→X,false→U
open Go.bs.aa renaming int→I,str→Z
open Go.IntKind renaming i64→J
namespace Go.Proofs.YtghmbpmaafnodaaDoor
open Go.bs
open Nat (reduceAdd reduceLeDiff)
def dU.tJ{α:Type}{K:h4 α}{H:ad}{ok:Nat->Prop}{l:List α}{v:aa}(h:dU K H ok l v)(c:¬l.length=0):∃L i cap ro els,v= .aB L i l.length K.esz (Option.map (· +l.length) cap)/\ok L/\H.get L=D (.row ro K.esz els)/\∀(j:Nat) (a:α),l[j]? =D a->∃cs,els[i+j]? =D cs/\K.V H ok a cs:=by
 rcases h with⟨_,rfl⟩|⟨L,i,cap,ro,els,an,aE,bn,dK⟩|⟨_,_,_,_,rfl⟩
 ·simp at c
 ·exact⟨L,i,cap,ro,els,an,aE,bn,dK⟩
 ·simp at c
def CP:∀l:List Fn,(∀x∈l,o5 x/\dC x.body<=1000000000)->(flat (cT (l.map fh.f))).length<=2000000000*l.length
 |[],_=>by simp[cT,c5]
 |x::r,h=>by
  have u:=CP r λy i=>h y (List.mem_cons_of_mem _ i)
  obtain⟨aI,k⟩:=h x (List.mem_cons_self ..);have s:=e5 aI.n;have o:=tb x.params aI.p;have j:=aI.l;obtain⟨d,a,e⟩:=aI.b;have m:=rp (deep:=1) e af;have q:(iG x).length<=30:=by
   unfold iG;rcases aI.r with⟨a,c⟩|⟨a,_⟩
   ·have:=gU c;have:=c.2.1;have:=jd x.dS x.rd;rw[a,aW];simp only[List.length_append,List.length_cons,List.length_nil];omega
   ·rw[a];simp
  rw[List.map_cons,B_];simp only[List.length_append,List.length_cons,List.length_nil,ns];omega
section
variable {N:Nat}{H0:ad}{r L i n n0 p m0:Nat}{cap:Option Nat}{ro:Bool}{els:List (List aa)}{ok:Nat->Prop}{Q:aa->ad->Prop}{acc:aC}
def Dm(ao:100<=N)(o:∀l,ok l->l<n0)(E:ok L)(au:n<=100){all:List fo}(av:n=all.length)(hw:∀x∈all,o6 x)
  (F:∀m H,e1 n0 p m H (acc++flat (cT (all.map .r)))->cR p m0 H0 m H->W (kg (aD P ay) N (.ptr r 0 0) (.ptr p 0 0) H) Q):∀(es:List fo) (j k:Nat) (done:List fo) (m:Nat) (H:ad),all=done++es->done.length=j->es.length<k->H.get L=D (.row ro 3 els)->(∀(j:Nat) (a:fo),all[j]? =D a->∃cs,els[i+j]? =D cs/\jc.V H ok a cs)->e1 n0 p m H (acc++flat (cT (done.map .r)))->acc.length+(flat (cT (done.map .r))).length+100000*es.length<=50000000000->cR p m0 H0 m H->
  W (kT (aD P ay) N k (.ptr r 0 0) (.ptr p 0 0) (.aB L i n 3 cap) (I J n) (I J j) H) Q
 |_,_,0,_,_,_,_,_,v,_,_,_,_,_=>af
 |[],j,k+1,done,m,H,d,q,v,s,y,c,G,w=>by
  rw[List.append_nil]at d;subst d;have u:¬((j:Int)<(n:Int)):=af;simp-implicitDefEqProofs(disch:=try exact aj)only[kT,p2,reduceAdd,reduceLeDiff,reduceIte,aw,u,decide_false];exact F m H c w
 |x::es,j,k+1,done,m,H,d,q,v,s,y,c,G,w=>by
  simp only[List.length_cons]at v G;have aW:all.length=done.length+(es.length+1):=by rw[d,List.length_append,List.length_cons]
  have u:(j:Int)<(n:Int):=af;have aA:((j:Int)).toNat=j:=af;have ak:(0:Int)<=(j:Int):=af;have aL:IntKind.i64.wrap ((j:Int)+1)=((j+1:Nat):Int):=by rw[wrap_i64 af af];omega
  have z:all[j]? =D x:=by rw[d,List.getElem?_append_right af,q,Nat.sub_self];rfl
  obtain⟨cs,a6,bP,rfl,ax⟩:=y j x z;have aI:=hw x (List.mem_of_getElem? z);have bO:=ax.one;have a0:=e5 aI.n;have aX:=wF x.fields aI.f;have aV:=aI.l;have T:=aO.push H (.row U 3 [[Z x.name,bP,I J x.pos]]);have ah:=ad.bI H (.row U 3 [[Z x.name,bP,I J x.pos]]);have ae:H.next≠p/\H.next≠m:=by have:=c.lm;have:=c.iW.lt;omega
  simp-implicitDefEqProofs(disch:=try exact aj)only[kT,p2,reduceAdd,reduceLeDiff,reduceIte,aw,u,decide_true,ak,aA,s,a6,bO,se];refine aP (gE (c.aM T) (deep:=0) rfl [[114,101,99,111,114,100,32],x.name,[32,123]] (by simp) (by simp) af (by simp only[List.flatten_cons,List.flatten_nil,List.length_append,List.length_cons,List.length_nil];omega) rfl rfl rfl) ?_;rintro _ e ⟨aJ,m3,B,aa⟩;refine⟨aJ,?_⟩;have ai:=aa.get ah ae.1 ae.2;have wt:=(cR.aM (p:=p) (m:=m) T).trans aa;have aG:=wt.a1 c.aI c.hm o;have az:=ax.a1 aG;have ap:=ax.nW;simp-implicitDefEqProofs(disch:=try exact aj)only[reduceAdd,reduceLeDiff,reduceIte,aw,ai,ap]
  have aZ:x∈all:=List.mem_of_getElem? z;have next:∀m H',e1 n0 p m H' (acc++flat (cT (done.map .r))++(pad 0++([[114,101,99,111,114,100,32],x.name,[32,123]].flatten++[10]))++flat (eY x.fields))->cR p m3 e m H'->W (mP (aD P ay) N (kT (aD P ay) N k) (.ptr r 0 0) (.ptr p 0 0) (.aB L i n 3 cap) (I J n) (I J j) H') Q:=by
   intro m5 aR aF aN;have aY:=B.hm;simp-implicitDefEqProofs(disch:=try exact aj)only[mP,lI,bh,bx];refine aP (gE aF (deep:=0) rfl [[125]] (by simp) (by simp) af (by simp only[List.flatten_cons,List.flatten_nil,List.length_append,List.length_cons,List.length_nil,kQ];omega) rfl rfl rfl) ?_;rintro _ ag ⟨aK,m6,R,aQ⟩;refine⟨aK,?_⟩;simp-implicitDefEqProofs(disch:=try exact aj)only[lI,bh,bx,da,aL];have ab:=(wt.trans aN).trans aQ;have S:=ab.a1 c.aI c.hm o;have O:acc++flat (cT (done.map .r))++(pad 0++([[114,101,99,111,114,100,32],x.name,[32,123]].flatten++[10]))++flat (eY x.fields)++(pad 0++([[125]].flatten++[10]))=acc++flat (cT ((done++[x]).map .r)):=by
    rw[List.map_append,pP,db,List.map_cons,List.map_nil,JA,cT,c5,kQ];simp[su]
   rw[O]at R;have hlen:(flat (cT ((done++[x]).map fh.r))).length<=(flat (cT (done.map fh.r))).length+100000:=by
    have:=congrArg List.length O;simp only[List.length_append,List.flatten_cons,List.flatten_nil,List.length_cons,List.length_nil,kQ]at this;omega
   exact Dm ao o E au av hw F es (j+1) k (done++[x]) m6 ag (by rw[d,List.append_assoc];rfl) (by rw[List.length_append,q];rfl) af (S L _ E s).2 (λj a h=>by obtain⟨cs,an,aE⟩:=y j a h;exact⟨cs,an,jc.a1 S aE⟩) R af (w.trans ab)
  by_cases A:x.fields.length=0
  ·have aC:=List.length_eq_zero_iff.1 A;have al:¬((0:Int)<((0:Nat):Int)):=af;obtain⟨M,rfl⟩:∃M,N=M+1:=⟨N-1,af⟩;rw[A];simp-implicitDefEqProofs(disch:=try exact aj)only[lL,p3,reduceAdd,reduceLeDiff,reduceIte,aw,al,decide_false];exact next m3 e (by rw[aC,eY,c5,List.append_nil];exact B) (cR.aM (.refl _))
  ·obtain⟨aS,i2,aT,a2,aU,rfl,am,K,aq⟩:=az.tJ A;have aH:f_.esz=4:=rfl;rw[aH]at K;exact Dj (H0:=e) (m0:=m3) (n0:=n0) o am af rfl aI.f (λj a h=>by obtain⟨cs,an,aE⟩:=aq j a h;rw[an,show cs=a.cells from aE]) next x.fields 0 N [] m3 e rfl rfl af K (by rw[eY,c5,List.append_nil];exact B) (by simp only[List.length_append,List.flatten_cons,List.flatten_nil,List.length_cons,List.length_nil,kQ,eY,c5];omega) (cR.aM (.refl _))
end
def Lw{H:ad}{ok:Nat->Prop}{bL bT bP:aa}{g:dv}(G:dU jc H ok g.dk bL)(R:dU f_ H ok g.globals bT)(M:dU ia H ok g.funcs bP)(aq:∀l,ok l->l<H.next)(V:fi.hP H)(hw:yB g):W (aD P ay 10 [.agg [bL,bT,bP]] H) λv H'=>v= Z (flat (n9 g))/\aO H H':=by
 refine cF (λ_=>L3 1000) ?_;have bO:=G.one;have b2:=R.one;have cz:=M.one;have am:∀l,dO l (.agg [bL,bT,bP])=D (.ptr l 0 0,.row U 3 [[bL,bT,bP]]):=λl=>hk l _ (by simp only[List.all_cons,List.all_nil,bO,b2,cz,Bool.and_self])
 have ao:∀l,pg (D 81) l (.agg [.nilPtr,.ar])=D (.ptr l 0 0,.b1 81 2 [[.nilPtr,.ar]]):=λl=>rfl
 have pp:=(aO.push H (.row U 3 [[bL,bT,bP]])).bE (.b1 81 2 [[.nilPtr,.ar]]);have E:=(aO.push (H.push (.row U 3 [[bL,bT,bP]])) (.b1 81 2 [[.nilPtr,.ar]])).get (ad.bI H (.row U 3 [[bL,bT,bP]]));have F:=ad.bI (H.push (.row U 3 [[bL,bT,bP]])) (.b1 81 2 [[.nilPtr,.ar]]);have au:(H.push (.row U 3 [[bL,bT,bP]])).next=H.next+1:=by simp
 have av:((H.push (.row U 3 [[bL,bT,bP]])).push (.b1 81 2 [[.nilPtr,.ar]])).next=H.next+2:=by simp
 have ae:=G.a1 (dp.aM pp);have S:=R.a1 (dp.aM pp);have O:=M.a1 (dp.aM pp);have ab:=V.aM pp;have aF:=ad.aS V.uB;rw[tN];have y:=λH'=>G.wC H'
 simp-implicitDefEqProofs(disch:=try exact aj)only[reduceAdd,reduceLeDiff,reduceIte,aw,am,ao,E,y];simp only[au]at F;generalize (H.push (.row U 3 [[bL,bT,bP]])).push (.b1 81 2 [[.nilPtr,.ar]])=H1 at pp E F av ae S O ab ⊢;have z:∀l,ok l->l<H.next+1:=λl h=>by have:=aq l h;omega
 have ag:e1 (H.next+1) (H.next+1) (H.next+1) H1 []:=⟨af,bj _,bj _,af,⟨λh=>absurd rfl h,af,.nilPtr,.ar,F,.inl rfl,.inl ⟨rfl,rfl⟩⟩,ab⟩;have e:flat (n9 g)=flat (cT (g.dk.map .r))++flat (cT (g.globals.map .g))++flat (cT (g.funcs.map .f)):=by
  unfold n9;rw[pP,pP,db,db,List.append_assoc]
 have aC:=CR _ hw.og;have aA:=CQ _ hw.dr;have a6:=hw.gT;have aH:=hw.nX;have aI:=hw.pI;have o:cT []=[]:=rfl;have ah:∀m c,e1 (H.next+1) (H.next+1) m c (flat (cT (g.dk.map .r))++flat (cT (g.globals.map .g))++flat (cT (g.funcs.map .f)))->cR (H.next+1) (H.next+1) H1 m c->W (mO (aD P ay) 1000 (.ptr (H.next+1) 0 0) c) λv H'=>v= Z (flat (n9 g))/\aO H H':=by
  intro m c q d;have az:=CP _ hw.cC;obtain⟨al,bn,aG,fc⟩:=Pm q.iW (by simp only[List.length_append];omega);have ax:c.next<=al.next:=af
  simp-implicitDefEqProofs(disch:=try exact aj)only[mO,reduceAdd,reduceLeDiff,reduceIte,aw,bn,eZ,ax];refine ba.2 ⟨by rw[e],by have:=pp.1;have:=d.next;omega,λl ap=> ?_⟩;have:=q.hm;rw[fc l af,d.2.2 l af af];exact pp.2 l ap
 have ai:∀m c,e1 (H.next+1) (H.next+1) m c (flat (cT (g.dk.map .r))++flat (cT (g.globals.map .g)))->cR (H.next+1) (H.next+1) H1 m c->W (mN (aD P ay) 1000 (.ptr H.next 0 0) (.ptr (H.next+1) 0 0) c) λv H'=>v= Z (flat (n9 g))/\aO H H':=by
  intro m c q d;have g2:=d.get E af af;have K:=d.a1 (bj _) (bj _) z;have Q:=O.a1 K;have y:=λH'=>Q.wD H'
  simp-implicitDefEqProofs(disch:=try exact aj)only[mN,reduceAdd,reduceLeDiff,reduceIte,aw,g2,y];by_cases n:g.funcs.length=0
  ·have A:=List.length_eq_zero_iff.1 n;have s:¬((0:Int)<((0:Nat):Int)):=af;rw[n];simp-implicitDefEqProofs(disch:=try exact aj)only[lJ,p0,reduceAdd,reduceLeDiff,reduceIte,aw,s,decide_false];exact ah m c (by rw[A,List.map_nil,o,c5,List.append_nil];exact q) d
  ·obtain⟨L,i,cap,ro,els,rfl,x,p,u⟩:=Q.tJ n;have B:ia.esz=7:=rfl;rw[B]at p;exact Dk (N:=1000) (H0:=H1) (m0:=H.next+1) z x af rfl hw.cC ah g.funcs 0 1000 [] m c rfl rfl af p u (by rw[List.map_nil,o,c5,List.append_nil];exact q) (by rw[List.map_nil,o,c5];simp only[List.length_append,List.length_nil];omega) d
 have ak:∀m c,e1 (H.next+1) (H.next+1) m c (flat (cT (g.dk.map .r)))->cR (H.next+1) (H.next+1) H1 m c->W (kg (aD P ay) 1000 (.ptr H.next 0 0) (.ptr (H.next+1) 0 0) c) λv H'=>v= Z (flat (n9 g))/\aO H H':=by
  intro m c q d;have g2:=d.get E af af;have K:=d.a1 (bj _) (bj _) z;have T:=S.a1 K;have y:=λH'=>T.nW H'
  simp-implicitDefEqProofs(disch:=try exact aj)only[kg,reduceAdd,reduceLeDiff,reduceIte,aw,g2,y];by_cases n:g.globals.length=0
  ·have A:=List.length_eq_zero_iff.1 n;have s:¬((0:Int)<((0:Nat):Int)):=af;rw[n];simp-implicitDefEqProofs(disch:=try exact aj)only[lK,p1,reduceAdd,reduceLeDiff,reduceIte,aw,s,decide_false];exact ai m c (by rw[A,List.map_nil,o,c5,List.append_nil];exact q) d
  ·obtain⟨L,i,cap,ro,els,rfl,x,p,u⟩:=T.tJ n;have B:f_.esz=4:=rfl;rw[B]at p;exact Dl (N:=1000) (H0:=H1) (m0:=H.next+1) z x af rfl hw.dr (λj a h=>by obtain⟨cs,an,aE⟩:=u j a h;rw[an,show cs=a.cells from aE]) ai g.globals 0 1000 [] m c rfl rfl af p (by rw[List.map_nil,o,c5,List.append_nil];exact q) (by rw[List.map_nil,o,c5];simp only[List.length_nil];omega) d
 by_cases n:g.dk.length=0
 ·have A:=List.length_eq_zero_iff.1 n;have s:¬((0:Int)<((0:Nat):Int)):=af;rw[n];simp-implicitDefEqProofs(disch:=try exact aj)only[kT,p2,reduceAdd,reduceLeDiff,reduceIte,aw,s,decide_false];exact ak _ H1 (by rw[A,List.map_nil,o,c5];exact ag) (cR.aM (.refl _))
 ·obtain⟨L,i,cap,ro,els,rfl,x,p,u⟩:=ae.tJ n;have B:jc.esz=3:=rfl;rw[B]at p;exact Dm (N:=1000) (H0:=H1) (m0:=H.next+1) (acc:=[]) af z x af rfl hw.og (λm H k w=>ak m H (by rw[List.nil_append]at k;exact k) w) g.dk 0 1000 [] _ H1 rfl rfl af p u (by rw[List.map_nil,o,c5];exact ag) (by rw[List.map_nil,o,c5];simp only[List.length_nil];omega) (cR.aM (.refl _))
def h5.append{B:Nat}{e:bM}(h:u3 B e):∀{l:List bM},h5 B l->h5 B (l++[e])
 |[],_=>by rw[List.nil_append,h5,h5];exact⟨h,trivial⟩
 |x::xs,a=>by
  rw[h5]at a;rw[List.cons_append,h5];exact⟨a.1,h5.append h a.2⟩
section
variable {T:List Tok}
end
mutual
def Fc:∀(a b:aA),jL a.bt b.bt=jL a b
 | .mk a ks,.mk b ls=>by
  rw[j2,j2,jL,jL,Ff ks ls];rfl
def Ff:∀(a b:List aA),gM (eM a) (eM b)=gM a b
 |[],[]=>rfl
 |[],_::_=>rfl
 |_::_,[]=>rfl
 |a::xs,b::c=>by rw[eM,eM,gM,gM,Fc a b,Ff xs c]
end
def P4{s:aC}(c:(dx s).2.1=0){q:dv×au}(n:hG (dx s).1 800000000 800000000 .none ⟨0,0,0,0⟩=D q)(p:q.2.aG=0):yB q.1/\q.1.dk.length<=12/\q.1.globals.length<=8/\q.1.funcs.length<=16:=by
 obtain⟨aK,v⟩:=uF c;have B:=sn s;have z:s.length<=6000:=by
  unfold dx at c;split at c
  ·simp at c
  ·omega
 have hlen:(dx s).1.length<=6001:=af;have d:Good (dx s).1 ((dx s).1.length:Int):=⟨af,λa h=>(xZ h).2.1,λt o=>Gh t o⟩;have i:nv (dx s).1:=vh af;obtain⟨G,A⟩:=pT d i 800000000 800000000 .none ⟨0,0,0,0⟩ q (λ_=>⟨by simp,by simp,by simp,by simp⟩) (λ_=>⟨(λx h=>by cases h),(λx h=>by cases h),(λx h=>by cases h),by simp[dv.none],by simp[dv.none],by simp[dv.none],by simp[dv.none,l8]⟩) n p;have hw:=G.w;have key:∀l:List Fn,∀x∈l,dC x.body<=l8 l:=by
  intro l
  induction l with
  |nil=>intro x h;cases h
  |cons y r u=>
   intro x h;have e:l8 (y::r)=dC y.body+l8 r:=by simp[l8]
   rcases List.mem_cons.1 h with rfl|h
   ·omega
   ·have:=u x h;omega
 have m:=G.gT;have k:=G.nX;have j:=G.pI;exact⟨⟨G.og,G.dr,λx h=>⟨G.cC x h,by have:=key _ x h;omega⟩,af,af,af⟩,m,k,j⟩
structure ln where
 r:Nat
 g:Nat
 h:Nat
 l:List fh
section
variable (G:dv)(K:Nat->Int)
def ln.more(s:ln):Bool:=Nat.blt s.r G.dk.length||(Nat.blt s.g G.globals.length||Nat.blt s.h G.funcs.length)
def ln.step(k:Int)(s:ln):ln:=
 if k=0/\s.r<G.dk.length then {s with r:=s.r+1,l:=s.l++(G.dk[s.r]?.map fh.r).toList}
 else if k=1/\s.g<G.globals.length then {s with g:=s.g+1,l:=s.l++(G.globals[s.g]?.map fh.g).toList}
 else if k=2/\s.h<G.funcs.length then {s with h:=s.h+1,l:=s.l++(G.funcs[s.h]?.map fh.f).toList}
 else s
def ln.rem(s:ln):Nat:=(G.dk.length-s.r)+((G.globals.length-s.g)+(G.funcs.length-s.h))
def ln.has(s:ln)(c:Nat):Prop:=(c=0/\s.r<G.dk.length)\/(c=1/\s.g<G.globals.length)\/(c=2/\s.h<G.funcs.length)
end
def fh.bt:fh->fh
 | .r x=> .r x.bt
 | .g x=> .g x.bt
 | .f x=> .f x.bt
section
set_option maxRecDepth 100000
noncomputable section
def oh(G:az)(ag av z:aa)(H:ad):O:=cn H [I J 0,I J 0,Z [],Z [],I J 0,aa.ar,I J 0,I J 0,I J 0,I J 0,I J 0] λbq u=>cn u [I J 0,I J 0] λe h=>bh P .max [3,3] [z,I J 0] h λw=>j (cy P 59 [(0,ag),(1,av),(2,w)]) λx=>bZ h (dO (h).next x) λbC o=>aJ o (G 40 [bC,I J 0] o) λy v=>cn v [I J 0,I J 0,Z [],Z [],I J 0,aa.ar,I J 0,I J 0,I J 0,I J 0,I J 0] λs p=>a8 p (aU P p 45 s y) λq=>aJ q (G 21 [bC] q) λA c=>j (fq .not A) λB=>aX (D B) (a8 c (aU P c 45 bq (.agg [I J 0,I J 0,Z [],Z [],I J 0,aa.ar,I J 0,I J 0,I J 0,I J 0,I J 0])) λa=>j (b6 bC) λE=>j (aH P 59 E 3) λk=>j (ak P a 29 k) λl=>a8 a (aU P a 29 e l) λd=>bif ((bl (ak P c 29 k) l&&(bl (ak P a 29 k) l&&X))&&X)then(j (ak P d 45 bq) λr=>j (ak P d 29 e) λi=>D (.tuple [r,I J 0,i],d))else C) (j (ak P c 45 s) λF=>a8 c (aU P c 45 bq F) λa=>j (b6 bC) λK=>j (aH P 59 K 1) λm=>j (ak P a 3 m) λn=>a8 a (aU P a 29 e (.agg [I J 0,I J 0])) λd=>bif ((bl (ak P c 3 m) n&&(bl (ak P a 3 m) n&&X))&&X)then(j (ak P d 45 bq) λr=>j (ak P d 29 e) λi=>D (.tuple [r,n,i],d))else C)
def L6(N:Nat){ag av a:aa}{H:ad}{r:aa×ad}(h:oh (aD P ay) ag av a H=D r):aD P ay 15 [ag,av,a] H=D r:=cV N (S:=λG=>oh G ag av a H) Tryd.func15 (λ_=>by delta oh;kernel_rfl) h
end
end
def Iv(ao:aa)(c:ao.one=X)(a b:Int):cy P 59 [(0,ao),(1,I J a),(2,I J b)]=D (.agg [ao,I J a,I J b,I J 0,I J 0]):=by
 cases ao<;>first|(cases c;done)|kernel_rfl
def jD(e:aA)(s:au):aA×Int×Int×Int:=if s.aG=0 then(e,s.at_,0,0)else(.zero,0,s.aG,s.cP)
def yg{n:Nat}(O:n<=900000000){H:ad}{T:List Tok}{ao:aa}(B:eS H ao T){e:aA}{s':au}(h:dd T n 0 ⟨0,0,0,0⟩=D (e,s')):
  W (aD P ay 15 [ao,I J 0,I J 0] H) λv H'=>∃cc,v= .tuple [cc,I J (jD e s').2.1,.agg [I J (jD e s').2.2.1,I J (jD e s').2.2.2]]/\cw H' (bk H.next) (jD e s').1 cc/\aO H H':=by
 refine cF (λ_=>L6 0) ?_;have z:=B.one;have E:=(aO.push H (.row U 11 [[I J 0,I J 0,Z [],Z [],I J 0,.ar,I J 0,I J 0,I J 0,I J 0,I J 0]])).bE (.row U 2 [[I J 0,I J 0]]);have K:=Iv ao z 0 0;have L:∀l,dO l (.agg [ao,I J 0,I J 0,I J 0,I J 0])=D (.ptr l 0 0,.row U 5 [[ao,I J 0,I J 0,I J 0,I J 0]]):=λl=>hk l _ (by simp only[List.all_cons,List.all_nil,gF,z,Bool.and_self])
 simp-implicitDefEqProofs(disch:=try exact aj)only[oh,reduceAdd,reduceLeDiff,reduceIte,aw,Dz,Int.max_self,K,L];have ae:=ad.bI (H.push (.row U 11 [[I J 0,I J 0,Z [],Z [],I J 0,.ar,I J 0,I J 0,I J 0,I J 0,I J 0]])) (.row U 2 [[I J 0,I J 0]]);have y:((H.push (.row U 11 [[I J 0,I J 0,Z [],Z [],I J 0,.ar,I J 0,I J 0,I J 0,I J 0,I J 0]])).push (.row U 2 [[I J 0,I J 0]])).next=H.next+2:=by simp only[ad.bX]
 have w:((H.push (.row U 11 [[I J 0,I J 0,Z [],Z [],I J 0,.ar,I J 0,I J 0,I J 0,I J 0,I J 0]])).push (.row U 2 [[I J 0,I J 0]])).get H.next=D (.row U 11 [[I J 0,I J 0,Z [],Z [],I J 0,.ar,I J 0,I J 0,I J 0,I J 0,I J 0]]):=by simp-implicitDefEqProofs(disch:=try exact aj)only[dE]
 have x:((H.push (.row U 11 [[I J 0,I J 0,Z [],Z [],I J 0,.ar,I J 0,I J 0,I J 0,I J 0,I J 0]])).push (.row U 2 [[I J 0,I J 0]])).get (H.next+1)=D (.row U 2 [[I J 0,I J 0]]):=by simp-implicitDefEqProofs(disch:=try exact aj)only[dE]
 rw[<-y];generalize (H.push (.row U 11 [[I J 0,I J 0,Z [],Z [],I J 0,.ar,I J 0,I J 0,I J 0,I J 0,I J 0]])).push (.row U 2 [[I J 0,I J 0]])=c at E w x y ⊢;have q:=aO.push c (.row U 5 [[ao,I J 0,I J 0,I J 0,I J 0]]);have s:=E.trans q;have V:bQ (c.push (.row U 5 [[ao,I J 0,I J 0,I J 0,I J 0]])) c.next T ao ⟨0,0,0,0⟩:=
  ⟨ad.bI _ _,B.aM s⟩
 refine aP ((vd n O n (bj _)).expr V 0 af e s' h) ?_;rintro v u ⟨m5,p,j⟩;refine⟨m5.1,?_⟩;have N:=m5.1;simp only[ad.bX]at N j;obtain⟨cs,rfl,hlen,A⟩:=j.cells;have R:List.take 11 cs=cs:=List.take_of_length_le af;simp-implicitDefEqProofs(disch:=try exact aj)only[oh,reduceAdd,reduceLeDiff,reduceIte,aw,hlen,A,List.append_nil];have F:=aO.push u (.row U 11 [cs]);refine aP (kf (p.rd.aM F)) ?_;rintro _ ab ⟨rfl,rfl⟩;refine⟨bj _,?_⟩;have m:=p.rd.aM F;unfold bH at m;have o:=p.rd;unfold bH at o;have d:=m5.get (q.get w) af;have i:=m5.get (q.get x) af;have ag:=ad.aS d;have ah:=ad.aS i;have G:aO H u:=⟨by have:=s.1;simp only[ad.bX]at this;omega,λl M=>by rw[m5.2 l (by simp only[ad.bX];omega) af];exact s.2 l M⟩
 by_cases a:s'.aG=0
 ·have k:(s'.aG==0)=true:=by simpa using a
  rw[show jD e s'=(e,s'.at_,0,0) by simp[jD,a]];simp-implicitDefEqProofs(disch:=try exact aj)only[oh,reduceAdd,reduceLeDiff,reduceIte,aw,k,Bool.not_true,Bool.not_false,m,o,d,i,hlen,A,List.append_nil,R,Bool.and_true];refine ba.2 ⟨_,rfl,?_,?_⟩
  ·exact j.new (c0.cE (S:=λl=>l<_) (c0.cE (S:=λl=>l<_) ((c0.refl _ _).bE _) (.inl af) _) (.inl af) _) λl h=>by unfold bk;omega
  ·exact((G.bE _).cE (bj _) _).cE af _
 ·have k:(s'.aG==0)=false:=by simpa using a
  rw[show jD e s'=(.zero,0,s'.aG,s'.cP) by simp[jD,a]];have Q:bl (D (.agg [I J s'.aG,I J s'.cP])) (.agg [I J s'.aG,I J s'.cP])=true:=by simp[bl,aa.beq,fV.beq]
  simp-implicitDefEqProofs(disch:=try exact aj)only[oh,reduceAdd,reduceLeDiff,reduceIte,aw,k,Bool.not_true,Bool.not_false,m,o,d,i,Q,Bool.and_true];refine ba.2 ⟨_,rfl,cw.leaf _ _ {kind:=0},?_⟩;exact((G.bE _).cE (bj _) _).cE af _
def KC(a:List bF)(h:hy a):(mJ a 0).length=(bz a).length+1:=by
 have:=congrArg List.length (tC a 0 h);simpa [e3]using this
def zV(l:List Tok):al (l++[⟨0,[],0,0⟩]) ((0:Int)+(l.length:Int))=⟨0,[],0,0⟩:=by
 have:=yA [⟨0,[],0,0⟩] [] l;rw[List.append_nil]at this;rw[Int.zero_add];exact this.1
def PB(l:List Tok):dt (l++[⟨0,[],0,0⟩]) 0 l:=by
 have:=yA l [⟨0,[],0,0⟩] [];simp only[List.nil_append,List.length_nil]at this;exact this
def K6:lk []:=λb r h=>by cases h
def I1:Stop 0 ⟨0,[],0,0⟩:=by
 have:∀l∈List.range 5,dW l ⟨0,[],0,0⟩=0:=by decide+kernel
 exact⟨λl _ a=>this l (List.mem_range.2 af),λh=>absurd h.1 bf⟩
def I0:kx ⟨0,[],0,0⟩:=rfl
def I9{d:Nat}{e:aA}(h:ct d 0 e)(n:d<=50)(l:(flat (bd e)).length<=6000){q:aA×au}(i:dd (dx (flat (bd e))).1 800000000 0 ⟨0,0,0,0⟩=D q):
  (dx (flat (bd e))).2.1=0/\q.2.aG=0/\q.1.bt=e.bt/\q.2.at_=((dx (flat (bd e))).1.length:Int)-1:=by
 have aI:=(Lr h).1;have j:iz (bd e):=by have:=aI.k [] trivial K6;rwa[List.append_nil]at this
 rw[Px j l]at i ⊢;simp only at i ⊢;have len:=uE _ j;obtain⟨N,F⟩:=(LC (T:=bz (bd e)++[⟨0,[],0,0⟩]) h).whole (a:=0) (o:=0) (a':=0+((bz (bd e)).length:Int)) (Int.le_refl 0) (Int.le_refl 0) af (PB _) rfl af (by rw[zV];exact I0) (by rw[zV];exact I1);have a:=(zZ (T:=mJ (bd e) 0) 800000000).an 0 ⟨0,0,0,0⟩;rw[i,tC _ 0 aI.z]at a;have b:∀k,dd (bz (bd e)++[⟨0,[],0,0⟩]) (800000000+k) 0 (au.bt ⟨0,0,0,0⟩)=gS aA.bt (D q):=by
  intro k
  induction k with
  |zero=>exact a
  |succ k m=>exact(Dy _).an _ _ _ m
 have c:dd (bz (bd e)++[⟨0,[],0,0⟩]) (800000000+N) 0 (st 0 0)=D (e.bt,st (0+((bz (bd e)).length:Int)) 0):=F (800000000+N) af;have d:=b N;rw[show(au.bt ⟨0,0,0,0⟩)=st 0 0 from rfl,c]at d;simp only[gS,Option.map_some,aV,b4]at d;have f0:=congrArg au.aG d.2;have a0:=congrArg au.at_ d.2;simp only[au.bt]at f0 a0;refine⟨trivial,f0.symm,d.1.symm,?_⟩;rw[KC _ aI.z,<-a0];omega
def Ad{s:aC}(a:(dx s).2.1=0){p:aA×au}(h:dd (dx s).1 800000000 0 ⟨0,0,0,0⟩=D p)(e:p.2.aG=0):∃d,d<=50/\ct d 0 p.1/\cK p.1<=1000000000:=by
 obtain⟨aK,i⟩:=uF a;have m:=aK.n;have l:=sn s;have j:s.length<=6000:=by
  unfold dx at a;split at a
  ·simp at a
  ·omega
 obtain⟨f,g,d,c,hw⟩:=(xg aK.g 800000000).expr 0 ⟨0,0,0,0⟩ p af (λ_=>⟨Int.le_refl 0,(show(0:Int)<=_ by omega),Int.le_refl 0,bf⟩) h e;have k:=f.b;simp only at g c;exact⟨d,af,hw.low af,af⟩
section
set_option maxRecDepth 100000
noncomputable section
def tO(G:az)(H:ad):O:=aJ H (G 9 [Z [102,117,110,99,32,109,97,105,110,40,41,123,105,102,32,49,60,50,123,112,114,105,110,116,40,49,43,50,41,42,51,59,125,125]] H) λi k=>j (d_ i 0) λx=>j (d_ i 1) λbq=>cn k [aa.ar,aa.ar,aa.ar] λav l=>cn l [I J 0,I J 0] λw e=>a8 e (aU P e 26 av x) λh=>a8 h (aU P h 29 w bq) λc=>j (ak P c 26 av) λy=>aJ c (G 10 [y] c) λz m=>j (aq P .eql 9 X z (Z [102,117,110,99,32,109,97,105,110,40,41,32,123,10,32,32,105,102,32,49,32,60,32,50,32,123,10,32,32,32,32,112,114,105,110,116,32,40,49,32,43,32,50,41,32,42,32,51,59,10,32,32,125,10,125,10])) λa=>aN a X m (cv (.agg [Z [105,110,116],I J 2])) λp d=>aN a X d (λq=>eI d (G 20 [p] d) q) λs n=>aN a X n (bu (aq P .eql 9 X s (Z [91,91,105,110,116,93,93]))) λu o=>j (cu a (D u) (D (.bool U))) λv=>D (v,o)
def L4(N:Nat){H:ad}{r:aa×ad}(h:tO (aD P ay) H=D r):aD P ay 12 [] H=D r:=cV N (S:=λG=>tO G H) Tryd.func12 (λ_=>by delta tO;kernel_rfl) h
end
end
def s9:aC:=[102,117,110,99,32,109,97,105,110,40,41,123,105,102,32,49,60,50,123,112,114,105,110,116,40,49,43,50,41,42,51,59,125,125]
def s_:aC:=[102,117,110,99,32,109,97,105,110,40,41,32,123,10,32,32,105,102,32,49,32,60,32,50,32,123,10,32,32,32,32,112,114,105,110,116,32,40,49,32,43,32,50,41,32,42,32,51,59,10,32,32,125,10,125,10]
def CB:Bool:=(dx s9).2.1==0&&(match hG (dx s9).1 800000000 800000000 .none ⟨0,0,0,0⟩with
 |some (g,s)=>s.aG==0&&flat (n9 g)==s_
 |none=>U)
set_option maxRecDepth 100000 in
def Km:CB=true:=by decide+kernel
def PC:flat (cj [105,110,116] 2)=[91,91,105,110,116,93,93]:=by decide+kernel
def dp.lt{H:ad}{ok:Nat->Prop}:dp H ok H (· <H.next):=λ_ _ _ g=>⟨ad.aS g,g⟩
def wq{H:ad}(u:fi.hP H):W (aD P ay 12 [] H) λv H'=>v= .bool X/\aO H H':=by
 refine cF (λ_=>L4 0) ?_;have a:=Km;unfold CB at a;simp only[Bool.and_eq_true,beq_iff_eq]at a;obtain⟨k,a⟩:=a;split at a
 ·rename_i g s aI;simp only[Bool.and_eq_true,beq_iff_eq]at a;obtain⟨j,q⟩:=a;obtain⟨hw,-⟩:=P4 k aI j;rw[tO];refine aP (LA s9 (M:=800000000) (n:=800000000) (bj _) (bj _) (λ_=>aI)) ?_;rintro _ H1 ⟨bL,bT,bP,rfl,d,e,i,l⟩;refine⟨l.1,?_⟩;have cc:tE s9 g s=(g,0,0):=by unfold tE xi;rw[if_pos k,if_pos j]
  rw[cc]at d e i ⊢;simp only at d e i ⊢;have bO:=d.one;have b2:=e.one;have cz:=i.one;have c:=(aO.push H1 (.row U 3 [[bL,bT,bP]])).bE (.row U 2 [[I J 0,I J 0]]);simp-implicitDefEqProofs(disch:=try exact aj)only[reduceAdd,reduceLeDiff,reduceIte,aw,ad.gd,bO,b2,cz];generalize (H1.push (.row U 3 [[bL,bT,bP]])).push (.row U 2 [[I J 0,I J 0]])=w at c ⊢;have p:=l.trans c;refine aP (Lw ((d.a1 (dp.aM c)).a1 dp.lt) ((e.a1 (dp.aM c)).a1 dp.lt) ((i.a1 (dp.aM c)).a1 dp.lt) (λ_ h=>h) (u.aM p) hw) ?_;rintro _ x ⟨rfl,m⟩;refine⟨m.1,?_⟩;rw[q];have an:(s_==s_)=true:=by simp
  unfold s_ at an ⊢;simp-implicitDefEqProofs(disch:=try exact aj)only[bh,bx,da,an];refine iA (type20 bf bf bf) ?_;rintro _ y ⟨rfl,o⟩;refine⟨o.1,?_⟩;rw[PC];have aE:(([91,91,105,110,116,93,93]:aC)==[91,91,105,110,116,93,93])=true:=bf;simp-implicitDefEqProofs(disch:=try exact aj)only[bh,bx,da,aE];exact ba.2 ⟨rfl,(p.trans m).trans o⟩
 ·cases a
section
set_option maxRecDepth 100000
noncomputable section
def fc(G:az)(ag:aa)(H:ad):O:=aJ H (G 9 [ag] H) λy z=>j (d_ y 0) λM=>j (d_ y 1) λN=>cn z [aa.ar,aa.ar,aa.ar] λc A=>cn A [I J 0,I J 0] λx m=>a8 m (aU P m 26 c M) λn=>a8 n (aU P n 29 x N) λo=>bh P .len [9] [ag] o λE=>j (aq P .gtr 3 X E (I J 4000)) λh=>aN h U o (bu (aH P 29 x 0)) λF p=>aN h U p (qr (ak P p 27 F)) λK B=>aN h U B (bu (aq P .neq 27 X K (I J 0))) λbC a=>j (cu h (D (.bool X)) (D bC)) λL=>aX (D L) (D ((.bool X),a)) (j (ak P a 26 c) λs=>aJ a (G 10 [s] a) λu e=>j (ak P e 26 c) λv=>aJ e (G 11 [v] e) λw d=>j (aq P .eql 9 U u w) λi=>qA i X (λq=>eI d (G 12 [] d) q) λk=>j (cu i (D k.val) (D (.bool U))) λl=>bif q1 [0,1,0,7,15,31,63,127,255] [0,1,3,4,5,6,7,8] [⟨0,.read s,λH=>ak P H 26 c⟩,⟨1,.ea u e,λH=>C⟩,⟨2,.read v,λH=>ak P H 26 c⟩,⟨3,.ea w d,λH=>C⟩,⟨4,.pure i,λH=>C⟩,⟨5,.pure i,λH=>C⟩,⟨6,k,λH=>C⟩,⟨7,.pure l,λH=>C⟩,⟨8,.pure l,λH=>C⟩] a then(D (l,(k.heap d)))else C)
end
end
def dU.beq{α:Type}{K:h4 α}{H:ad}{ok:Nat->Prop}{l:List α}{v:aa}(h:dU K H ok l v):aa.beq v v=true:=by
 rcases h with⟨rfl,_⟩|⟨L,i,cap,ro,els,rfl,_⟩|⟨L,i,cap,rfl,_⟩<;>simp[aa.beq]
section
set_option maxRecDepth 100000
noncomputable section
def ur(G:az)(ag:aa)(H:ad):O:=aJ H (G 14 [ag] H) λR ah=>j (d_ R 0) λbC=>j (d_ R 1) λaD=>cn ah [I J 0,I J 0] λT w=>a8 w (aU P w 29 T aD) λE=>bh P .len [9] [ag] E λaE=>j (aq P .gtr 3 X aE (I J 200)) λh=>aN h U E (bu (aH P 29 T 0)) λaF L=>aN h U L (qr (ak P L 27 aF)) λaG ay=>aN h U ay (bu (aq P .neq 27 X aG (I J 0))) λaI l=>j (cu h (D (.bool X)) (D aI)) λaK=>aX (D aK) (D ((.bool X),l)) (aJ l (G 19 [bC,I J 0] l) λm aA=>j (d_ m 0) λaL=>j (d_ m 1) λaM=>j (d_ m 2) λaO=>cn aA [Z [],I J 0] λn aC=>cn aC [I J 0,I J 0] λaf M=>a8 M (aU P M 40 n aL) λp=>a8 p (aU P p 29 af aO) λs=>j (aH P 29 af 0) λaP=>j (ak P s 27 aP) λaQ=>j (aq P .neq 27 X aQ (I J 0)) λa=>aN a U s (cv aM) λaR ai=>aN a U ai (cv bC) λS u=>aN a U u (λq=>ha (b_ P .empty .len [36] [S]) (b_ P u .len [36] [S]) q) λaS aj=>aN a U aj (bu (aq P .sub 3 X aS (I J 1))) λaT al=>aN a U al (bu (aq P .neq 3 U aR aT)) λaV d=>j (cu a (D (.bool X)) (D aV)) λaW=>aX (D aW) (aJ d (G 12 [] d) λaY e=>D (aY,e)) (j (ak P d 40 n) λaZ=>aJ d (G 20 [aZ] d) λa0 e=>aJ e (G 14 [a0] e) λV am=>j (d_ V 0) λW=>j (d_ V 1) λa1=>cn am [I J 0,I J 0] λbg v=>a8 v (aU P v 29 bg a1) λx=>aJ x (G 19 [W,I J 0] x) λo an=>j (d_ o 0) λa2=>j (d_ o 1) λa3=>j (d_ o 2) λa4=>cn an [Z [],I J 0] λN ao=>cn ao [I J 0,I J 0] λQ y=>a8 y (aU P y 40 N a2) λz=>a8 z (aU P z 29 Q a4) λA=>j (aH P 29 Q 0) λa5=>j (ak P A 27 a5) λa6=>j (aq P .eql 27 X a6 (I J 0)) λc=>aN c X A (cv a3) λa7 ap=>aN c X ap (cv W) λab B=>aN c X B (λq=>ha (b_ P .empty .len [36] [ab]) (b_ P B .len [36] [ab]) q) λa9 au=>aN c X au (bu (aq P .sub 3 X a9 (I J 1))) λa_ av=>aN c X av (bu (aq P .eql 3 U a7 a_)) λba F=>j (cu c (D ba) (D (.bool U))) λi=>aN i X F (qr (ak P F 40 N)) λbb K=>aN i X K (qr (ak P K 40 n)) λbc aw=>aN i X aw (bu (aq P .eql 40 U bb bc)) λbd k=>j (cu i (D bd) (D (.bool U))) λae=>aN ae X k (λq=>eI k (G 12 [] k) q) λbe ax=>j (cu ae (D be) (D (.bool U))) λbf=>D (bf,ax)))
end
end
def eS.Kz{H:ad}{ao:aa}{T:List Tok}(h:eS H ao T)(H':ad):b_ P H' .len [36] [ao]=D (I J T.length):=by
 rcases h with⟨rfl,rfl⟩|⟨l,i,cap,rfl,_⟩
 ·exact th
 ·exact rA
section
set_option maxRecDepth 100000
noncomputable section
end
end
def get_map{α:Type}{l:List α}{f:α->List aa}{k:Nat}{d:α}(h:k<l.length):(l.map f)[k]? =D (f (l[k]?.getD d)):=by
 rw[List.getElem?_map];simp[h]
def Ea{e:aA}{s:au}(h:s.aG=0):jD e s=(e,s.at_,0,0):=by unfold jD;rw[if_pos h]
