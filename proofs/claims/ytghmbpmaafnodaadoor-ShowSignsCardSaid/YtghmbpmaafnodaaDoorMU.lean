/-
  Texts of one proof, laid together: Vm Rx Sa Sb Sc Sd Sk Ql Se Ec Ed Sf Wg Vn ShPd Y9 Vp ShLg Ka ShLa Kb ShLe Kd ShLf Kf.
-/
import Derived.Test.YtghmbpmaafnodaaDoorMT
set_option linter.unusedVariables false
set_option linter.unusedSimpArgs false
set_option linter.defProp false
open Option renaming some→D,none→Z
open Bool renaming true→X,false→U
open Go.b9.aa renaming int→I,str→Y
open Go.IntKind renaming i64→J
namespace Go.Proofs.YtghmbpmaafnodaaDoor
open Go.b9
open Nat (reduceAdd reduceLeDiff)
def dH.sd{α:Type}{K:hD α}{H:ad}{ok:Nat->Prop}{l:List α}{v:aa}(h:dH K H ok l v)(c:¬l.length=0):∃L i cap ro els,v= .aA L i l.length K.esz (Option.map (· +l.length) cap)/\ok L/\H.get L=D (.row ro K.esz els)/\∀(j:Nat) (a:α),l[j]? =D a->∃cs,els[i+j]? =D cs/\K.V H ok a cs:=by
 rcases h with⟨_,rfl⟩|⟨L,i,cap,ro,els,d,e,k,m⟩|⟨_,_,_,_,rfl⟩
 ·simp at c
 ·exact⟨L,i,cap,ro,els,d,e,k,m⟩
 ·simp at c
def A6:∀l:List Fn,(∀x∈l,nT x/\dv x.body<=1000000000)->(flat (cH (l.map eX.f))).length<=2000000000*l.length
 |[],_=>by simp[cH,cY]
 |x::r,h=>by
  have u:=A6 r λy i=>h y (List.mem_cons_of_mem _ i)
  obtain⟨aG,k⟩:=h x (List.mem_cons_self ..);have s:=eO aG.n;have o:=rN x.params aG.p;have j:=aG.l;obtain⟨d,a,e⟩:=aG.b;have m:=p6 (deep:=1) e af;have q:(h7 x).length<=30:=by
   unfold h7;rcases aG.r with⟨a,c⟩|⟨a,_⟩
   ·have:=gq c;have:=c.2.1;have:=iD x.dF x.rd;rw[a,aZ];simp only[List.length_append,List.length_cons,List.length_nil];omega
   ·rw[a];simp
  rw[List.map_cons,An];simp only[List.length_append,List.length_cons,List.length_nil,me];omega
section
variable {N:Nat}{H0:ad}{r L i n n0 p m0:Nat}{cap:Option Nat}{ro:Bool}{els:List (List aa)}{ok:Nat->Prop}{Q:aa->ad->Prop}{acc:aK}
def BB(ap:100<=N)(o:∀l,ok l->l<n0)(G:ok L)(av:n<=100){all:List e1}(aw:n=all.length)(hw:∀x∈all,nU x)
  (K:∀m H,eN n0 p m H (acc++flat (cH (all.map .r)))->cG p m0 H0 m H->W (jI (aC P ay) N (.ptr r 0 0) (.ptr p 0 0) H) Q):∀(es:List e1) (j k:Nat) (done:List e1) (m:Nat) (H:ad),all=done++es->done.length=j->es.length<k->H.get L=D (.row ro 3 els)->(∀(j:Nat) (a:e1),all[j]? =D a->∃cs,els[i+j]? =D cs/\iC.V H ok a cs)->eN n0 p m H (acc++flat (cH (done.map .r)))->acc.length+(flat (cH (done.map .r))).length+100000*es.length<=50000000000->cG p m0 H0 m H->
  W (kb (aC P ay) N k (.ptr r 0 0) (.ptr p 0 0) (.aA L i n 3 cap) (I J n) (I J j) H) Q
 |_,_,0,_,_,_,_,_,z,_,_,_,_,_=>af
 |[],j,k+1,done,m,H,d,u,z,v,A,c,O,w=>by
  rw[List.append_nil]at d;subst d;have y:¬((j:Int)<(n:Int)):=af;simp-implicitDefEqProofs(disch:=try exact al)only[kb,oN,reduceAdd,reduceLeDiff,reduceIte,ax,y,decide_false];exact K m H c w
 |x::es,j,k+1,done,m,H,d,u,z,v,A,c,O,w=>by
  simp only[List.length_cons]at z O;have aW:all.length=done.length+(es.length+1):=by rw[d,List.length_append,List.length_cons]
  have y:(j:Int)<(n:Int):=af;have aD:((j:Int)).toNat=j:=af;have am:(0:Int)<=(j:Int):=af;have aL:IntKind.i64.wrap ((j:Int)+1)=((j+1:Nat):Int):=by rw[wrap_i64 af af];omega
  have B:all[j]? =D x:=by rw[d,List.getElem?_append_right af,u,Nat.sub_self];rfl
  obtain⟨cs,aY,bG,rfl,aB⟩:=A j x B;have aG:=hw x (List.mem_of_getElem? B);have bH:=aB.one;have a2:=eO aG.n;have aZ:=uX x.fields aG.f;have aV:=aG.l;have ab:=aO.push H (.row U 3 [[Y x.name,bG,I J x.pos]]);have aj:=ad.bC H (.row U 3 [[Y x.name,bG,I J x.pos]]);have ah:H.next≠p/\H.next≠m:=by have:=c.lm;have:=c.iu.lt;omega
  simp-implicitDefEqProofs(disch:=try exact al)only[kb,oN,reduceAdd,reduceLeDiff,reduceIte,ax,y,decide_true,am,aD,v,aY,bH,qT];refine aN (ga (c.aM ab) (deep:=0) rfl [[114,101,99,111,114,100,32],x.name,[32,123]] (by simp) (by simp) af (by simp only[List.flatten_cons,List.flatten_nil,List.length_append,List.length_cons,List.length_nil];omega) rfl rfl rfl) ?_;rintro _ e ⟨aJ,m3,F,ae⟩;refine⟨aJ,?_⟩;have ak:=ae.get aj ah.1 ah.2;have wt:=(cG.aM (p:=p) (m:=m) ab).trans ae;have aH:=wt.aX c.aG c.hm o;have az:=aB.aX aH;have aq:=aB.mM;simp-implicitDefEqProofs(disch:=try exact al)only[reduceAdd,reduceLeDiff,reduceIte,ax,ak,aq]
  have a1:x∈all:=List.mem_of_getElem? B;have next:∀m H',eN n0 p m H' (acc++flat (cH (done.map .r))++(pad 0++([[114,101,99,111,114,100,32],x.name,[32,123]].flatten++[10]))++flat (eI x.fields))->cG p m3 e m H'->W (lO (aC P ay) N (kb (aC P ay) N k) (.ptr r 0 0) (.ptr p 0 0) (.aA L i n 3 cap) (I J n) (I J j) H') Q:=by
   intro m5 aR aF aP;have a0:=F.hm;simp-implicitDefEqProofs(disch:=try exact al)only[lO,kR,bg,br];refine aN (ga aF (deep:=0) rfl [[125]] (by simp) (by simp) af (by simp only[List.flatten_cons,List.flatten_nil,List.length_append,List.length_cons,List.length_nil,j8];omega) rfl rfl rfl) ?_;rintro _ ai ⟨aK,m6,T,aQ⟩;refine⟨aK,?_⟩;simp-implicitDefEqProofs(disch:=try exact al)only[kR,bg,br,c5,aL];have ag:=(wt.trans aP).trans aQ;have aa:=ag.aX c.aG c.hm o;have S:acc++flat (cH (done.map .r))++(pad 0++([[114,101,99,111,114,100,32],x.name,[32,123]].flatten++[10]))++flat (eI x.fields)++(pad 0++([[125]].flatten++[10]))=acc++flat (cH ((done++[x]).map .r)):=by
    rw[List.map_append,oA,c3,List.map_cons,List.map_nil,Hd,cH,cY,j8];simp[q5]
   rw[S]at T;have hlen:(flat (cH ((done++[x]).map eX.r))).length<=(flat (cH (done.map eX.r))).length+100000:=by
    have:=congrArg List.length S;simp only[List.length_append,List.flatten_cons,List.flatten_nil,List.length_cons,List.length_nil,j8]at this;omega
   exact BB ap o G av aw hw K es (j+1) k (done++[x]) m6 ai (by rw[d,List.append_assoc];rfl) (by rw[List.length_append,u];rfl) af (aa L _ G v).2 (λj a h=>by obtain⟨cs,q,s⟩:=A j a h;exact⟨cs,q,iC.aX aa s⟩) T af (w.trans ag)
  by_cases E:x.fields.length=0
  ·have aE:=List.length_eq_zero_iff.1 E;have an:¬((0:Int)<((0:Nat):Int)):=af;obtain⟨M,rfl⟩:∃M,N=M+1:=⟨N-1,af⟩;rw[E];simp-implicitDefEqProofs(disch:=try exact al)only[kU,oO,reduceAdd,reduceLeDiff,reduceIte,ax,an,decide_false];exact next m3 e (by rw[aE,eI,cY,List.append_nil];exact F) (cG.aM (.refl _))
  ·obtain⟨aS,i2,aT,a3,aU,rfl,ao,R,au⟩:=az.sd E;have aI:fF.esz=4:=rfl;rw[aI]at R;exact By (H0:=e) (m0:=m3) (n0:=n0) o ao af rfl aG.f (λj a h=>by obtain⟨cs,q,s⟩:=au j a h;rw[q,show cs=a.cells from s]) next x.fields 0 N [] m3 e rfl rfl af R (by rw[eI,cY,List.append_nil];exact F) (by simp only[List.length_append,List.flatten_cons,List.flatten_nil,List.length_cons,List.length_nil,j8,eI,cY];omega) (cG.aM (.refl _))
end
def IV{H:ad}{ok:Nat->Prop}{bD bK bG:aa}{g:dm}(G:dH iC H ok g.da bD)(R:dH fF H ok g.globals bK)(M:dH hL H ok g.funcs bG)(av:∀l,ok l->l<H.next)(V:e0.hC H)(hw:wZ g):W (aC P ay 10 [.agg [bD,bK,bG]] H) λv H'=>v= Y (flat (mW g))/\aO H H':=by
 refine cz (λ_=>Jn 1000) ?_;have bH:=G.one;have bX:=R.one;have cj:=M.one;have ap:∀l,dS l (.agg [bD,bK,bG])=D (.ptr l 0 0,.row U 3 [[bD,bK,bG]]):=λl=>hh l _ (by simp only[List.all_cons,List.all_nil,bH,bX,cj,Bool.and_self])
 have aq:∀l,n7 (D 81) l (.agg [.nilPtr,.ar])=D (.ptr l 0 0,.bU 81 2 [[.nilPtr,.ar]]):=λl=>rfl
 have pp:=(aO.push H (.row U 3 [[bD,bK,bG]])).bt (.bU 81 2 [[.nilPtr,.ar]]);have E:=(aO.push (H.push (.row U 3 [[bD,bK,bG]])) (.bU 81 2 [[.nilPtr,.ar]])).get (ad.bC H (.row U 3 [[bD,bK,bG]]));have F:=ad.bC (H.push (.row U 3 [[bD,bK,bG]])) (.bU 81 2 [[.nilPtr,.ar]]);have aw:(H.push (.row U 3 [[bD,bK,bG]])).next=H.next+1:=by simp
 have az:((H.push (.row U 3 [[bD,bK,bG]])).push (.bU 81 2 [[.nilPtr,.ar]])).next=H.next+2:=by simp
 have ae:=G.aX (df.aM pp);have S:=R.aX (df.aM pp);have O:=M.aX (df.aM pp);have ab:=V.aM pp;have aG:=ad.aR V.sT;rw[sh];have y:=λH'=>G.uU H'
 simp-implicitDefEqProofs(disch:=try exact al)only[reduceAdd,reduceLeDiff,reduceIte,ax,ap,aq,E,y];simp only[aw]at F;generalize (H.push (.row U 3 [[bD,bK,bG]])).push (.bU 81 2 [[.nilPtr,.ar]])=H1 at pp E F az ae S O ab ⊢;have z:∀l,ok l->l<H.next+1:=λl h=>by have:=av l h;omega
 have ag:eN (H.next+1) (H.next+1) (H.next+1) H1 []:=⟨af,bj _,bj _,af,⟨λh=>absurd rfl h,af,.nilPtr,.ar,F,.inl rfl,.inl ⟨rfl,rfl⟩⟩,ab⟩;have e:flat (mW g)=flat (cH (g.da.map .r))++flat (cH (g.globals.map .g))++flat (cH (g.funcs.map .f)):=by
  unfold mW;rw[oA,oA,c3,c3,List.append_assoc]
 have aF:=A8 _ hw.nb;have aE:=A7 _ hw.di;have aY:=hw.gn;have aI:=hw.mN;have aJ:=hw.ou;have o:cH []=[]:=rfl;have ah:∀m c,eN (H.next+1) (H.next+1) m c (flat (cH (g.da.map .r))++flat (cH (g.globals.map .g))++flat (cH (g.funcs.map .f)))->cG (H.next+1) (H.next+1) H1 m c->W (lN (aC P ay) 1000 (.ptr (H.next+1) 0 0) c) λv H'=>v= Y (flat (mW g))/\aO H H':=by
  intro m c q d;have aD:=A6 _ hw.cn;obtain⟨ak,ao,aH,e4⟩:=Mq q.iu (by simp only[List.length_append];omega);have aB:c.next<=ak.next:=af
  simp-implicitDefEqProofs(disch:=try exact al)only[lN,reduceAdd,reduceLeDiff,reduceIte,ax,ao,eK,aB];refine bb.2 ⟨by rw[e],by have:=pp.1;have:=d.next;omega,λl au=> ?_⟩;have:=q.hm;rw[e4 l af,d.2.2 l af af];exact pp.2 l au
 have ai:∀m c,eN (H.next+1) (H.next+1) m c (flat (cH (g.da.map .r))++flat (cH (g.globals.map .g)))->cG (H.next+1) (H.next+1) H1 m c->W (lM (aC P ay) 1000 (.ptr H.next 0 0) (.ptr (H.next+1) 0 0) c) λv H'=>v= Y (flat (mW g))/\aO H H':=by
  intro m c q d;have g2:=d.get E af af;have K:=d.aX (bj _) (bj _) z;have Q:=O.aX K;have y:=λH'=>Q.uV H'
  simp-implicitDefEqProofs(disch:=try exact al)only[lM,reduceAdd,reduceLeDiff,reduceIte,ax,g2,y];by_cases n:g.funcs.length=0
  ·have A:=List.length_eq_zero_iff.1 n;have s:¬((0:Int)<((0:Nat):Int)):=af;rw[n];simp-implicitDefEqProofs(disch:=try exact al)only[kS,oL,reduceAdd,reduceLeDiff,reduceIte,ax,s,decide_false];exact ah m c (by rw[A,List.map_nil,o,cY,List.append_nil];exact q) d
  ·obtain⟨L,i,cap,ro,els,rfl,x,p,u⟩:=Q.sd n;have B:hL.esz=7:=rfl;rw[B]at p;exact Bz (N:=1000) (H0:=H1) (m0:=H.next+1) z x af rfl hw.cn ah g.funcs 0 1000 [] m c rfl rfl af p u (by rw[List.map_nil,o,cY,List.append_nil];exact q) (by rw[List.map_nil,o,cY];simp only[List.length_append,List.length_nil];omega) d
 have aj:∀m c,eN (H.next+1) (H.next+1) m c (flat (cH (g.da.map .r)))->cG (H.next+1) (H.next+1) H1 m c->W (jI (aC P ay) 1000 (.ptr H.next 0 0) (.ptr (H.next+1) 0 0) c) λv H'=>v= Y (flat (mW g))/\aO H H':=by
  intro m c q d;have g2:=d.get E af af;have K:=d.aX (bj _) (bj _) z;have T:=S.aX K;have y:=λH'=>T.mM H'
  simp-implicitDefEqProofs(disch:=try exact al)only[jI,reduceAdd,reduceLeDiff,reduceIte,ax,g2,y];by_cases n:g.globals.length=0
  ·have A:=List.length_eq_zero_iff.1 n;have s:¬((0:Int)<((0:Nat):Int)):=af;rw[n];simp-implicitDefEqProofs(disch:=try exact al)only[kT,oM,reduceAdd,reduceLeDiff,reduceIte,ax,s,decide_false];exact ai m c (by rw[A,List.map_nil,o,cY,List.append_nil];exact q) d
  ·obtain⟨L,i,cap,ro,els,rfl,x,p,u⟩:=T.sd n;have B:fF.esz=4:=rfl;rw[B]at p;exact BA (N:=1000) (H0:=H1) (m0:=H.next+1) z x af rfl hw.di (λj a h=>by obtain⟨cs,am,an⟩:=u j a h;rw[am,show cs=a.cells from an]) ai g.globals 0 1000 [] m c rfl rfl af p (by rw[List.map_nil,o,cY,List.append_nil];exact q) (by rw[List.map_nil,o,cY];simp only[List.length_nil];omega) d
 by_cases n:g.da.length=0
 ·have A:=List.length_eq_zero_iff.1 n;have s:¬((0:Int)<((0:Nat):Int)):=af;rw[n];simp-implicitDefEqProofs(disch:=try exact al)only[kb,oN,reduceAdd,reduceLeDiff,reduceIte,ax,s,decide_false];exact aj _ H1 (by rw[A,List.map_nil,o,cY];exact ag) (cG.aM (.refl _))
 ·obtain⟨L,i,cap,ro,els,rfl,x,p,u⟩:=ae.sd n;have B:iC.esz=3:=rfl;rw[B]at p;exact BB (N:=1000) (H0:=H1) (m0:=H.next+1) (acc:=[]) af z x af rfl hw.nb (λm H k w=>aj m H (by rw[List.nil_append]at k;exact k) w) g.da 0 1000 [] _ H1 rfl rfl af p u (by rw[List.map_nil,o,cY];exact ag) (by rw[List.map_nil,o,cY];simp only[List.length_nil];omega) (cG.aM (.refl _))
def hG.append{B:Nat}{e:bE}(h:tq B e):∀{l:List bE},hG B l->hG B (l++[e])
 |[],_=>by rw[List.nil_append,hG,hG];exact⟨h,trivial⟩
 |x::xs,a=>by
  rw[hG]at a;rw[List.cons_append,hG];exact⟨a.1,hG.append h a.2⟩
section
variable {T:List Tok}
end
def M0{s:aK}(c:(dy s).2.1=0){q:dm×av}(n:gY (dy s).1 800000000 800000000 .none ⟨0,0,0,0⟩=D q)(p:q.2.aF=0):wZ q.1/\q.1.da.length<=12/\q.1.globals.length<=8/\q.1.funcs.length<=16:=by
 obtain⟨aE,v⟩:=qZ c;have B:=wi s;have z:s.length<=6000:=by
  unfold dy at c;split at c
  ·simp at c
  ·omega
 have hlen:(dy s).1.length<=6001:=af;have d:Good (dy s).1 ((dy s).1.length:Int):=⟨af,λa h=>(wh h).2.1,λt o=>D0 t o⟩;have i:mi (dy s).1:=FR af;obtain⟨G,A⟩:=oE d i 800000000 800000000 .none ⟨0,0,0,0⟩ q (λ_=>⟨by simp,by simp,by simp,by simp⟩) (λ_=>⟨(λx h=>by cases h),(λx h=>by cases h),(λx h=>by cases h),by simp[dm.none],by simp[dm.none],by simp[dm.none],by simp[dm.none,lf]⟩) n p;have hw:=G.w;have key:∀l:List Fn,∀x∈l,dv x.body<=lf l:=by
  intro l
  induction l with
  |nil=>intro x h;cases h
  |cons y r u=>
   intro x h;have e:lf (y::r)=dv y.body+lf r:=by simp[lf]
   rcases List.mem_cons.1 h with rfl|h
   ·omega
   ·have:=u x h;omega
 have m:=G.gn;have k:=G.mN;have j:=G.ou;exact⟨⟨G.nb,G.di,λx h=>⟨G.cn x h,by have:=key _ x h;omega⟩,af,af,af⟩,m,k,j⟩
structure kD where
 r:Nat
 g:Nat
 h:Nat
 l:List eX
section
variable (G:dm)(K:Nat->Int)
def kD.more(s:kD):Bool:=Nat.blt s.r G.da.length||(Nat.blt s.g G.globals.length||Nat.blt s.h G.funcs.length)
def kD.step(k:Int)(s:kD):kD:=
 if k=0/\s.r<G.da.length then {s with r:=s.r+1,l:=s.l++(G.da[s.r]?.map eX.r).toList}
 else if k=1/\s.g<G.globals.length then {s with g:=s.g+1,l:=s.l++(G.globals[s.g]?.map eX.g).toList}
 else if k=2/\s.h<G.funcs.length then {s with h:=s.h+1,l:=s.l++(G.funcs[s.h]?.map eX.f).toList}
 else s
def kD.rem(s:kD):Nat:=(G.da.length-s.r)+((G.globals.length-s.g)+(G.funcs.length-s.h))
def kD.has(s:kD)(c:Nat):Prop:=(c=0/\s.r<G.da.length)\/(c=1/\s.g<G.globals.length)\/(c=2/\s.h<G.funcs.length)
end
def eX.eh:eX->eX
 | .r x=> .r x.eh
 | .g x=> .g x.eh
 | .f x=> .f x.eh
section
set_option maxRecDepth 100000
noncomputable section
def nc(G:az)(ag aw z:aa)(H:ad):O:=cf H [I J 0,I J 0,Y [],Y [],I J 0,aa.ar,I J 0,I J 0,I J 0,I J 0,I J 0] λbo u=>cf u [I J 0,I J 0] λe h=>bg P .max [3,3] [z,I J 0] h λw=>j (ch P 59 [(0,ag),(1,aw),(2,w)]) λx=>bS h (dS (h).next x) λbx o=>aH o (G 40 [bx,I J 0] o) λy v=>cf v [I J 0,I J 0,Y [],Y [],I J 0,aa.ar,I J 0,I J 0,I J 0,I J 0,I J 0] λs p=>a7 p (aV P p 45 s y) λq=>aH q (G 21 [bx] q) λA c=>j (ff .not A) λB=>aW (D B) (a7 c (aV P c 45 bo (.agg [I J 0,I J 0,Y [],Y [],I J 0,aa.ar,I J 0,I J 0,I J 0,I J 0,I J 0])) λa=>j (bW bx) λE=>j (aI P 59 E 3) λk=>j (an P a 29 k) λl=>a7 a (aV P a 29 e l) λd=>bif ((bh (an P c 29 k) l&&(bh (an P a 29 k) l&&X))&&X)then(j (an P d 45 bo) λr=>j (an P d 29 e) λi=>D (.tuple [r,I J 0,i],d))else Z) (j (an P c 45 s) λF=>a7 c (aV P c 45 bo F) λa=>j (bW bx) λK=>j (aI P 59 K 1) λm=>j (an P a 3 m) λn=>a7 a (aV P a 29 e (.agg [I J 0,I J 0])) λd=>bif ((bh (an P c 3 m) n&&(bh (an P a 3 m) n&&X))&&X)then(j (an P d 45 bo) λr=>j (an P d 29 e) λi=>D (.tuple [r,n,i],d))else Z)
def Jq(N:Nat){ag aw a:aa}{H:ad}{r:aa×ad}(h:nc (aC P ay) ag aw a H=D r):aC P ay 15 [ag,aw,a] H=D r:=cO N (S:=λG=>nc G ag aw a H) Tryd.func15 (λ_=>by delta nc;kernel_rfl) h
end
end
def Gh(ao:aa)(c:ao.one=X)(a b:Int):ch P 59 [(0,ao),(1,I J a),(2,I J b)]=D (.agg [ao,I J a,I J b,I J 0,I J 0]):=by
 cases ao<;>first|(cases c;done)|kernel_rfl
def j9(e:aL)(s:av):aL×Int×Int×Int:=if s.aF=0 then(e,s.at_,0,0)else(.zero,0,s.aF,s.cS)
def E9{n:Nat}(O:n<=900000000){H:ad}{T:List Tok}{ao:aa}(B:eC H ao T){e:aL}{s':av}(h:dP T n 0 ⟨0,0,0,0⟩=D (e,s')):
  W (aC P ay 15 [ao,I J 0,I J 0] H) λv H'=>∃b6,v= .tuple [b6,I J (j9 e s').2.1,.agg [I J (j9 e s').2.2.1,I J (j9 e s').2.2.2]]/\cr H' (bf H.next) (j9 e s').1 b6/\aO H H':=by
 refine cz (λ_=>Jq 0) ?_;have z:=B.one;have E:=(aO.push H (.row U 11 [[I J 0,I J 0,Y [],Y [],I J 0,.ar,I J 0,I J 0,I J 0,I J 0,I J 0]])).bt (.row U 2 [[I J 0,I J 0]]);have K:=Gh ao z 0 0;have L:∀l,dS l (.agg [ao,I J 0,I J 0,I J 0,I J 0])=D (.ptr l 0 0,.row U 5 [[ao,I J 0,I J 0,I J 0,I J 0]]):=λl=>hh l _ (by simp only[List.all_cons,List.all_nil,gJ,z,Bool.and_self])
 simp-implicitDefEqProofs(disch:=try exact al)only[nc,reduceAdd,reduceLeDiff,reduceIte,ax,BM,Int.max_self,K,L];have ae:=ad.bC (H.push (.row U 11 [[I J 0,I J 0,Y [],Y [],I J 0,.ar,I J 0,I J 0,I J 0,I J 0,I J 0]])) (.row U 2 [[I J 0,I J 0]]);have y:((H.push (.row U 11 [[I J 0,I J 0,Y [],Y [],I J 0,.ar,I J 0,I J 0,I J 0,I J 0,I J 0]])).push (.row U 2 [[I J 0,I J 0]])).next=H.next+2:=by simp only[ad.bT]
 have w:((H.push (.row U 11 [[I J 0,I J 0,Y [],Y [],I J 0,.ar,I J 0,I J 0,I J 0,I J 0,I J 0]])).push (.row U 2 [[I J 0,I J 0]])).get H.next=D (.row U 11 [[I J 0,I J 0,Y [],Y [],I J 0,.ar,I J 0,I J 0,I J 0,I J 0,I J 0]]):=by simp-implicitDefEqProofs(disch:=try exact al)only[du]
 have x:((H.push (.row U 11 [[I J 0,I J 0,Y [],Y [],I J 0,.ar,I J 0,I J 0,I J 0,I J 0,I J 0]])).push (.row U 2 [[I J 0,I J 0]])).get (H.next+1)=D (.row U 2 [[I J 0,I J 0]]):=by simp-implicitDefEqProofs(disch:=try exact al)only[du]
 rw[<-y];generalize (H.push (.row U 11 [[I J 0,I J 0,Y [],Y [],I J 0,.ar,I J 0,I J 0,I J 0,I J 0,I J 0]])).push (.row U 2 [[I J 0,I J 0]])=c at E w x y ⊢;have q:=aO.push c (.row U 5 [[ao,I J 0,I J 0,I J 0,I J 0]]);have s:=E.trans q;have V:bI (c.push (.row U 5 [[ao,I J 0,I J 0,I J 0,I J 0]])) c.next T ao ⟨0,0,0,0⟩:=
  ⟨ad.bC _ _,B.aM s⟩
 refine aN ((tD n O n (bj _)).expr V 0 af e s' h) ?_;rintro v u ⟨m5,p,j⟩;refine⟨m5.1,?_⟩;have N:=m5.1;simp only[ad.bT]at N j;obtain⟨cs,rfl,hlen,A⟩:=j.cells;have R:List.take 11 cs=cs:=List.take_of_length_le af;simp-implicitDefEqProofs(disch:=try exact al)only[nc,reduceAdd,reduceLeDiff,reduceIte,ax,hlen,A,List.append_nil];have F:=aO.push u (.row U 11 [cs]);refine aN (jH (p.rd.aM F)) ?_;rintro _ ab ⟨rfl,rfl⟩;refine⟨bj _,?_⟩;have m:=p.rd.aM F;unfold bw at m;have o:=p.rd;unfold bw at o;have d:=m5.get (q.get w) af;have i:=m5.get (q.get x) af;have ag:=ad.aR d;have ah:=ad.aR i;have G:aO H u:=⟨by have:=s.1;simp only[ad.bT]at this;omega,λl M=>by rw[m5.2 l (by simp only[ad.bT];omega) af];exact s.2 l M⟩
 by_cases a:s'.aF=0
 ·have k:(s'.aF==0)=true:=by simpa using a
  rw[show j9 e s'=(e,s'.at_,0,0) by simp[j9,a]];simp-implicitDefEqProofs(disch:=try exact al)only[nc,reduceAdd,reduceLeDiff,reduceIte,ax,k,Bool.not_true,Bool.not_false,m,o,d,i,hlen,A,List.append_nil,R,Bool.and_true];refine bb.2 ⟨_,rfl,?_,?_⟩
  ·exact j.new (cP.cv (S:=λl=>l<_) (cP.cv (S:=λl=>l<_) ((cP.refl _ _).bt _) (.inl af) _) (.inl af) _) λl h=>by unfold bf;omega
  ·exact((G.bt _).cv (bj _) _).cv af _
 ·have k:(s'.aF==0)=false:=by simpa using a
  rw[show j9 e s'=(.zero,0,s'.aF,s'.cS) by simp[j9,a]];have Q:bh (D (.agg [I J s'.aF,I J s'.cS])) (.agg [I J s'.aF,I J s'.cS])=true:=by simp[bh,aa.beq,fY.beq]
  simp-implicitDefEqProofs(disch:=try exact al)only[nc,reduceAdd,reduceLeDiff,reduceIte,ax,k,Bool.not_true,Bool.not_false,m,o,d,i,Q,Bool.and_true];refine bb.2 ⟨_,rfl,cr.leaf _ _ {kind:=0},?_⟩;exact((G.bt _).cv (bj _) _).cv af _
def GS{s:aK}(a:(dy s).2.1=0){p:aL×av}(h:dP (dy s).1 800000000 0 ⟨0,0,0,0⟩=D p)(e:p.2.aF=0):∃d,d<=50/\cm d 0 p.1/\cF p.1<=1000000000:=by
 obtain⟨aE,i⟩:=qZ a;have m:=aE.n;have l:=wi s;have j:s.length<=6000:=by
  unfold dy at a;split at a
  ·simp at a
  ·omega
 obtain⟨f,g,d,c,hw⟩:=(vs aE.g 800000000).expr 0 ⟨0,0,0,0⟩ p af (λ_=>⟨Int.le_refl 0,(show(0:Int)<=_ by omega),Int.le_refl 0,cu⟩) h e;have k:=f.b;simp only at g c;exact⟨d,af,hw.low af,af⟩
section
set_option maxRecDepth 100000
noncomputable section
def si(G:az)(H:ad):O:=aH H (G 9 [Y [102,117,110,99,32,109,97,105,110,40,41,123,105,102,32,49,60,50,123,112,114,105,110,116,40,49,43,50,41,42,51,59,125,125]] H) λi k=>j (eg i 0) λx=>j (eg i 1) λbo=>cf k [aa.ar,aa.ar,aa.ar] λaw l=>cf l [I J 0,I J 0] λw e=>a7 e (aV P e 26 aw x) λh=>a7 h (aV P h 29 w bo) λc=>j (an P c 26 aw) λy=>aH c (G 10 [y] c) λz m=>j (aq P .eql 9 X z (Y [102,117,110,99,32,109,97,105,110,40,41,32,123,10,32,32,105,102,32,49,32,60,32,50,32,123,10,32,32,32,32,112,114,105,110,116,32,40,49,32,43,32,50,41,32,42,32,51,59,10,32,32,125,10,125,10])) λa=>aQ a X m (ca (.agg [Y [105,110,116],I J 2])) λp d=>aQ a X d (λq=>eL d (G 20 [p] d) q) λs n=>aQ a X n (bz (aq P .eql 9 X s (Y [91,91,105,110,116,93,93]))) λu o=>j (cD a (D u) (D (.bool U))) λv=>D (v,o)
def Jo(N:Nat){H:ad}{r:aa×ad}(h:si (aC P ay) H=D r):aC P ay 12 [] H=D r:=cO N (S:=λG=>si G H) Tryd.func12 (λ_=>by delta si;kernel_rfl) h
end
end
def rK:aK:=[102,117,110,99,32,109,97,105,110,40,41,123,105,102,32,49,60,50,123,112,114,105,110,116,40,49,43,50,41,42,51,59,125,125]
def rL:aK:=[102,117,110,99,32,109,97,105,110,40,41,32,123,10,32,32,105,102,32,49,32,60,32,50,32,123,10,32,32,32,32,112,114,105,110,116,32,40,49,32,43,32,50,41,32,42,32,51,59,10,32,32,125,10,125,10]
def AT:Bool:=(dy rK).2.1==0&&(match gY (dy rK).1 800000000 800000000 .none ⟨0,0,0,0⟩with
 |some (g,s)=>s.aF==0&&flat (mW g)==rL
 |none=>U)
set_option maxRecDepth 100000 in
def HT:AT=true:=by decide+kernel
def MA:flat (cX [105,110,116] 2)=[91,91,105,110,116,93,93]:=by decide+kernel
def df.lt{H:ad}{ok:Nat->Prop}:df H ok H (· <H.next):=λ_ _ _ g=>⟨ad.aR g,g⟩
def HU{H:ad}(x:e0.hC H):W (aC P ay 12 [] H) λv H'=>v= .bool X/\aO H H':=by
 refine cz (λ_=>Jo 0) ?_;have a:=HT;unfold AT at a;simp only[Bool.and_eq_true,beq_iff_eq]at a;obtain⟨l,a⟩:=a;split at a
 ·rename_i g s aG;simp only[Bool.and_eq_true,beq_iff_eq]at a;obtain⟨k,w⟩:=a;obtain⟨hw,-⟩:=M0 l aG k;rw[si];refine aN (IZ rK (M:=800000000) (n:=800000000) (bj _) (bj _) (λ_=>aG)) ?_;rintro _ H1 ⟨bD,bK,bG,rfl,d,e,i,m⟩;refine⟨m.1,?_⟩;have b6:r9 rK g s=(g,0,0):=by unfold r9 vu;rw[if_pos l,if_pos k]
  rw[b6]at d e i ⊢;simp only at d e i ⊢;have bH:=d.one;have bX:=e.one;have cj:=i.one;have c:=(aO.push H1 (.row U 3 [[bD,bK,bG]])).bt (.row U 2 [[I J 0,I J 0]]);simp-implicitDefEqProofs(disch:=try exact al)only[reduceAdd,reduceLeDiff,reduceIte,ax,ad.hr,bH,bX,cj];generalize (H1.push (.row U 3 [[bD,bK,bG]])).push (.row U 2 [[I J 0,I J 0]])=y at c ⊢;have q:=m.trans c;refine aN (IV ((d.aX (df.aM c)).aX df.lt) ((e.aX (df.aM c)).aX df.lt) ((i.aX (df.aM c)).aX df.lt) (λ_ h=>h) (x.aM q) hw) ?_;rintro _ z ⟨rfl,o⟩;refine⟨o.1,?_⟩;rw[w];have j:(rL==rL)=true:=by simp
  unfold rL at j ⊢;simp-implicitDefEqProofs(disch:=try exact al)only[bg,br,c5,j];refine iP (type20 cu cu cu) ?_;rintro _ A ⟨rfl,p⟩;refine⟨p.1,?_⟩;rw[MA];have u:(([91,91,105,110,116,93,93]:aK)==[91,91,105,110,116,93,93])=true:=cu;simp-implicitDefEqProofs(disch:=try exact al)only[bg,br,c5,u];exact bb.2 ⟨rfl,(q.trans o).trans p⟩
 ·cases a
section
set_option maxRecDepth 100000
noncomputable section
def e4(G:az)(ag:aa)(H:ad):O:=aH H (G 9 [ag] H) λy z=>j (eg y 0) λM=>j (eg y 1) λN=>cf z [aa.ar,aa.ar,aa.ar] λc A=>cf A [I J 0,I J 0] λx m=>a7 m (aV P m 26 c M) λn=>a7 n (aV P n 29 x N) λo=>bg P .len [9] [ag] o λE=>j (aq P .gtr 3 X E (I J 4000)) λh=>aQ h U o (bz (aI P 29 x 0)) λF p=>aQ h U p (qr (an P p 27 F)) λK B=>aQ h U B (bz (aq P .neq 27 X K (I J 0))) λbx a=>j (cD h (D (.bool X)) (D bx)) λL=>aW (D L) (D ((.bool X),a)) (j (an P a 26 c) λs=>aH a (G 10 [s] a) λu e=>j (an P e 26 c) λv=>aH e (G 11 [v] e) λw d=>j (aq P .eql 9 U u w) λi=>eZ i X (λq=>eL d (G 12 [] d) q) λk=>j (cD i (D k.val) (D (.bool U))) λl=>bif ly [0,1,0,7,15,31,63,127,255] [0,1,3,4,5,6,7,8] [⟨0,.read s,λH=>an P H 26 c⟩,⟨1,.dL u e,λH=>Z⟩,⟨2,.read v,λH=>an P H 26 c⟩,⟨3,.dL w d,λH=>Z⟩,⟨4,.pure i,λH=>Z⟩,⟨5,.pure i,λH=>Z⟩,⟨6,k,λH=>Z⟩,⟨7,.pure l,λH=>Z⟩,⟨8,.pure l,λH=>Z⟩] a then(D (l,(k.heap d)))else Z)
end
end
def dH.beq{α:Type}{K:hD α}{H:ad}{ok:Nat->Prop}{l:List α}{v:aa}(h:dH K H ok l v):aa.beq v v=true:=by
 rcases h with⟨rfl,_⟩|⟨L,i,cap,ro,els,rfl,_⟩|⟨L,i,cap,rfl,_⟩<;>simp[aa.beq]
section
set_option maxRecDepth 100000
noncomputable section
def sM(G:az)(ag:aa)(H:ad):O:=aH H (G 14 [ag] H) λR ah=>j (eg R 0) λbx=>j (eg R 1) λaD=>cf ah [I J 0,I J 0] λT w=>a7 w (aV P w 29 T aD) λE=>bg P .len [9] [ag] E λaE=>j (aq P .gtr 3 X aE (I J 200)) λh=>aQ h U E (bz (aI P 29 T 0)) λaF L=>aQ h U L (qr (an P L 27 aF)) λaG ay=>aQ h U ay (bz (aq P .neq 27 X aG (I J 0))) λaJ l=>j (cD h (D (.bool X)) (D aJ)) λaK=>aW (D aK) (D ((.bool X),l)) (aH l (G 19 [bx,I J 0] l) λm aB=>j (eg m 0) λaL=>j (eg m 1) λaM=>j (eg m 2) λaN=>cf aB [Y [],I J 0] λn aC=>cf aC [I J 0,I J 0] λaf M=>a7 M (aV P M 40 n aL) λp=>a7 p (aV P p 29 af aN) λs=>j (aI P 29 af 0) λaO=>j (an P s 27 aO) λaP=>j (aq P .neq 27 X aP (I J 0)) λa=>aQ a U s (ca aM) λaR ai=>aQ a U ai (ca bx) λS u=>aQ a U u (λq=>gj (bZ P .empty .len [36] [S]) (bZ P u .len [36] [S]) q) λaS aj=>aQ a U aj (bz (aq P .sub 3 X aS (I J 1))) λaT ak=>aQ a U ak (bz (aq P .neq 3 U aR aT)) λaU d=>j (cD a (D (.bool X)) (D aU)) λaX=>aW (D aX) (aH d (G 12 [] d) λaY e=>D (aY,e)) (j (an P d 40 n) λaZ=>aH d (G 20 [aZ] d) λa0 e=>aH e (G 14 [a0] e) λV al=>j (eg V 0) λW=>j (eg V 1) λa1=>cf al [I J 0,I J 0] λbh v=>a7 v (aV P v 29 bh a1) λx=>aH x (G 19 [W,I J 0] x) λo am=>j (eg o 0) λa2=>j (eg o 1) λa3=>j (eg o 2) λa4=>cf am [Y [],I J 0] λN ao=>cf ao [I J 0,I J 0] λQ y=>a7 y (aV P y 40 N a2) λz=>a7 z (aV P z 29 Q a4) λA=>j (aI P 29 Q 0) λa5=>j (an P A 27 a5) λa6=>j (aq P .eql 27 X a6 (I J 0)) λc=>aQ c X A (ca a3) λa8 ap=>aQ c X ap (ca W) λab B=>aQ c X B (λq=>gj (bZ P .empty .len [36] [ab]) (bZ P B .len [36] [ab]) q) λa9 au=>aQ c X au (bz (aq P .sub 3 X a9 (I J 1))) λa_ av=>aQ c X av (bz (aq P .eql 3 U a8 a_)) λba F=>j (cD c (D ba) (D (.bool U))) λi=>aQ i X F (qr (an P F 40 N)) λbb K=>aQ i X K (qr (an P K 40 n)) λbc aw=>aQ i X aw (bz (aq P .eql 40 U bb bc)) λbd k=>j (cD i (D bd) (D (.bool U))) λae=>aQ ae X k (λq=>eL k (G 12 [] k) q) λbe ax=>j (cD ae (D be) (D (.bool U))) λbf=>D (bf,ax)))
end
end
def eC.H8{H:ad}{ao:aa}{T:List Tok}(h:eC H ao T)(H':ad):bZ P H' .len [36] [ao]=D (I J T.length):=by
 rcases h with⟨rfl,rfl⟩|⟨l,i,cap,rfl,_⟩
 ·exact rT
 ·exact qe
section
set_option maxRecDepth 100000
noncomputable section
def sO(G:az)(ag:aa)(H:ad):O:=bS H (D (.aA (H).next 0 15 1 (D 15),.row U 1 [[Y [45,40,97,32,43,32,98,41]],[Y [45,97,32,43,32,98]],[Y [33,40,97,32,38,38,32,98,41]],[Y [33,33,97]],[Y [45,45,97]],[Y [40,45,97,41,46,102]],[Y [45,97,46,102]],[Y [40,97,32,43,32,98,41,91,49,93]],[Y [110,101,119,32,82,46,102]],[Y [40,110,101,119,32,91,105,110,116,93,40,51,41,41,91,48,93]],[Y [40,110,117,108,108,32,82,41,46,102]],[Y [45,40,45,40,97,41,41]],[Y [102,40,40,97,41,44,32,40,98,32,43,32,99,41,41]],[Y [97,32,45,32,40,98,32,45,32,99,41]],[Y [40,97,32,45,32,98,41,32,45,32,99]]])) λS K=>bS K (D (.aA (K).next 0 15 1 (D 15),.row U 1 [[Y [45,40,97,32,43,32,98,41]],[Y [45,97,32,43,32,98]],[Y [33,40,97,32,38,38,32,98,41]],[Y [33,33,97]],[Y [45,45,97]],[Y [40,45,97,41,46,102]],[Y [45,97,46,102]],[Y [40,97,32,43,32,98,41,91,49,93]],[Y [110,101,119,32,82,46,102]],[Y [110,101,119,32,91,105,110,116,93,40,51,41,91,48,93]],[Y [110,117,108,108,32,82,46,102]],[Y [45,45,97]],[Y [102,40,97,44,32,98,32,43,32,99,41]],[Y [97,32,45,32,40,98,32,45,32,99,41]],[Y [97,32,45,32,98,32,45,32,99]]])) λal ah=>j (aq P .lss 3 X ag (I J 0)) λw=>aQ w U ah (ca ag) λam ai=>aQ w U ai (ca S) λbx N=>aQ w U N (λq=>gj (bZ P .empty .len [50] [bx]) (bZ P N .len [50] [bx]) q) λao aj=>aQ w U aj (bz (aq P .geq 3 U am ao)) λap x=>j (cD w (D (.bool X)) (D ap)) λau=>aW (D au) (D ((.bool X),x)) (j (cB P 50 S ag) λav=>j (an P x 9 av) λaw=>aH x (G 14 [aw] x) λT ak=>j (eg T 0) λV=>j (eg T 1) λax=>cf ak [I J 0,I J 0] λbo Q=>a7 Q (aV P Q 29 bo ax) λR=>aH R (G 15 [V,I J 0,I J 0] R) λA ae=>j (eg A 0) λay=>j (eg A 1) λaB=>j (eg A 2) λaC=>cf ae [I J 0,I J 0,Y [],Y [],I J 0,aa.ar,I J 0,I J 0,I J 0,I J 0,I J 0] λF af=>cf af [I J 0,I J 0] λab L=>a7 L (aV P L 45 F ay) λM=>a7 M (aV P M 29 ab aC) λc=>j (aI P 29 ab 0) λB=>j (an P c 27 B) λW=>j (aq P .eql 27 X W (I J 0)) λm=>eZ m X (ca aB) λd=>eZ m X (ca V) λa=>eZ m X (λq=>gj (bZ P .empty .len [36] [a.val]) (bZ P (a.heap (d.heap c)) .len [36] [a.val]) q) λh=>eZ m X (bz (aq P .sub 3 X h.val (I J 1))) λi=>eZ m X (bz (aq P .eql 3 U d.val i.val)) λk=>j (cD m (D k.val) (D (.bool U))) λe=>eZ e X (qr (an P (k.heap (i.heap (h.heap (a.heap (d.heap c))))) 45 F)) λl=>eZ e X (λq=>eL (l.heap (k.heap (i.heap (h.heap (a.heap (d.heap c)))))) (G 16 [l.val] (l.heap (k.heap (i.heap (h.heap (a.heap (d.heap c))))))) q) λo=>eZ e X (ca al) λp=>eZ e X (ca ag) λs=>eZ e X (bz (cB P 50 p.val s.val)) λn=>eZ e X (qr (an P (n.heap (s.heap (p.heap (o.heap (l.heap (k.heap (i.heap (h.heap (a.heap (d.heap c)))))))))) 9 n.val)) λu=>eZ e X (bz (aq P .eql 9 U o.val u.val)) λv=>j (cD e (D v.val) (D (.bool U))) λy=>eZ y X (λq=>eL (v.heap (u.heap (n.heap (s.heap (p.heap (o.heap (l.heap (k.heap (i.heap (h.heap (a.heap (d.heap c)))))))))))) (G 12 [] (v.heap (u.heap (n.heap (s.heap (p.heap (o.heap (l.heap (k.heap (i.heap (h.heap (a.heap (d.heap c))))))))))))) q) λz=>j (cD y (D z.val) (D (.bool U))) λE=>bif ly [0,1,3,7,15,15,47,111,255,511,1023,2047,4095,2047,2047,26623,59391,131071,262143,524287,1048575,2097151,4194303] [0,1,2,3,4,5,6,7,8,9,10,11,12,17,18,19,20,21,22] [⟨0,.pure B,λH=>Z⟩,⟨1,.read W,λH=>an P H 27 B⟩,⟨2,.pure m,λH=>Z⟩,⟨3,.pure m,λH=>Z⟩,⟨4,d,λH=>Z⟩,⟨5,a,λH=>Z⟩,⟨6,h,λH=>bZ P H .len [36] [a.val]⟩,⟨7,i,λH=>Z⟩,⟨8,k,λH=>Z⟩,⟨9,.pure e,λH=>Z⟩,⟨10,.pure e,λH=>Z⟩,⟨11,l,λH=>an P H 45 F⟩,⟨12,o,λH=>Z⟩,⟨13,p,λH=>Z⟩,⟨14,s,λH=>Z⟩,⟨15,n,λH=>Z⟩,⟨16,u,λH=>an P H 9 n.val⟩,⟨17,v,λH=>Z⟩,⟨18,.pure y,λH=>Z⟩,⟨19,.pure y,λH=>Z⟩,⟨20,z,λH=>Z⟩,⟨21,.pure E,λH=>Z⟩,⟨22,.pure E,λH=>Z⟩] c then(D (E,(z.heap (v.heap (u.heap (n.heap (s.heap (p.heap (o.heap (l.heap (k.heap (i.heap (h.heap (a.heap (d.heap c)))))))))))))))else Z)
def LQ(G:az)(N:Nat)(ag:aa)(H:ad):rp Tryd.f8 G N (kF [ag]) H=sO G ag H:=by
 refine dN (A:=rp Tryd.f8 G N) (aJ _) ?_;delta sO;kernel_rfl
end
end
def get_map{α:Type}{l:List α}{f:α->List aa}{k:Nat}{d:α}(h:k<l.length):(l.map f)[k]? =D (f (l[k]?.getD d)):=by
 rw[List.getElem?_map];simp[h]
def ma:List aK:=[[45,40,97,32,43,32,98,41],[45,97,32,43,32,98],[33,40,97,32,38,38,32,98,41],[33,33,97],[45,45,97],[40,45,97,41,46,102],[45,97,46,102],[40,97,32,43,32,98,41,91,49,93],[110,101,119,32,82,46,102],[40,110,101,119,32,91,105,110,116,93,40,51,41,41,91,48,93],[40,110,117,108,108,32,82,41,46,102],[45,40,45,40,97,41,41],[102,40,40,97,41,44,32,40,98,32,43,32,99,41,41],[97,32,45,32,40,98,32,45,32,99,41],[40,97,32,45,32,98,41,32,45,32,99]]
def mb:List aK:=[[45,40,97,32,43,32,98,41],[45,97,32,43,32,98],[33,40,97,32,38,38,32,98,41],[33,33,97],[45,45,97],[40,45,97,41,46,102],[45,97,46,102],[40,97,32,43,32,98,41,91,49,93],[110,101,119,32,82,46,102],[110,101,119,32,91,105,110,116,93,40,51,41,91,48,93],[110,117,108,108,32,82,46,102],[45,45,97],[102,40,97,44,32,98,32,43,32,99,41],[97,32,45,32,40,98,32,45,32,99,41],[97,32,45,32,98,32,45,32,99]]
def vU(ds w:aK):Bool:=(dy ds).2.1==0&&(match dP (dy ds).1 800000000 0 ⟨0,0,0,0⟩with
 |some (e,s)=>s.aF==0&&(s.at_==((dy ds).1.length:Int)-1&&flat (bn e)==w)
 |none=>U)
set_option maxRecDepth 100000 in
def L3:(List.range 15).all (λk=>vU (ma[k]?.getD []) (mb[k]?.getD []))=true:=by decide+kernel
def IP{e:aL}{s:av}(h:s.aF=0):j9 e s=(e,s.at_,0,0):=by unfold j9;rw[if_pos h]
def L2{ds w:aK}(h:vU ds w=X):(dy ds).2.1=0/\∃e s,dP (dy ds).1 800000000 0 ⟨0,0,0,0⟩=D (e,s)/\s.aF=0/\s.at_=((dy ds).1.length:Int)-1/\flat (bn e)=w:=by
 unfold vU at h;simp only[Bool.and_eq_true,beq_iff_eq]at h;obtain⟨a,h⟩:=h;split at h
 ·rename_i e s aG;simp only[Bool.and_eq_true,beq_iff_eq]at h;exact⟨a,e,s,aG,h.1,h.2.1,h.2.2⟩
 ·cases h
def L8{H:ad}(ak:e0.hC H)(i:Int):W (sO (aC P ay) (I J i) H) λv H'=>v= .bool X/\aO H H':=by
 rw[sO];have aI:([[aa.str [45,40,97,32,43,32,98,41]],[aa.str [45,97,32,43,32,98]],[aa.str [33,40,97,32,38,38,32,98,41]],[aa.str [33,33,97]],[aa.str [45,45,97]],[aa.str [40,45,97,41,46,102]],[aa.str [45,97,46,102]],[aa.str [40,97,32,43,32,98,41,91,49,93]],[aa.str [110,101,119,32,82,46,102]],[aa.str [40,110,101,119,32,91,105,110,116,93,40,51,41,41,91,48,93]],[aa.str [40,110,117,108,108,32,82,41,46,102]],[aa.str [45,40,45,40,97,41,41]],[aa.str [102,40,40,97,41,44,32,40,98,32,43,32,99,41,41]],[aa.str [97,32,45,32,40,98,32,45,32,99,41]],[aa.str [40,97,32,45,32,98,41,32,45,32,99]]]:List (List aa))=ma.map λt=>[Y t]:=rfl
 have aJ:([[aa.str [45,40,97,32,43,32,98,41]],[aa.str [45,97,32,43,32,98]],[aa.str [33,40,97,32,38,38,32,98,41]],[aa.str [33,33,97]],[aa.str [45,45,97]],[aa.str [40,45,97,41,46,102]],[aa.str [45,97,46,102]],[aa.str [40,97,32,43,32,98,41,91,49,93]],[aa.str [110,101,119,32,82,46,102]],[aa.str [110,101,119,32,91,105,110,116,93,40,51,41,91,48,93]],[aa.str [110,117,108,108,32,82,46,102]],[aa.str [45,45,97]],[aa.str [102,40,97,44,32,98,32,43,32,99,41]],[aa.str [97,32,45,32,40,98,32,45,32,99,41]],[aa.str [97,32,45,32,98,32,45,32,99]]]:List (List aa))=mb.map λt=>[Y t]:=rfl
 rw[aI,aJ];have j:=(aO.push H (.row U 1 (ma.map λt=>[aa.str t]))).bt (.row U 1 (mb.map λt=>[aa.str t]));by_cases A:i<0
 ·simp-implicitDefEqProofs(disch:=try exact al)only[bg,br,c5,A,decide_true];exact bb.2 ⟨rfl,j⟩
 have aD:((15:Nat):Int)=15:=rfl;by_cases ab:15<=i
 ·simp-implicitDefEqProofs(disch:=try exact al)only[reduceAdd,reduceLeDiff,reduceIte,ax,A,ab,aD,decide_true,decide_false];exact bb.2 ⟨rfl,j⟩
 obtain⟨k,rfl⟩:∃k:Nat,i=k:=⟨i.toNat,af⟩;have m:k<15:=af;have a1:(0:Int)<=(k:Int):=af;have a2:(k:Int)<((15:Nat):Int):=af;have am:((k:Int)).toNat=k:=af;have B:(ma.map λt=>[aa.str t])[k]? =D [Y (ma[k]?.getD [])]:=get_map (by simpa [ma]using m);have p:(mb.map λt=>[aa.str t])[k]? =D [Y (mb[k]?.getD [])]:=get_map (by simpa [mb]using m);have G:=List.all_eq_true.1 L3 k (List.mem_range.2 m);generalize (ma.map λt=>[aa.str t])=V at B j;generalize (mb.map λt=>[aa.str t])=o at p j;generalize ma[k]?.getD []=ds at B G;generalize mb[k]?.getD []=w at p G;obtain⟨h,b,st,aG,av,F,hw⟩:=L2 G;obtain⟨d,a3,au,aq⟩:=GS h aG av
 have ai:=(qZ h).2;have aj:=(qZ h).1.n;have Q:((H.push (.row U 1 V)).push (.row U 1 o)).get (H.next+1)=D (.row U 1 o):=by simp-implicitDefEqProofs(disch:=try exact al)only[du]
 simp-implicitDefEqProofs(disch:=try exact al)only[reduceAdd,reduceLeDiff,reduceIte,ax,A,ab,aD,decide_false,am,B];generalize (H.push (.row U 1 V)).push (.row U 1 o)=H0 at j Q ⊢;refine aN (wY ds) ?_;rintro _ H1 ⟨ao,rfl,K,M⟩;refine⟨M.1,?_⟩;generalize dy ds=x at K h aG F ai aj ⊢;obtain⟨T,e,f⟩:=x;simp only at K h aG F ai aj ⊢;subst h;have a4:=ad.aR Q;have aT:=M.get Q;have s:=aO.push H1 (.row U 2 [[I J 0,I J f]]);have aB:=s.get aT;simp-implicitDefEqProofs(disch:=try exact al)only[reduceAdd,reduceLeDiff,reduceIte,ax,ad.hr];generalize H1.push (.row U 2 [[I J 0,I J f]])=aX at s aB ⊢
 have aQ:=(j.trans M).trans s;have ap:=K.aM s;refine aN (E9 cu ap aG) ?_;rw[IP av];rintro _ l ⟨a5,rfl,he,N⟩;refine⟨N.1,?_⟩;simp only at he au aq hw ⊢;have aS:=aQ.trans N;have aU:=N.get aB;obtain⟨a,ks⟩:=b;obtain⟨kv,rfl,m⟩:=gQ.1 he;obtain⟨cs,q,ae,ag⟩:=he.cells;have q:=aa.agg.inj q;have aP:List.take 11 cs=cs:=List.take_of_length_le af;rw[q]at he ⊢;have u:=(aO.push l (.row U 11 [cs])).bt (.row U 2 [[I J 0,I J 0]]);have gc:=(aO.push (l.push (.row U 11 [cs])) (.row U 2 [[I J 0,I J 0]])).get (ad.bC l (.row U 11 [cs]));have E:=ad.bC (l.push (.row U 11 [cs])) (.row U 2 [[I J 0,I J 0]])
 simp only[ad.bT]at E;have R:=u.get aU;have hm:=λH'=>ap.H8 H'
 have aW:IntKind.i64.wrap ((T.length:Int)-1)=(T.length:Int)-1:=wrap_i64 af af;have aF:((0:Int)==0)=true:=rfl;have aH:(st.at_==(T.length:Int)-1)=true:=by rw[F];simp
 simp-implicitDefEqProofs(disch:=try exact al)only[reduceAdd,reduceLeDiff,reduceIte,ax,ad.hr,ae,ag,List.append_nil];generalize (l.push (.row U 11 [cs])).push (.row U 2 [[I J 0,I J 0]])=aE at u gc E R ⊢;have aw:=aS.trans u;simp-implicitDefEqProofs(disch:=try exact al)only[reduceAdd,reduceLeDiff,reduceIte,ax,gc,E,aF,aH,hm,aW,aP,ae,ag,EY,EU,EX,EV,EW];rw[<-q];refine iP (bx _ d 0 au aq a ks rfl aE _ kv (m.aM u) (ak.aM aw)) ?_;rintro _ aY ⟨rfl,y⟩;refine⟨y.1,?_⟩;have az:=aw.trans y;have S:=y.get R;have a0:=y.get gc;rw[hw];have aK:(w==w)=true:=by simp
 have w0:IntKind.i64.wrap ((0:Int)+0)=0:=rfl;simp-implicitDefEqProofs(disch:=try exact al)only[reduceAdd,reduceLeDiff,reduceIte,ax,S,am,p,aK,EY,EU,EX,EV,EW];refine iP (HU (ak.aM az)) ?_;rintro _ aZ ⟨rfl,O⟩;refine⟨O.1,?_⟩;have aV:=O.get S;have L:∀z:ad,z.get (H.next+1)=D (.row U 1 o)->bh (an P z 9 (.ptr (H.next+1) k 0)) (Y w)=true:=λz aL=>by
  simp-implicitDefEqProofs(disch:=try exact al)only[an,cy,Nat.reduceAdd,Nat.reduceLeDiff,reduceIte,aa.cells,cE,dz,aL,p];exact vy _
 simp-implicitDefEqProofs(disch:=try exact al)only[bg,br];refine Fg (GJ ah ?_) ?_
 ·simp only[q7,mc,te,tf,td,List.forall_mem_cons];refine⟨λ_ _=> .inl rfl,λ_ _=> .inl rfl,λ_ _=> .inl rfl,λ_ _=> .inl rfl,λ_ _=> .inl rfl,λ_ _=> .inl rfl,λ_ _=> .inl rfl,λ_ _=> .inl rfl,λ_ _=> .inl rfl,λ_ _=> .inl rfl,λ_ _=> .inl rfl,λ_ _=> .inl rfl,λ_ _=> .inl rfl,λ_ c=>(by cases c),λ_ c=>(by cases c),λ_ c=>(by cases c),λv c=> .inr ?_,λ_ _=> .inl rfl,λ_ _=> .inl rfl,λ_ _=> .inl rfl,λ_ _=> .inl rfl,λ_ _=> .inl rfl,λ_ _=> .inl rfl,trivial⟩;cases c;simp[tg,L _ R,L _ S,L _ aV]
 ·exact bb.2 ⟨rfl,az.trans O⟩
