/-
  Texts of one proof, laid together: Vm Rx Sa Sb Sc Sd Sk Ql Se Ec Ed Sf Wg Vn ShPd Y9 Vp ShLg Ka ShLa Kb ShLe Kd ShLf Kf.
-/
import Derived.Test.YtghmbpmaafnodaaDoorMT
set_option linter.unusedVariables false
set_option linter.unusedSimpArgs false
set_option linter.defProp false
open Option renaming some→D,none→Z
open Bool renaming true→X,false→U
open Go.b9.aa renaming int→I,str→Y
open Go.IntKind renaming i64→J
namespace Go.Proofs.YtghmbpmaafnodaaDoor
open Go.b9
open Nat (reduceAdd reduceLeDiff)
def dH.sc{α:Type}{K:hC α}{H:ae}{ok:Nat->Prop}{l:List α}{v:aa}(h:dH K H ok l v)(c:¬l.length=0):∃L i cap ro els,v= .aA L i l.length K.esz (Option.map (· +l.length) cap)/\ok L/\H.get L=D (.row ro K.esz els)/\∀(j:Nat) (a:α),l[j]? =D a->∃cs,els[i+j]? =D cs/\K.V H ok a cs:=by
 rcases h with⟨_,rfl⟩|⟨L,i,cap,ro,els,d,e,k,m⟩|⟨_,_,_,_,rfl⟩
 ·simp at c
 ·exact⟨L,i,cap,ro,els,d,e,k,m⟩
 ·simp at c
def A8:∀l:List Fn,(∀x∈l,nR x/\du x.body<=1000000000)->(flat (cG (l.map eY.f))).length<=2000000000*l.length
 |[],_=>by simp[cG,cY]
 |x::r,h=>by
  have u:=A8 r λy i=>h y (List.mem_cons_of_mem _ i)
  obtain⟨aG,k⟩:=h x (List.mem_cons_self ..);have s:=eM aG.n;have o:=rL x.params aG.p;have j:=aG.l;obtain⟨d,a,e⟩:=aG.b;have m:=p8 (deep:=1) e af;have q:(h7 x).length<=30:=by
   unfold h7;rcases aG.r with⟨a,c⟩|⟨a,_⟩
   ·have:=gn c;have:=c.2.1;have:=iD x.dF x.rd;rw[a,aY];simp only[List.length_append,List.length_cons,List.length_nil];omega
   ·rw[a];simp
  rw[List.map_cons,Ap];simp only[List.length_append,List.length_cons,List.length_nil,mc];omega
section
variable {N:Nat}{H0:ae}{r L i n n0 p m0:Nat}{cap:Option Nat}{ro:Bool}{els:List (List aa)}{ok:Nat->Prop}{Q:aa->ae->Prop}{acc:aJ}
def BE(ap:100<=N)(o:∀l,ok l->l<n0)(G:ok L)(av:n<=100){all:List e0}(aw:n=all.length)(hw:∀x∈all,nS x)
  (K:∀m H,eL n0 p m H (acc++flat (cG (all.map .r)))->cF p m0 H0 m H->W (jK (aC P az) N (.ptr r 0 0) (.ptr p 0 0) H) Q):∀(es:List e0) (j k:Nat) (done:List e0) (m:Nat) (H:ae),all=done++es->done.length=j->es.length<k->H.get L=D (.row ro 3 els)->(∀(j:Nat) (a:e0),all[j]? =D a->∃cs,els[i+j]? =D cs/\iC.V H ok a cs)->eL n0 p m H (acc++flat (cG (done.map .r)))->acc.length+(flat (cG (done.map .r))).length+100000*es.length<=50000000000->cF p m0 H0 m H->
  W (kd (aC P az) N k (.ptr r 0 0) (.ptr p 0 0) (.aA L i n 3 cap) (I J n) (I J j) H) Q
 |_,_,0,_,_,_,_,_,z,_,_,_,_,_=>af
 |[],j,k+1,done,m,H,d,u,z,v,A,c,O,w=>by
  rw[List.append_nil]at d;subst d;have y:¬((j:Int)<(n:Int)):=af;simp-implicitDefEqProofs(disch:=try exact al)only[kd,oN,reduceAdd,reduceLeDiff,reduceIte,ax,y,decide_false];exact K m H c w
 |x::es,j,k+1,done,m,H,d,u,z,v,A,c,O,w=>by
  simp only[List.length_cons]at z O;have aW:all.length=done.length+(es.length+1):=by rw[d,List.length_append,List.length_cons]
  have y:(j:Int)<(n:Int):=af;have aD:((j:Int)).toNat=j:=af;have am:(0:Int)<=(j:Int):=af;have aL:IntKind.i64.wrap ((j:Int)+1)=((j+1:Nat):Int):=by rw[wrap_i64 af af];omega
  have B:all[j]? =D x:=by rw[d,List.getElem?_append_right af,u,Nat.sub_self];rfl
  obtain⟨cs,aZ,bG,rfl,aB⟩:=A j x B;have aG:=hw x (List.mem_of_getElem? B);have bH:=aB.one;have a2:=eM aG.n;have aY:=uT x.fields aG.f;have aV:=aG.l;have ab:=aO.push H (.row U 3 [[Y x.name,bG,I J x.pos]]);have aj:=ae.bC H (.row U 3 [[Y x.name,bG,I J x.pos]]);have ah:H.next≠p/\H.next≠m:=by have:=c.lm;have:=c.iu.lt;omega
  simp-implicitDefEqProofs(disch:=try exact al)only[kd,oN,reduceAdd,reduceLeDiff,reduceIte,ax,y,decide_true,am,aD,v,aZ,bH,qT];refine aN (fZ (c.aM ab) (deep:=0) rfl [[114,101,99,111,114,100,32],x.name,[32,123]] (by simp) (by simp) af (by simp only[List.flatten_cons,List.flatten_nil,List.length_append,List.length_cons,List.length_nil];omega) rfl rfl rfl) ?_;rintro _ e ⟨aJ,m3,F,ad⟩;refine⟨aJ,?_⟩;have ak:=ad.get aj ah.1 ah.2;have wt:=(cF.aM (p:=p) (m:=m) ab).trans ad;have aH:=wt.aX c.aG c.hm o;have ay:=aB.aX aH;have aq:=aB.mI;simp-implicitDefEqProofs(disch:=try exact al)only[reduceAdd,reduceLeDiff,reduceIte,ax,ak,aq]
  have a1:x∈all:=List.mem_of_getElem? B;have next:∀m H',eL n0 p m H' (acc++flat (cG (done.map .r))++(pad 0++([[114,101,99,111,114,100,32],x.name,[32,123]].flatten++[10]))++flat (eG x.fields))->cF p m3 e m H'->W (lQ (aC P az) N (kd (aC P az) N k) (.ptr r 0 0) (.ptr p 0 0) (.aA L i n 3 cap) (I J n) (I J j) H') Q:=by
   intro m5 aR aF aP;have a0:=F.hm;simp-implicitDefEqProofs(disch:=try exact al)only[lQ,kU,bf,br];refine aN (fZ aF (deep:=0) rfl [[125]] (by simp) (by simp) af (by simp only[List.flatten_cons,List.flatten_nil,List.length_append,List.length_cons,List.length_nil,j_];omega) rfl rfl rfl) ?_;rintro _ ai ⟨aK,m6,T,aQ⟩;refine⟨aK,?_⟩;simp-implicitDefEqProofs(disch:=try exact al)only[kU,bf,br,c5,aL];have ag:=(wt.trans aP).trans aQ;have aa:=ag.aX c.aG c.hm o;have S:acc++flat (cG (done.map .r))++(pad 0++([[114,101,99,111,114,100,32],x.name,[32,123]].flatten++[10]))++flat (eG x.fields)++(pad 0++([[125]].flatten++[10]))=acc++flat (cG ((done++[x]).map .r)):=by
    rw[List.map_append,oA,c3,List.map_cons,List.map_nil,Hc,cG,cY,j_];simp[q4]
   rw[S]at T;have hlen:(flat (cG ((done++[x]).map eY.r))).length<=(flat (cG (done.map eY.r))).length+100000:=by
    have:=congrArg List.length S;simp only[List.length_append,List.flatten_cons,List.flatten_nil,List.length_cons,List.length_nil,j_]at this;omega
   exact BE ap o G av aw hw K es (j+1) k (done++[x]) m6 ai (by rw[d,List.append_assoc];rfl) (by rw[List.length_append,u];rfl) af (aa L _ G v).2 (λj a h=>by obtain⟨cs,q,s⟩:=A j a h;exact⟨cs,q,iC.aX aa s⟩) T af (w.trans ag)
  by_cases E:x.fields.length=0
  ·have aE:=List.length_eq_zero_iff.1 E;have an:¬((0:Int)<((0:Nat):Int)):=af;obtain⟨M,rfl⟩:∃M,N=M+1:=⟨N-1,af⟩;rw[E];simp-implicitDefEqProofs(disch:=try exact al)only[kX,oO,reduceAdd,reduceLeDiff,reduceIte,ax,an,decide_false];exact next m3 e (by rw[aE,eG,cY,List.append_nil];exact F) (cF.aM (.refl _))
  ·obtain⟨aS,i2,aT,a3,aU,rfl,ao,R,au⟩:=ay.sc E;have aI:fE.esz=4:=rfl;rw[aI]at R;exact BA (H0:=e) (m0:=m3) (n0:=n0) o ao af rfl aG.f (λj a h=>by obtain⟨cs,q,s⟩:=au j a h;rw[q,show cs=a.cells from s]) next x.fields 0 N [] m3 e rfl rfl af R (by rw[eG,cY,List.append_nil];exact F) (by simp only[List.length_append,List.flatten_cons,List.flatten_nil,List.length_cons,List.length_nil,j_,eG,cY];omega) (cF.aM (.refl _))
end
def IY{H:ae}{ok:Nat->Prop}{bD bL bG:aa}{g:dm}(G:dH iC H ok g.da bD)(R:dH fE H ok g.globals bL)(M:dH hK H ok g.funcs bG)(av:∀l,ok l->l<H.next)(V:eR.gP H)(hw:w2 g):W (aC P az 10 [.agg [bD,bL,bG]] H) λv H'=>v= Y (flat (mS g))/\aO H H':=by
 refine cz (λ_=>Jq 1000) ?_;have bH:=G.one;have bX:=R.one;have ck:=M.one;have ap:∀l,dS l (.agg [bD,bL,bG])=D (.ptr l 0 0,.row U 3 [[bD,bL,bG]]):=λl=>hh l _ (by simp only[List.all_cons,List.all_nil,bH,bX,ck,Bool.and_self])
 have aq:∀l,n5 (D 81) l (.agg [.nilPtr,.ar])=D (.ptr l 0 0,.bU 81 2 [[.nilPtr,.ar]]):=λl=>rfl
 have pp:=(aO.push H (.row U 3 [[bD,bL,bG]])).bt (.bU 81 2 [[.nilPtr,.ar]]);have E:=(aO.push (H.push (.row U 3 [[bD,bL,bG]])) (.bU 81 2 [[.nilPtr,.ar]])).get (ae.bC H (.row U 3 [[bD,bL,bG]]));have F:=ae.bC (H.push (.row U 3 [[bD,bL,bG]])) (.bU 81 2 [[.nilPtr,.ar]]);have aw:(H.push (.row U 3 [[bD,bL,bG]])).next=H.next+1:=by simp
 have ay:((H.push (.row U 3 [[bD,bL,bG]])).push (.bU 81 2 [[.nilPtr,.ar]])).next=H.next+2:=by simp
 have ad:=G.aX (df.aM pp);have S:=R.aX (df.aM pp);have O:=M.aX (df.aM pp);have ab:=V.aM pp;have aG:=ae.aS V.sS;rw[sg];have y:=λH'=>G.uQ H'
 simp-implicitDefEqProofs(disch:=try exact al)only[reduceAdd,reduceLeDiff,reduceIte,ax,ap,aq,E,y];simp only[aw]at F;generalize (H.push (.row U 3 [[bD,bL,bG]])).push (.bU 81 2 [[.nilPtr,.ar]])=H1 at pp E F ay ad S O ab ⊢;have z:∀l,ok l->l<H.next+1:=λl h=>by have:=av l h;omega
 have ag:eL (H.next+1) (H.next+1) (H.next+1) H1 []:=⟨af,bk _,bk _,af,⟨λh=>absurd rfl h,af,.nilPtr,.ar,F,.inl rfl,.inl ⟨rfl,rfl⟩⟩,ab⟩;have e:flat (mS g)=flat (cG (g.da.map .r))++flat (cG (g.globals.map .g))++flat (cG (g.funcs.map .f)):=by
  unfold mS;rw[oA,oA,c3,c3,List.append_assoc]
 have aF:=A_ _ hw.mY;have aE:=A9 _ hw.di;have aZ:=hw.gl;have aI:=hw.mJ;have aJ:=hw.ou;have o:cG []=[]:=rfl;have ah:∀m c,eL (H.next+1) (H.next+1) m c (flat (cG (g.da.map .r))++flat (cG (g.globals.map .g))++flat (cG (g.funcs.map .f)))->cF (H.next+1) (H.next+1) H1 m c->W (lP (aC P az) 1000 (.ptr (H.next+1) 0 0) c) λv H'=>v= Y (flat (mS g))/\aO H H':=by
  intro m c q d;have aD:=A8 _ hw.cq;obtain⟨ak,ao,aH,e4⟩:=Ms q.iu (by simp only[List.length_append];omega);have aB:c.next<=ak.next:=af
  simp-implicitDefEqProofs(disch:=try exact al)only[lP,reduceAdd,reduceLeDiff,reduceIte,ax,ao,eI,aB];refine bb.2 ⟨by rw[e],by have:=pp.1;have:=d.next;omega,λl au=> ?_⟩;have:=q.hm;rw[e4 l af,d.2.2 l af af];exact pp.2 l au
 have ai:∀m c,eL (H.next+1) (H.next+1) m c (flat (cG (g.da.map .r))++flat (cG (g.globals.map .g)))->cF (H.next+1) (H.next+1) H1 m c->W (lO (aC P az) 1000 (.ptr H.next 0 0) (.ptr (H.next+1) 0 0) c) λv H'=>v= Y (flat (mS g))/\aO H H':=by
  intro m c q d;have g2:=d.get E af af;have K:=d.aX (bk _) (bk _) z;have Q:=O.aX K;have y:=λH'=>Q.uR H'
  simp-implicitDefEqProofs(disch:=try exact al)only[lO,reduceAdd,reduceLeDiff,reduceIte,ax,g2,y];by_cases n:g.funcs.length=0
  ·have A:=List.length_eq_zero_iff.1 n;have s:¬((0:Int)<((0:Nat):Int)):=af;rw[n];simp-implicitDefEqProofs(disch:=try exact al)only[kV,oL,reduceAdd,reduceLeDiff,reduceIte,ax,s,decide_false];exact ah m c (by rw[A,List.map_nil,o,cY,List.append_nil];exact q) d
  ·obtain⟨L,i,cap,ro,els,rfl,x,p,u⟩:=Q.sc n;have B:hK.esz=7:=rfl;rw[B]at p;exact BB (N:=1000) (H0:=H1) (m0:=H.next+1) z x af rfl hw.cq ah g.funcs 0 1000 [] m c rfl rfl af p u (by rw[List.map_nil,o,cY,List.append_nil];exact q) (by rw[List.map_nil,o,cY];simp only[List.length_append,List.length_nil];omega) d
 have aj:∀m c,eL (H.next+1) (H.next+1) m c (flat (cG (g.da.map .r)))->cF (H.next+1) (H.next+1) H1 m c->W (jK (aC P az) 1000 (.ptr H.next 0 0) (.ptr (H.next+1) 0 0) c) λv H'=>v= Y (flat (mS g))/\aO H H':=by
  intro m c q d;have g2:=d.get E af af;have K:=d.aX (bk _) (bk _) z;have T:=S.aX K;have y:=λH'=>T.mI H'
  simp-implicitDefEqProofs(disch:=try exact al)only[jK,reduceAdd,reduceLeDiff,reduceIte,ax,g2,y];by_cases n:g.globals.length=0
  ·have A:=List.length_eq_zero_iff.1 n;have s:¬((0:Int)<((0:Nat):Int)):=af;rw[n];simp-implicitDefEqProofs(disch:=try exact al)only[kW,oM,reduceAdd,reduceLeDiff,reduceIte,ax,s,decide_false];exact ai m c (by rw[A,List.map_nil,o,cY,List.append_nil];exact q) d
  ·obtain⟨L,i,cap,ro,els,rfl,x,p,u⟩:=T.sc n;have B:fE.esz=4:=rfl;rw[B]at p;exact BD (N:=1000) (H0:=H1) (m0:=H.next+1) z x af rfl hw.di (λj a h=>by obtain⟨cs,am,an⟩:=u j a h;rw[am,show cs=a.cells from an]) ai g.globals 0 1000 [] m c rfl rfl af p (by rw[List.map_nil,o,cY,List.append_nil];exact q) (by rw[List.map_nil,o,cY];simp only[List.length_nil];omega) d
 by_cases n:g.da.length=0
 ·have A:=List.length_eq_zero_iff.1 n;have s:¬((0:Int)<((0:Nat):Int)):=af;rw[n];simp-implicitDefEqProofs(disch:=try exact al)only[kd,oN,reduceAdd,reduceLeDiff,reduceIte,ax,s,decide_false];exact aj _ H1 (by rw[A,List.map_nil,o,cY];exact ag) (cF.aM (.refl _))
 ·obtain⟨L,i,cap,ro,els,rfl,x,p,u⟩:=ad.sc n;have B:iC.esz=3:=rfl;rw[B]at p;exact BE (N:=1000) (H0:=H1) (m0:=H.next+1) (acc:=[]) af z x af rfl hw.mY (λm H k w=>aj m H (by rw[List.nil_append]at k;exact k) w) g.da 0 1000 [] _ H1 rfl rfl af p u (by rw[List.map_nil,o,cY];exact ag) (by rw[List.map_nil,o,cY];simp only[List.length_nil];omega) (cF.aM (.refl _))
def hF.append{B:Nat}{e:bE}(h:tl B e):∀{l:List bE},hF B l->hF B (l++[e])
 |[],_=>by rw[List.nil_append,hF,hF];exact⟨h,trivial⟩
 |x::xs,a=>by
  rw[hF]at a;rw[List.cons_append,hF];exact⟨a.1,hF.append h a.2⟩
section
variable {T:List Tok}
end
def M0{s:aJ}(c:(dx s).2.1=0){q:dm×aw}(n:gX (dx s).1 800000000 800000000 .none ⟨0,0,0,0⟩=D q)(p:q.2.aF=0):w2 q.1/\q.1.da.length<=12/\q.1.globals.length<=8/\q.1.funcs.length<=16:=by
 obtain⟨aE,v⟩:=wh c;have B:=we s;have z:s.length<=6000:=by
  unfold dx at c;split at c
  ·simp at c
  ·omega
 have hlen:(dx s).1.length<=6001:=af;have d:Good (dx s).1 ((dx s).1.length:Int):=⟨af,λa h=>(wc h).2.1,λt o=>D6 t o⟩;have i:mg (dx s).1:=FR af;obtain⟨G,A⟩:=oE d i 800000000 800000000 .none ⟨0,0,0,0⟩ q (λ_=>⟨by simp,by simp,by simp,by simp⟩) (λ_=>⟨(λx h=>by cases h),(λx h=>by cases h),(λx h=>by cases h),by simp[dm.none],by simp[dm.none],by simp[dm.none],by simp[dm.none,lj]⟩) n p;have hw:=G.w;have key:∀l:List Fn,∀x∈l,du x.body<=lj l:=by
  intro l
  induction l with
  |nil=>intro x h;cases h
  |cons y r u=>
   intro x h;have e:lj (y::r)=du y.body+lj r:=by simp[lj]
   rcases List.mem_cons.1 h with rfl|h
   ·omega
   ·have:=u x h;omega
 have m:=G.gl;have k:=G.mJ;have j:=G.ou;exact⟨⟨G.mY,G.di,λx h=>⟨G.cq x h,by have:=key _ x h;omega⟩,af,af,af⟩,m,k,j⟩
structure kG where
 r:Nat
 g:Nat
 h:Nat
 l:List eY
section
variable (G:dm)(K:Nat->Int)
def kG.more(s:kG):Bool:=Nat.blt s.r G.da.length||(Nat.blt s.g G.globals.length||Nat.blt s.h G.funcs.length)
def kG.step(k:Int)(s:kG):kG:=
 if k=0/\s.r<G.da.length then {s with r:=s.r+1,l:=s.l++(G.da[s.r]?.map eY.r).toList}
 else if k=1/\s.g<G.globals.length then {s with g:=s.g+1,l:=s.l++(G.globals[s.g]?.map eY.g).toList}
 else if k=2/\s.h<G.funcs.length then {s with h:=s.h+1,l:=s.l++(G.funcs[s.h]?.map eY.f).toList}
 else s
def kG.rem(s:kG):Nat:=(G.da.length-s.r)+((G.globals.length-s.g)+(G.funcs.length-s.h))
def kG.has(s:kG)(c:Nat):Prop:=(c=0/\s.r<G.da.length)\/(c=1/\s.g<G.globals.length)\/(c=2/\s.h<G.funcs.length)
end
def eY.eh:eY->eY
 | .r x=> .r x.eh
 | .g x=> .g x.eh
 | .f x=> .f x.eh
section
set_option maxRecDepth 100000
noncomputable section
def mZ(G:ay)(ag av z:aa)(H:ae):O:=cg H [I J 0,I J 0,Y [],Y [],I J 0,aa.ar,I J 0,I J 0,I J 0,I J 0,I J 0] λbp u=>cg u [I J 0,I J 0] λe h=>bf P .max [3,3] [z,I J 0] h λw=>j (cj P 59 [(0,ag),(1,av),(2,w)]) λx=>bS h (dS (h).next x) λbz o=>aI o (G 40 [bz,I J 0] o) λy v=>cg v [I J 0,I J 0,Y [],Y [],I J 0,aa.ar,I J 0,I J 0,I J 0,I J 0,I J 0] λs p=>a7 p (aV P p 45 s y) λq=>aI q (G 21 [bz] q) λA c=>j (e2 .not A) λB=>aW (D B) (a7 c (aV P c 45 bp (.agg [I J 0,I J 0,Y [],Y [],I J 0,aa.ar,I J 0,I J 0,I J 0,I J 0,I J 0])) λa=>j (bW bz) λE=>j (aK P 59 E 3) λk=>j (an P a 29 k) λl=>a7 a (aV P a 29 e l) λd=>bif ((bj (an P c 29 k) l&&(bj (an P a 29 k) l&&X))&&X)then(j (an P d 45 bp) λr=>j (an P d 29 e) λi=>D (.tuple [r,I J 0,i],d))else Z) (j (an P c 45 s) λF=>a7 c (aV P c 45 bp F) λa=>j (bW bz) λK=>j (aK P 59 K 1) λm=>j (an P a 3 m) λn=>a7 a (aV P a 29 e (.agg [I J 0,I J 0])) λd=>bif ((bj (an P c 3 m) n&&(bj (an P a 3 m) n&&X))&&X)then(j (an P d 45 bp) λr=>j (an P d 29 e) λi=>D (.tuple [r,n,i],d))else Z)
def Jt(N:Nat){ag av a:aa}{H:ae}{r:aa×ae}(h:mZ (aC P az) ag av a H=D r):aC P az 15 [ag,av,a] H=D r:=cO N (S:=λG=>mZ G ag av a H) Tryd.func15 (λ_=>by delta mZ;kernel_rfl) h
end
end
def Gh(ao:aa)(c:ao.one=X)(a b:Int):cj P 59 [(0,ao),(1,I J a),(2,I J b)]=D (.agg [ao,I J a,I J b,I J 0,I J 0]):=by
 cases ao<;>first|(cases c;done)|kernel_rfl
def ka(e:aL)(s:aw):aL×Int×Int×Int:=if s.aF=0 then(e,s.at_,0,0)else(.zero,0,s.aF,s.cS)
def E_{n:Nat}(O:n<=900000000){H:ae}{T:List Tok}{ao:aa}(B:eS H ao T){e:aL}{s':aw}(h:dP T n 0 ⟨0,0,0,0⟩=D (e,s')):
  W (aC P az 15 [ao,I J 0,I J 0] H) λv H'=>∃b6,v= .tuple [b6,I J (ka e s').2.1,.agg [I J (ka e s').2.2.1,I J (ka e s').2.2.2]]/\cu H' (bg H.next) (ka e s').1 b6/\aO H H':=by
 refine cz (λ_=>Jt 0) ?_;have z:=B.one;have E:=(aO.push H (.row U 11 [[I J 0,I J 0,Y [],Y [],I J 0,.ar,I J 0,I J 0,I J 0,I J 0,I J 0]])).bt (.row U 2 [[I J 0,I J 0]]);have K:=Gh ao z 0 0;have L:∀l,dS l (.agg [ao,I J 0,I J 0,I J 0,I J 0])=D (.ptr l 0 0,.row U 5 [[ao,I J 0,I J 0,I J 0,I J 0]]):=λl=>hh l _ (by simp only[List.all_cons,List.all_nil,gH,z,Bool.and_self])
 simp-implicitDefEqProofs(disch:=try exact al)only[mZ,reduceAdd,reduceLeDiff,reduceIte,ax,BO,Int.max_self,K,L];have ad:=ae.bC (H.push (.row U 11 [[I J 0,I J 0,Y [],Y [],I J 0,.ar,I J 0,I J 0,I J 0,I J 0,I J 0]])) (.row U 2 [[I J 0,I J 0]]);have y:((H.push (.row U 11 [[I J 0,I J 0,Y [],Y [],I J 0,.ar,I J 0,I J 0,I J 0,I J 0,I J 0]])).push (.row U 2 [[I J 0,I J 0]])).next=H.next+2:=by simp only[ae.bT]
 have w:((H.push (.row U 11 [[I J 0,I J 0,Y [],Y [],I J 0,.ar,I J 0,I J 0,I J 0,I J 0,I J 0]])).push (.row U 2 [[I J 0,I J 0]])).get H.next=D (.row U 11 [[I J 0,I J 0,Y [],Y [],I J 0,.ar,I J 0,I J 0,I J 0,I J 0,I J 0]]):=by simp-implicitDefEqProofs(disch:=try exact al)only[dq]
 have x:((H.push (.row U 11 [[I J 0,I J 0,Y [],Y [],I J 0,.ar,I J 0,I J 0,I J 0,I J 0,I J 0]])).push (.row U 2 [[I J 0,I J 0]])).get (H.next+1)=D (.row U 2 [[I J 0,I J 0]]):=by simp-implicitDefEqProofs(disch:=try exact al)only[dq]
 rw[<-y];generalize (H.push (.row U 11 [[I J 0,I J 0,Y [],Y [],I J 0,.ar,I J 0,I J 0,I J 0,I J 0,I J 0]])).push (.row U 2 [[I J 0,I J 0]])=c at E w x y ⊢;have q:=aO.push c (.row U 5 [[ao,I J 0,I J 0,I J 0,I J 0]]);have s:=E.trans q;have V:bI (c.push (.row U 5 [[ao,I J 0,I J 0,I J 0,I J 0]])) c.next T ao ⟨0,0,0,0⟩:=
  ⟨ae.bC _ _,B.aM s⟩
 refine aN ((tz n O n (bk _)).expr V 0 af e s' h) ?_;rintro v u ⟨m5,p,j⟩;refine⟨m5.1,?_⟩;have N:=m5.1;simp only[ae.bT]at N j;obtain⟨cs,rfl,hlen,A⟩:=j.cells;have R:List.take 11 cs=cs:=List.take_of_length_le af;simp-implicitDefEqProofs(disch:=try exact al)only[mZ,reduceAdd,reduceLeDiff,reduceIte,ax,hlen,A,List.append_nil];have F:=aO.push u (.row U 11 [cs]);refine aN (jJ (p.rd.aM F)) ?_;rintro _ ab ⟨rfl,rfl⟩;refine⟨bk _,?_⟩;have m:=p.rd.aM F;unfold bw at m;have o:=p.rd;unfold bw at o;have d:=m5.get (q.get w) af;have i:=m5.get (q.get x) af;have ag:=ae.aS d;have ah:=ae.aS i;have G:aO H u:=⟨by have:=s.1;simp only[ae.bT]at this;omega,λl M=>by rw[m5.2 l (by simp only[ae.bT];omega) af];exact s.2 l M⟩
 by_cases a:s'.aF=0
 ·have k:(s'.aF==0)=true:=by simpa using a
  rw[show ka e s'=(e,s'.at_,0,0) by simp[ka,a]];simp-implicitDefEqProofs(disch:=try exact al)only[mZ,reduceAdd,reduceLeDiff,reduceIte,ax,k,Bool.not_true,Bool.not_false,m,o,d,i,hlen,A,List.append_nil,R,Bool.and_true];refine bb.2 ⟨_,rfl,?_,?_⟩
  ·exact j.new (cP.cw (S:=λl=>l<_) (cP.cw (S:=λl=>l<_) ((cP.refl _ _).bt _) (.inl af) _) (.inl af) _) λl h=>by unfold bg;omega
  ·exact((G.bt _).cw (bk _) _).cw af _
 ·have k:(s'.aF==0)=false:=by simpa using a
  rw[show ka e s'=(.zero,0,s'.aF,s'.cS) by simp[ka,a]];have Q:bj (D (.agg [I J s'.aF,I J s'.cS])) (.agg [I J s'.aF,I J s'.cS])=true:=by simp[bj,aa.beq,fX.beq]
  simp-implicitDefEqProofs(disch:=try exact al)only[mZ,reduceAdd,reduceLeDiff,reduceIte,ax,k,Bool.not_true,Bool.not_false,m,o,d,i,Q,Bool.and_true];refine bb.2 ⟨_,rfl,cu.leaf _ _ {kind:=0},?_⟩;exact((G.bt _).cw (bk _) _).cw af _
def GR{s:aJ}(a:(dx s).2.1=0){p:aL×aw}(h:dP (dx s).1 800000000 0 ⟨0,0,0,0⟩=D p)(e:p.2.aF=0):∃d,d<=50/\cm d 0 p.1/\cE p.1<=1000000000:=by
 obtain⟨aE,i⟩:=wh a;have m:=aE.n;have l:=we s;have j:s.length<=6000:=by
  unfold dx at a;split at a
  ·simp at a
  ·omega
 obtain⟨f,g,d,c,hw⟩:=(vq aE.g 800000000).expr 0 ⟨0,0,0,0⟩ p af (λ_=>⟨Int.le_refl 0,(show(0:Int)<=_ by omega),Int.le_refl 0,cp⟩) h e;have k:=f.b;simp only at g c;exact⟨d,af,hw.low af,af⟩
section
set_option maxRecDepth 100000
noncomputable section
def sh(G:ay)(H:ae):O:=aI H (G 9 [Y [102,117,110,99,32,109,97,105,110,40,41,123,105,102,32,49,60,50,123,112,114,105,110,116,40,49,43,50,41,42,51,59,125,125]] H) λi k=>j (eg i 0) λx=>j (eg i 1) λbp=>cg k [aa.ar,aa.ar,aa.ar] λav l=>cg l [I J 0,I J 0] λw e=>a7 e (aV P e 26 av x) λh=>a7 h (aV P h 29 w bp) λc=>j (an P c 26 av) λy=>aI c (G 10 [y] c) λz m=>j (aq P .eql 9 X z (Y [102,117,110,99,32,109,97,105,110,40,41,32,123,10,32,32,105,102,32,49,32,60,32,50,32,123,10,32,32,32,32,112,114,105,110,116,32,40,49,32,43,32,50,41,32,42,32,51,59,10,32,32,125,10,125,10])) λa=>aQ a X m (ca (.agg [Y [105,110,116],I J 2])) λp d=>aQ a X d (λq=>eJ d (G 20 [p] d) q) λs n=>aQ a X n (bA (aq P .eql 9 X s (Y [91,91,105,110,116,93,93]))) λu o=>j (cB a (D u) (D (.bool U))) λv=>D (v,o)
def Jr(N:Nat){H:ae}{r:aa×ae}(h:sh (aC P az) H=D r):aC P az 12 [] H=D r:=cO N (S:=λG=>sh G H) Tryd.func12 (λ_=>by delta sh;kernel_rfl) h
end
end
def rI:aJ:=[102,117,110,99,32,109,97,105,110,40,41,123,105,102,32,49,60,50,123,112,114,105,110,116,40,49,43,50,41,42,51,59,125,125]
def rJ:aJ:=[102,117,110,99,32,109,97,105,110,40,41,32,123,10,32,32,105,102,32,49,32,60,32,50,32,123,10,32,32,32,32,112,114,105,110,116,32,40,49,32,43,32,50,41,32,42,32,51,59,10,32,32,125,10,125,10]
def AV:Bool:=(dx rI).2.1==0&&(match gX (dx rI).1 800000000 800000000 .none ⟨0,0,0,0⟩with
 |some (g,s)=>s.aF==0&&flat (mS g)==rJ
 |none=>U)
set_option maxRecDepth 100000 in
def HS:AV=true:=by decide+kernel
def MC:flat (cX [105,110,116] 2)=[91,91,105,110,116,93,93]:=by decide+kernel
def df.lt{H:ae}{ok:Nat->Prop}:df H ok H (· <H.next):=λ_ _ _ g=>⟨ae.aS g,g⟩
def HT{H:ae}(x:eR.gP H):W (aC P az 12 [] H) λv H'=>v= .bool X/\aO H H':=by
 refine cz (λ_=>Jr 0) ?_;have a:=HS;unfold AV at a;simp only[Bool.and_eq_true,beq_iff_eq]at a;obtain⟨l,a⟩:=a;split at a
 ·rename_i g s aG;simp only[Bool.and_eq_true,beq_iff_eq]at a;obtain⟨k,w⟩:=a;obtain⟨hw,-⟩:=M0 l aG k;rw[sh];refine aN (I2 rI (M:=800000000) (n:=800000000) (bk _) (bk _) (λ_=>aG)) ?_;rintro _ H1 ⟨bD,bL,bG,rfl,d,e,i,m⟩;refine⟨m.1,?_⟩;have b6:r8 rI g s=(g,0,0):=by unfold r8 vs;rw[if_pos l,if_pos k]
  rw[b6]at d e i ⊢;simp only at d e i ⊢;have bH:=d.one;have bX:=e.one;have ck:=i.one;have c:=(aO.push H1 (.row U 3 [[bD,bL,bG]])).bt (.row U 2 [[I J 0,I J 0]]);simp-implicitDefEqProofs(disch:=try exact al)only[reduceAdd,reduceLeDiff,reduceIte,ax,ae.hr,bH,bX,ck];generalize (H1.push (.row U 3 [[bD,bL,bG]])).push (.row U 2 [[I J 0,I J 0]])=y at c ⊢;have q:=m.trans c;refine aN (IY ((d.aX (df.aM c)).aX df.lt) ((e.aX (df.aM c)).aX df.lt) ((i.aX (df.aM c)).aX df.lt) (λ_ h=>h) (x.aM q) hw) ?_;rintro _ z ⟨rfl,o⟩;refine⟨o.1,?_⟩;rw[w];have j:(rJ==rJ)=true:=by simp
  unfold rJ at j ⊢;simp-implicitDefEqProofs(disch:=try exact al)only[bf,br,c5,j];refine iR (type20 cp cp cp) ?_;rintro _ A ⟨rfl,p⟩;refine⟨p.1,?_⟩;rw[MC];have u:(([91,91,105,110,116,93,93]:aJ)==[91,91,105,110,116,93,93])=true:=cp;simp-implicitDefEqProofs(disch:=try exact al)only[bf,br,c5,u];exact bb.2 ⟨rfl,(q.trans o).trans p⟩
 ·cases a
section
set_option maxRecDepth 100000
noncomputable section
def e4(G:ay)(ag:aa)(H:ae):O:=aI H (G 9 [ag] H) λy z=>j (eg y 0) λM=>j (eg y 1) λN=>cg z [aa.ar,aa.ar,aa.ar] λc A=>cg A [I J 0,I J 0] λx m=>a7 m (aV P m 26 c M) λn=>a7 n (aV P n 29 x N) λo=>bf P .len [9] [ag] o λE=>j (aq P .gtr 3 X E (I J 4000)) λh=>aQ h U o (bA (aK P 29 x 0)) λF p=>aQ h U p (qr (an P p 27 F)) λK B=>aQ h U B (bA (aq P .neq 27 X K (I J 0))) λbz a=>j (cB h (D (.bool X)) (D bz)) λL=>aW (D L) (D ((.bool X),a)) (j (an P a 26 c) λs=>aI a (G 10 [s] a) λu e=>j (an P e 26 c) λv=>aI e (G 11 [v] e) λw d=>j (aq P .eql 9 U u w) λi=>pn i X (λq=>eJ d (G 12 [] d) q) λk=>j (cB i (D k.val) (D (.bool U))) λl=>bif pP [0,1,0,7,15,31,63,127,255] [0,1,3,4,5,6,7,8] [⟨0,.read s,λH=>an P H 26 c⟩,⟨1,.dL u e,λH=>Z⟩,⟨2,.read v,λH=>an P H 26 c⟩,⟨3,.dL w d,λH=>Z⟩,⟨4,.pure i,λH=>Z⟩,⟨5,.pure i,λH=>Z⟩,⟨6,k,λH=>Z⟩,⟨7,.pure l,λH=>Z⟩,⟨8,.pure l,λH=>Z⟩] a then(D (l,(k.heap d)))else Z)
end
end
def dH.beq{α:Type}{K:hC α}{H:ae}{ok:Nat->Prop}{l:List α}{v:aa}(h:dH K H ok l v):aa.beq v v=true:=by
 rcases h with⟨rfl,_⟩|⟨L,i,cap,ro,els,rfl,_⟩|⟨L,i,cap,rfl,_⟩<;>simp[aa.beq]
section
set_option maxRecDepth 100000
noncomputable section
def sL(G:ay)(ag:aa)(H:ae):O:=aI H (G 14 [ag] H) λR ah=>j (eg R 0) λbz=>j (eg R 1) λaD=>cg ah [I J 0,I J 0] λT w=>a7 w (aV P w 29 T aD) λE=>bf P .len [9] [ag] E λaE=>j (aq P .gtr 3 X aE (I J 200)) λh=>aQ h U E (bA (aK P 29 T 0)) λaF L=>aQ h U L (qr (an P L 27 aF)) λaG az=>aQ h U az (bA (aq P .neq 27 X aG (I J 0))) λaH l=>j (cB h (D (.bool X)) (D aH)) λaJ=>aW (D aJ) (D ((.bool X),l)) (aI l (G 19 [bz,I J 0] l) λm aB=>j (eg m 0) λaL=>j (eg m 1) λaM=>j (eg m 2) λaN=>cg aB [Y [],I J 0] λn aC=>cg aC [I J 0,I J 0] λaf M=>a7 M (aV P M 40 n aL) λp=>a7 p (aV P p 29 af aN) λs=>j (aK P 29 af 0) λaO=>j (an P s 27 aO) λaP=>j (aq P .neq 27 X aP (I J 0)) λa=>aQ a U s (ca aM) λaR ai=>aQ a U ai (ca bz) λS u=>aQ a U u (λq=>gg (b2 P .empty .len [36] [S]) (b2 P u .len [36] [S]) q) λaS aj=>aQ a U aj (bA (aq P .sub 3 X aS (I J 1))) λaT ak=>aQ a U ak (bA (aq P .neq 3 U aR aT)) λaU d=>j (cB a (D (.bool X)) (D aU)) λaX=>aW (D aX) (aI d (G 12 [] d) λaY e=>D (aY,e)) (j (an P d 40 n) λaZ=>aI d (G 20 [aZ] d) λa0 e=>aI e (G 14 [a0] e) λV al=>j (eg V 0) λW=>j (eg V 1) λa1=>cg al [I J 0,I J 0] λbh v=>a7 v (aV P v 29 bh a1) λx=>aI x (G 19 [W,I J 0] x) λo am=>j (eg o 0) λa2=>j (eg o 1) λa3=>j (eg o 2) λa4=>cg am [Y [],I J 0] λN ao=>cg ao [I J 0,I J 0] λQ y=>a7 y (aV P y 40 N a2) λz=>a7 z (aV P z 29 Q a4) λA=>j (aK P 29 Q 0) λa5=>j (an P A 27 a5) λa6=>j (aq P .eql 27 X a6 (I J 0)) λc=>aQ c X A (ca a3) λa8 ap=>aQ c X ap (ca W) λab B=>aQ c X B (λq=>gg (b2 P .empty .len [36] [ab]) (b2 P B .len [36] [ab]) q) λa9 au=>aQ c X au (bA (aq P .sub 3 X a9 (I J 1))) λa_ av=>aQ c X av (bA (aq P .eql 3 U a8 a_)) λba F=>j (cB c (D ba) (D (.bool U))) λi=>aQ i X F (qr (an P F 40 N)) λbb K=>aQ i X K (qr (an P K 40 n)) λbc aw=>aQ i X aw (bA (aq P .eql 40 U bb bc)) λbd k=>j (cB i (D bd) (D (.bool U))) λad=>aQ ad X k (λq=>eJ k (G 12 [] k) q) λbe ax=>j (cB ad (D be) (D (.bool U))) λbg=>D (bg,ax)))
end
end
section
set_option maxRecDepth 100000
noncomputable section
end
end
def get_map{α:Type}{l:List α}{f:α->List aa}{k:Nat}{d:α}(h:k<l.length):(l.map f)[k]? =D (f (l[k]?.getD d)):=by
 rw[List.getElem?_map];simp[h]
def sQ(dy w:aJ):Bool:=(dx dy).2.1==0&&(match dP (dx dy).1 800000000 0 ⟨0,0,0,0⟩with
 |some (e,s)=>s.aF==0&&(s.at_==((dx dy).1.length:Int)-1&&flat (bm e)==w)
 |none=>U)
def IT{e:aL}{s:aw}(h:s.aF=0):ka e s=(e,s.at_,0,0):=by unfold ka;rw[if_pos h]
def L6{dy w:aJ}(h:sQ dy w=X):(dx dy).2.1=0/\∃e s,dP (dx dy).1 800000000 0 ⟨0,0,0,0⟩=D (e,s)/\s.aF=0/\s.at_=((dx dy).1.length:Int)-1/\flat (bm e)=w:=by
 unfold sQ at h;simp only[Bool.and_eq_true,beq_iff_eq]at h;obtain⟨a,h⟩:=h;split at h
 ·rename_i e s aG;simp only[Bool.and_eq_true,beq_iff_eq]at h;exact⟨a,e,s,aG,h.1,h.2.1,h.2.2⟩
 ·cases h
