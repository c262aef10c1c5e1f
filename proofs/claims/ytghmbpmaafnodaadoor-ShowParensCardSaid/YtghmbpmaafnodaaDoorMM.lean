/-
  Texts of one proof, laid together: Wc ShRb Ms E2 ShU Hds N1 Wd.
-/
import Derived.Test.YtghmbpmaafnodaaDoorML
set_option linter.unusedVariables false
set_option linter.unusedSimpArgs false
set_option linter.defProp false
open Option renaming some→D
open Bool renaming true→X,false→U
open Go.b9.aa renaming int→I,str→Y
open Go.IntKind renaming i64→J
namespace Go.Proofs.YtghmbpmaafnodaaDoor
open Go.b9
open Nat (reduceAdd reduceLeDiff)
def nI:(0:Int).toNat=0:=rfl
def D3:(1:Int).toNat=1:=rfl
def dK:(0:Int)<((1:Nat):Int):=af
def bp:∀e:aL,ti e
 | .mk a ks=>by
  have aB:∀e∈ks,ti e:=λe he=>bp e
  intro d m aE hw bZ a3 he H ok kv G;cases he;have h:=aE.low (m':=0) (Nat.zero_le _);clear aE;have hlen:=om h;have aS:=G.eb;have y:∀l,dS l (.agg (a.cells kv))=D (.ptr l 0 0,.row U 11 [a.cells kv]):=λl=>hh l _ (by simp only[bM.cells,List.all_cons,List.all_nil,gH,hq,aS,Bool.and_self])
  have pp:=aO.push H (.row U 11 [a.cells kv]);have di:=ae.bC H (.row U 11 [a.cells kv]);have ag:∀{T m':Nat} {b:bM} {o:List aL},aL.mk b o∈ks->cm T m' (.mk b o)->cE (.mk b o)<=1000000000/\∀(H':ae) (u:aa),b8 H' ok o u->W (aC P az 17 [.agg (b.cells u)] H') λr ak=>r= Y (flat (bm (.mk b o)))/\aO H' ak:=by
   intro T m' b o hm Q;have hle:cE (.mk b o)<=b0 ks:=by
    clear aB hlen G hw h y pp di
    induction ks with
    |nil=>cases hm
    |cons k r aU=>
     rw[b0];rcases List.mem_cons.1 hm with rfl|hm
     ·omega
     ·have:=aU hm;omega
   rw[cE]at hw;have aF:cE (.mk b o)<=1000000000:=af;exact⟨aF,λH' u aj=>aB _ hm T m' Q aF b o rfl H' ok u aj⟩
  have e_:∀{T m':Nat} {b:bM} {o:List aL} (n:Nat) {z:Int},z=n->aL.mk b o∈ks->cm T m' (.mk b o)->∀(H':ae) (u:aa),b8 H' ok o u->W (aC P az 49 [.agg (b.cells u),I J z] H') λr ak=>r= Y (flat (cl n (.mk b o)))/\aO H' ak:=by
   intro T m' b o n z V hm Q H' u aj;subst V;obtain⟨B,s⟩:=ag hm Q;have:=om Q;exact MX aj.eb (λE q=>s E u (aj.aM q)) af
  refine cz (λ_=>Ju (ks.length+1)) ?_;simp only[bM.cells]at y pp di ag e_ ⊢;rw[si];cases h with
  |par B s A=>omega
  | @int d m n p B s A=>
   simp-implicitDefEqProofs(disch:=try exact al)only[reduceAdd,reduceLeDiff,reduceIte,ax,y,Int.reduceBEq];refine aN (Mx s A) ?_;rintro _ E ⟨rfl,q⟩;refine⟨q.1,bb.2 ⟨?_,pp.trans q⟩⟩;rw[eH];show _=aa.str (flat [.t ⟨2,[],n,0⟩]);simp[flat,bN.sW,sX]
  | @bool d m n p B s=>
   rcases s with rfl|rfl
   ·simp-implicitDefEqProofs(disch:=try exact al)only[reduceAdd,reduceLeDiff,reduceIte,ax,y,Int.reduceBEq];exact bb.2 ⟨by rw[eH];rfl,pp⟩
   ·simp-implicitDefEqProofs(disch:=try exact al)only[reduceAdd,reduceLeDiff,reduceIte,ax,y,Int.reduceBEq];exact bb.2 ⟨by rw[eH];rfl,pp⟩
  | @null d m x z p B s=>
   simp-implicitDefEqProofs(disch:=try exact al)only[reduceAdd,reduceLeDiff,reduceIte,ax,y,Int.reduceBEq];refine aN (Ex s.1 (by have:=s.2.1;omega) (by have:=gn s;omega)) ?_;rintro _ E ⟨rfl,q⟩;refine⟨q.1,?_⟩;have a0:=iD x z;have:=gn s;have:=s.2.1;have w:aq P .add 9 X (Y [110,117,108,108,32]) (Y (flat (cX x z)))=D (Y ([110,117,108,108,32]++flat (cX x z))):=cV (by simp only[List.length_cons,List.length_nil];omega);simp only[w,dG];exact bb.2 ⟨by rw[eH];rfl,pp.trans q⟩
  | @var d m x p B s=>
   simp-implicitDefEqProofs(disch:=try exact al)only[reduceAdd,reduceLeDiff,reduceIte,ax,y,Int.reduceBEq];exact bb.2 ⟨by rw[eH];show _=aa.str (flat [ch x]);rw[iA,cY,List.append_nil],pp⟩
  | @field d m x p e B s A=>
   obtain⟨b,o⟩:=e;obtain⟨l,i,cap,ro,els,u,rfl,g1,aZ,F⟩:=G.iZ (n:=1) rfl (j:=0) rfl;have g2:=pp.get g1;simp only[bM.cells]at aZ;rw[Nat.add_zero]at aZ;rw[qs,cW]at hlen;simp-implicitDefEqProofs(disch:=try exact al)only[reduceAdd,reduceLeDiff,reduceIte,ax,y,Int.reduceBEq,g2,nI,aZ,dK];refine aN (e_ 7 rfl (by simp) A _ u (F.aM pp)) ?_;rintro _ E ⟨rfl,q⟩;refine⟨q.1,?_⟩;have M:=q.get di;have:=eM s;have w:aq P .add 9 X (Y (flat (cl 7 (.mk b o)))) (Y [46])=D (Y (flat (cl 7 (.mk b o))++[46])):=cV (by simp only[List.length_cons,List.length_nil];omega);have K:aq P .add 9 U (Y (flat (cl 7 (.mk b o))++[46])) (Y x)=D (Y (flat (cl 7 (.mk b o))++[46]++x)):=cV (by simp only[List.length_append,List.length_cons,List.length_nil];omega)
   simp-implicitDefEqProofs(disch:=try exact al)only[bf,br,Nat.reduceAdd,Nat.reduceLeDiff,reduceIte,aa.cells,cI,dA,an,cD,dR,di,M,w,K];exact bb.2 ⟨by rw[qs,c3,cT,iA,cY];simp,pp.trans q⟩
  | @item d m p e f B s A=>
   obtain⟨b,o⟩:=e;obtain⟨c,cs⟩:=f;obtain⟨l,i,cap,ro,els,u,rfl,g1,aZ,F⟩:=G.iZ (n:=2) rfl (j:=0) rfl;obtain⟨l',aT,aI,aV,aJ,kw,au,ad,S,ah⟩:=G.iZ (n:=2) rfl (j:=1) rfl;cases au;rw[g1]at ad;cases ad;have g2:=pp.get g1;simp only[bM.cells]at aZ S;rw[Nat.add_zero]at aZ;rw[qt,cW,c_,cW]at hlen;have av:(0:Int)<((2:Nat):Int):=af;have dI:(1:Int)<((2:Nat):Int):=af;simp-implicitDefEqProofs(disch:=try exact al)only[reduceAdd,reduceLeDiff,reduceIte,ax,y,Int.reduceBEq,g2,nI,aZ,av];refine aN (e_ 7 rfl (by simp) s _ u (F.aM pp)) ?_;rintro _ E ⟨rfl,q⟩;refine⟨q.1,?_⟩;have M:=q.get di;have g3:=q.get g2;have Q:=(ag (by simp) A).2 E kw (ah.aM (pp.trans q))
   simp-implicitDefEqProofs(disch:=try exact al)only[bf,br,Nat.reduceAdd,Nat.reduceLeDiff,reduceIte,aa.cells,cI,dA,an,cD,dR,M,g3,D3,S,dI];refine aN Q ?_;rintro _ ay ⟨rfl,O⟩;refine⟨O.1,?_⟩;have w:aq P .add 9 X (Y (flat (cl 7 (.mk b o)))) (Y [91])=D (Y (flat (cl 7 (.mk b o))++[91])):=cV (by simp only[List.length_cons,List.length_nil];omega);have K:aq P .add 9 U (Y (flat (cl 7 (.mk b o))++[91])) (Y (flat (bm (.mk c cs))))=D (Y (flat (cl 7 (.mk b o))++[91]++flat (bm (.mk c cs)))):=cV (by simp only[List.length_append,List.length_cons,List.length_nil];omega);have ab:aq P .add 9 X (Y (flat (cl 7 (.mk b o))++[91]++flat (bm (.mk c cs)))) (Y [93])=D (Y (flat (cl 7 (.mk b o))++[91]++flat (bm (.mk c cs))++[93])):=cV (by simp only[List.length_append,List.length_cons,List.length_nil];omega)
   have R:=qC (a:=c) ah.beq;simp only[bM.cells]at R;simp-implicitDefEqProofs(disch:=try exact al)only[bf,br,Nat.reduceAdd,Nat.reduceLeDiff,reduceIte,aa.cells,cI,dA,an,cD,di,M,g2,g3,S,w,K,ab,R];exact bb.2 ⟨by rw[qt,c3,cT,c3,cT,cY];simp,(pp.trans q).trans O⟩
  | @call d m x p l B s A=>
   have:=eM s;have w:aq P .add 9 X (Y x) (Y [40])=D (Y (x++[40])):=cV (by simp only[List.length_cons,List.length_nil];omega);rw[cE]at hw;simp only at hw;by_cases V:ks.length=0
   ·obtain rfl:=List.length_eq_zero_iff.1 V;have aR:∀H',b2 P H' .len [41] [kv]=D (I J 0):=by
     intro H';rcases G with⟨rfl,_⟩|⟨l,i,cap,ro,els,rfl,_⟩|⟨l,i,cap,rfl,_⟩
     ·exact qg
     ·exact lJ
     ·exact lJ
    have aK:¬((0:Int)<(0:Int)):=af;have K:aq P .add 9 X (Y (x++[40])) (Y [41])=D (Y (x++[40]++[41])):=cV (by simp only[List.length_append,List.length_cons,List.length_nil];omega);simp-implicitDefEqProofs(disch:=try exact al)only[reduceAdd,reduceLeDiff,reduceIte,ax,y,Int.reduceBEq,w,jL,m_,k0,aR,aK,decide_false,K];exact bb.2 ⟨by rw[qq,iA,cT,c3,cT,cY,c7,eA,cY];simp,pp⟩
   ·rcases G with⟨_,am⟩|⟨L,i,cap,ro,els,rfl,_,g1,aw⟩|⟨_,_,_,_,am⟩
    ·exact absurd am V
    ·have g2:=pp.get g1;have a2:=p_ ks;simp-implicitDefEqProofs(disch:=try exact al)only[reduceAdd,reduceLeDiff,reduceIte,ax,y,Int.reduceBEq,w];have key:=xg (N:=ks.length+1) (H0:=H.push (.row U 11 [bM.cells {kind:=7,name:=x,pos:=p} (.aA L i ks.length 11 cap)])) (i:=i) (ok:=ok) di g2 aB (λe he=> .inr ⟨_,A e he⟩) af af ks 0 (ks.length+1) (x++[40]) _ rfl (by rw[Nat.add_zero];exact dd.aX (c9.aM pp λ_ h=>h) _ _ aw) ⟨by simp only[List.length_append,List.length_cons,List.length_nil];omega,af⟩ af af (.refl _);refine key.mono ?_;rintro v E ⟨rfl,q⟩;refine⟨?_,pp.trans q⟩;rw[qq,iA,cT,c3,cT,cY];cases ks with
     |nil=>exact absurd rfl V
     |cons k r=>simp[o7]
    ·exact absurd am V
  | @new d m x p B s=>
   have:=eM s;have w:aq P .add 9 X (Y [110,101,119,32]) (Y x)=D (Y ([110,101,119,32]++x)):=cV (by simp only[List.length_cons,List.length_nil];omega);simp-implicitDefEqProofs(disch:=try exact al)only[reduceAdd,reduceLeDiff,reduceIte,ax,y,Int.reduceBEq,w];exact bb.2 ⟨by rw[eH];show _=aa.str (flat [wd [110,101,119],ct,ch x]);rw[gD,dV,iA,cY];simp,pp⟩
  | @make d m x z p e B s A=>
   obtain⟨b,o⟩:=e;obtain⟨l,i,cap,ro,els,u,rfl,g1,aZ,F⟩:=G.iZ (n:=1) rfl (j:=0) rfl;have g2:=pp.get g1;simp only[bM.cells]at aZ;rw[Nat.add_zero]at aZ;rw[qv,hn,ew,c_,cW,c_,c_,cW]at hlen;simp-implicitDefEqProofs(disch:=try exact al)only[reduceAdd,reduceLeDiff,reduceIte,ax,y,Int.reduceBEq];refine aN (Ex s.1 (by have:=s.2.1;omega) (by have:=gn s;omega)) ?_;rintro _ E ⟨rfl,q⟩;refine⟨q.1,?_⟩;have M:=q.get di;have g3:=q.get g2;have Q:=(ag (by simp) A).2 E u (F.aM (pp.trans q));simp-implicitDefEqProofs(disch:=try exact al)only[bf,br,Nat.reduceAdd,Nat.reduceLeDiff,reduceIte,aa.cells,cI,dA,an,cD,dR,M,g3,nI,aZ,dK]
   refine aN Q ?_;rintro _ ay ⟨rfl,O⟩;refine⟨O.1,?_⟩;have w:aq P .add 9 X (Y [110,101,119,32,91]) (Y (flat (cX x z)))=D (Y ([110,101,119,32,91]++flat (cX x z))):=cV (by simp only[List.length_cons,List.length_nil];omega);have K:aq P .add 9 X (Y ([110,101,119,32,91]++flat (cX x z))) (Y [93,40])=D (Y ([110,101,119,32,91]++flat (cX x z)++[93,40])):=cV (by simp only[List.length_append,List.length_cons,List.length_nil];omega);have ab:aq P .add 9 U (Y ([110,101,119,32,91]++flat (cX x z)++[93,40])) (Y (flat (bm (.mk b o))))=D (Y ([110,101,119,32,91]++flat (cX x z)++[93,40]++flat (bm (.mk b o)))):=cV (by simp only[List.length_append,List.length_cons,List.length_nil];omega)
   have ao:aq P .add 9 X (Y ([110,101,119,32,91]++flat (cX x z)++[93,40]++flat (bm (.mk b o)))) (Y [41])=D (Y ([110,101,119,32,91]++flat (cX x z)++[93,40]++flat (bm (.mk b o))++[41])):=cV (by simp only[List.length_append,List.length_cons,List.length_nil];omega);have R:=qC (a:=b) F.beq;simp only[bM.cells]at R;rw[w,dG,K,dG,ab,dG,ao,dG];simp-implicitDefEqProofs(disch:=try exact al)only[bf,br,Nat.reduceAdd,Nat.reduceLeDiff,reduceIte,aa.cells,cI,dA,an,cD,di,M,g2,g3,aZ,R];exact bb.2 ⟨by rw[qv,gD,dV,cT,c3,cT,cT,c3,cT,cY];simp,(pp.trans q).trans O⟩
  | @len d m p e B s=>
   obtain⟨b,o⟩:=e;obtain⟨l,i,cap,ro,els,u,rfl,g1,aZ,F⟩:=G.iZ (n:=1) rfl (j:=0) rfl;have g2:=pp.get g1;simp only[bM.cells]at aZ;rw[Nat.add_zero]at aZ;rw[qu,hn,c_,cW]at hlen;simp-implicitDefEqProofs(disch:=try exact al)only[reduceAdd,reduceLeDiff,reduceIte,ax,y,Int.reduceBEq,g2,nI,aZ,dK];refine aN ((ag (by simp) s).2 _ u (F.aM pp)) ?_;rintro _ E ⟨rfl,q⟩;refine⟨q.1,?_⟩;have w:aq P .add 9 X (Y [108,101,110,40]) (Y (flat (bm (.mk b o))))=D (Y ([108,101,110,40]++flat (bm (.mk b o)))):=cV (by simp only[List.length_cons,List.length_nil];omega);have K:aq P .add 9 X (Y ([108,101,110,40]++flat (bm (.mk b o)))) (Y [41])=D (Y ([108,101,110,40]++flat (bm (.mk b o))++[41])):=cV (by simp only[List.length_append,List.length_cons,List.length_nil];omega)
   rw[w,dG,K,dG];exact bb.2 ⟨by rw[qu,gD,cT,c3,cT,cY];simp,pp.trans q⟩
  | @read d m p B=>
   simp-implicitDefEqProofs(disch:=try exact al)only[reduceAdd,reduceLeDiff,reduceIte,ax,y,Int.reduceBEq];exact bb.2 ⟨by rw[eH];rfl,pp⟩
  | @sign d m k p e B s A=>
   obtain⟨b,o⟩:=e;obtain⟨l,i,cap,ro,els,u,rfl,g1,aZ,F⟩:=G.iZ (n:=1) rfl (j:=0) rfl;have g2:=pp.get g1;simp only[bM.cells]at aZ;rw[Nat.add_zero]at aZ;rw[mQ s,c_]at hlen;rcases s with rfl|rfl
   ·simp-implicitDefEqProofs(disch:=try exact al)only[reduceAdd,reduceLeDiff,reduceIte,ax,y,Int.reduceBEq,g2,nI,aZ,dK];refine aN (e_ 6 rfl (by simp) A _ u (F.aM pp)) ?_;rintro _ E ⟨rfl,q⟩;refine⟨q.1,?_⟩;have w:aq P .add 9 X (Y [45]) (Y (flat (cl 6 (.mk b o))))=D (Y ([45]++flat (cl 6 (.mk b o)))):=cV (by simp only[List.length_cons,List.length_nil];omega);rw[w,dG];exact bb.2 ⟨by rw[mQ (.inl rfl),cT];rfl,pp.trans q⟩
   ·simp-implicitDefEqProofs(disch:=try exact al)only[reduceAdd,reduceLeDiff,reduceIte,ax,y,Int.reduceBEq,g2,nI,aZ,dK];refine aN (e_ 6 rfl (by simp) A _ u (F.aM pp)) ?_;rintro _ E ⟨rfl,q⟩;refine⟨q.1,?_⟩;have w:aq P .add 9 X (Y [33]) (Y (flat (cl 6 (.mk b o))))=D (Y ([33]++flat (cl 6 (.mk b o)))):=cV (by simp only[List.length_cons,List.length_nil];omega);rw[w,dG];exact bb.2 ⟨by rw[mQ (.inr rfl),cT];rfl,pp.trans q⟩
  | @bin d m k p e f B s A aP aQ=>
   obtain⟨b,o⟩:=e;obtain⟨c,cs⟩:=f;obtain⟨l,i,cap,ro,els,u,rfl,g1,aZ,F⟩:=G.iZ (n:=2) rfl (j:=0) rfl;obtain⟨l',aT,aI,aV,aJ,kw,au,ad,S,ah⟩:=G.iZ (n:=2) rfl (j:=1) rfl;cases au;rw[g1]at ad;cases ad;have g2:=pp.get g1;have aG:=λH'=>BJ (H:=H') (a:={kind:=k,pos:=p}) (kv:= .aA l i (0+1+1) 11 cap) rfl
   simp only[bM.cells]at aZ S aG;rw[Nat.add_zero]at aZ;rw[qp s,cW,ew,c_,ew]at hlen;have a1:=uW s A;have av:(0:Int)<((2:Nat):Int):=af;have dI:(1:Int)<((2:Nat):Int):=af;have cq:∀m:Int,m<14->(k==m)=false:=λm h=>by simp;omega
   have aw:IntKind.i64.wrap (((c6 k:Nat):Int)+1)=((c6 k+1:Nat):Int):=by have:=u3 k;rw[wrap_i64 af af];omega
   simp-implicitDefEqProofs(disch:=try exact al)only[reduceAdd,reduceLeDiff,reduceIte,ax,y,cq 1 af,cq 2 af,cq 3 af,cq 4 af,cq 5 af,cq 6 af,cq 7 af,cq 8 af,cq 9 af,cq 10 af,cq 11 af,cq 12 af,cq 13 af];unfold kh;simp-implicitDefEqProofs(disch:=try exact al)only[reduceAdd,reduceLeDiff,reduceIte,ax,di];refine aN (aG _) ?_;rintro _ E ⟨rfl,q⟩;refine⟨q.1,?_⟩;have M:=q.get di;have g3:=q.get g2;simp-implicitDefEqProofs(disch:=try exact al)only[bf,br,Nat.reduceAdd,Nat.reduceLeDiff,reduceIte,aa.cells,cI,dA,an,cD,dR,M,g3,nI,aZ,av];refine aN (e_ (c6 k) rfl (by simp) aP _ u (F.aM (pp.trans q))) ?_;rintro _ ay ⟨rfl,O⟩
   refine⟨O.1,?_⟩;have ap:=O.get M;have g4:=O.get g3;simp-implicitDefEqProofs(disch:=try exact al)only[bf,br,Nat.reduceAdd,Nat.reduceLeDiff,reduceIte,aa.cells,cI,dA,an,cD,dR,ap];refine aN (L8 s A) ?_;rintro _ aW ⟨rfl,ai⟩;refine⟨ai.1,?_⟩;have aD:=ai.get ap;have g5:=ai.get g4;simp-implicitDefEqProofs(disch:=try exact al)only[bf,br,Nat.reduceAdd,Nat.reduceLeDiff,reduceIte,aa.cells,cI,dA,an,cD,dR,aD,g5,D3,S,dI,c5,aw];refine aN (e_ (c6 k+1) rfl (by simp) aQ _ kw (ah.aM (((pp.trans q).trans O).trans ai))) ?_;rintro _ aY ⟨rfl,aH⟩;refine⟨aH.1,?_⟩;have w:aq P .add 9 X (Y (flat (cl (c6 k) (.mk b o)))) (Y [32])=D (Y (flat (cl (c6 k) (.mk b o))++[32])):=cV (by simp only[List.length_cons,List.length_nil];omega)
   have K:aq P .add 9 U (Y (flat (cl (c6 k) (.mk b o))++[32])) (Y (gv k))=D (Y (flat (cl (c6 k) (.mk b o))++[32]++gv k)):=cV (by simp only[List.length_append,List.length_cons,List.length_nil];omega);have ab:aq P .add 9 X (Y (flat (cl (c6 k) (.mk b o))++[32]++gv k)) (Y [32])=D (Y (flat (cl (c6 k) (.mk b o))++[32]++gv k++[32])):=cV (by simp only[List.length_append,List.length_cons,List.length_nil];omega);have ao:aq P .add 9 U (Y (flat (cl (c6 k) (.mk b o))++[32]++gv k++[32])) (Y (flat (cl (c6 k+1) (.mk c cs))))=D (Y (flat (cl (c6 k) (.mk b o))++[32]++gv k++[32]++flat (cl (c6 k+1) (.mk c cs)))):=cV (by simp only[List.length_append,List.length_cons,List.length_nil];omega)
   have R:=qC (a:=c) ah.beq;simp only[bM.cells]at R;rw[w,dG,K,dG,ab,dG,ao,dG];simp-implicitDefEqProofs(disch:=try exact al)only[bf,br,Nat.reduceAdd,Nat.reduceLeDiff,reduceIte,aa.cells,cI,dA,an,cD,di,M,ap,aD,g2,g3,g4,g5,S,R];exact bb.2 ⟨by rw[qp s,c3,dV,cT,dV];simp,(((pp.trans q).trans O).trans ai).trans aH⟩
section
set_option maxRecDepth 100000
noncomputable section
end
end
section
def b1.cells(a:b1)(b6 bv c:aa):List aa:=[I J a.kind,Y a.name,Y a.cf,I J a.c4,b6,bv,c,I J a.pos,I J a.ref]
mutual
def d_(H:ae)(ok:Nat->Prop):bE->aa->Prop
 | .mk a es b c,v=>∃b6 bv d,v= .agg (a.cells b6 bv d)/\b8 H ok es b6/\
  ((bv= .ar/\b.length=0)\/(∃l i cap ro els,bv= .aA l i b.length 9 (Option.map (· +b.length) cap)/\ok l/\H.get l=D (.row ro 9 els)/\dz H ok b (els.drop i))\/∃l i cap,bv= .aA l i 0 9 cap/\b.length=0)/\
  ((d= .ar/\c.length=0)\/(∃l i cap ro els,d= .aA l i c.length 9 (Option.map (· +c.length) cap)/\ok l/\H.get l=D (.row ro 9 els)/\dz H ok c (els.drop i))\/∃l i cap,d= .aA l i 0 9 cap/\c.length=0)
def dz(H:ae)(ok:Nat->Prop):List bE->List (List aa)->Prop
 |[],_=>True
 |_::_,[]=>False
 |e::es,cs::css=>d_ H ok e (.agg cs)/\dz H ok es css
end
def c1(H:ae)(ok:Nat->Prop)(b:List bE)(bv:aa):Prop:=(bv= .ar/\b.length=0)\/(∃l i cap ro els,bv= .aA l i b.length 9 (Option.map (· +b.length) cap)/\ok l/\H.get l=D (.row ro 9 els)/\dz H ok b (els.drop i))\/∃l i cap,bv= .aA l i 0 9 cap/\b.length=0
def ln{H:ae}{ok:Nat->Prop}{a:b1}{es:List aL}{b c:List bE}{v:aa}:d_ H ok (.mk a es b c) v↔∃b6 bv d,v= .agg (a.cells b6 bv d)/\b8 H ok es b6/\c1 H ok b bv/\c1 H ok c d:=by
 rw[d_];rfl
structure dU(H:ae)(ok:Nat->Prop)(H':ae)(ok':Nat->Prop):Prop where
 ex:c9 H ok H' ok'
 st:∀l ro els,ok l->H.get l=some (.row ro 9 els)->ok' l/\H'.get l=some (.row ro 9 els)
section
variable {H H':ae}{ok ok':Nat->Prop}
mutual
def d_.aX(p:dU H ok H' ok'):∀(e:bE) (v:aa),d_ H ok e v->d_ H' ok' e v
 | .mk a es b c,v,h=>by
  rw[d_]at h ⊢;obtain⟨b6,bv,q,s,u,d,w⟩:=h;refine⟨b6,bv,q,s,u.aX p.ex,?_,?_⟩
  ·rcases d with d|⟨l,i,cap,ro,els,j,k,m,n⟩|d
   ·exact .inl d
   ·obtain⟨aZ,o⟩:=p.st l ro els k m;exact .inr (.inl ⟨l,i,cap,ro,els,j,aZ,o,dz.aX p b _ n⟩)
   ·exact .inr (.inr d)
  ·rcases w with d|⟨l,i,cap,ro,els,j,k,m,n⟩|d
   ·exact .inl d
   ·obtain⟨aZ,o⟩:=p.st l ro els k m;exact .inr (.inl ⟨l,i,cap,ro,els,j,aZ,o,dz.aX p c _ n⟩)
   ·exact .inr (.inr d)
def dz.aX(p:dU H ok H' ok'):∀(es:List bE) (cs:List (List aa)),dz H ok es cs->dz H' ok' es cs
 |[],_,_=>by rw[dz];trivial
 |e::es,[],h=>by rw[dz]at h;exact h.elim
 |e::es,cs::css,h=>by
  rw[dz]at h ⊢;exact⟨d_.aX p e _ h.1,dz.aX p es css h.2⟩
end
def c1.aX(p:dU H ok H' ok'){b:List bE}{v:aa}(h:c1 H ok b v):c1 H' ok' b v:=by
 rcases h with a|⟨l,i,cap,ro,els,c,d,e,j⟩|a
 ·exact .inl a
 ·obtain⟨aZ,k⟩:=p.st l ro els d e;exact .inr (.inl ⟨l,i,cap,ro,els,c,aZ,k,dz.aX p b _ j⟩)
 ·exact .inr (.inr a)
def dU.mut{r:Nat}(m:b5 r H H')(c:¬ok r)(a:∀l,ok l->ok' l):dU H ok H' ok':=⟨c9.mut m c a,λl ro els h e=>⟨a l h,m.get e (by rintro rfl;exact c h)⟩⟩
def dU.aM(m:aO H H')(a:∀l,ok l->ok' l):dU H ok H' ok':=⟨c9.aM m a,λl ro els h e=>⟨a l h,m.get e⟩⟩
def dU.set{l:Nat}(b:bO)(h:¬ok l)(c:∀l,ok l->ok' l):dU H ok (H.set l b) ok':=⟨c9.set b h c,λj ro els a e=>⟨c j a,by rw[ae.get_set_other (by rintro rfl;exact h a)];exact e⟩⟩
def dU.kO(h:∀l,ok l->ok' l):dU H ok H ok':=⟨c9.kO h,λl ro els a e=>⟨h l a,e⟩⟩
def c1.eb{b:List bE}{v:aa}(h:c1 H ok b v):v.one=true:=by
 rcases h with⟨rfl,_⟩|⟨l,i,cap,ro,els,rfl,_⟩|⟨l,i,cap,rfl,_⟩<;>rfl
def c1.nil(H:ae)(ok:Nat->Prop):c1 H ok [] .ar:= .inl ⟨rfl,rfl⟩
def d_.cells{e:bE}{v:aa}(h:d_ H ok e v):∃cs,v= .agg cs/\cs.length=9/\cs.all aa.one=true:=by
 cases e with|mk a es b c=>
 rw[ln]at h;obtain⟨b6,bv,k,rfl,d,i,j⟩:=h;refine⟨_,rfl,rfl,?_⟩;simp only[b1.cells,List.all_cons,List.all_nil,gH,hq,d.eb,i.eb,j.eb,Bool.and_self]
def d_.leaf(H:ae)(ok:Nat->Prop)(a:b1):d_ H ok (.mk a [] [] []) (.agg (a.cells .ar .ar .ar)):=
 ln.2 ⟨_,_,_,rfl,.inl ⟨rfl,rfl⟩,.inl ⟨rfl,rfl⟩,.inl ⟨rfl,rfl⟩⟩
def d_.mut{r:Nat}{e:bE}{v:aa}(h:d_ H ok e v)(m:b5 r H H')(c:¬ok r)(a:∀l,ok l->ok' l):d_ H' ok' e v:=d_.aX (dU.mut m c a) e v h
def dU.new{n:Nat}(m:cP (· <n) H H')(c:∀l,n<=l->ok l):dU H (bg n) H' ok:=
 ⟨λl ro els a g=>⟨c l a,m.get g (Nat.not_lt.2 a)⟩,λl ro els a g=>⟨c l a,m.get g (Nat.not_lt.2 a)⟩⟩
end
def tj(ok:Nat->Prop)(H:ae)(r:Nat)(T:List Tok)(ao:aa)(e:bE)(s':aw)(v:aa)(H':ae):Prop:=b5 r H H'/\bI H' r T ao s'/\d_ H' ok e v
abbrev fb(H:ae):=tj (bg H.next) H
def fb.fin{H bJ:ae}{r:Nat}{T:List Tok}{ao:aa}{s s':aw}{a:b1}{es:List aL}{b c:List bE}{b6 bv e:aa}{x lo:Nat}(i:bI H r T ao s)(m:b5 r H bJ)(h:bw bJ r ao s')(j:b8 bJ (bg lo) es b6)(n:c1 bJ (bg lo) b bv)(o:c1 bJ (bg lo) c e)(p:H.next<=x)(u:x<lo)(d:bO):
  fb H r T ao (.mk a es b c) s' (.agg (a.cells b6 bv e)) (bJ.set x d):=by
 have q:=i.rd.lt;have m':=m.cw (.inr p) d;have k:dU bJ (bg lo) (bJ.set x d) (bg H.next):=dU.set _ (by unfold bg;omega) λl q=>by unfold bg at*;omega
 refine⟨m',i.mut m' ?_,ln.2 ⟨b6,bv,e,rfl,j.aX k.ex,n.aX k,o.aX k⟩⟩;unfold bw at h ⊢;rw[ae.get_set_other af];exact h
def fb.ret{H a:ae}{r:Nat}{T:List Tok}{ao:aa}{s s':aw}{e:bE}{v:aa}{b n:Nat}(h:bI H r T ao s)(m:b5 r H a)(d:bw a r ao s')(i:H.next<=b)(he:d_ a (bg n) e v)(k:b<n)(c:bO):fb H r T ao e s' v (a.set b c):=by
 have j:=h.rd.lt;have m':=m.cw (.inr i) c;refine⟨m',h.mut m' ?_,d_.aX (dU.set _ (by unfold bg;omega) λl j=>by unfold bg at*;omega) e v he⟩;unfold bw at d ⊢;rw[ae.get_set_other af];exact d
def d_.at{H:ae}{ok:Nat->Prop}{e:bE}{cs:List aa}(h:d_ H ok e (.agg cs))(p:Int):d_ H ok (e.at p) (.agg (cs.set 7 (I J p))):=by
 cases e with|mk a es b c=>
 rw[ln]at h;obtain⟨b6,bv,d,i,j,k,l⟩:=h;cases i;exact ln.2 ⟨b6,bv,d,rfl,j,k,l⟩
set_option linter.defProp false
def eW:=aj vY (aj pb (aj vZ qZ))
end
def b8.tS{H:ae}{ok:Nat->Prop}{ks:List aL}{x:aa}(d:b8 H ok ks x)(H':ae):b2 P H' .len [41] [x]=D (I J ks.length):=by
 rcases d with⟨rfl,a⟩|⟨e,i1,c,i,h,rfl,_⟩|⟨e,i1,c,rfl,a⟩
 ·rw[a];exact qg
 ·exact lJ
 ·rw[a];exact lJ
def b8.row{H:ae}{ok:Nat->Prop}{ks:List aL}{x:aa}(d:b8 H ok ks x)(h:¬ks.length=0):∃l i cap ro els,x= .aA l i ks.length 11 cap/\ok l/\H.get l=D (.row ro 11 els)/\dd H ok ks (els.drop i):=by
 rcases d with⟨_,a⟩|c|⟨_,_,_,_,a⟩
 ·exact absurd a h
 ·exact c
 ·exact absurd a h
def fC.mem{B:Nat}:∀{es:List aL},fC B es->∀e∈es,hE B e
 |[],_,e,he=>by simp at he
 |x::xs,h,e,he=>by
  rw[fC]at h;rcases List.mem_cons.1 he with rfl|he
  ·exact h.1
  ·exact fC.mem h.2 e he
section
set_option maxRecDepth 100000
noncomputable section
end
end
end Go.Proofs.YtghmbpmaafnodaaDoor
namespace Go.b9
 @[congr] theorem Na {H H':ae} {cs a:List aa} {k:aa->ae->O} {z:Nat} (d:H=H') (e:cs=a) (c:gw=z):cg H cs k=cg H' a k:=by rw[d,e]
 @[congr] theorem M5 {ms a:List Nat} {T:List iQ} {H:ae} {z:Nat} (c:gw=z):pP ms a T H=pP ms a T H:=rfl
end Go.b9
namespace Go.Proofs.YtghmbpmaafnodaaDoor
open Go.b9
open Nat (reduceAdd reduceLeDiff)
mutual
def tl(B:Nat):bE->Prop
 | .mk _ es b c=>(es.length<=B/\fC B es)/\(b.length<=B/\hF B b)/\(c.length<=B/\hF B c)
def hF(B:Nat):List bE->Prop
 |[]=>True
 |e::es=>tl B e/\hF B es
end
def hF.mem{B:Nat}:∀{es:List bE},hF B es->∀e∈es,tl B e
 |[],_,e,he=>by simp at he
 |x::xs,h,e,he=>by
  rw[hF]at h;rcases List.mem_cons.1 he with rfl|he
  ·exact h.1
  ·exact hF.mem h.2 e he
def c1.aM{H H':ae}{ok:Nat->Prop}{ks:List bE}{kv:aa}(h:c1 H ok ks kv)(p:aO H H'):c1 H' ok ks kv:=h.aX (dU.aM p λ_ h=>h)
def d_.aM{H H':ae}{ok:Nat->Prop}{e:bE}{v:aa}(h:d_ H ok e v)(p:aO H H'):d_ H' ok e v:=d_.aX (dU.aM p λ_ h=>h) e v h
def dz.cons{H:ae}{ok:Nat->Prop}{e:bE}{es:List bE}{els:List (List aa)}{k:Nat}(h:dz H ok (e::es) (els.drop k)):∃cs,els[k]? =D cs/\d_ H ok e (.agg cs)/\dz H ok es (els.drop (k+1)):=by
 cases a:els.drop k with
 |nil=>rw[a,dz]at h;exact h.elim
 |cons cs css=>
  rw[a,dz]at h;have c:els[k]? =D cs:=by
   have:=List.getElem?_drop (xs:=els) (i:=k) (j:=0);rw[a]at this;simpa using this.symm
  have d:els.drop (k+1)=css:=by
   have:(els.drop k).drop 1=css:=by rw[a];rfl
   rwa[List.drop_drop]at this
  exact⟨cs,c,h.1,by rw[d];exact h.2⟩
def c1.tS{H:ae}{ok:Nat->Prop}{ks:List bE}{x:aa}(d:c1 H ok ks x)(H':ae):b2 P H' .len [71] [x]=D (I J ks.length):=by
 rcases d with⟨rfl,a⟩|⟨e,i1,c,i,h,rfl,_⟩|⟨e,i1,c,rfl,a⟩
 ·rw[a];exact u2
 ·exact rS
 ·rw[a];exact rS
def c1.row{H:ae}{ok:Nat->Prop}{ks:List bE}{x:aa}(d:c1 H ok ks x)(h:¬ks.length=0):∃l i cap ro els,x= .aA l i ks.length 9 (Option.map (· +ks.length) cap)/\ok l/\H.get l=D (.row ro 9 els)/\dz H ok ks (els.drop i):=by
 rcases d with⟨_,a⟩|c|⟨_,_,_,_,a⟩
 ·exact absurd a h
 ·exact c
 ·exact absurd a h
def p8{d deep:Nat}{b:List bE}(h:∀s∈b,ea d s)(a:deep+d<=51):(flat (cH deep b)).length<=du b:=p9 b λs aB=>uV (h s aB) deep a
def c1.beq{H:ae}{ok:Nat->Prop}{ks:List bE}{kv:aa}(h:c1 H ok ks kv):aa.beq kv kv=true:=by
 rcases h with⟨rfl,_⟩|⟨l,i,cap,ro,els,rfl,_⟩|⟨l,i,cap,rfl,_⟩<;>simp[aa.beq]
def I4{v:aa}(h:aa.beq v v=X):bj (D v) v=true:=by simp[bj,h]
def uc(x:aJ)(l:List bN):flat (.b x::l)=x++flat l:=rfl
def mD(l:List bN):flat (nl::l)=[10]++flat l:=rfl
def ue(x ai:aJ)(z:Int)(l:List bN):flat (jG x ai z++l)=x++([58,32]++(flat (cX ai z)++flat l)):=by
 unfold jG;rw[List.cons_append,List.cons_append,List.cons_append,iA,cT,dV,c3];rfl
def pU(d:aJ)(B l:List bN):flat (hL d B++l)=[32,123,10]++(flat B++(d++([125]++flat l))):=by
 unfold hL;rw[List.cons_append,List.cons_append,List.cons_append,dV,cT,mD,c3,c3,uc,cT,cY];simp
def Bb:∀l:List bE,400*l.length<=du l
 |[]=>by simp[du]
 | .mk a es b c::r=>by have:=Bb r;rw[du,dY,List.length_cons];omega
