/-
  Texts of one proof, laid together: Wc ShRb Ms E2 ShU Hds N1 Wd.
-/
import Derived.Test.YtghmbpmaafnodaaDoorML
set_option linter.unusedVariables false
set_option linter.unusedSimpArgs false
set_option linter.defProp false
open Option renaming some→D
open Bool renaming true→X,false→U
open Go.b9.aa renaming int→I,str→Y
open Go.IntKind renaming i64→J
namespace Go.Proofs.YtghmbpmaafnodaaDoor
open Go.b9
open Nat (reduceAdd reduceLeDiff)
def nL:(0:Int).toNat=0:=rfl
def Eu:(1:Int).toNat=1:=rfl
def dL:(0:Int)<((1:Nat):Int):=af
def bn:∀e:aJ,tv e
 | .mk a ks=>by
  have az:∀e∈ks,tv e:=λe he=>bn e
  intro d m aE hw bR a3 he H ok kv G;cases he;have h:=aE.low (m':=0) (Nat.zero_le _);clear aE;have hlen:=ox h;have aS:=G.ee;have y:∀l,dT l (.agg (a.cells kv))=D (.ptr l 0 0,.row U 11 [a.cells kv]):=λl=>hr l _ (by simp only[bM.cells,List.all_cons,List.all_nil,gO,hA,aS,Bool.and_self])
  have pp:=aM.push H (.row U 11 [a.cells kv]);have dh:=ad.bx H (.row U 11 [a.cells kv]);have ag:∀{T m':Nat} {b:bM} {o:List aJ},aJ.mk b o∈ks->cv T m' (.mk b o)->cL (.mk b o)<=1000000000/\∀(H':ad) (u:aa),b7 H' ok o u->W (aA P aw 17 [.agg (b.cells u)] H') λr am=>r= Y (flat (bl (.mk b o)))/\aM H' am:=by
   intro T m' b o hm Q;have hle:cL (.mk b o)<=bY ks:=by
    clear az hlen G hw h y pp dh
    induction ks with
    |nil=>cases hm
    |cons k r aU=>
     rw[bY];rcases List.mem_cons.1 hm with rfl|hm
     ·omega
     ·have:=aU hm;omega
   rw[cL]at hw;have aF:cL (.mk b o)<=1000000000:=af;exact⟨aF,λH' u ak=>az _ hm T m' Q aF b o rfl H' ok u ak⟩
  have fc:∀{T m':Nat} {b:bM} {o:List aJ} (n:Nat) {z:Int},z=n->aJ.mk b o∈ks->cv T m' (.mk b o)->∀(H':ad) (u:aa),b7 H' ok o u->W (aA P aw 49 [.agg (b.cells u),I J z] H') λr am=>r= Y (flat (cl n (.mk b o)))/\aM H' am:=by
   intro T m' b o n z V hm Q H' u ak;subst V;obtain⟨B,s⟩:=ag hm Q;have:=ox Q;exact NK ak.ee (λE q=>s E u (ak.aK q)) af
  refine cA (λ_=>J6 (ks.length+1)) ?_;simp only[bM.cells]at y pp dh ag fc ⊢;rw[ss];cases h with
  |par B s A=>omega
  | @int d m n p B s A=>
   simp-implicitDefEqProofs(disch:=try exact aj)only[reduceAdd,reduceLeDiff,reduceIte,av,y,Int.reduceBEq];refine aL (Nb s A) ?_;rintro _ E ⟨rfl,q⟩;refine⟨q.1,a_.2 ⟨?_,pp.trans q⟩⟩;rw[eJ];show _=aa.str (flat [.t ⟨2,[],n,0⟩]);simp[flat,bw.nN,gE]
  | @bool d m n p B s=>
   rcases s with rfl|rfl
   ·simp-implicitDefEqProofs(disch:=try exact aj)only[reduceAdd,reduceLeDiff,reduceIte,av,y,Int.reduceBEq];exact a_.2 ⟨by rw[eJ];rfl,pp⟩
   ·simp-implicitDefEqProofs(disch:=try exact aj)only[reduceAdd,reduceLeDiff,reduceIte,av,y,Int.reduceBEq];exact a_.2 ⟨by rw[eJ];rfl,pp⟩
  | @null d m x z p B s=>
   simp-implicitDefEqProofs(disch:=try exact aj)only[reduceAdd,reduceLeDiff,reduceIte,av,y,Int.reduceBEq];refine aL (E1 s.1 (by have:=s.2.1;omega) (by have:=fs s;omega)) ?_;rintro _ E ⟨rfl,q⟩;refine⟨q.1,?_⟩;have a0:=hS x z;have:=fs s;have:=s.2.1;have w:an P .add 9 X (Y [110,117,108,108,32]) (Y (flat (ca x z)))=D (Y ([110,117,108,108,32]++flat (ca x z))):=cW (by simp only[List.length_cons,List.length_nil];omega);simp only[w,dG];exact a_.2 ⟨by rw[eJ];rfl,pp.trans q⟩
  | @var d m x p B s=>
   simp-implicitDefEqProofs(disch:=try exact aj)only[reduceAdd,reduceLeDiff,reduceIte,av,y,Int.reduceBEq];exact a_.2 ⟨by rw[eJ];show _=aa.str (flat [cc x]);rw[iK,cY,List.append_nil],pp⟩
  | @field d m x p e B s A=>
   obtain⟨b,o⟩:=e;obtain⟨l,i,cap,ro,els,u,rfl,g1,aZ,F⟩:=G.jd (n:=1) rfl (j:=0) rfl;have g2:=pp.get g1;simp only[bM.cells]at aZ;rw[Nat.add_zero]at aZ;rw[qz,cV]at hlen;simp-implicitDefEqProofs(disch:=try exact aj)only[reduceAdd,reduceLeDiff,reduceIte,av,y,Int.reduceBEq,g2,nL,aZ,dL];refine aL (fc 7 rfl (by simp) A _ u (F.aK pp)) ?_;rintro _ E ⟨rfl,q⟩;refine⟨q.1,?_⟩;have M:=q.get dh;have:=eN s;have w:an P .add 9 X (Y (flat (cl 7 (.mk b o)))) (Y [46])=D (Y (flat (cl 7 (.mk b o))++[46])):=cW (by simp only[List.length_cons,List.length_nil];omega);have K:an P .add 9 U (Y (flat (cl 7 (.mk b o))++[46])) (Y x)=D (Y (flat (cl 7 (.mk b o))++[46]++x)):=cW (by simp only[List.length_append,List.length_cons,List.length_nil];omega)
   simp-implicitDefEqProofs(disch:=try exact aj)only[bd,br,Nat.reduceAdd,Nat.reduceLeDiff,reduceIte,aa.cells,cK,dA,al,cD,dS,dh,M,w,K];exact a_.2 ⟨by rw[qz,c2,cT,iK,cY];simp,pp.trans q⟩
  | @item d m p e f B s A=>
   obtain⟨b,o⟩:=e;obtain⟨c,cs⟩:=f;obtain⟨l,i,cap,ro,els,u,rfl,g1,aZ,F⟩:=G.jd (n:=2) rfl (j:=0) rfl;obtain⟨l',aT,aI,aV,aN,kw,au,ae,S,ah⟩:=G.jd (n:=2) rfl (j:=1) rfl;cases au;rw[g1]at ae;cases ae;have g2:=pp.get g1;simp only[bM.cells]at aZ S;rw[Nat.add_zero]at aZ;rw[qA,cV,c9,cV]at hlen;have ax:(0:Int)<((2:Nat):Int):=af;have dI:(1:Int)<((2:Nat):Int):=af;simp-implicitDefEqProofs(disch:=try exact aj)only[reduceAdd,reduceLeDiff,reduceIte,av,y,Int.reduceBEq,g2,nL,aZ,ax];refine aL (fc 7 rfl (by simp) s _ u (F.aK pp)) ?_;rintro _ E ⟨rfl,q⟩;refine⟨q.1,?_⟩;have M:=q.get dh;have g3:=q.get g2;have Q:=(ag (by simp) A).2 E kw (ah.aK (pp.trans q))
   simp-implicitDefEqProofs(disch:=try exact aj)only[bd,br,Nat.reduceAdd,Nat.reduceLeDiff,reduceIte,aa.cells,cK,dA,al,cD,dS,M,g3,Eu,S,dI];refine aL Q ?_;rintro _ aC ⟨rfl,O⟩;refine⟨O.1,?_⟩;have w:an P .add 9 X (Y (flat (cl 7 (.mk b o)))) (Y [91])=D (Y (flat (cl 7 (.mk b o))++[91])):=cW (by simp only[List.length_cons,List.length_nil];omega);have K:an P .add 9 U (Y (flat (cl 7 (.mk b o))++[91])) (Y (flat (bl (.mk c cs))))=D (Y (flat (cl 7 (.mk b o))++[91]++flat (bl (.mk c cs)))):=cW (by simp only[List.length_append,List.length_cons,List.length_nil];omega);have ab:an P .add 9 X (Y (flat (cl 7 (.mk b o))++[91]++flat (bl (.mk c cs)))) (Y [93])=D (Y (flat (cl 7 (.mk b o))++[91]++flat (bl (.mk c cs))++[93])):=cW (by simp only[List.length_append,List.length_cons,List.length_nil];omega)
   have R:=qJ (a:=c) ah.beq;simp only[bM.cells]at R;simp-implicitDefEqProofs(disch:=try exact aj)only[bd,br,Nat.reduceAdd,Nat.reduceLeDiff,reduceIte,aa.cells,cK,dA,al,cD,dh,M,g2,g3,S,w,K,ab,R];exact a_.2 ⟨by rw[qA,c2,cT,c2,cT,cY];simp,(pp.trans q).trans O⟩
  | @call d m x p l B s A=>
   have:=eN s;have w:an P .add 9 X (Y x) (Y [40])=D (Y (x++[40])):=cW (by simp only[List.length_cons,List.length_nil];omega);rw[cL]at hw;simp only at hw;by_cases V:ks.length=0
   ·obtain rfl:=List.length_eq_zero_iff.1 V;have aR:∀H',b4 P H' .len [41] [kv]=D (I J 0):=by
     intro H';rcases G with⟨rfl,_⟩|⟨l,i,cap,ro,els,rfl,_⟩|⟨l,i,cap,rfl,_⟩
     ·exact qo
     ·exact lK
     ·exact lK
    have aO:¬((0:Int)<(0:Int)):=af;have K:an P .add 9 X (Y (x++[40])) (Y [41])=D (Y (x++[40]++[41])):=cW (by simp only[List.length_append,List.length_cons,List.length_nil];omega);simp-implicitDefEqProofs(disch:=try exact aj)only[reduceAdd,reduceLeDiff,reduceIte,av,y,Int.reduceBEq,w,jP,nd,k1,aR,aO,decide_false,K];exact a_.2 ⟨by rw[qy,iK,cT,c2,cT,cY,c5,eA,cY];simp,pp⟩
   ·rcases G with⟨_,ao⟩|⟨L,i,cap,ro,els,rfl,_,g1,aB⟩|⟨_,_,_,_,ao⟩
    ·exact absurd ao V
    ·have g2:=pp.get g1;have a2:=qh ks;simp-implicitDefEqProofs(disch:=try exact aj)only[reduceAdd,reduceLeDiff,reduceIte,av,y,Int.reduceBEq,w];have key:=xx (N:=ks.length+1) (H0:=H.push (.row U 11 [bM.cells {kind:=7,name:=x,pos:=p} (.ay L i ks.length 11 cap)])) (i:=i) (ok:=ok) dh g2 az (λe he=> .inr ⟨_,A e he⟩) af af ks 0 (ks.length+1) (x++[40]) _ rfl (by rw[Nat.add_zero];exact dc.aY (c8.aK pp λ_ h=>h) _ _ aB) ⟨by simp only[List.length_append,List.length_cons,List.length_nil];omega,af⟩ af af (.refl _);refine key.mono ?_;rintro v E ⟨rfl,q⟩;refine⟨?_,pp.trans q⟩;rw[qy,iK,cT,c2,cT,cY];cases ks with
     |nil=>exact absurd rfl V
     |cons k r=>simp[pd]
    ·exact absurd ao V
  | @new d m x p B s=>
   have:=eN s;have w:an P .add 9 X (Y [110,101,119,32]) (Y x)=D (Y ([110,101,119,32]++x)):=cW (by simp only[List.length_cons,List.length_nil];omega);simp-implicitDefEqProofs(disch:=try exact aj)only[reduceAdd,reduceLeDiff,reduceIte,av,y,Int.reduceBEq,w];exact a_.2 ⟨by rw[eJ];show _=aa.str (flat [wd [110,101,119],ct,cc x]);rw[gL,dY,iK,cY];simp,pp⟩
  | @make d m x z p e B s A=>
   obtain⟨b,o⟩:=e;obtain⟨l,i,cap,ro,els,u,rfl,g1,aZ,F⟩:=G.jd (n:=1) rfl (j:=0) rfl;have g2:=pp.get g1;simp only[bM.cells]at aZ;rw[Nat.add_zero]at aZ;rw[qC,hy,ey,c9,cV,c9,c9,cV]at hlen;simp-implicitDefEqProofs(disch:=try exact aj)only[reduceAdd,reduceLeDiff,reduceIte,av,y,Int.reduceBEq];refine aL (E1 s.1 (by have:=s.2.1;omega) (by have:=fs s;omega)) ?_;rintro _ E ⟨rfl,q⟩;refine⟨q.1,?_⟩;have M:=q.get dh;have g3:=q.get g2;have Q:=(ag (by simp) A).2 E u (F.aK (pp.trans q));simp-implicitDefEqProofs(disch:=try exact aj)only[bd,br,Nat.reduceAdd,Nat.reduceLeDiff,reduceIte,aa.cells,cK,dA,al,cD,dS,M,g3,nL,aZ,dL]
   refine aL Q ?_;rintro _ aC ⟨rfl,O⟩;refine⟨O.1,?_⟩;have w:an P .add 9 X (Y [110,101,119,32,91]) (Y (flat (ca x z)))=D (Y ([110,101,119,32,91]++flat (ca x z))):=cW (by simp only[List.length_cons,List.length_nil];omega);have K:an P .add 9 X (Y ([110,101,119,32,91]++flat (ca x z))) (Y [93,40])=D (Y ([110,101,119,32,91]++flat (ca x z)++[93,40])):=cW (by simp only[List.length_append,List.length_cons,List.length_nil];omega);have ab:an P .add 9 U (Y ([110,101,119,32,91]++flat (ca x z)++[93,40])) (Y (flat (bl (.mk b o))))=D (Y ([110,101,119,32,91]++flat (ca x z)++[93,40]++flat (bl (.mk b o)))):=cW (by simp only[List.length_append,List.length_cons,List.length_nil];omega)
   have ap:an P .add 9 X (Y ([110,101,119,32,91]++flat (ca x z)++[93,40]++flat (bl (.mk b o)))) (Y [41])=D (Y ([110,101,119,32,91]++flat (ca x z)++[93,40]++flat (bl (.mk b o))++[41])):=cW (by simp only[List.length_append,List.length_cons,List.length_nil];omega);have R:=qJ (a:=b) F.beq;simp only[bM.cells]at R;rw[w,dG,K,dG,ab,dG,ap,dG];simp-implicitDefEqProofs(disch:=try exact aj)only[bd,br,Nat.reduceAdd,Nat.reduceLeDiff,reduceIte,aa.cells,cK,dA,al,cD,dh,M,g2,g3,aZ,R];exact a_.2 ⟨by rw[qC,gL,dY,cT,c2,cT,cT,c2,cT,cY];simp,(pp.trans q).trans O⟩
  | @len d m p e B s=>
   obtain⟨b,o⟩:=e;obtain⟨l,i,cap,ro,els,u,rfl,g1,aZ,F⟩:=G.jd (n:=1) rfl (j:=0) rfl;have g2:=pp.get g1;simp only[bM.cells]at aZ;rw[Nat.add_zero]at aZ;rw[qB,hy,c9,cV]at hlen;simp-implicitDefEqProofs(disch:=try exact aj)only[reduceAdd,reduceLeDiff,reduceIte,av,y,Int.reduceBEq,g2,nL,aZ,dL];refine aL ((ag (by simp) s).2 _ u (F.aK pp)) ?_;rintro _ E ⟨rfl,q⟩;refine⟨q.1,?_⟩;have w:an P .add 9 X (Y [108,101,110,40]) (Y (flat (bl (.mk b o))))=D (Y ([108,101,110,40]++flat (bl (.mk b o)))):=cW (by simp only[List.length_cons,List.length_nil];omega);have K:an P .add 9 X (Y ([108,101,110,40]++flat (bl (.mk b o)))) (Y [41])=D (Y ([108,101,110,40]++flat (bl (.mk b o))++[41])):=cW (by simp only[List.length_append,List.length_cons,List.length_nil];omega)
   rw[w,dG,K,dG];exact a_.2 ⟨by rw[qB,gL,cT,c2,cT,cY];simp,pp.trans q⟩
  | @read d m p B=>
   simp-implicitDefEqProofs(disch:=try exact aj)only[reduceAdd,reduceLeDiff,reduceIte,av,y,Int.reduceBEq];exact a_.2 ⟨by rw[eJ];rfl,pp⟩
  | @sign d m k p e B s A=>
   obtain⟨b,o⟩:=e;obtain⟨l,i,cap,ro,els,u,rfl,g1,aZ,F⟩:=G.jd (n:=1) rfl (j:=0) rfl;have g2:=pp.get g1;simp only[bM.cells]at aZ;rw[Nat.add_zero]at aZ;rw[mV s,c9]at hlen;rcases s with rfl|rfl
   ·simp-implicitDefEqProofs(disch:=try exact aj)only[reduceAdd,reduceLeDiff,reduceIte,av,y,Int.reduceBEq,g2,nL,aZ,dL];refine aL (fc 6 rfl (by simp) A _ u (F.aK pp)) ?_;rintro _ E ⟨rfl,q⟩;refine⟨q.1,?_⟩;have w:an P .add 9 X (Y [45]) (Y (flat (cl 6 (.mk b o))))=D (Y ([45]++flat (cl 6 (.mk b o)))):=cW (by simp only[List.length_cons,List.length_nil];omega);rw[w,dG];exact a_.2 ⟨by rw[mV (.inl rfl),cT];rfl,pp.trans q⟩
   ·simp-implicitDefEqProofs(disch:=try exact aj)only[reduceAdd,reduceLeDiff,reduceIte,av,y,Int.reduceBEq,g2,nL,aZ,dL];refine aL (fc 6 rfl (by simp) A _ u (F.aK pp)) ?_;rintro _ E ⟨rfl,q⟩;refine⟨q.1,?_⟩;have w:an P .add 9 X (Y [33]) (Y (flat (cl 6 (.mk b o))))=D (Y ([33]++flat (cl 6 (.mk b o)))):=cW (by simp only[List.length_cons,List.length_nil];omega);rw[w,dG];exact a_.2 ⟨by rw[mV (.inr rfl),cT];rfl,pp.trans q⟩
  | @bin d m k p e f B s A aP aQ=>
   obtain⟨b,o⟩:=e;obtain⟨c,cs⟩:=f;obtain⟨l,i,cap,ro,els,u,rfl,g1,aZ,F⟩:=G.jd (n:=2) rfl (j:=0) rfl;obtain⟨l',aT,aI,aV,aN,kw,au,ae,S,ah⟩:=G.jd (n:=2) rfl (j:=1) rfl;cases au;rw[g1]at ae;cases ae;have g2:=pp.get g1;have aG:=λH'=>B6 (H:=H') (a:={kind:=k,pos:=p}) (kv:= .ay l i (0+1+1) 11 cap) rfl
   simp only[bM.cells]at aZ S aG;rw[Nat.add_zero]at aZ;rw[qx s,cV,ey,c9,ey]at hlen;have a1:=u7 s A;have ax:(0:Int)<((2:Nat):Int):=af;have dI:(1:Int)<((2:Nat):Int):=af;have cq:∀m:Int,m<14->(k==m)=false:=λm h=>by simp;omega
   have aB:IntKind.i64.wrap (((c4 k:Nat):Int)+1)=((c4 k+1:Nat):Int):=by have:=ve k;rw[wrap_i64 af af];omega
   simp-implicitDefEqProofs(disch:=try exact aj)only[reduceAdd,reduceLeDiff,reduceIte,av,y,cq 1 af,cq 2 af,cq 3 af,cq 4 af,cq 5 af,cq 6 af,cq 7 af,cq 8 af,cq 9 af,cq 10 af,cq 11 af,cq 12 af,cq 13 af];unfold kj;simp-implicitDefEqProofs(disch:=try exact aj)only[reduceAdd,reduceLeDiff,reduceIte,av,dh];refine aL (aG _) ?_;rintro _ E ⟨rfl,q⟩;refine⟨q.1,?_⟩;have M:=q.get dh;have g3:=q.get g2;simp-implicitDefEqProofs(disch:=try exact aj)only[bd,br,Nat.reduceAdd,Nat.reduceLeDiff,reduceIte,aa.cells,cK,dA,al,cD,dS,M,g3,nL,aZ,ax];refine aL (fc (c4 k) rfl (by simp) aP _ u (F.aK (pp.trans q))) ?_;rintro _ aC ⟨rfl,O⟩
   refine⟨O.1,?_⟩;have aq:=O.get M;have g4:=O.get g3;simp-implicitDefEqProofs(disch:=try exact aj)only[bd,br,Nat.reduceAdd,Nat.reduceLeDiff,reduceIte,aa.cells,cK,dA,al,cD,dS,aq];refine aL (MI s A) ?_;rintro _ aW ⟨rfl,ai⟩;refine⟨ai.1,?_⟩;have aD:=ai.get aq;have g5:=ai.get g4;simp-implicitDefEqProofs(disch:=try exact aj)only[bd,br,Nat.reduceAdd,Nat.reduceLeDiff,reduceIte,aa.cells,cK,dA,al,cD,dS,aD,g5,Eu,S,dI,c7,aB];refine aL (fc (c4 k+1) rfl (by simp) aQ _ kw (ah.aK (((pp.trans q).trans O).trans ai))) ?_;rintro _ aX ⟨rfl,aH⟩;refine⟨aH.1,?_⟩;have w:an P .add 9 X (Y (flat (cl (c4 k) (.mk b o)))) (Y [32])=D (Y (flat (cl (c4 k) (.mk b o))++[32])):=cW (by simp only[List.length_cons,List.length_nil];omega)
   have K:an P .add 9 U (Y (flat (cl (c4 k) (.mk b o))++[32])) (Y (gC k))=D (Y (flat (cl (c4 k) (.mk b o))++[32]++gC k)):=cW (by simp only[List.length_append,List.length_cons,List.length_nil];omega);have ab:an P .add 9 X (Y (flat (cl (c4 k) (.mk b o))++[32]++gC k)) (Y [32])=D (Y (flat (cl (c4 k) (.mk b o))++[32]++gC k++[32])):=cW (by simp only[List.length_append,List.length_cons,List.length_nil];omega);have ap:an P .add 9 U (Y (flat (cl (c4 k) (.mk b o))++[32]++gC k++[32])) (Y (flat (cl (c4 k+1) (.mk c cs))))=D (Y (flat (cl (c4 k) (.mk b o))++[32]++gC k++[32]++flat (cl (c4 k+1) (.mk c cs)))):=cW (by simp only[List.length_append,List.length_cons,List.length_nil];omega)
   have R:=qJ (a:=c) ah.beq;simp only[bM.cells]at R;rw[w,dG,K,dG,ab,dG,ap,dG];simp-implicitDefEqProofs(disch:=try exact aj)only[bd,br,Nat.reduceAdd,Nat.reduceLeDiff,reduceIte,aa.cells,cK,dA,al,cD,dh,M,aq,aD,g2,g3,g4,g5,S,R];exact a_.2 ⟨by rw[qx s,c2,dY,cT,dY];simp,(((pp.trans q).trans O).trans ai).trans aH⟩
section
set_option maxRecDepth 100000
noncomputable section
end
end
section
def bZ.cells(a:bZ)(b6 bv c:aa):List aa:=[I J a.kind,Y a.name,Y a.cf,I J a.c3,b6,bv,c,I J a.pos,I J a.ref]
mutual
def ec(H:ad)(ok:Nat->Prop):bB->aa->Prop
 | .mk a es b c,v=>∃b6 bv d,v= .agg (a.cells b6 bv d)/\b7 H ok es b6/\
  ((bv= .ar/\b.length=0)\/(∃l i cap ro els,bv= .ay l i b.length 9 (Option.map (· +b.length) cap)/\ok l/\H.get l=D (.row ro 9 els)/\dz H ok b (els.drop i))\/∃l i cap,bv= .ay l i 0 9 cap/\b.length=0)/\
  ((d= .ar/\c.length=0)\/(∃l i cap ro els,d= .ay l i c.length 9 (Option.map (· +c.length) cap)/\ok l/\H.get l=D (.row ro 9 els)/\dz H ok c (els.drop i))\/∃l i cap,d= .ay l i 0 9 cap/\c.length=0)
def dz(H:ad)(ok:Nat->Prop):List bB->List (List aa)->Prop
 |[],_=>True
 |_::_,[]=>False
 |e::es,cs::css=>ec H ok e (.agg cs)/\dz H ok es css
end
def c1(H:ad)(ok:Nat->Prop)(b:List bB)(bv:aa):Prop:=(bv= .ar/\b.length=0)\/(∃l i cap ro els,bv= .ay l i b.length 9 (Option.map (· +b.length) cap)/\ok l/\H.get l=D (.row ro 9 els)/\dz H ok b (els.drop i))\/∃l i cap,bv= .ay l i 0 9 cap/\b.length=0
def lp{H:ad}{ok:Nat->Prop}{a:bZ}{es:List aJ}{b c:List bB}{v:aa}:ec H ok (.mk a es b c) v↔∃b6 bv d,v= .agg (a.cells b6 bv d)/\b7 H ok es b6/\c1 H ok b bv/\c1 H ok c d:=by
 rw[ec];rfl
structure dX(H:ad)(ok:Nat->Prop)(H':ad)(ok':Nat->Prop):Prop where
 ex:c8 H ok H' ok'
 st:∀l ro els,ok l->H.get l=some (.row ro 9 els)->ok' l/\H'.get l=some (.row ro 9 els)
section
variable {H H':ad}{ok ok':Nat->Prop}
mutual
def ec.aY(p:dX H ok H' ok'):∀(e:bB) (v:aa),ec H ok e v->ec H' ok' e v
 | .mk a es b c,v,h=>by
  rw[ec]at h ⊢;obtain⟨b6,bv,q,s,u,d,w⟩:=h;refine⟨b6,bv,q,s,u.aY p.ex,?_,?_⟩
  ·rcases d with d|⟨l,i,cap,ro,els,j,k,m,n⟩|d
   ·exact .inl d
   ·obtain⟨aZ,o⟩:=p.st l ro els k m;exact .inr (.inl ⟨l,i,cap,ro,els,j,aZ,o,dz.aY p b _ n⟩)
   ·exact .inr (.inr d)
  ·rcases w with d|⟨l,i,cap,ro,els,j,k,m,n⟩|d
   ·exact .inl d
   ·obtain⟨aZ,o⟩:=p.st l ro els k m;exact .inr (.inl ⟨l,i,cap,ro,els,j,aZ,o,dz.aY p c _ n⟩)
   ·exact .inr (.inr d)
def dz.aY(p:dX H ok H' ok'):∀(es:List bB) (cs:List (List aa)),dz H ok es cs->dz H' ok' es cs
 |[],_,_=>by rw[dz];trivial
 |e::es,[],h=>by rw[dz]at h;exact h.elim
 |e::es,cs::css,h=>by
  rw[dz]at h ⊢;exact⟨ec.aY p e _ h.1,dz.aY p es css h.2⟩
end
def c1.aY(p:dX H ok H' ok'){b:List bB}{v:aa}(h:c1 H ok b v):c1 H' ok' b v:=by
 rcases h with a|⟨l,i,cap,ro,els,c,d,e,j⟩|a
 ·exact .inl a
 ·obtain⟨aZ,k⟩:=p.st l ro els d e;exact .inr (.inl ⟨l,i,cap,ro,els,c,aZ,k,dz.aY p b _ j⟩)
 ·exact .inr (.inr a)
def dX.mut{r:Nat}(m:b2 r H H')(c:¬ok r)(a:∀l,ok l->ok' l):dX H ok H' ok':=⟨c8.mut m c a,λl ro els h e=>⟨a l h,m.get e (by rintro rfl;exact c h)⟩⟩
def dX.aK(m:aM H H')(a:∀l,ok l->ok' l):dX H ok H' ok':=⟨c8.aK m a,λl ro els h e=>⟨a l h,m.get e⟩⟩
def dX.set{l:Nat}(b:bN)(h:¬ok l)(c:∀l,ok l->ok' l):dX H ok (H.set l b) ok':=⟨c8.set b h c,λj ro els a e=>⟨c j a,by rw[ad.get_set_other (by rintro rfl;exact h a)];exact e⟩⟩
def dX.kP(h:∀l,ok l->ok' l):dX H ok H ok':=⟨c8.kP h,λl ro els a e=>⟨h l a,e⟩⟩
def c1.ee{b:List bB}{v:aa}(h:c1 H ok b v):v.one=true:=by
 rcases h with⟨rfl,_⟩|⟨l,i,cap,ro,els,rfl,_⟩|⟨l,i,cap,rfl,_⟩<;>rfl
def c1.nil(H:ad)(ok:Nat->Prop):c1 H ok [] .ar:= .inl ⟨rfl,rfl⟩
def ec.cells{e:bB}{v:aa}(h:ec H ok e v):∃cs,v= .agg cs/\cs.length=9/\cs.all aa.one=true:=by
 cases e with|mk a es b c=>
 rw[lp]at h;obtain⟨b6,bv,k,rfl,d,i,j⟩:=h;refine⟨_,rfl,rfl,?_⟩;simp only[bZ.cells,List.all_cons,List.all_nil,gO,hA,d.ee,i.ee,j.ee,Bool.and_self]
def ec.leaf(H:ad)(ok:Nat->Prop)(a:bZ):ec H ok (.mk a [] [] []) (.agg (a.cells .ar .ar .ar)):=
 lp.2 ⟨_,_,_,rfl,.inl ⟨rfl,rfl⟩,.inl ⟨rfl,rfl⟩,.inl ⟨rfl,rfl⟩⟩
def ec.mut{r:Nat}{e:bB}{v:aa}(h:ec H ok e v)(m:b2 r H H')(c:¬ok r)(a:∀l,ok l->ok' l):ec H' ok' e v:=ec.aY (dX.mut m c a) e v h
def dX.new{n:Nat}(m:cX (· <n) H H')(c:∀l,n<=l->ok l):dX H (bb n) H' ok:=
 ⟨λl ro els a g=>⟨c l a,m.get g (Nat.not_lt.2 a)⟩,λl ro els a g=>⟨c l a,m.get g (Nat.not_lt.2 a)⟩⟩
end
def tw(ok:Nat->Prop)(H:ad)(r:Nat)(T:List Tok)(ak:aa)(e:bB)(s':aq)(v:aa)(H':ad):Prop:=b2 r H H'/\bG H' r T ak s'/\ec H' ok e v
abbrev fh(H:ad):=tw (bb H.next) H
def fh.fin{H bI:ad}{r:Nat}{T:List Tok}{ak:aa}{s s':aq}{a:bZ}{es:List aJ}{b c:List bB}{b6 bv e:aa}{x lo:Nat}(i:bG H r T ak s)(m:b2 r H bI)(h:bt bI r ak s')(j:b7 bI (bb lo) es b6)(n:c1 bI (bb lo) b bv)(o:c1 bI (bb lo) c e)(p:H.next<=x)(u:x<lo)(d:bN):
  fh H r T ak (.mk a es b c) s' (.agg (a.cells b6 bv e)) (bI.set x d):=by
 have q:=i.rd.lt;have m':=m.cz (.inr p) d;have k:dX bI (bb lo) (bI.set x d) (bb H.next):=dX.set _ (by unfold bb;omega) λl q=>by unfold bb at*;omega
 refine⟨m',i.mut m' ?_,lp.2 ⟨b6,bv,e,rfl,j.aY k.ex,n.aY k,o.aY k⟩⟩;unfold bt at h ⊢;rw[ad.get_set_other af];exact h
def fh.ret{H a:ad}{r:Nat}{T:List Tok}{ak:aa}{s s':aq}{e:bB}{v:aa}{b n:Nat}(h:bG H r T ak s)(m:b2 r H a)(d:bt a r ak s')(i:H.next<=b)(he:ec a (bb n) e v)(k:b<n)(c:bN):fh H r T ak e s' v (a.set b c):=by
 have j:=h.rd.lt;have m':=m.cz (.inr i) c;refine⟨m',h.mut m' ?_,ec.aY (dX.set _ (by unfold bb;omega) λl j=>by unfold bb at*;omega) e v he⟩;unfold bt at d ⊢;rw[ad.get_set_other af];exact d
def ec.at{H:ad}{ok:Nat->Prop}{e:bB}{cs:List aa}(h:ec H ok e (.agg cs))(p:Int):ec H ok (e.at p) (.agg (cs.set 7 (I J p))):=by
 cases e with|mk a es b c=>
 rw[lp]at h;obtain⟨b6,bv,d,i,j,k,l⟩:=h;cases i;exact lp.2 ⟨b6,bv,d,rfl,j,k,l⟩
set_option linter.defProp false
def eW:=ai wo (ai pj (ai wq q6))
end
def b7.ua{H:ad}{ok:Nat->Prop}{ks:List aJ}{x:aa}(d:b7 H ok ks x)(H':ad):b4 P H' .len [41] [x]=D (I J ks.length):=by
 rcases d with⟨rfl,a⟩|⟨e,i1,c,i,h,rfl,_⟩|⟨e,i1,c,rfl,a⟩
 ·rw[a];exact qo
 ·exact lK
 ·rw[a];exact lK
def b7.row{H:ad}{ok:Nat->Prop}{ks:List aJ}{x:aa}(d:b7 H ok ks x)(h:¬ks.length=0):∃l i cap ro els,x= .ay l i ks.length 11 cap/\ok l/\H.get l=D (.row ro 11 els)/\dc H ok ks (els.drop i):=by
 rcases d with⟨_,a⟩|c|⟨_,_,_,_,a⟩
 ·exact absurd a h
 ·exact c
 ·exact absurd a h
def fI.mem{B:Nat}:∀{es:List aJ},fI B es->∀e∈es,hL B e
 |[],_,e,he=>by simp at he
 |x::xs,h,e,he=>by
  rw[fI]at h;rcases List.mem_cons.1 he with rfl|he
  ·exact h.1
  ·exact fI.mem h.2 e he
section
set_option maxRecDepth 100000
noncomputable section
end
end
end Go.Proofs.YtghmbpmaafnodaaDoor
namespace Go.b9
 @[congr] theorem NZ {H H':ad} {cs a:List aa} {k:aa->ad->O} {z:Nat} (d:H=H') (e:cs=a) (c:gF=z):cp H cs k=cp H' a k:=by rw[d,e]
 @[congr] theorem NT {ms a:List Nat} {T:List iW} {H:ad} {z:Nat} (c:gF=z):pV ms a T H=pV ms a T H:=rfl
end Go.b9
namespace Go.Proofs.YtghmbpmaafnodaaDoor
open Go.b9
open Nat (reduceAdd reduceLeDiff)
mutual
def tz(B:Nat):bB->Prop
 | .mk _ es b c=>(es.length<=B/\fI B es)/\(b.length<=B/\hM B b)/\(c.length<=B/\hM B c)
def hM(B:Nat):List bB->Prop
 |[]=>True
 |e::es=>tz B e/\hM B es
end
def hM.mem{B:Nat}:∀{es:List bB},hM B es->∀e∈es,tz B e
 |[],_,e,he=>by simp at he
 |x::xs,h,e,he=>by
  rw[hM]at h;rcases List.mem_cons.1 he with rfl|he
  ·exact h.1
  ·exact hM.mem h.2 e he
def c1.aK{H H':ad}{ok:Nat->Prop}{ks:List bB}{kv:aa}(h:c1 H ok ks kv)(p:aM H H'):c1 H' ok ks kv:=h.aY (dX.aK p λ_ h=>h)
def ec.aK{H H':ad}{ok:Nat->Prop}{e:bB}{v:aa}(h:ec H ok e v)(p:aM H H'):ec H' ok e v:=ec.aY (dX.aK p λ_ h=>h) e v h
def dz.cons{H:ad}{ok:Nat->Prop}{e:bB}{es:List bB}{els:List (List aa)}{k:Nat}(h:dz H ok (e::es) (els.drop k)):∃cs,els[k]? =D cs/\ec H ok e (.agg cs)/\dz H ok es (els.drop (k+1)):=by
 cases a:els.drop k with
 |nil=>rw[a,dz]at h;exact h.elim
 |cons cs css=>
  rw[a,dz]at h;have c:els[k]? =D cs:=by
   have:=List.getElem?_drop (xs:=els) (i:=k) (j:=0);rw[a]at this;simpa using this.symm
  have d:els.drop (k+1)=css:=by
   have:(els.drop k).drop 1=css:=by rw[a];rfl
   rwa[List.drop_drop]at this
  exact⟨cs,c,h.1,by rw[d];exact h.2⟩
def c1.ua{H:ad}{ok:Nat->Prop}{ks:List bB}{x:aa}(d:c1 H ok ks x)(H':ad):b4 P H' .len [71] [x]=D (I J ks.length):=by
 rcases d with⟨rfl,a⟩|⟨e,i1,c,i,h,rfl,_⟩|⟨e,i1,c,rfl,a⟩
 ·rw[a];exact vd
 ·exact rZ
 ·rw[a];exact rZ
def c1.row{H:ad}{ok:Nat->Prop}{ks:List bB}{x:aa}(d:c1 H ok ks x)(h:¬ks.length=0):∃l i cap ro els,x= .ay l i ks.length 9 (Option.map (· +ks.length) cap)/\ok l/\H.get l=D (.row ro 9 els)/\dz H ok ks (els.drop i):=by
 rcases d with⟨_,a⟩|c|⟨_,_,_,_,a⟩
 ·exact absurd a h
 ·exact c
 ·exact absurd a h
def qf{d deep:Nat}{b:List bB}(h:∀s∈b,ed d s)(a:deep+d<=51):(flat (cJ deep b)).length<=dv b:=qg b λs az=>u6 (h s az) deep a
def c1.beq{H:ad}{ok:Nat->Prop}{ks:List bB}{kv:aa}(h:c1 H ok ks kv):aa.beq kv kv=true:=by
 rcases h with⟨rfl,_⟩|⟨l,i,cap,ro,els,rfl,_⟩|⟨l,i,cap,rfl,_⟩<;>simp[aa.beq]
def JF{v:aa}(h:aa.beq v v=X):bg (D v) v=true:=by simp[bg,h]
def uq(x:aB)(l:List bw):flat (.b x::l)=x++flat l:=rfl
def mH(l:List bw):flat (nl::l)=[10]++flat l:=rfl
def uu(x o:aB)(z:Int)(l:List bw):flat (jK x o z++l)=x++([58,32]++(flat (ca o z)++flat l)):=by
 unfold jK;rw[List.cons_append,List.cons_append,List.cons_append,iK,cT,dY,c2];rfl
def p0(d:aB)(B l:List bw):flat (hT d B++l)=[32,123,10]++(flat B++(d++([125]++flat l))):=by
 unfold hT;rw[List.cons_append,List.cons_append,List.cons_append,dY,cT,mH,c2,c2,uq,cT,cY];simp
def Bx:∀l:List bB,400*l.length<=dv l
 |[]=>by simp[dv]
 | .mk a es b c::r=>by have:=Bx r;rw[dv,ea,List.length_cons];omega
