/-
  Texts of one proof, laid together: Wc ShRb Ms E2 ShU Hds N1 Wd.
-/
import Derived.Test.YtghmbpmaafnodaaDoorML
set_option linter.unusedVariables false
set_option linter.unusedSimpArgs false
set_option linter.defProp false
open Option renaming some→D,none→Z
open Bool renaming true→X,false→U
open Go.cn.ad renaming int→I,str→Y
open Go.IntKind renaming i64→J
namespace Go.Proofs.YtghmbpmaafnodaaDoor
open Go.cn
open Nat (reduceAdd reduceLeDiff)
def iB:(0:Int).toNat=0:=rfl
def yh:(1:Int).toNat=1:=rfl
def dE:(0:Int)<((1:Nat):Int):=af
def ba:∀e:aJ,vv e
 | .mk a ks=>by
  have aB:∀e∈ks,vv e:=λe he=>ba e
  intro d m aC hw b4 a3 he H ok kv G;cases he;have h:=aC.low (m':=0) (Nat.zero_le _);clear aC;have hlen:=p3 h;have aS:=G.eb;have y:∀l,d_ l (.agg (a.cells kv))=D (.ptr l 0 0,.row U 11 [a.cells kv]):=λl=>hA l _ (by simp only[bK.cells,List.all_cons,List.all_nil,hF,h0,aS,Bool.and_self])
  have pp:=aP.push H (.row U 11 [a.cells kv]);have dr:=ae.bM H (.row U 11 [a.cells kv]);have ag:∀{T m':Nat} {b:bK} {o:List aJ},aJ.mk b o∈ks->cF T m' (.mk b o)->cM (.mk b o)<=1000000000/\∀(H':ae) (u:ad),ck H' ok o u->W (aE P aA 17 [.agg (b.cells u)] H') λr al=>r= Y (flat (bp (.mk b o)))/\aP H' al:=by
   intro T m' b o hm Q;have hle:cM (.mk b o)<=bX ks:=by
    clear aB hlen G hw h y pp dr
    induction ks with
    |nil=>cases hm
    |cons k r aV=>
     rw[bX];rcases List.mem_cons.1 hm with rfl|hm
     ·omega
     ·have:=aV hm;omega
   rw[cM]at hw;have aF:cM (.mk b o)<=1000000000:=af;exact⟨aF,λH' u ak=>aB _ hm T m' Q aF b o rfl H' ok u ak⟩
  have fv:∀{T m':Nat} {b:bK} {o:List aJ} (n:Nat) {z:Int},z=n->aJ.mk b o∈ks->cF T m' (.mk b o)->∀(H':ae) (u:ad),ck H' ok o u->W (aE P aA 49 [.agg (b.cells u),I J z] H') λr al=>r= Y (flat (cw n (.mk b o)))/\aP H' al:=by
   intro T m' b o n z V hm Q H' u ak;subst V;obtain⟨B,s⟩:=ag hm Q;have:=p3 Q;exact P_ ak.eb (λE q=>s E u (ak.aL q)) af
  refine cG (λ_=>L_ (ks.length+1)) ?_;simp only[bK.cells]at y pp dr ag fv ⊢;rw[uq];cases h with
  |par B s A=>omega
  | @int d m n p B s A=>
   simp-implicitDefEqProofs(disch:=try exact aj)only[reduceAdd,reduceLeDiff,reduceIte,ax,y,Int.reduceBEq];refine aO (PG s A) ?_;rintro _ E ⟨rfl,q⟩;refine⟨q.1,bb.2 ⟨?_,pp.trans q⟩⟩;rw[e0];show _=ad.str (flat [.t ⟨2,[],n,0⟩]);simp[flat,bT.u5,u6]
  | @bool d m n p B s=>
   rcases s with rfl|rfl
   ·simp-implicitDefEqProofs(disch:=try exact aj)only[reduceAdd,reduceLeDiff,reduceIte,ax,y,Int.reduceBEq];exact bb.2 ⟨by rw[e0];rfl,pp⟩
   ·simp-implicitDefEqProofs(disch:=try exact aj)only[reduceAdd,reduceLeDiff,reduceIte,ax,y,Int.reduceBEq];exact bb.2 ⟨by rw[e0];rfl,pp⟩
  | @null d m x z p B s=>
   simp-implicitDefEqProofs(disch:=try exact aj)only[reduceAdd,reduceLeDiff,reduceIte,ax,y,Int.reduceBEq];refine aO (qQ s.1 (by have:=s.2.1;omega) (by have:=fh s;omega)) ?_;rintro _ E ⟨rfl,q⟩;refine⟨q.1,?_⟩;have a0:=hE x z;have:=fh s;have:=s.2.1;have w:ao P .add 9 X (Y [110,117,108,108,32]) (Y (flat (c5 x z)))=D (Y ([110,117,108,108,32]++flat (c5 x z))):=bV (by simp only[List.length_cons,List.length_nil];omega);simp only[w,dY];exact bb.2 ⟨by rw[e0];rfl,pp.trans q⟩
  | @var d m x p B s=>
   simp-implicitDefEqProofs(disch:=try exact aj)only[reduceAdd,reduceLeDiff,reduceIte,ax,y,Int.reduceBEq];exact bb.2 ⟨by rw[e0];show _=ad.str (flat [cq x]);rw[iK,ch,List.append_nil],pp⟩
  | @field d m x p e B s A=>
   obtain⟨b,o⟩:=e;obtain⟨l,i,cap,ro,els,u,rfl,g1,aT,F⟩:=G.ga (n:=1) rfl (j:=0) rfl;have g2:=pp.get g1;simp only[bK.cells]at aT;rw[Nat.add_zero]at aT;rw[r3,c4]at hlen;simp-implicitDefEqProofs(disch:=try exact aj)only[reduceAdd,reduceLeDiff,reduceIte,ax,y,Int.reduceBEq,g2,iB,aT,dE];refine aO (fv 7 rfl (by simp) A _ u (F.aL pp)) ?_;rintro _ E ⟨rfl,q⟩;refine⟨q.1,?_⟩;have M:=q.get dr;have:=er s;have w:ao P .add 9 X (Y (flat (cw 7 (.mk b o)))) (Y [46])=D (Y (flat (cw 7 (.mk b o))++[46])):=bV (by simp only[List.length_cons,List.length_nil];omega);have K:ao P .add 9 U (Y (flat (cw 7 (.mk b o))++[46])) (Y x)=D (Y (flat (cw 7 (.mk b o))++[46]++x)):=bV (by simp only[List.length_append,List.length_cons,List.length_nil];omega)
   simp-implicitDefEqProofs(disch:=try exact aj)only[bg,bx,Nat.reduceAdd,Nat.reduceLeDiff,reduceIte,ad.cells,cQ,dN,aq,cL,eg,dr,M,w,K];exact bb.2 ⟨by rw[r3,cv,cu,iK,ch];simp,pp.trans q⟩
  | @item d m p e f B s A=>
   obtain⟨b,o⟩:=e;obtain⟨c,cs⟩:=f;obtain⟨l,i,cap,ro,els,u,rfl,g1,aT,F⟩:=G.ga (n:=2) rfl (j:=0) rfl;obtain⟨l',aU,aI,aX,aK,kw,ar,ab,S,ah⟩:=G.ga (n:=2) rfl (j:=1) rfl;cases ar;rw[g1]at ab;cases ab;have g2:=pp.get g1;simp only[bK.cells]at aT S;rw[Nat.add_zero]at aT;rw[r4,c4,ds,c4]at hlen;have au:(0:Int)<((2:Nat):Int):=af;have dH:(1:Int)<((2:Nat):Int):=af;simp-implicitDefEqProofs(disch:=try exact aj)only[reduceAdd,reduceLeDiff,reduceIte,ax,y,Int.reduceBEq,g2,iB,aT,au];refine aO (fv 7 rfl (by simp) s _ u (F.aL pp)) ?_;rintro _ E ⟨rfl,q⟩;refine⟨q.1,?_⟩;have M:=q.get dr;have g3:=q.get g2;have Q:=(ag (by simp) A).2 E kw (ah.aL (pp.trans q))
   simp-implicitDefEqProofs(disch:=try exact aj)only[bg,bx,Nat.reduceAdd,Nat.reduceLeDiff,reduceIte,ad.cells,cQ,dN,aq,cL,eg,M,g3,yh,S,dH];refine aO Q ?_;rintro _ aw ⟨rfl,O⟩;refine⟨O.1,?_⟩;have w:ao P .add 9 X (Y (flat (cw 7 (.mk b o)))) (Y [91])=D (Y (flat (cw 7 (.mk b o))++[91])):=bV (by simp only[List.length_cons,List.length_nil];omega);have K:ao P .add 9 U (Y (flat (cw 7 (.mk b o))++[91])) (Y (flat (bp (.mk c cs))))=D (Y (flat (cw 7 (.mk b o))++[91]++flat (bp (.mk c cs)))):=bV (by simp only[List.length_append,List.length_cons,List.length_nil];omega);have aa:ao P .add 9 X (Y (flat (cw 7 (.mk b o))++[91]++flat (bp (.mk c cs)))) (Y [93])=D (Y (flat (cw 7 (.mk b o))++[91]++flat (bp (.mk c cs))++[93])):=bV (by simp only[List.length_append,List.length_cons,List.length_nil];omega)
   have R:=oK (a:=c) ah.beq;simp only[bK.cells]at R;simp-implicitDefEqProofs(disch:=try exact aj)only[bg,bx,Nat.reduceAdd,Nat.reduceLeDiff,reduceIte,ad.cells,cQ,dN,aq,cL,dr,M,g2,g3,S,w,K,aa,R];exact bb.2 ⟨by rw[r4,cv,cu,cv,cu,ch];simp,(pp.trans q).trans O⟩
  | @call d m x p l B s A=>
   have:=er s;have w:ao P .add 9 X (Y x) (Y [40])=D (Y (x++[40])):=bV (by simp only[List.length_cons,List.length_nil];omega);rw[cM]at hw;simp only at hw;by_cases V:ks.length=0
   ·obtain rfl:=List.length_eq_zero_iff.1 V;have aR:∀H',cg P H' .len [41] [kv]=D (I J 0):=by
     intro H';rcases G with⟨rfl,_⟩|⟨l,i,cap,ro,els,rfl,_⟩|⟨l,i,cap,rfl,_⟩
     ·exact p7
     ·exact k4
     ·exact k4
    have aM:¬((0:Int)<(0:Int)):=af;have K:ao P .add 9 X (Y (x++[40])) (Y [41])=D (Y (x++[40]++[41])):=bV (by simp only[List.length_append,List.length_cons,List.length_nil];omega);simp-implicitDefEqProofs(disch:=try exact aj)only[reduceAdd,reduceLeDiff,reduceIte,ax,y,Int.reduceBEq,w,kA,oR,mc,aR,aM,decide_false,K];exact bb.2 ⟨by rw[r2,iK,cu,cv,cu,ch,di,eQ,ch];simp,pp⟩
   ·rcases G with⟨_,am⟩|⟨L,i,cap,ro,els,rfl,_,g1,av⟩|⟨_,_,_,_,am⟩
    ·exact absurd am V
    ·have g2:=pp.get g1;have a2:=rL ks;simp-implicitDefEqProofs(disch:=try exact aj)only[reduceAdd,reduceLeDiff,reduceIte,ax,y,Int.reduceBEq,w];have key:=zb (N:=ks.length+1) (H0:=H.push (.row U 11 [bK.cells {kind:=7,name:=x,pos:=p} (.aD L i ks.length 11 cap)])) (i:=i) (ok:=ok) dr g2 aB (λe he=> .inr ⟨_,A e he⟩) af af ks 0 (ks.length+1) (x++[40]) _ rfl (by rw[Nat.add_zero];exact dv.aW (dp.aL pp λ_ h=>h) _ _ av) ⟨by simp only[List.length_append,List.length_cons,List.length_nil];omega,af⟩ af af (.refl _);refine key.mono ?_;rintro v E ⟨rfl,q⟩;refine⟨?_,pp.trans q⟩;rw[r2,iK,cu,cv,cu,ch];cases ks with
     |nil=>exact absurd rfl V
     |cons k r=>simp[qM]
    ·exact absurd am V
  | @new d m x p B s=>
   have:=er s;have w:ao P .add 9 X (Y [110,101,119,32]) (Y x)=D (Y ([110,101,119,32]++x)):=bV (by simp only[List.length_cons,List.length_nil];omega);simp-implicitDefEqProofs(disch:=try exact aj)only[reduceAdd,reduceLeDiff,reduceIte,ax,y,Int.reduceBEq,w];exact bb.2 ⟨by rw[e0];show _=ad.str (flat [wd [110,101,119],cf,cq x]);rw[eV,dq,iK,ch];simp,pp⟩
  | @make d m x z p e B s A=>
   obtain⟨b,o⟩:=e;obtain⟨l,i,cap,ro,els,u,rfl,g1,aT,F⟩:=G.ga (n:=1) rfl (j:=0) rfl;have g2:=pp.get g1;simp only[bK.cells]at aT;rw[Nat.add_zero]at aT;rw[r6,hW,eM,ds,c4,ds,ds,c4]at hlen;simp-implicitDefEqProofs(disch:=try exact aj)only[reduceAdd,reduceLeDiff,reduceIte,ax,y,Int.reduceBEq];refine aO (qQ s.1 (by have:=s.2.1;omega) (by have:=fh s;omega)) ?_;rintro _ E ⟨rfl,q⟩;refine⟨q.1,?_⟩;have M:=q.get dr;have g3:=q.get g2;have Q:=(ag (by simp) A).2 E u (F.aL (pp.trans q));simp-implicitDefEqProofs(disch:=try exact aj)only[bg,bx,Nat.reduceAdd,Nat.reduceLeDiff,reduceIte,ad.cells,cQ,dN,aq,cL,eg,M,g3,iB,aT,dE]
   refine aO Q ?_;rintro _ aw ⟨rfl,O⟩;refine⟨O.1,?_⟩;have w:ao P .add 9 X (Y [110,101,119,32,91]) (Y (flat (c5 x z)))=D (Y ([110,101,119,32,91]++flat (c5 x z))):=bV (by simp only[List.length_cons,List.length_nil];omega);have K:ao P .add 9 X (Y ([110,101,119,32,91]++flat (c5 x z))) (Y [93,40])=D (Y ([110,101,119,32,91]++flat (c5 x z)++[93,40])):=bV (by simp only[List.length_append,List.length_cons,List.length_nil];omega);have aa:ao P .add 9 U (Y ([110,101,119,32,91]++flat (c5 x z)++[93,40])) (Y (flat (bp (.mk b o))))=D (Y ([110,101,119,32,91]++flat (c5 x z)++[93,40]++flat (bp (.mk b o)))):=bV (by simp only[List.length_append,List.length_cons,List.length_nil];omega)
   have an:ao P .add 9 X (Y ([110,101,119,32,91]++flat (c5 x z)++[93,40]++flat (bp (.mk b o)))) (Y [41])=D (Y ([110,101,119,32,91]++flat (c5 x z)++[93,40]++flat (bp (.mk b o))++[41])):=bV (by simp only[List.length_append,List.length_cons,List.length_nil];omega);have R:=oK (a:=b) F.beq;simp only[bK.cells]at R;rw[w,dY,K,dY,aa,dY,an,dY];simp-implicitDefEqProofs(disch:=try exact aj)only[bg,bx,Nat.reduceAdd,Nat.reduceLeDiff,reduceIte,ad.cells,cQ,dN,aq,cL,dr,M,g2,g3,aT,R];exact bb.2 ⟨by rw[r6,eV,dq,cu,cv,cu,cu,cv,cu,ch];simp,(pp.trans q).trans O⟩
  | @len d m p e B s=>
   obtain⟨b,o⟩:=e;obtain⟨l,i,cap,ro,els,u,rfl,g1,aT,F⟩:=G.ga (n:=1) rfl (j:=0) rfl;have g2:=pp.get g1;simp only[bK.cells]at aT;rw[Nat.add_zero]at aT;rw[r5,hW,ds,c4]at hlen;simp-implicitDefEqProofs(disch:=try exact aj)only[reduceAdd,reduceLeDiff,reduceIte,ax,y,Int.reduceBEq,g2,iB,aT,dE];refine aO ((ag (by simp) s).2 _ u (F.aL pp)) ?_;rintro _ E ⟨rfl,q⟩;refine⟨q.1,?_⟩;have w:ao P .add 9 X (Y [108,101,110,40]) (Y (flat (bp (.mk b o))))=D (Y ([108,101,110,40]++flat (bp (.mk b o)))):=bV (by simp only[List.length_cons,List.length_nil];omega);have K:ao P .add 9 X (Y ([108,101,110,40]++flat (bp (.mk b o)))) (Y [41])=D (Y ([108,101,110,40]++flat (bp (.mk b o))++[41])):=bV (by simp only[List.length_append,List.length_cons,List.length_nil];omega)
   rw[w,dY,K,dY];exact bb.2 ⟨by rw[r5,eV,cu,cv,cu,ch];simp,pp.trans q⟩
  | @read d m p B=>
   simp-implicitDefEqProofs(disch:=try exact aj)only[reduceAdd,reduceLeDiff,reduceIte,ax,y,Int.reduceBEq];exact bb.2 ⟨by rw[e0];rfl,pp⟩
  | @sign d m k p e B s A=>
   obtain⟨b,o⟩:=e;obtain⟨l,i,cap,ro,els,u,rfl,g1,aT,F⟩:=G.ga (n:=1) rfl (j:=0) rfl;have g2:=pp.get g1;simp only[bK.cells]at aT;rw[Nat.add_zero]at aT;rw[oJ s,ds]at hlen;rcases s with rfl|rfl
   ·simp-implicitDefEqProofs(disch:=try exact aj)only[reduceAdd,reduceLeDiff,reduceIte,ax,y,Int.reduceBEq,g2,iB,aT,dE];refine aO (fv 6 rfl (by simp) A _ u (F.aL pp)) ?_;rintro _ E ⟨rfl,q⟩;refine⟨q.1,?_⟩;have w:ao P .add 9 X (Y [45]) (Y (flat (cw 6 (.mk b o))))=D (Y ([45]++flat (cw 6 (.mk b o)))):=bV (by simp only[List.length_cons,List.length_nil];omega);rw[w,dY];exact bb.2 ⟨by rw[oJ (.inl rfl),cu];rfl,pp.trans q⟩
   ·simp-implicitDefEqProofs(disch:=try exact aj)only[reduceAdd,reduceLeDiff,reduceIte,ax,y,Int.reduceBEq,g2,iB,aT,dE];refine aO (fv 6 rfl (by simp) A _ u (F.aL pp)) ?_;rintro _ E ⟨rfl,q⟩;refine⟨q.1,?_⟩;have w:ao P .add 9 X (Y [33]) (Y (flat (cw 6 (.mk b o))))=D (Y ([33]++flat (cw 6 (.mk b o)))):=bV (by simp only[List.length_cons,List.length_nil];omega);rw[w,dY];exact bb.2 ⟨by rw[oJ (.inr rfl),cu];rfl,pp.trans q⟩
  | @bin d m k p e f B s A aN aQ=>
   obtain⟨b,o⟩:=e;obtain⟨c,cs⟩:=f;obtain⟨l,i,cap,ro,els,u,rfl,g1,aT,F⟩:=G.ga (n:=2) rfl (j:=0) rfl;obtain⟨l',aU,aI,aX,aK,kw,ar,ab,S,ah⟩:=G.ga (n:=2) rfl (j:=1) rfl;cases ar;rw[g1]at ab;cases ab;have g2:=pp.get g1;have aG:=λH'=>DN (H:=H') (a:={kind:=k,pos:=p}) (kv:= .aD l i (0+1+1) 11 cap) rfl
   simp only[bK.cells]at aT S aG;rw[Nat.add_zero]at aT;rw[r1 s,c4,eM,ds,eM]at hlen;have a1:=w6 s A;have au:(0:Int)<((2:Nat):Int):=af;have dH:(1:Int)<((2:Nat):Int):=af;have cz:∀m:Int,m<14->(k==m)=false:=λm h=>by simp;omega
   have av:IntKind.i64.wrap (((dh k:Nat):Int)+1)=((dh k+1:Nat):Int):=by have:=xe k;rw[wrap_i64 af af];omega
   simp-implicitDefEqProofs(disch:=try exact aj)only[reduceAdd,reduceLeDiff,reduceIte,ax,y,cz 1 af,cz 2 af,cz 3 af,cz 4 af,cz 5 af,cz 6 af,cz 7 af,cz 8 af,cz 9 af,cz 10 af,cz 11 af,cz 12 af,cz 13 af];unfold lg;simp-implicitDefEqProofs(disch:=try exact aj)only[reduceAdd,reduceLeDiff,reduceIte,ax,dr];refine aO (aG _) ?_;rintro _ E ⟨rfl,q⟩;refine⟨q.1,?_⟩;have M:=q.get dr;have g3:=q.get g2;simp-implicitDefEqProofs(disch:=try exact aj)only[bg,bx,Nat.reduceAdd,Nat.reduceLeDiff,reduceIte,ad.cells,cQ,dN,aq,cL,eg,M,g3,iB,aT,au];refine aO (fv (dh k) rfl (by simp) aN _ u (F.aL (pp.trans q))) ?_;rintro _ aw ⟨rfl,O⟩
   refine⟨O.1,?_⟩;have ap:=O.get M;have g4:=O.get g3;simp-implicitDefEqProofs(disch:=try exact aj)only[bg,bx,Nat.reduceAdd,Nat.reduceLeDiff,reduceIte,ad.cells,cQ,dN,aq,cL,eg,ap];refine aO (Pd s A) ?_;rintro _ aY ⟨rfl,ai⟩;refine⟨ai.1,?_⟩;have ay:=ai.get ap;have g5:=ai.get g4;simp-implicitDefEqProofs(disch:=try exact aj)only[bg,bx,Nat.reduceAdd,Nat.reduceLeDiff,reduceIte,ad.cells,cQ,dN,aq,cL,eg,ay,g5,yh,S,dH,cZ,av];refine aO (fv (dh k+1) rfl (by simp) aQ _ kw (ah.aL (((pp.trans q).trans O).trans ai))) ?_;rintro _ aZ ⟨rfl,aH⟩;refine⟨aH.1,?_⟩;have w:ao P .add 9 X (Y (flat (cw (dh k) (.mk b o)))) (Y [32])=D (Y (flat (cw (dh k) (.mk b o))++[32])):=bV (by simp only[List.length_cons,List.length_nil];omega)
   have K:ao P .add 9 U (Y (flat (cw (dh k) (.mk b o))++[32])) (Y (gZ k))=D (Y (flat (cw (dh k) (.mk b o))++[32]++gZ k)):=bV (by simp only[List.length_append,List.length_cons,List.length_nil];omega);have aa:ao P .add 9 X (Y (flat (cw (dh k) (.mk b o))++[32]++gZ k)) (Y [32])=D (Y (flat (cw (dh k) (.mk b o))++[32]++gZ k++[32])):=bV (by simp only[List.length_append,List.length_cons,List.length_nil];omega);have an:ao P .add 9 U (Y (flat (cw (dh k) (.mk b o))++[32]++gZ k++[32])) (Y (flat (cw (dh k+1) (.mk c cs))))=D (Y (flat (cw (dh k) (.mk b o))++[32]++gZ k++[32]++flat (cw (dh k+1) (.mk c cs)))):=bV (by simp only[List.length_append,List.length_cons,List.length_nil];omega)
   have R:=oK (a:=c) ah.beq;simp only[bK.cells]at R;rw[w,dY,K,dY,aa,dY,an,dY];simp-implicitDefEqProofs(disch:=try exact aj)only[bg,bx,Nat.reduceAdd,Nat.reduceLeDiff,reduceIte,ad.cells,cQ,dN,aq,cL,dr,M,ap,ay,g2,g3,g4,g5,S,R];exact bb.2 ⟨by rw[r1 s,cv,dq,cu,dq];simp,(((pp.trans q).trans O).trans ai).trans aH⟩
section
set_option maxRecDepth 100000
noncomputable section
def ll(G:ay)(N:Nat)(a:ad)(H:ae):O:=some (a,H)
def NY(G:ay)(N:Nat):∀aa H,bl P G N (o (o (o (o (o (bs Tryd.f35)))))) (bf Tryd.f35) [] (bf Tryd.f35) aa H=ll G N (aa 5) H:=by
 refine bC (aF _) λaa H=> ?_
 delta ll;kernel_rfl
def nw(G:ay)(N:Nat)(a:ad->ad->ad->ad->ad->ae->O)(ag ar:ad)(d ba e:ad)(H:ae):O:=j (ao P .add 3 X e (I J 1)) λc=>a ag ar d ba c H
def NZ(G:ay)(N:Nat)(a:ad->ad->ad->ad->ad->ae->O):∀aa H,bl P G N (o (o (aN (aN (o (aN (o (o (o (o (bs Tryd.f35))))))))))) (λaa H=>a (aa 0) (aa 1) (aa 5) (aa 6) (aa 8) H) [(2,(λaa H=>ll G N (aa 5) H))] (bf Tryd.f35) aa H=nw G N a (aa 0) (aa 1) (aa 5) (aa 6) (aa 8) H:=by
 refine bC (aF _) λaa H=> ?_
 delta nw;kernel_rfl
def gW(G:ay)(N:Nat)(a:ad->ad->ad->ad->ad->ae->O)(ag ar:ad)(d ba e:ad)(H:ae):O:=j (ao P .add 9 X d (Y [10])) λc=>nw G N a ag ar c ba e H
def N0(G:ay)(N:Nat)(a:ad->ad->ad->ad->ad->ae->O):∀aa H,bl P G N (o (o (o (aN (aN (o (aN (aN (o (aN (o (o (o (o (bs Tryd.f35))))))))))))))) (λaa H=>nw G N a (aa 0) (aa 1) (aa 5) (aa 6) (aa 8) H) [(3,(λaa H=>nw G N a (aa 0) (aa 1) (aa 5) (aa 6) (aa 8) H)),(2,(λaa H=>ll G N (aa 5) H))] (bf Tryd.f35) aa H=gW G N a (aa 0) (aa 1) (aa 5) (aa 6) (aa 8) H:=by
 refine bC (aF _) λaa H=> ?_
 delta gW;generalize nw G N a=c;revert c;refine id ?_;intro c;kernel_rfl
def nx(G:ay)(N:Nat)(a:ad->ad->ad->ad->ad->ae->O)(ag ar:ad)(d ba e:ad)(H:ae):O:=j (ao P .add 9 X d (Y [59])) λc=>gW G N a ag ar c ba e H
def N1(G:ay)(N:Nat)(a:ad->ad->ad->ad->ad->ae->O):∀aa H,bl P G N (o (o (aN (o (o (o (o (o (o (o (o (o (aN (o (aN (o (o (aN (aN (o (aN (aN (o (aN (o (o (o (o (bs Tryd.f35))))))))))))))))))))))))))))) (λaa H=>gW G N a (aa 0) (aa 1) (aa 5) (aa 6) (aa 8) H) [(4,(λaa H=>gW G N a (aa 0) (aa 1) (aa 5) (aa 6) (aa 8) H)),(3,(λaa H=>nw G N a (aa 0) (aa 1) (aa 5) (aa 6) (aa 8) H)),(2,(λaa H=>ll G N (aa 5) H))] (bf Tryd.f35) aa H=nx G N a (aa 0) (aa 1) (aa 5) (aa 6) (aa 8) H:=by
 refine bC (aF _) λaa H=> ?_
 delta nx;generalize gW G N a=c;revert c;refine id ?_;intro c;kernel_rfl
def iq(G:ay)(N:Nat)(i:ad->ad->ad->ad->ad->ae->O)(ag ar:ad)(R ba h:ad)(H:ae):O:=bg P .len [71] [ag] H λbw=>j (ao P .lss 3 U h bw) λbx=>aU (D bx) (j (cl P 71 ag h) λbz=>j (aq P H 112 bz) λbA=>cT H [I J 0,Y [],Y [],I J 0,ad.az,ad.az,ad.az,I J 0,I J 0] λd M=>bd M (aY P M 112 d bA) λa=>j (ao P .add 9 U R ba) λk=>j (aH P 112 d 0) λbB=>j (aq P a 3 bB) λl=>j (ao P .eql 3 X l (I J 1)) λbC=>aU (D bC) (j (aH P 112 d 2) λbG=>j (aq P a 40 bG) λbH=>aI a (G 34 [bH] a) λbI c=>j (ao P .add 9 X k (Y [118,97,114,32])) λbD=>j (aH P 112 d 1) λu=>j (aq P c 9 u) λv=>j (ao P .add 9 U bD v) λbE=>j (ao P .add 9 X bE (Y [58,32])) λbF=>j (ao P .add 9 U bF bI) λbJ=>j (ao P .add 9 X bJ (Y [59])) λbK=>bif ((bh (aq P a 9 u) v&&bh (aq P c 9 u) v)&&X)then(gW G N i ag ar bK ba h c)else Z) (j (ao P .eql 3 X l (I J 2)) λbL=>aU (D bL) (j (aH P 112 d 2) λbP=>j (aq P a 40 bP) λbQ=>aI a (G 34 [bQ] a) λbR c=>j (aH P 112 d 3) λw=>j (aq P c 41 w) λx=>j (cl P 41 x (I J 0)) λy=>j (aq P c 45 y) λz=>aI c (G 17 [z] c) λbU e=>j (ao P .add 9 X k (Y [108,101,116,32])) λbM=>j (aH P 112 d 1) λm=>j (aq P e 9 m) λn=>j (ao P .add 9 U bM n) λbN=>j (ao P .add 9 X bN (Y [58,32])) λbO=>j (ao P .add 9 U bO bR) λbS=>j (ao P .add 9 X bS (Y [32,61,32])) λbT=>j (ao P .add 9 U bT bU) λbV=>j (ao P .add 9 X bV (Y [59])) λbW=>bif ((bh (aq P a 41 w) x&&(bh (aq P c 41 w) x&&X))&&((bh (aq P a 45 y) z&&(bh (aq P c 45 y) z&&X))&&((bh (aq P a 9 m) n&&(bh (aq P c 9 m) n&&bh (aq P e 9 m) n))&&X)))then(gW G N i ag ar bW ba h e)else Z) (j (ao P .eql 3 X l (I J 3)) λbX=>aU (D bX) (j (aH P 112 d 3) λb1=>j (aq P a 41 b1) λb2=>j (cl P 41 b2 (I J 0)) λb3=>j (aq P a 45 b3) λb4=>aI a (G 17 [b4] a) λb5 c=>j (aH P 112 d 1) λA=>j (aq P c 9 A) λB=>j (ao P .add 9 U k B) λbY=>j (ao P .add 9 X bY (Y [32,61,32])) λbZ=>j (ao P .add 9 U bZ b5) λb6=>j (ao P .add 9 X b6 (Y [59])) λb7=>bif ((bh (aq P a 9 A) B&&bh (aq P c 9 A) B)&&X)then(gW G N i ag ar b7 ba h c)else Z) (j (ao P .eql 3 X l (I J 4)) λb8=>aU (D b8) (j (aH P 112 d 3) λb9=>j (aq P a 41 b9) λb_=>j (cl P 41 b_ (I J 0)) λca=>j (aq P a 45 ca) λcb=>aI a (G 17 [cb] a) λcc c=>j (aH P 112 d 3) λE=>j (aq P c 41 E) λF=>j (cl P 41 F (I J 1)) λK=>j (aq P c 45 K) λL=>aI c (G 17 [L] c) λcf e=>j (ao P .add 9 U k cc) λcd=>j (ao P .add 9 X cd (Y [32,61,32])) λce=>j (ao P .add 9 U ce cf) λcg=>j (ao P .add 9 X cg (Y [59])) λch=>bif ((bh (aq P a 41 E) F&&(bh (aq P c 41 E) F&&X))&&((bh (aq P a 45 K) L&&(bh (aq P c 45 K) L&&X))&&X))then(gW G N i ag ar ch ba h e)else Z) (j (ao P .eql 3 X l (I J 7)) λci=>aU (D ci) (j (ao P .add 9 X k (Y [114,101,116,117,114,110])) λS=>j (aH P 112 d 3) λV=>j (aq P a 41 V) λW=>bg P .len [41] [W] a λaa=>j (ao P .gtr 3 X aa (I J 0)) λab=>aU (D ab) (j (ao P .add 9 X S (Y [32])) λaf=>j (aH P 112 d 3) λah=>j (aq P a 41 ah) λai=>j (cl P 41 ai (I J 0)) λaj=>j (aq P a 45 aj) λak=>aI a (G 17 [ak] a) λal c=>j (ao P .add 9 U af al) λam=>nx G N i ag ar am ba h c) (nx G N i ag ar S ba h a)) (j (ao P .eql 3 X l (I J 8)) λan=>aU (D an) (j (ao P .add 9 X k (Y [112,114,105,110,116,32])) λap=>j (aH P 112 d 3) λau=>j (aq P a 41 au) λav=>j (cl P 41 av (I J 0)) λaw=>j (aq P a 45 aw) λax=>aI a (G 17 [ax] a) λaA c=>j (ao P .add 9 U ap aA) λaB=>j (ao P .add 9 X aB (Y [59])) λaC=>gW G N i ag ar aC ba h c) (j (ao P .eql 3 X l (I J 9)) λaE=>aU (D aE) (j (aH P 112 d 3) λaF=>j (aq P a 41 aF) λaG=>j (cl P 41 aG (I J 0)) λaJ=>j (aq P a 45 aJ) λaK=>aI a (G 17 [aK] a) λaL c=>j (ao P .add 9 U k aL) λaM=>j (ao P .add 9 X aM (Y [59])) λaN=>gW G N i ag ar aN ba h c) (j (ao P .eql 3 X l (I J 6)) λaO=>aU (D aO) (j (aH P 112 d 3) λaQ=>j (aq P a 41 aQ) λaR=>j (cl P 41 aR (I J 0)) λaS=>j (aq P a 45 aS) λaT=>aI a (G 17 [aT] a) λaV c=>j (aH P 112 d 4) λo=>j (aq P c 71 o) λp=>j (ao P .add 3 X ar (I J 1)) λaZ=>aI c (G 35 [p,aZ] c) λa0 e=>j (ao P .add 9 X k (Y [119,104,105,108,101,32])) λaP=>j (ao P .add 9 U aP aV) λaW=>j (ao P .add 9 X aW (Y [32,123,10])) λaX=>j (ao P .add 9 U aX a0) λa1=>j (ao P .add 9 U a1 ba) λa2=>j (ao P .add 9 X a2 (Y [125])) λa3=>bif ((bh (aq P a 71 o) p&&(bh (aq P c 71 o) p&&X))&&X)then(gW G N i ag ar a3 ba h e)else Z) (j (ao P .eql 3 X l (I J 5)) λa4=>aU (D a4) (j (aH P 112 d 3) λa6=>j (aq P a 41 a6) λa7=>j (cl P 41 a7 (I J 0)) λa8=>j (aq P a 45 a8) λa9=>aI a (G 17 [a9] a) λa_ c=>j (aH P 112 d 4) λq=>j (aq P c 71 q) λs=>j (ao P .add 3 X ar (I J 1)) λbe=>aI c (G 35 [s,be] c) λbf e=>j (ao P .add 9 X k (Y [105,102,32])) λa5=>j (ao P .add 9 U a5 a_) λbb=>j (ao P .add 9 X bb (Y [32,123,10])) λbc=>j (ao P .add 9 U bc bf) λbi=>j (ao P .add 9 U bi ba) λbj=>j (ao P .add 9 X bj (Y [125])) λQ=>bif ((bh (aq P a 71 q) s&&(bh (aq P c 71 q) s&&X))&&X)then(j (aH P 112 d 5) λbk=>j (aq P e 71 bk) λbl=>bg P .len [71] [bl] e λbm=>j (ao P .gtr 3 X bm (I J 0)) λbn=>aU (D bn) (j (ao P .add 9 X Q (Y [32,101,108,115,101,32,123,10])) λbo=>j (aH P 112 d 5) λbp=>j (aq P e 71 bp) λbq=>j (ao P .add 3 X ar (I J 1)) λbr=>aI e (G 35 [bq,br] e) λbs T=>j (ao P .add 9 U bo bs) λbt=>j (ao P .add 9 U bt ba) λbu=>j (ao P .add 9 X bu (Y [125])) λbv=>gW G N i ag ar bv ba h T) (gW G N i ag ar Q ba h e))else Z) (gW G N i ag ar k ba h a)))))))))) (ll G N R H)
def gJ(G:ay)(N:Nat):Nat->ad->ad->ad->ad->ad->ae->O
 |0,_,_,_,_,_,_=>Z
 |n+1,ag,ar,a,ba,c,H=>iq G N (gJ G N n) ag ar a ba c H
def NV(G:ay)(N:Nat)(a:ad->ad->ad->ad->ad->ae->O):∀aa H,bl P G N (aN (aN (o (aN (o (o (o (o (bs Tryd.f35))))))))) (λaa H=>a (aa 0) (aa 1) (aa 5) (aa 6) (aa 8) H) [(2,(λaa H=>ll G N (aa 5) H))] (bf Tryd.f35) aa H=iq G N a (aa 0) (aa 1) (aa 5) (aa 6) (aa 8) H:=by
 refine bC ((aM ah ((aM ah (NZ G N a) ((cX ah ((aM ah ((aM ah ((aM ah (N0 G N a) ((aM ah ((cX ah ((aM ah ((dt ah (aF _) ((aM ah ((dt ah (aF _) ((aM ah ((dt ah (aF _) ((aM ah ((dt ah (aF _) ((aM ah ((dt ah ((aM ah ((aM ah (N1 G N a) (aF _))) (aF _))) (aF _))) (aF _))))) (aF _))))) (aF _))))) (aF _))))) (aF _))))) (aF _))))) (aF _))) (aF _))))))) (aF _))) λaa H=> ?_
 delta iq;generalize ll G N=c;generalize nx G N a=d;generalize gW G N a=e;revert c d e;refine id ?_;intro c d e;kernel_rfl
def qx(G:ay)(N:Nat)(ag ar:ad)(a ba:ad)(H:ae):O:=gJ G N N ag ar a ba (I J 0) H
def NX(G:ay)(N:Nat):∀aa H,bl P G N (o (o (o (o (bs Tryd.f35))))) (bf Tryd.f35) [] (bf Tryd.f35) aa H=qx G N (aa 0) (aa 1) (aa 5) (aa 6) H:=by
 refine bC ((aM ah (NY G N) ((aM ah ((cX ah ((dW (k:=λm aa H=>gJ G N m (aa 0) (aa 1) (aa 5) (aa 6) (aa 8) H) ah (λaa H=>ah) (λm=>NV G N (gJ G N m)))))) (aF _))))) λaa H=> ?_
 delta qx;generalize gJ G N N=a;revert a;refine id ?_;intro a;kernel_rfl
def sn(G:ay)(N:Nat)(d:ad->ad->ad->ad->ad->ae->O)(ag ar:ad)(a ba c:ad)(H:ae):O:=j (ao P .lss 3 U c ar) λe=>aU (D e) (j (ao P .add 9 X ba (Y [32,32])) λbS=>j (ao P .add 3 X c (I J 1)) λh=>d ag ar a bS h H) (qx G N ag ar a ba H)
def ny(G:ay)(N:Nat):Nat->ad->ad->ad->ad->ad->ae->O
 |0,_,_,_,_,_,_=>Z
 |n+1,ag,ar,a,ba,c,H=>sn G N (ny G N n) ag ar a ba c H
def NW(G:ay)(N:Nat)(c:ad->ad->ad->ad->ad->ae->O):∀aa H,bl P G N (aN (aN (o (aN (o (o (o (bs Tryd.f35)))))))) (λaa H=>c (aa 0) (aa 1) (aa 5) (aa 6) (aa 7) H) [(0,(λaa H=>qx G N (aa 0) (aa 1) (aa 5) (aa 6) H))] (bf Tryd.f35) aa H=sn G N c (aa 0) (aa 1) (aa 5) (aa 6) (aa 7) H:=by
 refine bC (aF _) λaa H=> ?_
 delta sn;generalize qx G N=a;revert a;refine id ?_;intro a;kernel_rfl
def uG(G:ay)(N:Nat)(ag ar:ad)(H:ae):O:=ny G N N ag ar (Y []) (Y []) (I J 0) H
def Mo(N:Nat){ag ar:ad}{H:ae}{r:ad×ae}(h:uG (aE P aA) N ag ar H=D r):aE P aA 35 [ag,ar] H=D r:=cS N (S:=λG=>uG G N ag ar H) Tryd.func35 (λG=>dX ((aM ah ((aM ah ((aM ah ((aM ah (NX G N) ((aM ah ((cX ah ((dW (k:=λm aa H=>ny G N m (aa 0) (aa 1) (aa 5) (aa 6) (aa 7) H) ah (λaa H=>ah) (λm=>NW G N (ny G N m)))))) (aF _))))) (aF _))) (aF _))) (aF _))) (by delta uG;generalize ny G N N=a;revert a;refine id ?_;intro a;kernel_rfl)) h
end
end
section
def b2.cells(a:b2)(b9 bv c:ad):List ad:=[I J a.kind,Y a.name,Y a.cp,I J a.c2,b9,bv,c,I J a.pos,I J a.ref]
mutual
def ev(H:ae)(ok:Nat->Prop):br->ad->Prop
 | .mk a es b c,v=>∃b9 bv d,v= .agg (a.cells b9 bv d)/\ck H ok es b9/\
  ((bv= .az/\b.length=0)\/(∃l i cap ro els,bv= .aD l i b.length 9 (Option.map (· +b.length) cap)/\ok l/\H.get l=D (.row ro 9 els)/\dM H ok b (els.drop i))\/∃l i cap,bv= .aD l i 0 9 cap/\b.length=0)/\
  ((d= .az/\c.length=0)\/(∃l i cap ro els,d= .aD l i c.length 9 (Option.map (· +c.length) cap)/\ok l/\H.get l=D (.row ro 9 els)/\dM H ok c (els.drop i))\/∃l i cap,d= .aD l i 0 9 cap/\c.length=0)
def dM(H:ae)(ok:Nat->Prop):List br->List (List ad)->Prop
 |[],_=>True
 |_::_,[]=>False
 |e::es,cs::css=>ev H ok e (.agg cs)/\dM H ok es css
end
def da(H:ae)(ok:Nat->Prop)(b:List br)(bv:ad):Prop:=(bv= .az/\b.length=0)\/(∃l i cap ro els,bv= .aD l i b.length 9 (Option.map (· +b.length) cap)/\ok l/\H.get l=D (.row ro 9 els)/\dM H ok b (els.drop i))\/∃l i cap,bv= .aD l i 0 9 cap/\b.length=0
def lK{H:ae}{ok:Nat->Prop}{a:b2}{es:List aJ}{b c:List br}{v:ad}:ev H ok (.mk a es b c) v↔∃b9 bv d,v= .agg (a.cells b9 bv d)/\ck H ok es b9/\da H ok b bv/\da H ok c d:=by
 rw[ev];rfl
structure ek(H:ae)(ok:Nat->Prop)(H':ae)(ok':Nat->Prop):Prop where
 ex:dp H ok H' ok'
 st:∀l ro els,ok l->H.get l=some (.row ro 9 els)->ok' l/\H'.get l=some (.row ro 9 els)
section
variable {H H':ae}{ok ok':Nat->Prop}
mutual
def ev.aW(p:ek H ok H' ok'):∀(e:br) (v:ad),ev H ok e v->ev H' ok' e v
 | .mk a es b c,v,h=>by
  rw[ev]at h ⊢;obtain⟨b9,bv,q,s,u,d,w⟩:=h;refine⟨b9,bv,q,s,u.aW p.ex,?_,?_⟩
  ·rcases d with d|⟨l,i,cap,ro,els,j,k,m,n⟩|d
   ·exact .inl d
   ·obtain⟨aT,o⟩:=p.st l ro els k m;exact .inr (.inl ⟨l,i,cap,ro,els,j,aT,o,dM.aW p b _ n⟩)
   ·exact .inr (.inr d)
  ·rcases w with d|⟨l,i,cap,ro,els,j,k,m,n⟩|d
   ·exact .inl d
   ·obtain⟨aT,o⟩:=p.st l ro els k m;exact .inr (.inl ⟨l,i,cap,ro,els,j,aT,o,dM.aW p c _ n⟩)
   ·exact .inr (.inr d)
def dM.aW(p:ek H ok H' ok'):∀(es:List br) (cs:List (List ad)),dM H ok es cs->dM H' ok' es cs
 |[],_,_=>by rw[dM];trivial
 |e::es,[],h=>by rw[dM]at h;exact h.elim
 |e::es,cs::css,h=>by
  rw[dM]at h ⊢;exact⟨ev.aW p e _ h.1,dM.aW p es css h.2⟩
end
def da.aW(p:ek H ok H' ok'){b:List br}{v:ad}(h:da H ok b v):da H' ok' b v:=by
 rcases h with a|⟨l,i,cap,ro,els,c,d,e,j⟩|a
 ·exact .inl a
 ·obtain⟨aT,k⟩:=p.st l ro els d e;exact .inr (.inl ⟨l,i,cap,ro,els,c,aT,k,dM.aW p b _ j⟩)
 ·exact .inr (.inr a)
def ek.mut{r:Nat}(m:ca r H H')(c:¬ok r)(a:∀l,ok l->ok' l):ek H ok H' ok':=⟨dp.mut m c a,λl ro els h e=>⟨a l h,m.get e (by rintro rfl;exact c h)⟩⟩
def ek.aL(m:aP H H')(a:∀l,ok l->ok' l):ek H ok H' ok':=⟨dp.aL m a,λl ro els h e=>⟨a l h,m.get e⟩⟩
def ek.set{l:Nat}(b:bW)(h:¬ok l)(c:∀l,ok l->ok' l):ek H ok (H.set l b) ok':=⟨dp.set b h c,λj ro els a e=>⟨c j a,by rw[ae.get_set_other (by rintro rfl;exact h a)];exact e⟩⟩
def ek.lU(h:∀l,ok l->ok' l):ek H ok H ok':=⟨dp.lU h,λl ro els a e=>⟨h l a,e⟩⟩
def da.eb{b:List br}{v:ad}(h:da H ok b v):v.one=true:=by
 rcases h with⟨rfl,_⟩|⟨l,i,cap,ro,els,rfl,_⟩|⟨l,i,cap,rfl,_⟩<;>rfl
def da.nil(H:ae)(ok:Nat->Prop):da H ok [] .az:= .inl ⟨rfl,rfl⟩
def ev.cells{e:br}{v:ad}(h:ev H ok e v):∃cs,v= .agg cs/\cs.length=9/\cs.all ad.one=true:=by
 cases e with|mk a es b c=>
 rw[lK]at h;obtain⟨b9,bv,k,rfl,d,i,j⟩:=h;refine⟨_,rfl,rfl,?_⟩;simp only[b2.cells,List.all_cons,List.all_nil,hF,h0,d.eb,i.eb,j.eb,Bool.and_self]
def ev.leaf(H:ae)(ok:Nat->Prop)(a:b2):ev H ok (.mk a [] [] []) (.agg (a.cells .az .az .az)):=
 lK.2 ⟨_,_,_,rfl,.inl ⟨rfl,rfl⟩,.inl ⟨rfl,rfl⟩,.inl ⟨rfl,rfl⟩⟩
def ev.mut{r:Nat}{e:br}{v:ad}(h:ev H ok e v)(m:ca r H H')(c:¬ok r)(a:∀l,ok l->ok' l):ev H' ok' e v:=ev.aW (ek.mut m c a) e v h
def ek.new{n:Nat}(m:c7 (· <n) H H')(c:∀l,n<=l->ok l):ek H (bn n) H' ok:=
 ⟨λl ro els a g=>⟨c l a,m.get g (Nat.not_lt.2 a)⟩,λl ro els a g=>⟨c l a,m.get g (Nat.not_lt.2 a)⟩⟩
end
def vx(ok:Nat->Prop)(H:ae)(r:Nat)(T:List Tok)(au:ad)(e:br)(s':an)(v:ad)(H':ae):Prop:=ca r H H'/\bQ H' r T au s'/\ev H' ok e v
abbrev fx(H:ae):=vx (bn H.next) H
def fx.fin{H bP:ae}{r:Nat}{T:List Tok}{au:ad}{s s':an}{a:b2}{es:List aJ}{b c:List br}{b9 bv e:ad}{x lo:Nat}(i:bQ H r T au s)(m:ca r H bP)(h:bJ bP r au s')(j:ck bP (bn lo) es b9)(n:da bP (bn lo) b bv)(o:da bP (bn lo) c e)(p:H.next<=x)(u:x<lo)(d:bW):
  fx H r T au (.mk a es b c) s' (.agg (a.cells b9 bv e)) (bP.set x d):=by
 have q:=i.rd.lt;have m':=m.cW (.inr p) d;have k:ek bP (bn lo) (bP.set x d) (bn H.next):=ek.set _ (by unfold bn;omega) λl q=>by unfold bn at*;omega
 refine⟨m',i.mut m' ?_,lK.2 ⟨b9,bv,e,rfl,j.aW k.ex,n.aW k,o.aW k⟩⟩;unfold bJ at h ⊢;rw[ae.get_set_other af];exact h
def fx.ret{H a:ae}{r:Nat}{T:List Tok}{au:ad}{s s':an}{e:br}{v:ad}{b n:Nat}(h:bQ H r T au s)(m:ca r H a)(d:bJ a r au s')(i:H.next<=b)(he:ev a (bn n) e v)(k:b<n)(c:bW):fx H r T au e s' v (a.set b c):=by
 have j:=h.rd.lt;have m':=m.cW (.inr i) c;refine⟨m',h.mut m' ?_,ev.aW (ek.set _ (by unfold bn;omega) λl j=>by unfold bn at*;omega) e v he⟩;unfold bJ at d ⊢;rw[ae.get_set_other af];exact d
def ev.at{H:ae}{ok:Nat->Prop}{e:br}{cs:List ad}(h:ev H ok e (.agg cs))(p:Int):ev H ok (e.at p) (.agg (cs.set 7 (I J p))):=by
 cases e with|mk a es b c=>
 rw[lK]at h;obtain⟨b9,bv,d,i,j,k,l⟩:=h;cases i;exact lK.2 ⟨b9,bv,d,rfl,j,k,l⟩
set_option linter.defProp false
def fa:=ai ya (ai qP (ai yb sH))
end
def ck.pL{H:ae}{ok:Nat->Prop}{ks:List aJ}{x:ad}(d:ck H ok ks x)(H':ae):cg P H' .len [41] [x]=D (I J ks.length):=by
 rcases d with⟨rfl,a⟩|⟨e,i1,c,i,h,rfl,_⟩|⟨e,i1,c,rfl,a⟩
 ·rw[a];exact p7
 ·exact k4
 ·rw[a];exact k4
def ck.row{H:ae}{ok:Nat->Prop}{ks:List aJ}{x:ad}(d:ck H ok ks x)(h:¬ks.length=0):∃l i cap ro els,x= .aD l i ks.length 11 cap/\ok l/\H.get l=D (.row ro 11 els)/\dv H ok ks (els.drop i):=by
 rcases d with⟨_,a⟩|c|⟨_,_,_,_,a⟩
 ·exact absurd a h
 ·exact c
 ·exact absurd a h
def dG.mem{B:Nat}:∀{es:List aJ},dG B es->∀e∈es,db B e
 |[],_,e,he=>by simp at he
 |x::xs,h,e,he=>by
  rw[dG]at h;rcases List.mem_cons.1 he with rfl|he
  ·exact h.1
  ·exact dG.mem h.2 e he
section
set_option maxRecDepth 100000
noncomputable section
end
end
end Go.Proofs.YtghmbpmaafnodaaDoor
namespace Go.cn
 @[congr] theorem Qq {H H':ae} {cs a:List ad} {k:ad->ae->O} {z:Nat} (d:H=H') (e:cs=a) (c:ha=z):cT H cs k=cT H' a k:=by rw[d,e]
 @[congr] theorem Ql {ms a:List Nat} {T:List gB} {H:ae} {z:Nat} (c:ha=z):oi ms a T H=oi ms a T H:=rfl
end Go.cn
namespace Go.Proofs.YtghmbpmaafnodaaDoor
open Go.cn
open Nat (reduceAdd reduceLeDiff)
mutual
def gP(B:Nat):br->Prop
 | .mk _ es b c=>(es.length<=B/\dG B es)/\(b.length<=B/\en B b)/\(c.length<=B/\en B c)
def en(B:Nat):List br->Prop
 |[]=>True
 |e::es=>gP B e/\en B es
end
def en.mem{B:Nat}:∀{es:List br},en B es->∀e∈es,gP B e
 |[],_,e,he=>by simp at he
 |x::xs,h,e,he=>by
  rw[en]at h;rcases List.mem_cons.1 he with rfl|he
  ·exact h.1
  ·exact en.mem h.2 e he
def da.aL{H H':ae}{ok:Nat->Prop}{ks:List br}{kv:ad}(h:da H ok ks kv)(p:aP H H'):da H' ok ks kv:=h.aW (ek.aL p λ_ h=>h)
def ev.aL{H H':ae}{ok:Nat->Prop}{e:br}{v:ad}(h:ev H ok e v)(p:aP H H'):ev H' ok e v:=ev.aW (ek.aL p λ_ h=>h) e v h
def dM.cons{H:ae}{ok:Nat->Prop}{e:br}{es:List br}{els:List (List ad)}{k:Nat}(h:dM H ok (e::es) (els.drop k)):∃cs,els[k]? =D cs/\ev H ok e (.agg cs)/\dM H ok es (els.drop (k+1)):=by
 cases a:els.drop k with
 |nil=>rw[a,dM]at h;exact h.elim
 |cons cs css=>
  rw[a,dM]at h;have c:els[k]? =D cs:=by
   have:=List.getElem?_drop (xs:=els) (i:=k) (j:=0);rw[a]at this;simpa using this.symm
  have d:els.drop (k+1)=css:=by
   have:(els.drop k).drop 1=css:=by rw[a];rfl
   rwa[List.drop_drop]at this
  exact⟨cs,c,h.1,by rw[d];exact h.2⟩
def da.pL{H:ae}{ok:Nat->Prop}{ks:List br}{x:ad}(d:da H ok ks x)(H':ae):cg P H' .len [71] [x]=D (I J ks.length):=by
 rcases d with⟨rfl,a⟩|⟨e,i1,c,i,h,rfl,_⟩|⟨e,i1,c,rfl,a⟩
 ·rw[a];exact xd
 ·exact tF
 ·rw[a];exact tF
def da.row{H:ae}{ok:Nat->Prop}{ks:List br}{x:ad}(d:da H ok ks x)(h:¬ks.length=0):∃l i cap ro els,x= .aD l i ks.length 9 (Option.map (· +ks.length) cap)/\ok l/\H.get l=D (.row ro 9 els)/\dM H ok ks (els.drop i):=by
 rcases d with⟨_,a⟩|c|⟨_,_,_,_,a⟩
 ·exact absurd a h
 ·exact c
 ·exact absurd a h
def mC(b:List br):Prop:=∀(d deep:Nat),(∀s∈b,ei d s)->deep+d<=51->dn b<=1000000000->∀(H:ae) (ok:Nat->Prop) (v:ad) (z:Int),z=deep->da H ok b v->W (aE P aA 35 [v,I J z] H) λr H'=>r= Y (flat (cc deep b))/\aP H H'
def lV{d deep:Nat}{b:List br}(h:∀s∈b,ei d s)(a:deep+d<=51):(flat (cc deep b)).length<=dn b:=rK b λs aB=>tz (h s aB) deep a
def da.beq{H:ae}{ok:Nat->Prop}{ks:List br}{kv:ad}(h:da H ok ks kv):ad.beq kv kv=true:=by
 rcases h with⟨rfl,_⟩|⟨l,i,cap,ro,els,rfl,_⟩|⟨l,i,cap,rfl,_⟩<;>simp[ad.beq]
def ub{v:ad}(h:ad.beq v v=X):bh (D v) v=true:=by simp[bh,h]
def rq(x:aG)(l:List bT):flat (.b x::l)=x++flat l:=rfl
def lR(l:List bT):flat (nl::l)=[10]++flat l:=rfl
def rr(x o:aG)(z:Int)(l:List bT):flat (jt x o z++l)=x++([58,32]++(flat (c5 o z)++flat l)):=by
 unfold jt;rw[List.cons_append,List.cons_append,List.cons_append,iK,cu,dq,cv];rfl
def lQ(d:aG)(B l:List bT):flat (gU d B++l)=[32,123,10]++(flat B++(d++([125]++flat l))):=by
 unfold gU;rw[List.cons_append,List.cons_append,List.cons_append,dq,cu,lR,cv,cv,rq,cu,ch];simp
def DB{N:Nat}{L i n:Nat}{cap:Option Nat}{ro:Bool}{els:List (List ad)}{ok:Nat->Prop}{H0:ae}{d deep:Nat}(aS:deep+d<=51)(aU:H0.get L=D (.row ro 9 els))(bf:n<=1000000000):∀(es:List br) (j k:Nat) (acc:aG) (H:ae),(∀a ks b c,br.mk a ks b c∈es->mC b/\mC c)->(∀s∈es,ei d s)->dM H0 ok es (els.drop (i+j))->acc.length+dn es<=2000000000/\dn es<=1000000000->n=j+es.length->es.length<k->aP H0 H->
  W (gJ (aE P aA) N k (.aD L i n 9 cap) (I J deep) (Y acc) (Y (pad deep)) (I J j) H) λv H'=>v= Y (acc++flat (cc deep es))/\aP H0 H'
 |_,_,0,_,_,_,_,_,_,_,aF,_=>af
 |[],j,k+1,acc,H,aB,hw,aN,aR,aC,aF,pp=>by
  have M:¬((j:Int)<(n:Int)):=by simp at aC;omega
  simp-implicitDefEqProofs(disch:=try exact aj)only[gJ,iq,ll,reduceAdd,reduceLeDiff,reduceIte,ax,M,decide_false];exact bb.2 ⟨by rw[cc,ch,List.append_nil],pp⟩
 | .mk a ks b c::es,j,k+1,acc,H,aB,hw,aN,aR,aC,aF,pp=>by
  simp only[List.length_cons]at aC aF;have M:(j:Int)<(n:Int):=af;have T:((j:Int)).toNat=j:=af;have bA:(0:Int)<=(j:Int):=af;have bt:IntKind.i64.wrap ((j:Int)+1)=((j+1:Nat):Int):=by rw[wrap_i64 af af];omega
  have aI:IntKind.i64.wrap ((deep:Int)+1)=((deep+1:Nat):Int):=by rw[wrap_i64 af af];omega
  obtain⟨cs,aT,bq,bs⟩:=aN.cons;obtain⟨b9,bv,an,a7,v1,v2,v3⟩:=lK.1 bq;cases a7;obtain⟨a3,bo⟩:=aB a ks b c (by simp);have aY:=hw (.mk a ks b c) (by simp);have hlen:=tz aY deep aS;have bD:=hk deep;rw[dn]at aR;have aV:fo deep (.mk a ks b c)= .b (pad deep)::(ho a ks (cc (deep+1) b) c.isEmpty (cc (deep+1) c) (pad deep)++[nl]):=by rw[fo]
  have hle:bX ks+dn b+dn c+400<=eh (.mk a ks b c):=by rw[eh];omega
  have fin:∀(au:aG) (H':ae),au=acc++(pad deep++flat (ho a ks (cc (deep+1) b) c.isEmpty (cc (deep+1) c) (pad deep)))->aP H0 H'->W (gW (aE P aA) N (gJ (aE P aA) N k) (.aD L i n 9 cap) (I J deep) (Y au) (Y (pad deep)) (I J j) H') λv a5=>v= Y (acc++flat (cc deep (.mk a ks b c::es)))/\aP H0 a5:=by
   intro au H' aQ bn;have ay:flat (fo deep (.mk a ks b c))=pad deep++(flat (ho a ks (cc (deep+1) b) c.isEmpty (cc (deep+1) c) (pad deep))++[10]):=by rw[aV,rq,cv,lR,ch];rfl
   have bB:au.length+1=acc.length+(flat (fo deep (.mk a ks b c))).length:=by rw[aQ,ay];simp only[List.length_append,List.length_cons,List.length_nil];omega
   simp-implicitDefEqProofs(disch:=try exact dy)only[gW,nw,bg,bx,cZ,bV,bt];refine(DB aS aU bf es (j+1) k _ H' (λa ks b c h=>aB a ks b c (by simp[h])) (λs h=>hw s (by simp[h])) bs ⟨by simp only[List.length_append,List.length_cons,List.length_nil];omega,af⟩ af af bn).mono ?_;rintro v Q ⟨rfl,y⟩;refine⟨?_,y⟩;rw[cc,cv,ay,aQ];simp only[List.append_assoc]
  have m:=pp.bI (.row U 9 [a.cells b9 bv an]);have A:=ae.bM H (.row U 9 [a.cells b9 bv an]);have R:=pp.get aU;have bz:=v1.eb;have bH:=v2.eb;have bZ:=v3.eb;have bk:=v1.aL m;have bl:=v2.aL m;have bm:=v3.aL m;have ag:∀{e:aJ} {r:List aJ},ks=e::r->cM e<=bX ks:=by intro e r h;rw[h,bX];omega
  have bc:∀{e f:aJ} {r:List aJ},ks=e::f::r->cM e+cM f<=bX ks:=by intro e f r h;rw[h,bX,bX];omega
  have bE:=ub v1.beq;have a4:=ub v2.beq;have bF:=ub v3.beq;simp only[b2.cells]at aT m A bk bl bm;have S:(H.push (.row U 9 [[I J 0,Y [],Y [],I J 0,.az,.az,.az,I J 0,I J 0]])).set H.next (.row U 9 [[I J a.kind,Y a.name,Y a.cp,I J a.c2,b9,bv,an,I J a.pos,I J a.ref]])=H.push (.row U 9 [[I J a.kind,Y a.name,Y a.cp,I J a.c2,b9,bv,an,I J a.pos,I J a.ref]]):=ae.xI H _ _
  clear aV;cases aY with
  | @var d x o z p aq ak=>
   have aZ:=er aq;have bh:=fh ak;have bj:=ak.2.1;have bi:=hE o z;simp-implicitDefEqProofs(disch:=try exact dy)only[gJ,iq,reduceAdd,reduceLeDiff,reduceIte,ax,M,decide_true,T,R,aT,bz,bH,bZ,S,A,Int.reduceBEq,bV];refine aO (qQ ak.1 af af) ?_;rintro _ O ⟨rfl,q⟩;refine⟨q.1,?_⟩;have F:=q.get A;simp-implicitDefEqProofs(disch:=try exact dy)only[reduceAdd,reduceLeDiff,reduceIte,ax,A,F,bV];refine fin _ O ?_ (m.trans q);show _=acc++(pad deep++flat (wd nU::cf::(jt x o z++[bO [59]])));rw[eV,dq,rr,cu,ch];simp[nU]
  | @lets d x o z p e aq ak B=>
   obtain⟨g,gs⟩:=e;have aZ:=er aq;have bh:=fh ak;have bj:=ak.2.1;have bi:=hE o z;have ai:=ag rfl;have ah:=eY B;obtain⟨l,al,aa,am,ab,K,rfl,g1,w,G⟩:=v1.ga (n:=1) rfl (j:=0) rfl;simp only[bK.cells]at w;rw[Nat.add_zero]at w;simp-implicitDefEqProofs(disch:=try exact dy)only[gJ,iq,reduceAdd,reduceLeDiff,reduceIte,ax,M,decide_true,T,R,aT,bz,bH,bZ,S,A,Int.reduceBEq,bV];refine aO (qQ ak.1 af af) ?_;rintro _ O ⟨rfl,q⟩;refine⟨q.1,?_⟩;have F:=q.get A;have g2:=(m.trans q).get g1;have E:=m.get g1;simp-implicitDefEqProofs(disch:=try exact aj)only[reduceAdd,reduceLeDiff,reduceIte,ax,F,g2,iB,w,dE];refine aO (ba _ _ _ B af _ _ rfl O ok K (G.aL (m.trans q))) ?_
   rintro _ Q ⟨rfl,y⟩;refine⟨y.1,?_⟩;have V:=y.get F;have g3:=y.get g2;have ar:=oK (a:=g) G.beq;simp only[bK.cells]at ar;simp-implicitDefEqProofs(disch:=try exact dy)only[reduceAdd,reduceLeDiff,reduceIte,ax,A,F,V,E,g2,g3,bV,w,ar];refine fin _ Q ?_ ((m.trans q).trans y);show _=acc++(pad deep++flat (wd nS::cf::(jt x o z++cf::bO [61]::cf::(bp (.mk g gs)++[bO [59]]))));rw[eV,dq,rr,dq,cu,dq,cv,cu,ch];simp[nS]
  | @set d x p e aq B=>
   obtain⟨g,gs⟩:=e;have aZ:=er aq;have ai:=ag rfl;have ah:=eY B;obtain⟨l,al,aa,am,ab,K,rfl,g1,w,G⟩:=v1.ga (n:=1) rfl (j:=0) rfl;simp only[bK.cells]at w;rw[Nat.add_zero]at w;have E:=m.get g1;simp-implicitDefEqProofs(disch:=try exact dy)only[gJ,iq,reduceAdd,reduceLeDiff,reduceIte,ax,M,decide_true,T,R,aT,bz,bH,bZ,S,A,Int.reduceBEq,bV,E,iB,w,dE];refine aO (ba _ _ _ B af _ _ rfl _ ok K (G.aL m)) ?_;rintro _ Q ⟨rfl,y⟩;refine⟨y.1,?_⟩;have V:=y.get A;simp-implicitDefEqProofs(disch:=try exact dy)only[reduceAdd,reduceLeDiff,reduceIte,ax,A,V,bV];refine fin _ Q ?_ (m.trans y);show _=acc++(pad deep++flat (cq x::cf::bO [61]::cf::(bp (.mk g gs)++[bO [59]])))
   rw[iK,dq,cu,dq,cv,cu,ch];simp
  | @put d p e f bd B aX=>
   obtain⟨g,gs⟩:=e;obtain⟨u,us⟩:=f;have ai:=bc rfl;have ah:=eY B;have ay:=eY aX;obtain⟨l,al,aa,am,ab,K,rfl,g1,w,G⟩:=v1.ga (n:=2) rfl (j:=0) rfl;obtain⟨a1,i2,bu,bG,bw,kw,be,aM,aH,a0⟩:=v1.ga (n:=2) rfl (j:=1) rfl;cases be;rw[g1]at aM;cases aM;simp only[bK.cells]at w aH;rw[Nat.add_zero]at w;have a1:(0:Int)<((2:Nat):Int):=af;have dH:(1:Int)<((2:Nat):Int):=af;have E:=m.get g1;simp-implicitDefEqProofs(disch:=try exact dy)only[gJ,iq,reduceAdd,reduceLeDiff,reduceIte,ax,M,decide_true,T,R,aT,bz,bH,bZ,S,A,Int.reduceBEq,bV,E,iB,w,a1];refine aO (ba _ _ _ B af _ _ rfl _ ok K (G.aL m)) ?_;rintro _ O ⟨rfl,q⟩;refine⟨q.1,?_⟩
   have F:=q.get A;have g2:=q.get E;simp-implicitDefEqProofs(disch:=try exact aj)only[reduceAdd,reduceLeDiff,reduceIte,ax,F,g2,yh,aH,dH];refine aO (ba _ _ _ aX af _ _ rfl _ ok kw (a0.aL (m.trans q))) ?_;rintro _ Q ⟨rfl,y⟩;refine⟨y.1,?_⟩;have V:=y.get F;have g3:=y.get g2;have ar:=oK (a:=u) a0.beq;simp only[bK.cells]at ar;simp-implicitDefEqProofs(disch:=try exact dy)only[reduceAdd,reduceLeDiff,reduceIte,ax,A,F,V,E,g2,g3,bV,aH,ar];refine fin _ Q ?_ ((m.trans q).trans y);show _=acc++(pad deep++flat (bp (.mk g gs)++cf::bO [61]::cf::(bp (.mk u us)++[bO [59]])));rw[cv,dq,cu,dq,cv,cu,ch];simp
  | @ifs d p e b c B ap aW=>
   obtain⟨g,gs⟩:=e;have ai:=ag rfl;have ah:=eY B;have a8:=lV (deep:=deep+1) ap af;have bC:=lV (deep:=deep+1) aW af;obtain⟨l,al,aa,am,ab,K,rfl,g1,w,G⟩:=v1.ga (n:=1) rfl (j:=0) rfl;simp only[bK.cells]at w;rw[Nat.add_zero]at w;have E:=m.get g1;simp-implicitDefEqProofs(disch:=try exact dy)only[gJ,iq,reduceAdd,reduceLeDiff,reduceIte,ax,M,decide_true,T,R,aT,bz,bH,bZ,S,A,Int.reduceBEq,bV,E,iB,w,dE];refine aO (ba _ _ _ B af _ _ rfl _ ok K (G.aL m)) ?_;rintro _ O ⟨rfl,q⟩;refine⟨q.1,?_⟩;have F:=q.get A;simp-implicitDefEqProofs(disch:=try exact aj)only[reduceAdd,reduceLeDiff,reduceIte,ax,F,aI];refine aO (a3 d (deep+1) ap af af O ok bv _ rfl (v2.aL (m.trans q))) ?_
   rintro _ Q ⟨rfl,y⟩;refine⟨y.1,?_⟩;have V:=y.get F;simp-implicitDefEqProofs(disch:=try exact dy)only[reduceAdd,reduceLeDiff,reduceIte,ax,A,F,V,bV,a4];by_cases aw:c=[]
   ·subst aw;have ao:∀H',cg P H' .len [71] [an]=D (I J 0):=λH'=>v3.pL H'
    have av:¬((0:Int)<0):=af;simp-implicitDefEqProofs(disch:=try exact dy)only[reduceAdd,reduceLeDiff,reduceIte,ax,ao,av,decide_false,V];refine fin _ Q ?_ ((m.trans q).trans y);show _=acc++(pad deep++flat (wd jA::cf::(bp (.mk g gs)++(gU (pad deep) (cc (deep+1) b)++[]))));rw[eV,dq,cv,lQ,ch];simp[jA]
   ·have a_:(0:Int)<(c.length:Int):=by have:=List.length_pos_iff.2 aw;omega
    have ao:=λH'=>v3.pL H'
    have a9:c.isEmpty=false:=by cases c<;>first|exact absurd rfl aw|rfl
    simp-implicitDefEqProofs(disch:=try exact dy)only[reduceAdd,reduceLeDiff,reduceIte,ax,ao,a_,decide_true,bV,V,aI];refine aO (bo d (deep+1) aW af af Q ok an _ rfl (v3.aL ((m.trans q).trans y))) ?_;rintro _ a6 ⟨rfl,a2⟩;refine⟨a2.1,?_⟩;simp-implicitDefEqProofs(disch:=try exact dy)only[reduceAdd,reduceLeDiff,reduceIte,ax,bV];refine fin _ a6 ?_ (((m.trans q).trans y).trans a2);show _=acc++(pad deep++flat (wd jA::cf::(bp (.mk g gs)++(gU (pad deep) (cc (deep+1) b)++bif c.isEmpty then[]else cf::wd pr::gU (pad deep) (cc (deep+1) c)))));have:=lQ (pad deep) (cc (deep+1) c) [];rw[List.append_nil,ch]at this
    rw[a9,aK,eV,dq,cv,lQ,dq,eV,this];simp[jA,pr]
  | @«while» d p e b B ap=>
   obtain⟨g,gs⟩:=e;have ai:=ag rfl;have ah:=eY B;have a8:=lV (deep:=deep+1) ap af;obtain⟨l,al,aa,am,ab,K,rfl,g1,w,G⟩:=v1.ga (n:=1) rfl (j:=0) rfl;simp only[bK.cells]at w;rw[Nat.add_zero]at w;have E:=m.get g1;simp-implicitDefEqProofs(disch:=try exact dy)only[gJ,iq,reduceAdd,reduceLeDiff,reduceIte,ax,M,decide_true,T,R,aT,bz,bH,bZ,S,A,Int.reduceBEq,bV,E,iB,w,dE];refine aO (ba _ _ _ B af _ _ rfl _ ok K (G.aL m)) ?_;rintro _ O ⟨rfl,q⟩;refine⟨q.1,?_⟩;have F:=q.get A;simp-implicitDefEqProofs(disch:=try exact aj)only[reduceAdd,reduceLeDiff,reduceIte,ax,F,aI];refine aO (a3 d (deep+1) ap af af O ok bv _ rfl (v2.aL (m.trans q))) ?_
   rintro _ Q ⟨rfl,y⟩;refine⟨y.1,?_⟩;simp-implicitDefEqProofs(disch:=try exact dy)only[reduceAdd,reduceLeDiff,reduceIte,ax,A,F,bV,a4];refine fin _ Q ?_ ((m.trans q).trans y);show _=acc++(pad deep++flat (wd nV::cf::(bp (.mk g gs)++gU (pad deep) (cc (deep+1) b))));have:=lQ (pad deep) (cc (deep+1) b) [];rw[List.append_nil,ch]at this;rw[eV,dq,cv,this];simp[nV]
  | @nd d p=>
   have ao:∀H',cg P H' .len [41] [b9]=D (I J 0):=by
    intro H';rcases v1 with⟨rfl,_⟩|⟨l,i,cap,ro,els,rfl,_⟩|⟨l,i,cap,rfl,_⟩
    ·exact p7
    ·exact k4
    ·exact k4
   have av:¬((0:Int)<0):=af;simp-implicitDefEqProofs(disch:=try exact dy)only[gJ,iq,nx,reduceAdd,reduceLeDiff,reduceIte,ax,M,decide_true,T,R,aT,bz,bH,bZ,S,A,Int.reduceBEq,bV,ao,av,decide_false];refine fin _ _ ?_ m;show _=acc++(pad deep++flat (wd j5::[bO [59]]));rw[eV,cu,ch];simp[j5]
  | @nf d p e B=>
   obtain⟨g,gs⟩:=e;have ai:=ag rfl;have ah:=eY B;obtain⟨l,al,aa,am,ab,K,rfl,g1,w,G⟩:=v1.ga (n:=1) rfl (j:=0) rfl;simp only[bK.cells]at w;rw[Nat.add_zero]at w;have E:=m.get g1;simp-implicitDefEqProofs(disch:=try exact dy)only[gJ,iq,nx,reduceAdd,reduceLeDiff,reduceIte,ax,M,decide_true,T,R,aT,bz,bH,bZ,S,A,Int.reduceBEq,bV,E,iB,w,dE];refine aO (ba _ _ _ B af _ _ rfl _ ok K (G.aL m)) ?_;rintro _ O ⟨rfl,q⟩;refine⟨q.1,?_⟩;simp-implicitDefEqProofs(disch:=try exact dy)only[nx,reduceAdd,reduceLeDiff,reduceIte,ax,bV];refine fin _ _ ?_ (m.trans q);show _=acc++(pad deep++flat (wd j5::(cf::bp (.mk g gs)++[bO [59]])))
   rw[eV,List.cons_append,dq,cv,cu,ch];simp[j5]
  | @print d p e B=>
   obtain⟨g,gs⟩:=e;have ai:=ag rfl;have ah:=eY B;obtain⟨l,al,aa,am,ab,K,rfl,g1,w,G⟩:=v1.ga (n:=1) rfl (j:=0) rfl;simp only[bK.cells]at w;rw[Nat.add_zero]at w;have E:=m.get g1;simp-implicitDefEqProofs(disch:=try exact dy)only[gJ,iq,reduceAdd,reduceLeDiff,reduceIte,ax,M,decide_true,T,R,aT,bz,bH,bZ,S,A,Int.reduceBEq,bV,E,iB,w,dE];refine aO (ba _ _ _ B af _ _ rfl _ ok K (G.aL m)) ?_;rintro _ O ⟨rfl,q⟩;refine⟨q.1,?_⟩;simp-implicitDefEqProofs(disch:=try exact dy)only[reduceAdd,reduceLeDiff,reduceIte,ax,bV];refine fin _ _ ?_ (m.trans q);show _=acc++(pad deep++flat (wd nT::cf::(bp (.mk g gs)++[bO [59]])))
   rw[eV,dq,cv,cu,ch];simp[nT]
  | @call d p e bd B=>
   obtain⟨g,gs⟩:=e;have ai:=ag rfl;have ah:=eY B;obtain⟨l,al,aa,am,ab,K,rfl,g1,w,G⟩:=v1.ga (n:=1) rfl (j:=0) rfl;simp only[bK.cells]at w;rw[Nat.add_zero]at w;have E:=m.get g1;simp-implicitDefEqProofs(disch:=try exact dy)only[gJ,iq,reduceAdd,reduceLeDiff,reduceIte,ax,M,decide_true,T,R,aT,bz,bH,bZ,S,A,Int.reduceBEq,bV,E,iB,w,dE];refine aO (ba _ _ _ B af _ _ rfl _ ok K (G.aL m)) ?_;rintro _ O ⟨rfl,q⟩;refine⟨q.1,?_⟩;simp-implicitDefEqProofs(disch:=try exact dy)only[reduceAdd,reduceLeDiff,reduceIte,ax,bV];refine fin _ _ ?_ (m.trans q);show _=acc++(pad deep++flat (bp (.mk g gs)++[bO [59]]));rw[cv,cu,ch]
   simp
def Lp(j:Nat):pad (j+1)=pad j++[32,32]:=by
 unfold pad;rw[show 2*(j+1)=2*j+1+1 by omega,List.replicate_succ',List.replicate_succ',List.append_assoc];rfl
def Eg{N:Nat}{v:ad}{deep:Nat}(e:deep<=100){H:ae}{Q:ad->ae->Prop}(h:W (gJ (aE P aA) N N v (I J deep) (Y []) (Y (pad deep)) (I J 0) H) Q):∀(c j k:Nat),j+c=deep->c<k->
  W (ny (aE P aA) N k v (I J deep) (Y []) (Y (pad j)) (I J j) H) Q
 |_,_,0,_,l=>af
 |0,j,k+1,i,_=>by
  have a:¬((j:Int)<(deep:Int)):=af;obtain rfl:j=deep:=af;simp-implicitDefEqProofs(disch:=try exact aj)only[ny,sn,qx,bg,bx,cZ,a,decide_false];exact h
 |c+1,j,k+1,i,l=>by
  have a:(j:Int)<(deep:Int):=af;have n:=hk j;have d:ao P .add 9 X (Y (pad j)) (Y [32,32])=D (Y (pad (j+1))):=by
   rw[Lp];exact bV (by simp only[List.length_cons,List.length_nil];omega)
  have m:IntKind.i64.wrap ((j:Int)+1)=((j+1:Nat):Int):=by rw[wrap_i64 af af];omega
  simp-implicitDefEqProofs(disch:=try exact aj)only[ny,sn,bg,bx,cZ,a,decide_true,d,m];exact Eg e h c (j+1) k af af
def w8:∀l:List br,400*l.length<=dn l
 |[]=>by simp[dn]
 | .mk a es b c::r=>by have:=w8 r;rw[dn,eh,List.length_cons];omega
def w_{es:List br}(aB:∀a ks b c,br.mk a ks b c∈es->mC b/\mC c):mC es:=by
 intro d deep hw m k H ok v z e h;subst e;refine cG (λ_=>Mo (es.length+200)) ?_;rw[uG];have o:pad 0=[]:=rfl;have key:=λ(Q:ad->ae->Prop) n=>Eg (N:=es.length+200) (v:=v) (deep:=deep) af (H:=H) (Q:=Q) n deep 0 (es.length+200) af af
 rw[o]at key;refine key _ ?_;by_cases e:es.length=0
 ·obtain rfl:=List.length_eq_zero_iff.1 e;have l:∀H',cg P H' .len [71] [v]=D (I J 0):=λH'=>h.pL H'
  have j:¬((0:Int)<0):=af;simp-implicitDefEqProofs(disch:=try exact aj)only[gJ,iq,ll,reduceAdd,reduceLeDiff,reduceIte,ax,l,j,decide_false];exact bb.2 ⟨by rw[cc];rfl,.refl _⟩
 ·obtain⟨L,i,cap,ro,els,rfl,_,g1,q⟩:=h.row e;have s:=w8 es;refine(DB (N:=es.length+200) m g1 af es 0 (es.length+200) [] H aB hw (by simpa using q) ⟨by simp only[List.length_nil];omega,k⟩ af af (.refl _)).mono ?_;rintro v H' ⟨rfl,p⟩;exact⟨rfl,p⟩
def vu(e:br):Prop:=∀(a:b2) (ks:List aJ) (b c:List br),e= .mk a ks b c->mC b/\mC c
def xG:∀(e:br),vu e
 | .mk a ks b c=>by
  have i:∀e∈b,vu e:=λe he=>xG e
  have j:∀e∈c,vu e:=λe he=>xG e
  intro b4 d cy c' h;cases h;exact⟨w_ λb4 d cy c' h=>i _ h _ _ _ _ rfl,w_ λb4 d cy c' h=>j _ h _ _ _ _ rfl⟩
def PA(es:List br):mC es:=w_ λa ks b c _=>xG (.mk a ks b c) a ks b c rfl
