/-
  Texts of one proof, laid together: Wc ShRb Ms E2 ShU Hds N1 Wd.
-/
import Derived.Test.YtghmbpmaafnodaaDoorML
set_option linter.unusedVariables false
set_option linter.unusedSimpArgs false
set_option linter.defProp false
open Option renaming some→D,none→C
open Bool renaming true→X,false→U
open Go.bn.aa renaming int→I,str→Z
open Go.IntKind renaming i64→J
namespace Go.Proofs.YtghmbpmaafnodaaDoor
open Go.bn
open Nat (reduceAdd reduceLeDiff)
def q8:(0:Int).toNat=0:=rfl
def J3:(1:Int).toNat=1:=rfl
def eI:(0:Int)<((1:Nat):Int):=ae
def bD:∀e:aE,xU e
 | .mk a ks=>by
  have ar:∀e∈ks,xU e:=λe he=>bD e
  intro d m aw hw bt a0 he H ok kv F;cases he;have h:=aw.low (m':=0) (Nat.zero_le _);clear aw;have hlen:=r6 h;have aN:=F.eb;have w:∀l,dR l (.agg (a.cells kv))=D (.ptr l 0 0,.row U 11 [a.cells kv]):=λl=>hn l _ (by simp only[bU.cells,List.all_cons,List.all_nil,hs,hS,aN,Bool.and_self])
  have pp:=aU.push H (.row U 11 [a.cells kv]);have dI:=af.bY H (.row U 11 [a.cells kv]);have V:∀{R m':Nat} {b:bU} {o:List aE},aE.mk b o∈ks->cA R m' (.mk b o)->c9 (.mk b o)<=1000000000/\∀(H':af) (u:aa),cz H' ok o u->W (aI P aB 17 [.agg (b.cells u)] H') λr ah=>r= Z (flat (aY (.mk b o)))/\aU H' ah:=by
   intro R m' b o hm M;have hle:c9 (.mk b o)<=cr ks:=by
    clear ar hlen F hw h w pp dI
    induction ks with
    |nil=>cases hm
    |cons k r aP=>
     rw[cr];rcases List.mem_cons.1 hm with rfl|hm
     ·omega
     ·have:=aP hm;omega
   rw[c9]at hw;have ax:c9 (.mk b o)<=1000000000:=ae;exact⟨ax,λH' u ag=>ar _ hm R m' M ax b o rfl H' ok u ag⟩
  have gA:∀{R m':Nat} {b:bU} {o:List aE} (n:Nat) {z:Int},z=n->aE.mk b o∈ks->cA R m' (.mk b o)->∀(H':af) (u:aa),cz H' ok o u->W (aI P aB 49 [.agg (b.cells u),I J z] H') λr ah=>r= Z (flat (b_ n (.mk b o)))/\aU H' ah:=by
   intro R m' b o n z S hm M H' u ag;subst S;obtain⟨A,s⟩:=V hm M;have:=r6 M;exact Vo ag.eb (λB q=>s B u (ag.aR q)) ae
  refine cO (λ_=>Q8 (ks.length+1)) ?_;simp only[bU.cells]at w pp dI V gA ⊢;rw[wP];cases h with
  |par A s y=>omega
  | @int d m n p A s y=>
   simp-implicitDefEqProofs(disch:=try exact ak)only[reduceAdd,reduceLeDiff,reduceIte,az,w,Int.reduceBEq];refine aW (UR s y) ?_;rintro _ B ⟨rfl,q⟩;refine⟨q.1,a_.2 ⟨?_,pp.trans q⟩⟩;rw[dZ];show _=aa.str (flat [.t ⟨2,[],n,0⟩]);simp[flat,bK.rb,im]
  | @bool d m n p A s=>
   rcases s with rfl|rfl
   ·simp-implicitDefEqProofs(disch:=try exact ak)only[reduceAdd,reduceLeDiff,reduceIte,az,w,Int.reduceBEq];exact a_.2 ⟨by rw[dZ];rfl,pp⟩
   ·simp-implicitDefEqProofs(disch:=try exact ak)only[reduceAdd,reduceLeDiff,reduceIte,az,w,Int.reduceBEq];exact a_.2 ⟨by rw[dZ];rfl,pp⟩
  | @null d m x z p A s=>
   simp-implicitDefEqProofs(disch:=try exact ak)only[reduceAdd,reduceLeDiff,reduceIte,az,w,Int.reduceBEq];refine aW (Kz s.1 (by have:=s.2.1;omega) (by have:=ib s;omega)) ?_;rintro _ B ⟨rfl,q⟩;refine⟨q.1,?_⟩;have aV:=kD x z;have:=ib s;have:=s.2.1;have aq:au P .add 9 X (Z [110,117,108,108,32]) (Z (flat (cn x z)))=D (Z ([110,117,108,108,32]++flat (cn x z))):=dk (by simp only[List.length_cons,List.length_nil];omega);simp only[aq,eC];exact a_.2 ⟨by rw[dZ];rfl,pp.trans q⟩
  | @var d m x p A s=>
   simp-implicitDefEqProofs(disch:=try exact ak)only[reduceAdd,reduceLeDiff,reduceIte,az,w,Int.reduceBEq];exact a_.2 ⟨by rw[dZ];show _=aa.str (flat [cC x]);rw[kz,ds,List.append_nil],pp⟩
  | @field d m x p e A s y=>
   obtain⟨b,o⟩:=e;obtain⟨l,i,cap,ro,els,u,rfl,g1,bb,E⟩:=F.kW (n:=1) rfl (j:=0) rfl;have g2:=pp.get g1;simp only[bU.cells]at bb;rw[Nat.add_zero]at bb;rw[oW,dj]at hlen;simp-implicitDefEqProofs(disch:=try exact ak)only[reduceAdd,reduceLeDiff,reduceIte,az,w,Int.reduceBEq,g2,q8,bb,eI];refine aW (gA 7 rfl (by simp) y _ u (E.aR pp)) ?_;rintro _ B ⟨rfl,q⟩;refine⟨q.1,?_⟩;have G:=q.get dI;have:=fP s;have aq:au P .add 9 X (Z (flat (b_ 7 (.mk b o)))) (Z [46])=D (Z (flat (b_ 7 (.mk b o))++[46])):=dk (by simp only[List.length_cons,List.length_nil];omega);have aH:au P .add 9 U (Z (flat (b_ 7 (.mk b o))++[46])) (Z x)=D (Z (flat (b_ 7 (.mk b o))++[46]++x)):=dk (by simp only[List.length_append,List.length_cons,List.length_nil];omega)
   simp-implicitDefEqProofs(disch:=try exact ak)only[bg,bG,Nat.reduceAdd,Nat.reduceLeDiff,reduceIte,aa.cells,c8,eu,ao,c2,eF,dI,G,aq,aH];exact a_.2 ⟨by rw[oW,dw,di,kz,ds];simp,pp.trans q⟩
  | @item d m p e f A s y=>
   obtain⟨b,o⟩:=e;obtain⟨c,cs⟩:=f;obtain⟨l,i,cap,ro,els,u,rfl,g1,bb,E⟩:=F.kW (n:=2) rfl (j:=0) rfl;obtain⟨l',aO,aD,aQ,aF,kw,al,T,Q,ab⟩:=F.kW (n:=2) rfl (j:=1) rfl;cases al;rw[g1]at T;cases T;have g2:=pp.get g1;simp only[bU.cells]at bb Q;rw[Nat.add_zero]at bb;rw[oX,dj,dG,dj]at hlen;have am:(0:Int)<((2:Nat):Int):=ae;have ea:(1:Int)<((2:Nat):Int):=ae;simp-implicitDefEqProofs(disch:=try exact ak)only[reduceAdd,reduceLeDiff,reduceIte,az,w,Int.reduceBEq,g2,q8,bb,am];refine aW (gA 7 rfl (by simp) s _ u (E.aR pp)) ?_;rintro _ B ⟨rfl,q⟩;refine⟨q.1,?_⟩;have G:=q.get dI;have g3:=q.get g2;have M:=(V (by simp) y).2 B kw (ab.aR (pp.trans q))
   simp-implicitDefEqProofs(disch:=try exact ak)only[bg,bG,Nat.reduceAdd,Nat.reduceLeDiff,reduceIte,aa.cells,c8,eu,ao,c2,eF,G,g3,J3,Q,ea];refine aW M ?_;rintro _ ap ⟨rfl,K⟩;refine⟨K.1,?_⟩;have aq:au P .add 9 X (Z (flat (b_ 7 (.mk b o)))) (Z [91])=D (Z (flat (b_ 7 (.mk b o))++[91])):=dk (by simp only[List.length_cons,List.length_nil];omega);have aH:au P .add 9 U (Z (flat (b_ 7 (.mk b o))++[91])) (Z (flat (aY (.mk c cs))))=D (Z (flat (b_ 7 (.mk b o))++[91]++flat (aY (.mk c cs)))):=dk (by simp only[List.length_append,List.length_cons,List.length_nil];omega);have bu:au P .add 9 X (Z (flat (b_ 7 (.mk b o))++[91]++flat (aY (.mk c cs)))) (Z [93])=D (Z (flat (b_ 7 (.mk b o))++[91]++flat (aY (.mk c cs))++[93])):=dk (by simp only[List.length_append,List.length_cons,List.length_nil];omega)
   have O:=ux (a:=c) ab.beq;simp only[bU.cells]at O;simp-implicitDefEqProofs(disch:=try exact ak)only[bg,bG,Nat.reduceAdd,Nat.reduceLeDiff,reduceIte,aa.cells,c8,eu,ao,c2,dI,G,g2,g3,Q,aq,aH,bu,O];exact a_.2 ⟨by rw[oX,dw,di,dw,di,ds];simp,(pp.trans q).trans K⟩
  | @call d m x p l A s y=>
   have:=fP s;have aq:au P .add 9 X (Z x) (Z [40])=D (Z (x++[40])):=dk (by simp only[List.length_cons,List.length_nil];omega);rw[c9]at hw;simp only at hw;by_cases S:ks.length=0
   ·obtain rfl:=List.length_eq_zero_iff.1 S;have aM:∀H',cx P H' .len [41] [kv]=D (I J 0):=by
     intro H';rcases F with⟨rfl,_⟩|⟨l,i,cap,ro,els,rfl,_⟩|⟨l,i,cap,rfl,_⟩
     ·exact tV
     ·exact oO
     ·exact oO
    have aJ:¬((0:Int)<(0:Int)):=ae;have aH:au P .add 9 X (Z (x++[40])) (Z [41])=D (Z (x++[40]++[41])):=dk (by simp only[List.length_append,List.length_cons,List.length_nil];omega);simp-implicitDefEqProofs(disch:=try exact ak)only[reduceAdd,reduceLeDiff,reduceIte,az,w,Int.reduceBEq,aq,lM,qA,nM,aM,aJ,decide_false,aH];exact a_.2 ⟨by rw[oV,kz,di,dw,di,ds,cD,en,ds];simp,pp⟩
   ·rcases F with⟨_,ai⟩|⟨L,i,cap,ro,els,rfl,_,g1,an⟩|⟨_,_,_,_,ai⟩
    ·exact absurd ai S
    ·have g2:=pp.get g1;have aZ:=tR ks;simp-implicitDefEqProofs(disch:=try exact ak)only[reduceAdd,reduceLeDiff,reduceIte,az,w,Int.reduceBEq,aq];have key:=B2 (N:=ks.length+1) (H0:=H.push (.row U 11 [bU.cells {kind:=7,name:=x,pos:=p} (.aG L i ks.length 11 cap)])) (i:=i) (ok:=ok) dI g2 ar (λe he=> .inr ⟨_,y e he⟩) ae ae ks 0 (ks.length+1) (x++[40]) _ rfl (by rw[Nat.add_zero];exact dz.a1 (dA.aR pp λ_ h=>h) _ _ an) ⟨by simp only[List.length_append,List.length_cons,List.length_nil];omega,ae⟩ ae ae (.refl _);refine key.mono ?_;rintro v B ⟨rfl,q⟩;refine⟨?_,pp.trans q⟩;rw[oV,kz,di,dw,di,ds];cases ks with
     |nil=>exact absurd rfl S
     |cons k r=>simp[sR]
    ·exact absurd ai S
  | @new d m x p A s=>
   have:=fP s;have aq:au P .add 9 X (Z [110,101,119,32]) (Z x)=D (Z ([110,101,119,32]++x)):=dk (by simp only[List.length_cons,List.length_nil];omega);simp-implicitDefEqProofs(disch:=try exact ak)only[reduceAdd,reduceLeDiff,reduceIte,az,w,Int.reduceBEq,aq];exact a_.2 ⟨by rw[dZ];show _=aa.str (flat [wd [110,101,119],b9,cC x]);rw[iA,e3,kz,ds];simp,pp⟩
  | @make d m x z p e A s y=>
   obtain⟨b,o⟩:=e;obtain⟨l,i,cap,ro,els,u,rfl,g1,bb,E⟩:=F.kW (n:=1) rfl (j:=0) rfl;have g2:=pp.get g1;simp only[bU.cells]at bb;rw[Nat.add_zero]at bb;rw[oZ,jm,fw,dG,dj,dG,dG,dj]at hlen;simp-implicitDefEqProofs(disch:=try exact ak)only[reduceAdd,reduceLeDiff,reduceIte,az,w,Int.reduceBEq];refine aW (Kz s.1 (by have:=s.2.1;omega) (by have:=ib s;omega)) ?_;rintro _ B ⟨rfl,q⟩;refine⟨q.1,?_⟩;have G:=q.get dI;have g3:=q.get g2;have M:=(V (by simp) y).2 B u (E.aR (pp.trans q));simp-implicitDefEqProofs(disch:=try exact ak)only[bg,bG,Nat.reduceAdd,Nat.reduceLeDiff,reduceIte,aa.cells,c8,eu,ao,c2,eF,G,g3,q8,bb,eI]
   refine aW M ?_;rintro _ ap ⟨rfl,K⟩;refine⟨K.1,?_⟩;have aq:au P .add 9 X (Z [110,101,119,32,91]) (Z (flat (cn x z)))=D (Z ([110,101,119,32,91]++flat (cn x z))):=dk (by simp only[List.length_cons,List.length_nil];omega);have aH:au P .add 9 X (Z ([110,101,119,32,91]++flat (cn x z))) (Z [93,40])=D (Z ([110,101,119,32,91]++flat (cn x z)++[93,40])):=dk (by simp only[List.length_append,List.length_cons,List.length_nil];omega);have bu:au P .add 9 U (Z ([110,101,119,32,91]++flat (cn x z)++[93,40])) (Z (flat (aY (.mk b o))))=D (Z ([110,101,119,32,91]++flat (cn x z)++[93,40]++flat (aY (.mk b o)))):=dk (by simp only[List.length_append,List.length_cons,List.length_nil];omega)
   have cq:au P .add 9 X (Z ([110,101,119,32,91]++flat (cn x z)++[93,40]++flat (aY (.mk b o)))) (Z [41])=D (Z ([110,101,119,32,91]++flat (cn x z)++[93,40]++flat (aY (.mk b o))++[41])):=dk (by simp only[List.length_append,List.length_cons,List.length_nil];omega);have O:=ux (a:=b) E.beq;simp only[bU.cells]at O;rw[aq,eC,aH,eC,bu,eC,cq,eC];simp-implicitDefEqProofs(disch:=try exact ak)only[bg,bG,Nat.reduceAdd,Nat.reduceLeDiff,reduceIte,aa.cells,c8,eu,ao,c2,dI,G,g2,g3,bb,O];exact a_.2 ⟨by rw[oZ,iA,e3,di,dw,di,di,dw,di,ds];simp,(pp.trans q).trans K⟩
  | @len d m p e A s=>
   obtain⟨b,o⟩:=e;obtain⟨l,i,cap,ro,els,u,rfl,g1,bb,E⟩:=F.kW (n:=1) rfl (j:=0) rfl;have g2:=pp.get g1;simp only[bU.cells]at bb;rw[Nat.add_zero]at bb;rw[oY,jm,dG,dj]at hlen;simp-implicitDefEqProofs(disch:=try exact ak)only[reduceAdd,reduceLeDiff,reduceIte,az,w,Int.reduceBEq,g2,q8,bb,eI];refine aW ((V (by simp) s).2 _ u (E.aR pp)) ?_;rintro _ B ⟨rfl,q⟩;refine⟨q.1,?_⟩;have aq:au P .add 9 X (Z [108,101,110,40]) (Z (flat (aY (.mk b o))))=D (Z ([108,101,110,40]++flat (aY (.mk b o)))):=dk (by simp only[List.length_cons,List.length_nil];omega);have aH:au P .add 9 X (Z ([108,101,110,40]++flat (aY (.mk b o)))) (Z [41])=D (Z ([108,101,110,40]++flat (aY (.mk b o))++[41])):=dk (by simp only[List.length_append,List.length_cons,List.length_nil];omega)
   rw[aq,eC,aH,eC];exact a_.2 ⟨by rw[oY,iA,di,dw,di,ds];simp,pp.trans q⟩
  | @read d m p A=>
   simp-implicitDefEqProofs(disch:=try exact ak)only[reduceAdd,reduceLeDiff,reduceIte,az,w,Int.reduceBEq];exact a_.2 ⟨by rw[dZ];rfl,pp⟩
  | @sign d m k p e A s y=>
   obtain⟨b,o⟩:=e;obtain⟨l,i,cap,ro,els,u,rfl,g1,bb,E⟩:=F.kW (n:=1) rfl (j:=0) rfl;have g2:=pp.get g1;simp only[bU.cells]at bb;rw[Nat.add_zero]at bb;rw[mv s,dG]at hlen;rcases s with rfl|rfl
   ·simp-implicitDefEqProofs(disch:=try exact ak)only[reduceAdd,reduceLeDiff,reduceIte,az,w,Int.reduceBEq,g2,q8,bb,eI];refine aW (gA 6 rfl (by simp) y _ u (E.aR pp)) ?_;rintro _ B ⟨rfl,q⟩;refine⟨q.1,?_⟩;have aq:au P .add 9 X (Z [45]) (Z (flat (b_ 6 (.mk b o))))=D (Z ([45]++flat (b_ 6 (.mk b o)))):=dk (by simp only[List.length_cons,List.length_nil];omega);rw[aq,eC];exact a_.2 ⟨by rw[mv (.inl rfl),di];rfl,pp.trans q⟩
   ·simp-implicitDefEqProofs(disch:=try exact ak)only[reduceAdd,reduceLeDiff,reduceIte,az,w,Int.reduceBEq,g2,q8,bb,eI];refine aW (gA 6 rfl (by simp) y _ u (E.aR pp)) ?_;rintro _ B ⟨rfl,q⟩;refine⟨q.1,?_⟩;have aq:au P .add 9 X (Z [33]) (Z (flat (b_ 6 (.mk b o))))=D (Z ([33]++flat (b_ 6 (.mk b o)))):=dk (by simp only[List.length_cons,List.length_nil];omega);rw[aq,eC];exact a_.2 ⟨by rw[mv (.inr rfl),di];rfl,pp.trans q⟩
  | @bin d m k p e f A s y aK aL=>
   obtain⟨b,o⟩:=e;obtain⟨c,cs⟩:=f;obtain⟨l,i,cap,ro,els,u,rfl,g1,bb,E⟩:=F.kW (n:=2) rfl (j:=0) rfl;obtain⟨l',aO,aD,aQ,aF,kw,al,T,Q,ab⟩:=F.kW (n:=2) rfl (j:=1) rfl;cases al;rw[g1]at T;cases T;have g2:=pp.get g1;have ay:=λH'=>GK (H:=H') (a:={kind:=k,pos:=p}) (kv:= .aG l i (0+1+1) 11 cap) rfl
   simp only[bU.cells]at bb Q ay;rw[Nat.add_zero]at bb;rw[oU s,dj,fw,dG,fw]at hlen;have aX:=zj s y;have am:(0:Int)<((2:Nat):Int):=ae;have ea:(1:Int)<((2:Nat):Int):=ae;have cP:∀m:Int,m<14->(k==m)=false:=λm h=>by simp;omega
   have an:IntKind.i64.wrap (((cG k:Nat):Int)+1)=((cG k+1:Nat):Int):=by have:=zs k;rw[wrap_i64 ae ae];omega
   simp-implicitDefEqProofs(disch:=try exact ak)only[reduceAdd,reduceLeDiff,reduceIte,az,w,cP 1 ae,cP 2 ae,cP 3 ae,cP 4 ae,cP 5 ae,cP 6 ae,cP 7 ae,cP 8 ae,cP 9 ae,cP 10 ae,cP 11 ae,cP 12 ae,cP 13 ae];unfold mF;simp-implicitDefEqProofs(disch:=try exact ak)only[reduceAdd,reduceLeDiff,reduceIte,az,dI];refine aW (ay _) ?_;rintro _ B ⟨rfl,q⟩;refine⟨q.1,?_⟩;have G:=q.get dI;have g3:=q.get g2;simp-implicitDefEqProofs(disch:=try exact ak)only[bg,bG,Nat.reduceAdd,Nat.reduceLeDiff,reduceIte,aa.cells,c8,eu,ao,c2,eF,G,g3,q8,bb,am];refine aW (gA (cG k) rfl (by simp) aK _ u (E.aR (pp.trans q))) ?_;rintro _ ap ⟨rfl,K⟩
   refine⟨K.1,?_⟩;have aj:=K.get G;have g4:=K.get g3;simp-implicitDefEqProofs(disch:=try exact ak)only[bg,bG,Nat.reduceAdd,Nat.reduceLeDiff,reduceIte,aa.cells,c8,eu,ao,c2,eF,aj];refine aW (Uf s y) ?_;rintro _ aS ⟨rfl,ad⟩;refine⟨ad.1,?_⟩;have av:=ad.get aj;have g5:=ad.get g4;simp-implicitDefEqProofs(disch:=try exact ak)only[bg,bG,Nat.reduceAdd,Nat.reduceLeDiff,reduceIte,aa.cells,c8,eu,ao,c2,eF,av,g5,J3,Q,ea,c3,an];refine aW (gA (cG k+1) rfl (by simp) aL _ kw (ab.aR (((pp.trans q).trans K).trans ad))) ?_;rintro _ aT ⟨rfl,aC⟩;refine⟨aC.1,?_⟩;have aq:au P .add 9 X (Z (flat (b_ (cG k) (.mk b o)))) (Z [32])=D (Z (flat (b_ (cG k) (.mk b o))++[32])):=dk (by simp only[List.length_cons,List.length_nil];omega)
   have aH:au P .add 9 U (Z (flat (b_ (cG k) (.mk b o))++[32])) (Z (fc k))=D (Z (flat (b_ (cG k) (.mk b o))++[32]++fc k)):=dk (by simp only[List.length_append,List.length_cons,List.length_nil];omega);have bu:au P .add 9 X (Z (flat (b_ (cG k) (.mk b o))++[32]++fc k)) (Z [32])=D (Z (flat (b_ (cG k) (.mk b o))++[32]++fc k++[32])):=dk (by simp only[List.length_append,List.length_cons,List.length_nil];omega);have cq:au P .add 9 U (Z (flat (b_ (cG k) (.mk b o))++[32]++fc k++[32])) (Z (flat (b_ (cG k+1) (.mk c cs))))=D (Z (flat (b_ (cG k) (.mk b o))++[32]++fc k++[32]++flat (b_ (cG k+1) (.mk c cs)))):=dk (by simp only[List.length_append,List.length_cons,List.length_nil];omega)
   have O:=ux (a:=c) ab.beq;simp only[bU.cells]at O;rw[aq,eC,aH,eC,bu,eC,cq,eC];simp-implicitDefEqProofs(disch:=try exact ak)only[bg,bG,Nat.reduceAdd,Nat.reduceLeDiff,reduceIte,aa.cells,c8,eu,ao,c2,dI,G,aj,av,g2,g3,g4,g5,Q,O];exact a_.2 ⟨by rw[oU s,dw,e3,di,e3];simp,(((pp.trans q).trans K).trans ad).trans aC⟩
section
set_option maxRecDepth 100000
noncomputable section
end
end
section
def b0.cells(a:b0)(cg bv c:aa):List aa:=[I J a.kind,Z a.name,Z a.b4,I J a.cy,cg,bv,c,I J a.pos,I J a.ref]
mutual
def eY(H:af)(ok:Nat->Prop):bf->aa->Prop
 | .mk a es b c,v=>∃cg bv d,v= .agg (a.cells cg bv d)/\cz H ok es cg/\
  ((bv= .aA/\b.length=0)\/(∃l i cap ro els,bv= .aG l i b.length 9 (Option.map (· +b.length) cap)/\ok l/\H.get l=D (.row ro 9 els)/\dW H ok b (els.drop i))\/∃l i cap,bv= .aG l i 0 9 cap/\b.length=0)/\
  ((d= .aA/\c.length=0)\/(∃l i cap ro els,d= .aG l i c.length 9 (Option.map (· +c.length) cap)/\ok l/\H.get l=D (.row ro 9 els)/\dW H ok c (els.drop i))\/∃l i cap,d= .aG l i 0 9 cap/\c.length=0)
def dW(H:af)(ok:Nat->Prop):List bf->List (List aa)->Prop
 |[],_=>True
 |_::_,[]=>False
 |e::es,cs::css=>eY H ok e (.agg cs)/\dW H ok es css
end
def dr(H:af)(ok:Nat->Prop)(b:List bf)(bv:aa):Prop:=(bv= .aA/\b.length=0)\/(∃l i cap ro els,bv= .aG l i b.length 9 (Option.map (· +b.length) cap)/\ok l/\H.get l=D (.row ro 9 els)/\dW H ok b (els.drop i))\/∃l i cap,bv= .aG l i 0 9 cap/\b.length=0
def nj{H:af}{ok:Nat->Prop}{a:b0}{es:List aE}{b c:List bf}{v:aa}:eY H ok (.mk a es b c) v↔∃cg bv d,v= .agg (a.cells cg bv d)/\cz H ok es cg/\dr H ok b bv/\dr H ok c d:=by
 rw[eY];rfl
structure eS(H:af)(ok:Nat->Prop)(H':af)(ok':Nat->Prop):Prop where
 ex:dA H ok H' ok'
 st:∀l ro els,ok l->H.get l=some (.row ro 9 els)->ok' l/\H'.get l=some (.row ro 9 els)
section
variable {H H':af}{ok ok':Nat->Prop}
mutual
def eY.a1(p:eS H ok H' ok'):∀(e:bf) (v:aa),eY H ok e v->eY H' ok' e v
 | .mk a es b c,v,h=>by
  rw[eY]at h ⊢;obtain⟨cg,bv,k,m,n,d,o⟩:=h;refine⟨cg,bv,k,m,n.a1 p.ex,?_,?_⟩
  ·rcases d with d|⟨l,i,cap,ro,els,aq,aH,bu,cq⟩|d
   ·exact .inl d
   ·obtain⟨bb,j⟩:=p.st l ro els aH bu;exact .inr (.inl ⟨l,i,cap,ro,els,aq,bb,j,dW.a1 p b _ cq⟩)
   ·exact .inr (.inr d)
  ·rcases o with d|⟨l,i,cap,ro,els,aq,aH,bu,cq⟩|d
   ·exact .inl d
   ·obtain⟨bb,j⟩:=p.st l ro els aH bu;exact .inr (.inl ⟨l,i,cap,ro,els,aq,bb,j,dW.a1 p c _ cq⟩)
   ·exact .inr (.inr d)
def dW.a1(p:eS H ok H' ok'):∀(es:List bf) (cs:List (List aa)),dW H ok es cs->dW H' ok' es cs
 |[],_,_=>by rw[dW];trivial
 |e::es,[],h=>by rw[dW]at h;exact h.elim
 |e::es,cs::css,h=>by
  rw[dW]at h ⊢;exact⟨eY.a1 p e _ h.1,dW.a1 p es css h.2⟩
end
def dr.a1(p:eS H ok H' ok'){b:List bf}{v:aa}(h:dr H ok b v):dr H' ok' b v:=by
 rcases h with a|⟨l,i,cap,ro,els,aq,aH,bu,cq⟩|a
 ·exact .inl a
 ·obtain⟨bb,c⟩:=p.st l ro els aH bu;exact .inr (.inl ⟨l,i,cap,ro,els,aq,bb,c,dW.a1 p b _ cq⟩)
 ·exact .inr (.inr a)
def eS.mut{r:Nat}(m:cv r H H')(c:¬ok r)(a:∀l,ok l->ok' l):eS H ok H' ok':=⟨dA.mut m c a,λl ro els h e=>⟨a l h,m.get e (by rintro rfl;exact c h)⟩⟩
def eS.aR(m:aU H H')(a:∀l,ok l->ok' l):eS H ok H' ok':=⟨dA.aR m a,λl ro els h e=>⟨a l h,m.get e⟩⟩
def eS.set{l:Nat}(b:cb)(h:¬ok l)(c:∀l,ok l->ok' l):eS H ok (H.set l b) ok':=⟨dA.set b h c,λj ro els a e=>⟨c j a,by rw[af.get_set_other (by rintro rfl;exact h a)];exact e⟩⟩
def eS.nu(h:∀l,ok l->ok' l):eS H ok H ok':=⟨dA.nu h,λl ro els a e=>⟨h l a,e⟩⟩
def dr.eb{b:List bf}{v:aa}(h:dr H ok b v):v.one=true:=by
 rcases h with⟨rfl,_⟩|⟨l,i,cap,ro,els,rfl,_⟩|⟨l,i,cap,rfl,_⟩<;>rfl
def dr.nil(H:af)(ok:Nat->Prop):dr H ok [] .aA:= .inl ⟨rfl,rfl⟩
def eY.cells{e:bf}{v:aa}(h:eY H ok e v):∃cs,v= .agg cs/\cs.length=9/\cs.all aa.one=true:=by
 cases e with|mk a es b c=>
 rw[nj]at h;obtain⟨cg,bv,k,rfl,d,i,j⟩:=h;refine⟨_,rfl,rfl,?_⟩;simp only[b0.cells,List.all_cons,List.all_nil,hs,hS,d.eb,i.eb,j.eb,Bool.and_self]
def eY.leaf(H:af)(ok:Nat->Prop)(a:b0):eY H ok (.mk a [] [] []) (.agg (a.cells .aA .aA .aA)):=
 nj.2 ⟨_,_,_,rfl,.inl ⟨rfl,rfl⟩,.inl ⟨rfl,rfl⟩,.inl ⟨rfl,rfl⟩⟩
def eY.mut{r:Nat}{e:bf}{v:aa}(h:eY H ok e v)(m:cv r H H')(c:¬ok r)(a:∀l,ok l->ok' l):eY H' ok' e v:=eY.a1 (eS.mut m c a) e v h
def eS.new{n:Nat}(m:dp (· <n) H H')(c:∀l,n<=l->ok l):eS H (bx n) H' ok:=
 ⟨λl ro els a g=>⟨c l a,m.get g (Nat.not_lt.2 a)⟩,λl ro els a g=>⟨c l a,m.get g (Nat.not_lt.2 a)⟩⟩
end
def xV(ok:Nat->Prop)(H:af)(r:Nat)(T:List Tok)(ax:aa)(e:bf)(s':al)(v:aa)(H':af):Prop:=cv r H H'/\b6 H' r T ax s'/\eY H' ok e v
abbrev gC(H:af):=xV (bx H.next) H
def gC.fin{H b5:af}{r:Nat}{T:List Tok}{ax:aa}{s s':al}{a:b0}{es:List aE}{b c:List bf}{cg bv e:aa}{x lo:Nat}(i:b6 H r T ax s)(m:cv r H b5)(h:bX b5 r ax s')(j:cz b5 (bx lo) es cg)(n:dr b5 (bx lo) b bv)(o:dr b5 (bx lo) c e)(p:H.next<=x)(u:x<lo)(d:cb):
  gC H r T ax (.mk a es b c) s' (.agg (a.cells cg bv e)) (b5.set x d):=by
 have q:=i.rd.lt;have m':=m.db (.inr p) d;have k:eS b5 (bx lo) (b5.set x d) (bx H.next):=eS.set _ (by unfold bx;omega) λl q=>by unfold bx at*;omega
 refine⟨m',i.mut m' ?_,nj.2 ⟨cg,bv,e,rfl,j.a1 k.ex,n.a1 k,o.a1 k⟩⟩;unfold bX at h ⊢;rw[af.get_set_other ae];exact h
def gC.ret{H a:af}{r:Nat}{T:List Tok}{ax:aa}{s s':al}{e:bf}{v:aa}{b n:Nat}(h:b6 H r T ax s)(m:cv r H a)(d:bX a r ax s')(i:H.next<=b)(he:eY a (bx n) e v)(k:b<n)(c:cb):gC H r T ax e s' v (a.set b c):=by
 have j:=h.rd.lt;have m':=m.db (.inr i) c;refine⟨m',h.mut m' ?_,eY.a1 (eS.set _ (by unfold bx;omega) λl j=>by unfold bx at*;omega) e v he⟩;unfold bX at d ⊢;rw[af.get_set_other ae];exact d
def eY.at{H:af}{ok:Nat->Prop}{e:bf}{cs:List aa}(h:eY H ok e (.agg cs))(p:Int):eY H ok (e.at p) (.agg (cs.set 7 (I J p))):=by
 cases e with|mk a es b c=>
 rw[nj]at h;obtain⟨cg,bv,d,i,j,k,l⟩:=h;cases i;exact nj.2 ⟨cg,bv,d,rfl,j,k,l⟩
set_option linter.defProp false
def e1:=ai AP (ai sY (ai AQ u0))
end
def cz.p0{H:af}{ok:Nat->Prop}{ks:List aE}{x:aa}(c:cz H ok ks x)(H':af):cx P H' .len [41] [x]=D (I J ks.length):=by
 rcases c with⟨rfl,aq⟩|⟨d,i1,a,h,e,rfl,_⟩|⟨d,i1,a,rfl,aq⟩
 ·rw[aq];exact tV
 ·exact oO
 ·rw[aq];exact oO
def cz.row{H:af}{ok:Nat->Prop}{ks:List aE}{x:aa}(c:cz H ok ks x)(h:¬ks.length=0):∃l i cap ro els,x= .aG l i ks.length 11 cap/\ok l/\H.get l=D (.row ro 11 els)/\dz H ok ks (els.drop i):=by
 rcases c with⟨_,aq⟩|a|⟨_,_,_,_,aq⟩
 ·exact absurd aq h
 ·exact a
 ·exact absurd aq h
def u_(F:Nat)(B:Nat)(e:aE):Prop:=dq B e->∀(f:aE) (v w:aa) (H:af) (ok ok':Nat->Prop),cT H ok e v->cT H ok' f w->W (aI P aB F [v,w] H) λr H'=>r= .bool (lS e f)/\aU H H'
def dM.mem{B:Nat}:∀{es:List aE},dM B es->∀e∈es,dq B e
 |[],_,e,he=>by simp at he
 |x::xs,h,e,he=>by
  rw[dM]at h;rcases List.mem_cons.1 he with rfl|he
  ·exact h.1
  ·exact dM.mem h.2 e he
def aE.Ul{a:bU}{ks:List aE}{e:aE}(h:e∈ks):SizeOf.sizeOf e<SizeOf.sizeOf (aE.mk a ks):=by
 have:=List.sizeOf_lt_of_mem h;simp only[aE.mk.sizeOf_spec];omega
def Gw{N B:Nat}{F E K li:Nat}{kc lc:Option Nat}{R S:Bool}{A G:List (List aa)}{ok ok':Nat->Prop}:∀(es m:List aE) (j a n:Nat) (H:af),(∀e∈es,u_ 18 B e)->dM B es->dz H ok es (A.drop (E+j))->dz H ok' m (G.drop (li+j))->es.length=m.length->a=j+es.length->a<=1000000000000->H.get F=D (.row R 11 A)->H.get K=D (.row S 11 G)->es.length<n->
  W (nV (aI P aB) N n (.aG F E a 11 kc) (.aG K li a 11 lc) (I J j) H) λr H'=>r= .bool (gy es m)/\aU H H'
 |_,_,_,_,0,_,_,_,_,_,_,_,_,_,_,p=>ae
 |[],[],j,a,n+1,H,ar,l,s,u,d,o,w,i,k,p=>by
  have x:¬((j:Int)<(a:Int)):=by simp at o;omega
  simp-implicitDefEqProofs(disch:=try exact ak)only[nV,k6,nU,mL,reduceAdd,reduceLeDiff,reduceIte,az,x,decide_false];exact a_.2 ⟨by rw[gy],.refl _⟩
 |[],_::_,j,a,n+1,H,ar,l,s,u,d,o,w,i,k,p=>by simp at d
 |_::_,[],j,a,n+1,H,ar,l,s,u,d,o,w,i,k,p=>by simp at d
 |e::es,f::m,j,a,n+1,H,ar,l,s,u,d,o,w,i,k,p=>by
  simp only[List.length_cons]at d o p;have x:(j:Int)<(a:Int):=ae;have ad:(0:Int)<=(j:Int):=ae;have Q:((j:Int)).toNat=j:=ae;obtain⟨cs,g1,g2,g3⟩:=s.cons;obtain⟨y,g4,g5,g6⟩:=u.cons;obtain⟨_,bb,ai,aj⟩:=g2.cells;cases bb;obtain⟨_,T,al,am⟩:=g5.cells;cases T;have V:List.take 11 cs=cs:=List.take_of_length_le ae;have ab:List.take 11 y=y:=List.take_of_length_le ae;have ag:=af.a6 i;have ah:=af.a6 k;rw[dM]at l;have hw:IntKind.i64.wrap ((j:Int)+1)=((j+1:Nat):Int):=by rw[wrap_i64 ae ae];omega
  simp-implicitDefEqProofs(disch:=try exact ak)only[nV,k6,nU,mL,reduceAdd,reduceLeDiff,reduceIte,az,x,decide_true,Q,i,k,g1,g4,V,ab];refine aW (ar e (by simp) l.1 f _ _ _ ok ok' g2 g5) ?_;rintro _ L ⟨rfl,c⟩;refine⟨c.1,?_⟩;cases z:lS e f with
  |false=>
   simp-implicitDefEqProofs(disch:=try exact ak)only[k6,nU,mL,bg,bG,Bool.not_false];exact a_.2 ⟨by rw[gy,z,Bool.false_and],c⟩
  |true=>
   simp-implicitDefEqProofs(disch:=try exact ak)only[k6,nU,mL,bg,bG,c3,Bool.not_true,hw];refine(Gw es m (j+1) a n L (λM O=>ar M (by simp[O])) l.2 (dz.a1 (dA.aR c λ_ h=>h) _ _ g3) (dz.a1 (dA.aR c λ_ h=>h) _ _ g6) ae ae w (c.get i) (c.get k) ae).mono ?_;rintro v H' ⟨rfl,q⟩;exact⟨by rw[gy,z,Bool.true_and],c.trans q⟩
def Ge{B:Nat}(x:B<=1000000000000){H:af}{ok ok':Nat->Prop}{ks ls:List aE}{kv cc:aa}(ar:∀e∈ks,u_ 18 B e)(o:ks.length<=B/\dM B ks)(i:cz H ok ks kv)(j:cz H ok' ls cc):W (aI P aB 52 [kv,cc] H) λr H'=>r= .bool (gy ks ls)/\aU H H':=by
 refine cO (λ_=>Ry (ks.length+1)) ?_;have neq:∀m k:Nat,m≠k->((m:Int) != (k:Int))=true:=λm k h=>by simp;omega
 have q:∀m:Nat,((m:Int) != (m:Int))=false:=λm=>by simp
 have z0:((0:Nat):Int)=0:=rfl;have c:=i.p0;have d:=j.p0;by_cases a:ks.length=ls.length
 ·by_cases l:ks.length=0
  ·have p:ls.length=0:=ae;obtain rfl:=List.length_eq_zero_iff.1 l;obtain rfl:=List.length_eq_zero_iff.1 p;simp-implicitDefEqProofs(disch:=try exact ak)only[nV,k6,nU,mL,reduceAdd,reduceLeDiff,reduceIte,az,c,d,List.length_nil,z0,bne_self_eq_false,Int.lt_irrefl,decide_false];exact a_.2 ⟨by rw[gy],.refl _⟩
  ·obtain⟨A,i1,y,F,v,rfl,bO,g1,s⟩:=i.row l;obtain⟨E,i2,z,G,w,rfl,b2,g2,u⟩:=j.row ae;rw[<-a];simp-implicitDefEqProofs(disch:=try exact ak)only[k6,mL,bg,bG,eF,c3,q ks.length];exact Gw ks ls 0 ks.length (ks.length+1) H ar o.2 s u a ae ae g1 g2 ae
 ·have n:=neq _ _ a;simp-implicitDefEqProofs(disch:=try exact ak)only[k6,nU,mL,bg,bG,c3,c,d,n];exact a_.2 ⟨by rw[IV _ _ a],.refl _⟩
def Ji{B:Nat}(h:B<=1000000000000):∀(e:aE),u_ 18 B e
 | .mk a ks=>by
  intro i f v w H ok ok' c d;cases f with|mk b ls=>
  rw[iO]at c d;obtain⟨kv,rfl,c⟩:=c;obtain⟨cc,rfl,d⟩:=d;rw[dq]at i;have ar:∀e∈ks,u_ 18 B e:=λe he=>Ji h e
  exact TP c.eb d.eb λH' p=>Ge h ar i (c.aR p) (d.aR p)
 termination_by e=>SizeOf.sizeOf e
 decreasing_by exact aE.Ul he
section
set_option maxRecDepth 100000
noncomputable section
def pv(G:aD)(ag av:aa)(H:af):O:=ca H (dR (H).next ag) λa p=>ca p (dR (p).next av) λc l=>j (aJ P 112 a 0) λaX=>j (ao P l 3 aX) λbD=>j (aJ P 112 c 0) λa0=>j (ao P l 3 a0) λa1=>j (au P .eql 3 U bD a1) λk=>aM k X l (br (aJ P 112 a 1)) λak B=>aM k X B (qr (ao P B 9 ak)) λal ae=>aM k X ae (br (aJ P 112 c 1)) λam F=>aM k X F (qr (ao P F 9 am)) λan ah=>aM k X ah (br (au P .eql 9 U al an)) λap ai=>j (cE k (D ap) (D (.bool U))) λbR=>aM bR X ai (br (aJ P 112 a 2)) λaq K=>aM bR X K (qr (ao P K 40 aq)) λar aj=>aM bR X aj (br (aJ P 112 c 2)) λaw s=>aM bR X s (qr (ao P s 40 aw)) λax L=>aM bR X L (br (au P .eql 40 U ar ax)) λay M=>j (cE bR (D ay) (D (.bool U))) λd=>aM d X M (br (aJ P 112 a 7)) λaz u=>aM d X u (qr (ao P u 3 az)) λaB N=>aM d X N (br (aJ P 112 c 7)) λaC v=>aM d X v (qr (ao P v 3 aC)) λaE Q=>aM d X Q (br (au P .eql 3 U aB aE)) λaF R=>j (cE d (D aF) (D (.bool U))) λe=>aM e X R (br (aJ P 112 a 3)) λaH w=>aM e X w (qr (ao P w 41 aH)) λaI S=>aM e X S (br (aJ P 112 c 3)) λaK x=>aM e X x (qr (ao P x 41 aK)) λaL m=>aM e X m (λq=>eQ m (G 52 [aI,aL] m) q) λaN T=>j (cE e (D aN) (D (.bool U))) λh=>aM h X T (br (aJ P 112 a 4)) λaO y=>aM h X y (qr (ao P y 71 aO)) λaP V=>aM h X V (br (aJ P 112 c 4)) λaQ z=>aM h X z (qr (ao P z 71 aQ)) λaR n=>aM h X n (λq=>eQ n (G 37 [aP,aR] n) q) λaS W=>j (cE h (D aS) (D (.bool U))) λi=>aM i X W (br (aJ P 112 a 5)) λaT A=>aM i X A (qr (ao P A 71 aT)) λaU ab=>aM i X ab (br (aJ P 112 c 5)) λaV E=>aM i X E (qr (ao P E 71 aV)) λaW o=>aM i X o (λq=>eQ o (G 37 [aU,aW] o) q) λaY ad=>j (cE i (D aY) (D (.bool U))) λaZ=>D (aZ,ad)
def RF(N:Nat){ag av:aa}{H:af}{r:aa×af}(h:pv (aI P aB) ag av H=D r):aI P aB 61 [ag,av] H=D r:=cZ N (S:=λG=>pv G ag av H) Tryd.func61 (λ_=>by delta pv;kernel_rfl) h
def mK(G:aD)(N:Nat)(H:af):O:=some ((.bool X),H)
def SJ(G:aD)(N:Nat):∀ad H,bC P G N (o (o (o (bI Tryd.f37)))) (bs Tryd.f37) [] (bs Tryd.f37) ad H=mK G N H:=by
 refine bZ (aL _) λad H=> ?_
 delta mK;kernel_rfl
def qL(G:aD)(N:Nat)(d:aa->aa->aa->af->O)(ag av a:aa)(H:af):O:=bg P .len [71] [ag] H λe=>j (au P .lss 3 U a e) λh=>a7 (D h) (j (cF P 71 ag a) λi=>j (ao P H 112 i) λk=>j (cF P 71 av a) λl=>j (ao P H 112 l) λm=>aO H (G 61 [k,m] H) λn c=>j (fD .not n) λo=>a7 (D o) (D ((.bool U),c)) (j (au P .add 3 X a (I J 1)) λbR=>d ag av bR c)) (mK G N H)
def nR(G:aD)(N:Nat):Nat->aa->aa->aa->af->O
 |0,_,_,_,_=>C
 |n+1,ag,av,a,H=>qL G N (nR G N n) ag av a H
def SI(G:aD)(N:Nat)(c:aa->aa->aa->af->O):∀ad H,bC P G N (bd (bd (o (bd (o (o (bI Tryd.f37))))))) (λad H=>c (ad 0) (ad 1) (ad 5) H) [(0,(λad H=>mK G N H))] (bs Tryd.f37) ad H=qL G N c (ad 0) (ad 1) (ad 5) H:=by
 refine bZ (aL _) λad H=> ?_
 delta qL;generalize mK G N=a;revert a;refine id ?_;intro a;kernel_rfl
def pj(G:aD)(N:Nat)(ag av:aa)(H:af):O:=bg P .len [71] [ag] H λc=>bg P .len [71] [av] H λd=>j (au P .neq 3 U c d) λa=>a7 (D a) (D ((.bool U),H)) (nR G N N ag av (I J 0) H)
def Rn(N:Nat){ag av:aa}{H:af}{r:aa×af}(h:pj (aI P aB) N ag av H=D r):aI P aB 37 [ag,av] H=D r:=cZ N (S:=λG=>pj G N ag av H) Tryd.func37 (λG=>eo ((aX ah ((aX ah ((aX ah (SJ G N) ((aX ah ((dx ah ((eP (k:=λm ad H=>nR G N m (ad 0) (ad 1) (ad 5) H) ah (λad H=>ah) (λm=>SI G N (nR G N m)))))) (aL _))))) (aL _))) (aL _))) (by delta pj;generalize nR G N N=a;revert a;refine id ?_;intro a;kernel_rfl)) h
end
end
end Go.Proofs.YtghmbpmaafnodaaDoor
namespace Go.bn
 @[congr] theorem VE {H H':af} {cs a:List aa} {k:aa->af->O} {z:Nat} (d:H=H') (e:cs=a) (c:iq=z):cX H cs k=cX H' a k:=by rw[d,e]
 @[congr] theorem Vy {ms a:List Nat} {T:List hN} {H:af} {z:Nat} (c:iq=z):oF ms a T H=oF ms a T H:=rfl
end Go.bn
namespace Go.Proofs.YtghmbpmaafnodaaDoor
open Go.bn
open Nat (reduceAdd reduceLeDiff)
mutual
def lT:bf->bf->Bool
 | .mk a es b c,.mk bt es' ct c'=>a.kind==bt.kind&&(a.name==bt.name&&((a.b4==bt.b4&&a.cy==bt.cy)&&(a.ref==bt.ref&&(gy es es'&&(fU b ct&&fU c c')))))
def fU:List bf->List bf->Bool
 |[],[]=>X
 |[],_::_=>U
 |_::_,[]=>U
 |e::es,f::a=>lT e f&&fU es a
end
mutual
def hk(B:Nat):bf->Prop
 | .mk _ es b c=>(es.length<=B/\dM B es)/\(b.length<=B/\eJ B b)/\(c.length<=B/\eJ B c)
def eJ(B:Nat):List bf->Prop
 |[]=>True
 |e::es=>hk B e/\eJ B es
end
def eJ.mem{B:Nat}:∀{es:List bf},eJ B es->∀e∈es,hk B e
 |[],_,e,he=>by simp at he
 |x::xs,h,e,he=>by
  rw[eJ]at h;rcases List.mem_cons.1 he with rfl|he
  ·exact h.1
  ·exact eJ.mem h.2 e he
def IW:∀(es a:List bf),es.length≠a.length->fU es a=U
 |[],[],h=>absurd rfl h
 |[],_::_,_=>by rw[fU]
 |_::_,[],_=>by rw[fU]
 |e::es,f::a,h=>by rw[fU,IW es a (by simpa using h),Bool.and_false]
mutual
def TS:∀e:aE,lS e e=X
 | .mk a ks=>by rw[lS,Aw ks];simp
def Aw:∀es:List aE,gy es es=X
 |[]=>by rw[gy]
 |e::es=>by rw[gy,TS e,Aw es];rfl
end
mutual
def TY:∀e:bf,lT e e=X
 | .mk a es b c=>by rw[lT,xj b,xj c,Aw es];simp
def xj:∀es:List bf,fU es es=X
 |[]=>by rw[fU]
 |e::es=>by rw[fU,TY e,xj es];rfl
end
def bf.Uj{a:b0}{es:List aE}{b c:List bf}{e:bf}(h:e∈b):SizeOf.sizeOf e<SizeOf.sizeOf (bf.mk a es b c):=by
 have:=List.sizeOf_lt_of_mem h;simp only[bf.mk.sizeOf_spec];omega
def bf.Uk{a:b0}{es:List aE}{b c:List bf}{e:bf}(h:e∈c):SizeOf.sizeOf e<SizeOf.sizeOf (bf.mk a es b c):=by
 have:=List.sizeOf_lt_of_mem h;simp only[bf.mk.sizeOf_spec];omega
def dr.aR{H H':af}{ok:Nat->Prop}{ks:List bf}{kv:aa}(h:dr H ok ks kv)(p:aU H H'):dr H' ok ks kv:=h.a1 (eS.aR p λ_ h=>h)
def eY.aR{H H':af}{ok:Nat->Prop}{e:bf}{v:aa}(h:eY H ok e v)(p:aU H H'):eY H' ok e v:=eY.a1 (eS.aR p λ_ h=>h) e v h
def dW.cons{H:af}{ok:Nat->Prop}{e:bf}{es:List bf}{els:List (List aa)}{k:Nat}(h:dW H ok (e::es) (els.drop k)):∃cs,els[k]? =D cs/\eY H ok e (.agg cs)/\dW H ok es (els.drop (k+1)):=by
 cases a:els.drop k with
 |nil=>rw[a,dW]at h;exact h.elim
 |cons cs css=>
  rw[a,dW]at h;have c:els[k]? =D cs:=by
   have:=List.getElem?_drop (xs:=els) (i:=k) (j:=0);rw[a]at this;simpa using this.symm
  have d:els.drop (k+1)=css:=by
   have:(els.drop k).drop 1=css:=by rw[a];rfl
   rwa[List.drop_drop]at this
  exact⟨cs,c,h.1,by rw[d];exact h.2⟩
def dr.p0{H:af}{ok:Nat->Prop}{ks:List bf}{x:aa}(c:dr H ok ks x)(H':af):cx P H' .len [71] [x]=D (I J ks.length):=by
 rcases c with⟨rfl,aq⟩|⟨d,i1,a,h,e,rfl,_⟩|⟨d,i1,a,rfl,aq⟩
 ·rw[aq];exact zr
 ·exact vV
 ·rw[aq];exact vV
def dr.row{H:af}{ok:Nat->Prop}{ks:List bf}{x:aa}(c:dr H ok ks x)(h:¬ks.length=0):∃l i cap ro els,x= .aG l i ks.length 9 (Option.map (· +ks.length) cap)/\ok l/\H.get l=D (.row ro 9 els)/\dW H ok ks (els.drop i):=by
 rcases c with⟨_,aq⟩|a|⟨_,_,_,_,aq⟩
 ·exact absurd aq h
 ·exact a
 ·exact absurd aq h
def tg(F:Nat)(B:Nat)(e:bf):Prop:=hk B e->∀(f:bf) (v w:aa) (H:af) (ok ok':Nat->Prop),eY H ok e v->eY H ok' f w->W (aI P aB F [v,w] H) λr H'=>r= .bool (lT e f)/\aU H H'
def PI(m k:Nat)(h:m≠k):((m:Int) != (k:Int))=true:=by simp;omega
def PJ(m:Nat):((m:Int) != (m:Int))=false:=by simp
def TW{H:af}{a bt:b0}{es es':List aE}{b ct c c':List bf}{cg j bv e h i:aa}(B:cg.one=X)(E:j.one=X)(F:bv.one=X)(G:e.one=X)(K:h.one=X)(L:i.one=X)
  (he:∀H',aU H H'->W (aI P aB 52 [cg,j] H') λr p=>r= .bool (gy es es')/\aU H' p)
  (M:∀H',aU H H'->W (aI P aB 37 [bv,e] H') λr p=>r= .bool (fU b ct)/\aU H' p)
  (N:∀H',aU H H'->W (aI P aB 37 [h,i] H') λr p=>r= .bool (fU c c')/\aU H' p):
  W (aI P aB 61 [.agg (a.cells cg bv h),.agg (bt.cells j e i)] H) λr H'=>r= .bool (lT (.mk a es b c) (.mk bt es' ct c'))/\aU H H':=by
 refine cO (λ_=>RF 0) ?_;have m:∀l,dR l (.agg (a.cells cg bv h))=D (.ptr l 0 0,.row U 9 [a.cells cg bv h]):=λl=>hn l _ (by simp only[b0.cells,List.all_cons,List.all_nil,hs,hS,B,F,K,Bool.and_self])
 have n:∀l,dR l (.agg (bt.cells j e i))=D (.ptr l 0 0,.row U 9 [bt.cells j e i]):=λl=>hn l _ (by simp only[b0.cells,List.all_cons,List.all_nil,hs,hS,E,G,L,Bool.and_self])
 have d:=(aU.push H (.row U 9 [a.cells cg bv h])).bT (.row U 9 [bt.cells j e i]);have g1:((H.push (.row U 9 [a.cells cg bv h])).push (.row U 9 [bt.cells j e i])).get H.next=D (.row U 9 [a.cells cg bv h]):=by simp-implicitDefEqProofs(disch:=try exact ak)only[ed]
 have g2:((H.push (.row U 9 [a.cells cg bv h])).push (.row U 9 [bt.cells j e i])).get (H.next+1)=D (.row U 9 [bt.cells j e i]):=by simp-implicitDefEqProofs(disch:=try exact ak)only[ed]
 rw[lT];simp only[b0.cells]at m n d g1 g2 ⊢;cases q:a.kind==bt.kind with
 |false=>
  simp-implicitDefEqProofs(disch:=try exact ak)only[pv,reduceAdd,reduceLeDiff,reduceIte,az,e1,m,n,kS,q];exact a_.2 ⟨by simp only[Bool.false_and,Bool.and_false],d⟩
 |true=>
 cases s:a.name==bt.name with
 |false=>
  simp-implicitDefEqProofs(disch:=try exact ak)only[pv,reduceAdd,reduceLeDiff,reduceIte,az,e1,m,n,kS,q,s];exact a_.2 ⟨by simp only[Bool.false_and,Bool.and_false],d⟩
 |true=>
 cases u:(a.b4==bt.b4&&a.cy==bt.cy)with
 |false=>
  simp-implicitDefEqProofs(disch:=try exact ak)only[pv,reduceAdd,reduceLeDiff,reduceIte,az,e1,m,n,kS,q,s,u];exact a_.2 ⟨by simp only[Bool.false_and,Bool.and_false],d⟩
 |true=>
 cases v:a.ref==bt.ref with
 |false=>
  simp-implicitDefEqProofs(disch:=try exact ak)only[pv,reduceAdd,reduceLeDiff,reduceIte,az,e1,m,n,kS,q,s,u,v];exact a_.2 ⟨by simp only[Bool.false_and,Bool.and_false],d⟩
 |true=>
 simp-implicitDefEqProofs(disch:=try exact ak)only[pv,reduceAdd,reduceLeDiff,reduceIte,az,e1,m,n,kS,q,s,u,v];refine hl (he _ d) ?_;rintro _ O ⟨rfl,k⟩;refine⟨k.1,?_⟩;have w:=k.get g1;have x:=k.get g2;cases d1:gy es es' with
 |false=>
  simp-implicitDefEqProofs(disch:=try exact ak)only[reduceAdd,reduceLeDiff,reduceIte,az];exact a_.2 ⟨by simp only[Bool.false_and,Bool.and_false],d.trans k⟩
 |true=>
 simp-implicitDefEqProofs(disch:=try exact ak)only[reduceAdd,reduceLeDiff,reduceIte,az,e1,w,x];refine hl (M _ (d.trans k)) ?_;rintro _ Q ⟨rfl,o⟩;refine⟨o.1,?_⟩;have z:=o.get w;have A:=o.get x;cases d2:fU b ct with
 |false=>
  simp-implicitDefEqProofs(disch:=try exact ak)only[reduceAdd,reduceLeDiff,reduceIte,az];exact a_.2 ⟨by simp only[Bool.false_and,Bool.and_false],(d.trans k).trans o⟩
 |true=>
 simp-implicitDefEqProofs(disch:=try exact ak)only[reduceAdd,reduceLeDiff,reduceIte,az,e1,z,A];refine hl (N _ ((d.trans k).trans o)) ?_;rintro _ R ⟨rfl,y⟩;refine⟨y.1,?_⟩;simp-implicitDefEqProofs(disch:=try exact ak)only[reduceAdd,reduceLeDiff,reduceIte,az];exact a_.2 ⟨by simp only[Bool.true_and],((d.trans k).trans o).trans y⟩
def Gy{N B:Nat}{F E K li:Nat}{kc lc:Option Nat}{R S:Bool}{A G:List (List aa)}{ok ok':Nat->Prop}:∀(es m:List bf) (j a n:Nat) (H:af),(∀e∈es,tg 61 B e)->eJ B es->dW H ok es (A.drop (E+j))->dW H ok' m (G.drop (li+j))->es.length=m.length->a=j+es.length->a<=1000000000000->H.get F=D (.row R 9 A)->H.get K=D (.row S 9 G)->es.length<n->
  W (nR (aI P aB) N n (.aG F E a 9 kc) (.aG K li a 9 lc) (I J j) H) λr H'=>r= .bool (fU es m)/\aU H H'
 |_,_,_,_,0,_,_,_,_,_,_,_,_,_,_,p=>ae
 |[],[],j,a,n+1,H,ar,l,s,u,d,o,w,i,k,p=>by
  have x:¬((j:Int)<(a:Int)):=by simp at o;omega
  simp-implicitDefEqProofs(disch:=try exact ak)only[nR,mK,qL,pj,reduceAdd,reduceLeDiff,reduceIte,az,x,decide_false];exact a_.2 ⟨by rw[fU],.refl _⟩
 |[],_::_,j,a,n+1,H,ar,l,s,u,d,o,w,i,k,p=>by simp at d
 |_::_,[],j,a,n+1,H,ar,l,s,u,d,o,w,i,k,p=>by simp at d
 |e::es,f::m,j,a,n+1,H,ar,l,s,u,d,o,w,i,k,p=>by
  simp only[List.length_cons]at d o p;have x:(j:Int)<(a:Int):=ae;have ad:(0:Int)<=(j:Int):=ae;have Q:((j:Int)).toNat=j:=ae;obtain⟨cs,g1,g2,g3⟩:=s.cons;obtain⟨y,g4,g5,g6⟩:=u.cons;obtain⟨_,bb,ai,aj⟩:=g2.cells;cases bb;obtain⟨_,T,al,am⟩:=g5.cells;cases T;have V:List.take 9 cs=cs:=List.take_of_length_le ae;have ab:List.take 9 y=y:=List.take_of_length_le ae;have ag:=af.a6 i;have ah:=af.a6 k;rw[eJ]at l;have hw:IntKind.i64.wrap ((j:Int)+1)=((j+1:Nat):Int):=by rw[wrap_i64 ae ae];omega
  simp-implicitDefEqProofs(disch:=try exact ak)only[nR,mK,qL,pj,reduceAdd,reduceLeDiff,reduceIte,az,e1,x,decide_true,Q,i,k,g1,g4,V,ab];refine aW (ar e (by simp) l.1 f _ _ _ ok ok' g2 g5) ?_;rintro _ L ⟨rfl,c⟩;refine⟨c.1,?_⟩;cases z:lT e f with
  |false=>
   simp-implicitDefEqProofs(disch:=try exact ak)only[bg,bG,Bool.not_false];exact a_.2 ⟨by rw[fU,z,Bool.false_and],c⟩
  |true=>
   simp-implicitDefEqProofs(disch:=try exact ak)only[bg,bG,c3,Bool.not_true,hw];refine(Gy es m (j+1) a n L (λM O=>ar M (by simp[O])) l.2 (dW.a1 (eS.aR (c) λ_ h=>h) _ _ g3) (dW.a1 (eS.aR (c) λ_ h=>h) _ _ g6) ae ae w ((c).get i) ((c).get k) ae).mono ?_;rintro v H' ⟨rfl,q⟩;exact⟨by rw[fU,z,Bool.true_and],(c).trans q⟩
def zn{B:Nat}(u:B<=1000000000000){H:af}{ok ok':Nat->Prop}{ks ls:List bf}{bv c:aa}(ar:∀e∈ks,tg 61 B e)(m:ks.length<=B/\eJ B ks)(i:dr H ok ks bv)(j:dr H ok' ls c):W (aI P aB 37 [bv,c] H) λr H'=>r= .bool (fU ks ls)/\aU H H':=by
 refine cO (λ_=>Rn (ks.length+1)) ?_;have z0:((0:Nat):Int)=0:=rfl;have d:=i.p0;have h:=j.p0;by_cases a:ks.length=ls.length
 ·by_cases k:ks.length=0
  ·have n:ls.length=0:=ae;obtain rfl:=List.length_eq_zero_iff.1 k;obtain rfl:=List.length_eq_zero_iff.1 n;simp-implicitDefEqProofs(disch:=try exact ak)only[nR,mK,qL,pj,reduceAdd,reduceLeDiff,reduceIte,az,d,h,List.length_nil,z0,bne_self_eq_false,Int.lt_irrefl,decide_false];exact a_.2 ⟨by rw[fU],.refl _⟩
  ·obtain⟨x,i1,v,z,q,rfl,bO,g1,o⟩:=i.row k;obtain⟨y,i2,w,A,s,rfl,b2,g2,p⟩:=j.row ae;rw[<-a];simp-implicitDefEqProofs(disch:=try exact ak)only[mK,pj,bg,bg,bG,eF,c3,PJ ks.length];exact Gy ks ls 0 ks.length (ks.length+1) H ar m.2 o p a ae ae g1 g2 ae
 ·have l:=PI _ _ a;simp-implicitDefEqProofs(disch:=try exact ak)only[mK,qL,pj,bg,bg,bG,c3,d,h,l];exact a_.2 ⟨by rw[IW _ _ a],.refl _⟩
def AL{B:Nat}(d:B<=1000000000000):∀(e:bf),tg 61 B e
 | .mk a es b c=>by
  intro h f v w H ok ok' i j;cases f with|mk bt es' ct c'=>
  rw[nj]at i j;obtain⟨cg,bv,n,rfl,aq,aH,bu⟩:=i;obtain⟨q,m,o,rfl,f1,f2,f3⟩:=j;rw[hk]at h;have k:∀e∈b,tg 61 B e:=λe he=>AL d e
  have l:∀e∈c,tg 61 B e:=λe he=>AL d e
  exact TW aq.eb f1.eb aH.eb f2.eb bu.eb f3.eb (λH' p=>Ge d (λe _=>Ji d e) h.1 (aq.aR p) (f1.aR p))
   (λH' p=>zn d k h.2.1 (aH.aR p) (f2.aR p)) (λH' p=>zn d l h.2.2 (bu.aR p) (f3.aR p))
 termination_by e=>SizeOf.sizeOf e
 decreasing_by
  ·exact bf.Uj he
  ·exact bf.Uk he
def tP{d deep:Nat}{b:List bf}(h:∀s∈b,ez d s)(a:deep+d<=51):(flat (bH deep b)).length<=ec b:=tQ b λs ar=>zi (h s ar) deep a
def dr.beq{H:af}{ok:Nat->Prop}{ks:List bf}{kv:aa}(h:dr H ok ks kv):aa.beq kv kv=true:=by
 rcases h with⟨rfl,_⟩|⟨l,i,cap,ro,els,rfl,_⟩|⟨l,i,cap,rfl,_⟩<;>simp[aa.beq]
def Qw{v:aa}(h:aa.beq v v=X):bp (D v) v=true:=by simp[bp,h]
def yE(x:aC)(l:List bK):flat (.b x::l)=x++flat l:=rfl
def qa(l:List bK):flat (nl::l)=[10]++flat l:=rfl
def yG(x o:aC)(z:Int)(l:List bK):flat (eX x o z++l)=x++([58,32]++(flat (cn o z)++flat l)):=by
 unfold eX;rw[List.cons_append,List.cons_append,List.cons_append,kz,di,e3,dw];rfl
def tB(d:aC)(B l:List bK):flat (dO d B++l)=[32,123,10]++(flat B++(d++([125]++flat l))):=by
 unfold dO;rw[List.cons_append,List.cons_append,List.cons_append,e3,di,qa,dw,dw,yE,di,ds];simp
def F5:∀l:List bf,400*l.length<=ec l
 |[]=>by simp[ec]
 | .mk a es b c::r=>by have:=F5 r;rw[ec,e9,List.length_cons];omega
