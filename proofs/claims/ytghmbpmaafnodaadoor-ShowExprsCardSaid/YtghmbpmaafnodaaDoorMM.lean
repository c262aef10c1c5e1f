/-
  Texts of one proof, laid together: Wc ShRb Ms E2 ShU Hds N1 Wd.
-/
import Derived.Test.YtghmbpmaafnodaaDoorML
set_option linter.unusedVariables false
set_option linter.unusedSimpArgs false
set_option linter.defProp false
open Option renaming some→D
open Bool renaming true→X,false→U
open Go.bs.aa renaming int→I,str→Z
open Go.IntKind renaming i64→J
namespace Go.Proofs.YtghmbpmaafnodaaDoor
open Go.bs
open Nat (reduceAdd reduceLeDiff)
def oU:(0:Int).toNat=0:=rfl
def Ge:(1:Int).toNat=1:=rfl
def dZ:(0:Int)<((1:Nat):Int):=af
def bq:∀e:aA,u0 e
 | .mk a ks=>by
  have ax:∀e∈ks,u0 e:=λe he=>bq e
  intro d m az hw a' aZ he H ok kv F;cases he;have h:=az.low (m':=0) (Nat.zero_le _);clear az;have hlen:=pE h;have aQ:=F.ej;have w:∀l,dO l (.agg (a.cells kv))=D (.ptr l 0 0,.row U 11 [a.cells kv]):=λl=>hk l _ (by simp only[bG.cells,List.all_cons,List.all_nil,gF,hp,aQ,Bool.and_self])
  have pp:=aO.push H (.row U 11 [a.cells kv]);have dr:=ad.bI H (.row U 11 [a.cells kv]);have V:∀{R m':Nat} {b:bG} {o:List aA},aA.mk b o∈ks->ct R m' (.mk b o)->cK (.mk b o)<=1000000000/\∀(H':ad) (u:aa),cg H' ok o u->W (aD P ay 17 [.agg (b.cells u)] H') λr ah=>r= Z (flat (bd (.mk b o)))/\aO H' ah:=by
   intro R m' b o hm M;have hle:cK (.mk b o)<=b7 ks:=by
    clear ax hlen F hw h w pp dr
    induction ks with
    |nil=>cases hm
    |cons k r aS=>
     rw[b7];rcases List.mem_cons.1 hm with rfl|hm
     ·omega
     ·have:=aS hm;omega
   rw[cK]at hw;have aC:cK (.mk b o)<=1000000000:=af;exact⟨aC,λH' u ag=>ax _ hm R m' M aC b o rfl H' ok u ag⟩
  have fx:∀{R m':Nat} {b:bG} {o:List aA} (n:Nat) {z:Int},z=n->aA.mk b o∈ks->ct R m' (.mk b o)->∀(H':ad) (u:aa),cg H' ok o u->W (aD P ay 49 [.agg (b.cells u),I J z] H') λr ah=>r= Z (flat (bV n (.mk b o)))/\aO H' ah:=by
   intro R m' b o n z S hm M H' u ag;subst S;obtain⟨A,s⟩:=V hm M;have:=pE M;exact P0 ag.ej (λB q=>s B u (ag.aM q)) af
  refine cF (λ_=>L7 (ks.length+1)) ?_;simp only[bG.cells]at w pp dr V fx ⊢;rw[tP];cases h with
  |par A s y=>omega
  | @int d m n p A s y=>
   simp-implicitDefEqProofs(disch:=try exact aj)only[reduceAdd,reduceLeDiff,reduceIte,aw,w,Int.reduceBEq];refine aP (Pr s y) ?_;rintro _ B ⟨rfl,q⟩;refine⟨q.1,ba.2 ⟨?_,pp.trans q⟩⟩;rw[dH];show _=aa.str (flat [.t ⟨2,[],n,0⟩]);simp[flat,bF.oW,g_]
  | @bool d m n p A s=>
   rcases s with rfl|rfl
   ·simp-implicitDefEqProofs(disch:=try exact aj)only[reduceAdd,reduceLeDiff,reduceIte,aw,w,Int.reduceBEq];exact ba.2 ⟨by rw[dH];rfl,pp⟩
   ·simp-implicitDefEqProofs(disch:=try exact aj)only[reduceAdd,reduceLeDiff,reduceIte,aw,w,Int.reduceBEq];exact ba.2 ⟨by rw[dH];rfl,pp⟩
  | @null d m x z p A s=>
   simp-implicitDefEqProofs(disch:=try exact aj)only[reduceAdd,reduceLeDiff,reduceIte,aw,w,Int.reduceBEq];refine aP (GM s.1 (by have:=s.2.1;omega) (by have:=gU s;omega)) ?_;rintro _ B ⟨rfl,q⟩;refine⟨q.1,?_⟩;have aW:=jd x z;have:=gU s;have:=s.2.1;have an:aq P .add 9 X (Z [110,117,108,108,32]) (Z (flat (cj x z)))=D (Z ([110,117,108,108,32]++flat (cj x z))):=c4 (by simp only[List.length_cons,List.length_nil];omega);simp only[an,dT];exact ba.2 ⟨by rw[dH];rfl,pp.trans q⟩
  | @var d m x p A s=>
   simp-implicitDefEqProofs(disch:=try exact aj)only[reduceAdd,reduceLeDiff,reduceIte,aw,w,Int.reduceBEq];exact ba.2 ⟨by rw[dH];show _=aa.str (flat [cp x]);rw[ja,c5,List.append_nil],pp⟩
  | @field d m x p e A s y=>
   obtain⟨b,o⟩:=e;obtain⟨l,i,cap,ro,els,u,rfl,g1,a6,E⟩:=F.jA (n:=1) rfl (j:=0) rfl;have g2:=pp.get g1;simp only[bG.cells]at a6;rw[Nat.add_zero]at a6;rw[mE,c3]at hlen;simp-implicitDefEqProofs(disch:=try exact aj)only[reduceAdd,reduceLeDiff,reduceIte,aw,w,Int.reduceBEq,g2,oU,a6,dZ];refine aP (fx 7 rfl (by simp) y _ u (E.aM pp)) ?_;rintro _ B ⟨rfl,q⟩;refine⟨q.1,?_⟩;have G:=q.get dr;have:=e5 s;have an:aq P .add 9 X (Z (flat (bV 7 (.mk b o)))) (Z [46])=D (Z (flat (bV 7 (.mk b o))++[46])):=c4 (by simp only[List.length_cons,List.length_nil];omega);have aE:aq P .add 9 U (Z (flat (bV 7 (.mk b o))++[46])) (Z x)=D (Z (flat (bV 7 (.mk b o))++[46]++x)):=c4 (by simp only[List.length_append,List.length_cons,List.length_nil];omega)
   simp-implicitDefEqProofs(disch:=try exact aj)only[bh,bx,Nat.reduceAdd,Nat.reduceLeDiff,reduceIte,aa.cells,cW,dL,ak,cO,ec,dr,G,an,aE];exact ba.2 ⟨by rw[mE,db,c2,ja,c5];simp,pp.trans q⟩
  | @item d m p e f A s y=>
   obtain⟨b,o⟩:=e;obtain⟨c,cs⟩:=f;obtain⟨l,i,cap,ro,els,u,rfl,g1,a6,E⟩:=F.jA (n:=2) rfl (j:=0) rfl;obtain⟨l',aR,aH,aT,aI,kw,am,T,Q,ab⟩:=F.jA (n:=2) rfl (j:=1) rfl;cases am;rw[g1]at T;cases T;have g2:=pp.get g1;simp only[bG.cells]at a6 Q;rw[Nat.add_zero]at a6;rw[mF,c3,dj,c3]at hlen;have ao:(0:Int)<((2:Nat):Int):=af;have dV:(1:Int)<((2:Nat):Int):=af;simp-implicitDefEqProofs(disch:=try exact aj)only[reduceAdd,reduceLeDiff,reduceIte,aw,w,Int.reduceBEq,g2,oU,a6,ao];refine aP (fx 7 rfl (by simp) s _ u (E.aM pp)) ?_;rintro _ B ⟨rfl,q⟩;refine⟨q.1,?_⟩;have G:=q.get dr;have g3:=q.get g2;have M:=(V (by simp) y).2 B kw (ab.aM (pp.trans q))
   simp-implicitDefEqProofs(disch:=try exact aj)only[bh,bx,Nat.reduceAdd,Nat.reduceLeDiff,reduceIte,aa.cells,cW,dL,ak,cO,ec,G,g3,Ge,Q,dV];refine aP M ?_;rintro _ au ⟨rfl,K⟩;refine⟨K.1,?_⟩;have an:aq P .add 9 X (Z (flat (bV 7 (.mk b o)))) (Z [91])=D (Z (flat (bV 7 (.mk b o))++[91])):=c4 (by simp only[List.length_cons,List.length_nil];omega);have aE:aq P .add 9 U (Z (flat (bV 7 (.mk b o))++[91])) (Z (flat (bd (.mk c cs))))=D (Z (flat (bV 7 (.mk b o))++[91]++flat (bd (.mk c cs)))):=c4 (by simp only[List.length_append,List.length_cons,List.length_nil];omega);have bn:aq P .add 9 X (Z (flat (bV 7 (.mk b o))++[91]++flat (bd (.mk c cs)))) (Z [93])=D (Z (flat (bV 7 (.mk b o))++[91]++flat (bd (.mk c cs))++[93])):=c4 (by simp only[List.length_append,List.length_cons,List.length_nil];omega)
   have O:=rT (a:=c) ab.beq;simp only[bG.cells]at O;simp-implicitDefEqProofs(disch:=try exact aj)only[bh,bx,Nat.reduceAdd,Nat.reduceLeDiff,reduceIte,aa.cells,cW,dL,ak,cO,dr,G,g2,g3,Q,an,aE,bn,O];exact ba.2 ⟨by rw[mF,db,c2,db,c2,c5];simp,(pp.trans q).trans K⟩
  | @call d m x p l A s y=>
   have:=e5 s;have an:aq P .add 9 X (Z x) (Z [40])=D (Z (x++[40])):=c4 (by simp only[List.length_cons,List.length_nil];omega);rw[cK]at hw;simp only at hw;by_cases S:ks.length=0
   ·obtain rfl:=List.length_eq_zero_iff.1 S;have aN:∀H',b_ P H' .len [41] [kv]=D (I J 0):=by
     intro H';rcases F with⟨rfl,_⟩|⟨l,i,cap,ro,els,rfl,_⟩|⟨l,i,cap,rfl,_⟩
     ·exact rB
     ·exact mA
     ·exact mA
    have aJ:¬((0:Int)<(0:Int)):=af;have aE:aq P .add 9 X (Z (x++[40])) (Z [41])=D (Z (x++[40]++[41])):=c4 (by simp only[List.length_append,List.length_cons,List.length_nil];omega);simp-implicitDefEqProofs(disch:=try exact aj)only[reduceAdd,reduceLeDiff,reduceIte,aw,w,Int.reduceBEq,an,kh,oi,lO,aN,aJ,decide_false,aE];exact ba.2 ⟨by rw[mD,ja,c2,db,c2,c5,cq,dI,c5];simp,pp⟩
   ·rcases F with⟨_,ai⟩|⟨L,i,cap,ro,els,rfl,_,g1,ap⟩|⟨_,_,_,_,ai⟩
    ·exact absurd ai S
    ·have g2:=pp.get g1;have aY:=pD ks;simp-implicitDefEqProofs(disch:=try exact aj)only[reduceAdd,reduceLeDiff,reduceIte,aw,w,Int.reduceBEq,an];have key:=yR (N:=ks.length+1) (H0:=H.push (.row U 11 [bG.cells {kind:=7,name:=x,pos:=p} (.aB L i ks.length 11 cap)])) (i:=i) (ok:=ok) dr g2 ax (λe he=> .inr ⟨_,y e he⟩) af af ks 0 (ks.length+1) (x++[40]) _ rfl (by rw[Nat.add_zero];exact df.a1 (c9.aM pp λ_ h=>h) _ _ ap) ⟨by simp only[List.length_append,List.length_cons,List.length_nil];omega,af⟩ af af (.refl _);refine key.mono ?_;rintro v B ⟨rfl,q⟩;refine⟨?_,pp.trans q⟩;rw[mD,ja,c2,db,c2,c5];cases ks with
     |nil=>exact absurd rfl S
     |cons k r=>simp[ql]
    ·exact absurd ai S
  | @new d m x p A s=>
   have:=e5 s;have an:aq P .add 9 X (Z [110,101,119,32]) (Z x)=D (Z ([110,101,119,32]++x)):=c4 (by simp only[List.length_cons,List.length_nil];omega);simp-implicitDefEqProofs(disch:=try exact aj)only[reduceAdd,reduceLeDiff,reduceIte,aw,w,Int.reduceBEq,an];exact ba.2 ⟨by rw[dH];show _=aa.str (flat [wd [110,101,119],cA,cp x]);rw[hl,eo,ja,c5];simp,pp⟩
  | @make d m x z p e A s y=>
   obtain⟨b,o⟩:=e;obtain⟨l,i,cap,ro,els,u,rfl,g1,a6,E⟩:=F.jA (n:=1) rfl (j:=0) rfl;have g2:=pp.get g1;simp only[bG.cells]at a6;rw[Nat.add_zero]at a6;rw[mH,hU,eP,dj,c3,dj,dj,c3]at hlen;simp-implicitDefEqProofs(disch:=try exact aj)only[reduceAdd,reduceLeDiff,reduceIte,aw,w,Int.reduceBEq];refine aP (GM s.1 (by have:=s.2.1;omega) (by have:=gU s;omega)) ?_;rintro _ B ⟨rfl,q⟩;refine⟨q.1,?_⟩;have G:=q.get dr;have g3:=q.get g2;have M:=(V (by simp) y).2 B u (E.aM (pp.trans q));simp-implicitDefEqProofs(disch:=try exact aj)only[bh,bx,Nat.reduceAdd,Nat.reduceLeDiff,reduceIte,aa.cells,cW,dL,ak,cO,ec,G,g3,oU,a6,dZ]
   refine aP M ?_;rintro _ au ⟨rfl,K⟩;refine⟨K.1,?_⟩;have an:aq P .add 9 X (Z [110,101,119,32,91]) (Z (flat (cj x z)))=D (Z ([110,101,119,32,91]++flat (cj x z))):=c4 (by simp only[List.length_cons,List.length_nil];omega);have aE:aq P .add 9 X (Z ([110,101,119,32,91]++flat (cj x z))) (Z [93,40])=D (Z ([110,101,119,32,91]++flat (cj x z)++[93,40])):=c4 (by simp only[List.length_append,List.length_cons,List.length_nil];omega);have bn:aq P .add 9 U (Z ([110,101,119,32,91]++flat (cj x z)++[93,40])) (Z (flat (bd (.mk b o))))=D (Z ([110,101,119,32,91]++flat (cj x z)++[93,40]++flat (bd (.mk b o)))):=c4 (by simp only[List.length_append,List.length_cons,List.length_nil];omega)
   have b8:aq P .add 9 X (Z ([110,101,119,32,91]++flat (cj x z)++[93,40]++flat (bd (.mk b o)))) (Z [41])=D (Z ([110,101,119,32,91]++flat (cj x z)++[93,40]++flat (bd (.mk b o))++[41])):=c4 (by simp only[List.length_append,List.length_cons,List.length_nil];omega);have O:=rT (a:=b) E.beq;simp only[bG.cells]at O;rw[an,dT,aE,dT,bn,dT,b8,dT];simp-implicitDefEqProofs(disch:=try exact aj)only[bh,bx,Nat.reduceAdd,Nat.reduceLeDiff,reduceIte,aa.cells,cW,dL,ak,cO,dr,G,g2,g3,a6,O];exact ba.2 ⟨by rw[mH,hl,eo,c2,db,c2,c2,db,c2,c5];simp,(pp.trans q).trans K⟩
  | @len d m p e A s=>
   obtain⟨b,o⟩:=e;obtain⟨l,i,cap,ro,els,u,rfl,g1,a6,E⟩:=F.jA (n:=1) rfl (j:=0) rfl;have g2:=pp.get g1;simp only[bG.cells]at a6;rw[Nat.add_zero]at a6;rw[mG,hU,dj,c3]at hlen;simp-implicitDefEqProofs(disch:=try exact aj)only[reduceAdd,reduceLeDiff,reduceIte,aw,w,Int.reduceBEq,g2,oU,a6,dZ];refine aP ((V (by simp) s).2 _ u (E.aM pp)) ?_;rintro _ B ⟨rfl,q⟩;refine⟨q.1,?_⟩;have an:aq P .add 9 X (Z [108,101,110,40]) (Z (flat (bd (.mk b o))))=D (Z ([108,101,110,40]++flat (bd (.mk b o)))):=c4 (by simp only[List.length_cons,List.length_nil];omega);have aE:aq P .add 9 X (Z ([108,101,110,40]++flat (bd (.mk b o)))) (Z [41])=D (Z ([108,101,110,40]++flat (bd (.mk b o))++[41])):=c4 (by simp only[List.length_append,List.length_cons,List.length_nil];omega)
   rw[an,dT,aE,dT];exact ba.2 ⟨by rw[mG,hl,c2,db,c2,c5];simp,pp.trans q⟩
  | @read d m p A=>
   simp-implicitDefEqProofs(disch:=try exact aj)only[reduceAdd,reduceLeDiff,reduceIte,aw,w,Int.reduceBEq];exact ba.2 ⟨by rw[dH];rfl,pp⟩
  | @sign d m k p e A s y=>
   obtain⟨b,o⟩:=e;obtain⟨l,i,cap,ro,els,u,rfl,g1,a6,E⟩:=F.jA (n:=1) rfl (j:=0) rfl;have g2:=pp.get g1;simp only[bG.cells]at a6;rw[Nat.add_zero]at a6;rw[kP s,dj]at hlen;rcases s with rfl|rfl
   ·simp-implicitDefEqProofs(disch:=try exact aj)only[reduceAdd,reduceLeDiff,reduceIte,aw,w,Int.reduceBEq,g2,oU,a6,dZ];refine aP (fx 6 rfl (by simp) y _ u (E.aM pp)) ?_;rintro _ B ⟨rfl,q⟩;refine⟨q.1,?_⟩;have an:aq P .add 9 X (Z [45]) (Z (flat (bV 6 (.mk b o))))=D (Z ([45]++flat (bV 6 (.mk b o)))):=c4 (by simp only[List.length_cons,List.length_nil];omega);rw[an,dT];exact ba.2 ⟨by rw[kP (.inl rfl),c2];rfl,pp.trans q⟩
   ·simp-implicitDefEqProofs(disch:=try exact aj)only[reduceAdd,reduceLeDiff,reduceIte,aw,w,Int.reduceBEq,g2,oU,a6,dZ];refine aP (fx 6 rfl (by simp) y _ u (E.aM pp)) ?_;rintro _ B ⟨rfl,q⟩;refine⟨q.1,?_⟩;have an:aq P .add 9 X (Z [33]) (Z (flat (bV 6 (.mk b o))))=D (Z ([33]++flat (bV 6 (.mk b o)))):=c4 (by simp only[List.length_cons,List.length_nil];omega);rw[an,dT];exact ba.2 ⟨by rw[kP (.inr rfl),c2];rfl,pp.trans q⟩
  | @bin d m k p e f A s y aK aL=>
   obtain⟨b,o⟩:=e;obtain⟨c,cs⟩:=f;obtain⟨l,i,cap,ro,els,u,rfl,g1,a6,E⟩:=F.jA (n:=2) rfl (j:=0) rfl;obtain⟨l',aR,aH,aT,aI,kw,am,T,Q,ab⟩:=F.jA (n:=2) rfl (j:=1) rfl;cases am;rw[g1]at T;cases T;have g2:=pp.get g1;have aF:=λH'=>Ds (H:=H') (a:={kind:=k,pos:=p}) (kv:= .aB l i (0+1+1) 11 cap) rfl
   simp only[bG.cells]at a6 Q aF;rw[Nat.add_zero]at a6;rw[mC s,c3,eP,dj,eP]at hlen;have aX:=wI s y;have ao:(0:Int)<((2:Nat):Int):=af;have dV:(1:Int)<((2:Nat):Int):=af;have cC:∀m:Int,m<14->(k==m)=false:=λm h=>by simp;omega
   have ap:IntKind.i64.wrap (((cm k:Nat):Int)+1)=((cm k+1:Nat):Int):=by have:=wP k;rw[wrap_i64 af af];omega
   simp-implicitDefEqProofs(disch:=try exact aj)only[reduceAdd,reduceLeDiff,reduceIte,aw,w,cC 1 af,cC 2 af,cC 3 af,cC 4 af,cC 5 af,cC 6 af,cC 7 af,cC 8 af,cC 9 af,cC 10 af,cC 11 af,cC 12 af,cC 13 af];unfold kX;simp-implicitDefEqProofs(disch:=try exact aj)only[reduceAdd,reduceLeDiff,reduceIte,aw,dr];refine aP (aF _) ?_;rintro _ B ⟨rfl,q⟩;refine⟨q.1,?_⟩;have G:=q.get dr;have g3:=q.get g2;simp-implicitDefEqProofs(disch:=try exact aj)only[bh,bx,Nat.reduceAdd,Nat.reduceLeDiff,reduceIte,aa.cells,cW,dL,ak,cO,ec,G,g3,oU,a6,ao];refine aP (fx (cm k) rfl (by simp) aK _ u (E.aM (pp.trans q))) ?_;rintro _ au ⟨rfl,K⟩
   refine⟨K.1,?_⟩;have al:=K.get G;have g4:=K.get g3;simp-implicitDefEqProofs(disch:=try exact aj)only[bh,bx,Nat.reduceAdd,Nat.reduceLeDiff,reduceIte,aa.cells,cW,dL,ak,cO,ec,al];refine aP (OW s y) ?_;rintro _ aU ⟨rfl,ae⟩;refine⟨ae.1,?_⟩;have av:=ae.get al;have g5:=ae.get g4;simp-implicitDefEqProofs(disch:=try exact aj)only[bh,bx,Nat.reduceAdd,Nat.reduceLeDiff,reduceIte,aa.cells,cW,dL,ak,cO,ec,av,g5,Ge,Q,dV,da,ap];refine aP (fx (cm k+1) rfl (by simp) aL _ kw (ab.aM (((pp.trans q).trans K).trans ae))) ?_;rintro _ aV ⟨rfl,aG⟩;refine⟨aG.1,?_⟩;have an:aq P .add 9 X (Z (flat (bV (cm k) (.mk b o)))) (Z [32])=D (Z (flat (bV (cm k) (.mk b o))++[32])):=c4 (by simp only[List.length_cons,List.length_nil];omega)
   have aE:aq P .add 9 U (Z (flat (bV (cm k) (.mk b o))++[32])) (Z (ez k))=D (Z (flat (bV (cm k) (.mk b o))++[32]++ez k)):=c4 (by simp only[List.length_append,List.length_cons,List.length_nil];omega);have bn:aq P .add 9 X (Z (flat (bV (cm k) (.mk b o))++[32]++ez k)) (Z [32])=D (Z (flat (bV (cm k) (.mk b o))++[32]++ez k++[32])):=c4 (by simp only[List.length_append,List.length_cons,List.length_nil];omega);have b8:aq P .add 9 U (Z (flat (bV (cm k) (.mk b o))++[32]++ez k++[32])) (Z (flat (bV (cm k+1) (.mk c cs))))=D (Z (flat (bV (cm k) (.mk b o))++[32]++ez k++[32]++flat (bV (cm k+1) (.mk c cs)))):=c4 (by simp only[List.length_append,List.length_cons,List.length_nil];omega)
   have O:=rT (a:=c) ab.beq;simp only[bG.cells]at O;rw[an,dT,aE,dT,bn,dT,b8,dT];simp-implicitDefEqProofs(disch:=try exact aj)only[bh,bx,Nat.reduceAdd,Nat.reduceLeDiff,reduceIte,aa.cells,cW,dL,ak,cO,dr,G,al,av,g2,g3,g4,g5,Q,O];exact ba.2 ⟨by rw[mC s,db,eo,c2,eo];simp,(((pp.trans q).trans K).trans ae).trans aG⟩
section
set_option maxRecDepth 100000
noncomputable section
end
end
section
def b9.cells(a:b9)(cc bv c:aa):List aa:=[I J a.kind,Z a.name,Z a.cf,I J a.cS,cc,bv,c,I J a.pos,I J a.ref]
mutual
def ew(H:ad)(ok:Nat->Prop):bM->aa->Prop
 | .mk a es b c,v=>∃cc bv d,v= .agg (a.cells cc bv d)/\cg H ok es cc/\
  ((bv= .ar/\b.length=0)\/(∃l i cap ro els,bv= .aB l i b.length 9 (Option.map (· +b.length) cap)/\ok l/\H.get l=D (.row ro 9 els)/\dJ H ok b (els.drop i))\/∃l i cap,bv= .aB l i 0 9 cap/\b.length=0)/\
  ((d= .ar/\c.length=0)\/(∃l i cap ro els,d= .aB l i c.length 9 (Option.map (· +c.length) cap)/\ok l/\H.get l=D (.row ro 9 els)/\dJ H ok c (els.drop i))\/∃l i cap,d= .aB l i 0 9 cap/\c.length=0)
def dJ(H:ad)(ok:Nat->Prop):List bM->List (List aa)->Prop
 |[],_=>True
 |_::_,[]=>False
 |e::es,cs::css=>ew H ok e (.agg cs)/\dJ H ok es css
end
def c_(H:ad)(ok:Nat->Prop)(b:List bM)(bv:aa):Prop:=(bv= .ar/\b.length=0)\/(∃l i cap ro els,bv= .aB l i b.length 9 (Option.map (· +b.length) cap)/\ok l/\H.get l=D (.row ro 9 els)/\dJ H ok b (els.drop i))\/∃l i cap,bv= .aB l i 0 9 cap/\b.length=0
def mb{H:ad}{ok:Nat->Prop}{a:b9}{es:List aA}{b c:List bM}{v:aa}:ew H ok (.mk a es b c) v↔∃cc bv d,v= .agg (a.cells cc bv d)/\cg H ok es cc/\c_ H ok b bv/\c_ H ok c d:=by
 rw[ew];rfl
structure en(H:ad)(ok:Nat->Prop)(H':ad)(ok':Nat->Prop):Prop where
 ex:c9 H ok H' ok'
 st:∀l ro els,ok l->H.get l=some (.row ro 9 els)->ok' l/\H'.get l=some (.row ro 9 els)
section
variable {H H':ad}{ok ok':Nat->Prop}
mutual
def ew.a1(p:en H ok H' ok'):∀(e:bM) (v:aa),ew H ok e v->ew H' ok' e v
 | .mk a es b c,v,h=>by
  rw[ew]at h ⊢;obtain⟨cc,bv,k,m,n,d,o⟩:=h;refine⟨cc,bv,k,m,n.a1 p.ex,?_,?_⟩
  ·rcases d with d|⟨l,i,cap,ro,els,an,aE,bn,b8⟩|d
   ·exact .inl d
   ·obtain⟨a6,j⟩:=p.st l ro els aE bn;exact .inr (.inl ⟨l,i,cap,ro,els,an,a6,j,dJ.a1 p b _ b8⟩)
   ·exact .inr (.inr d)
  ·rcases o with d|⟨l,i,cap,ro,els,an,aE,bn,b8⟩|d
   ·exact .inl d
   ·obtain⟨a6,j⟩:=p.st l ro els aE bn;exact .inr (.inl ⟨l,i,cap,ro,els,an,a6,j,dJ.a1 p c _ b8⟩)
   ·exact .inr (.inr d)
def dJ.a1(p:en H ok H' ok'):∀(es:List bM) (cs:List (List aa)),dJ H ok es cs->dJ H' ok' es cs
 |[],_,_=>by rw[dJ];trivial
 |e::es,[],h=>by rw[dJ]at h;exact h.elim
 |e::es,cs::css,h=>by
  rw[dJ]at h ⊢;exact⟨ew.a1 p e _ h.1,dJ.a1 p es css h.2⟩
end
def c_.a1(p:en H ok H' ok'){b:List bM}{v:aa}(h:c_ H ok b v):c_ H' ok' b v:=by
 rcases h with a|⟨l,i,cap,ro,els,an,aE,bn,b8⟩|a
 ·exact .inl a
 ·obtain⟨a6,c⟩:=p.st l ro els aE bn;exact .inr (.inl ⟨l,i,cap,ro,els,an,a6,c,dJ.a1 p b _ b8⟩)
 ·exact .inr (.inr a)
def en.mut{r:Nat}(m:cb r H H')(c:¬ok r)(a:∀l,ok l->ok' l):en H ok H' ok':=⟨c9.mut m c a,λl ro els h e=>⟨a l h,m.get e (by rintro rfl;exact c h)⟩⟩
def en.aM(m:aO H H')(a:∀l,ok l->ok' l):en H ok H' ok':=⟨c9.aM m a,λl ro els h e=>⟨a l h,m.get e⟩⟩
def en.set{l:Nat}(b:bW)(h:¬ok l)(c:∀l,ok l->ok' l):en H ok (H.set l b) ok':=⟨c9.set b h c,λj ro els a e=>⟨c j a,by rw[ad.get_set_other (by rintro rfl;exact h a)];exact e⟩⟩
def en.lB(h:∀l,ok l->ok' l):en H ok H ok':=⟨c9.lB h,λl ro els a e=>⟨h l a,e⟩⟩
def c_.ej{b:List bM}{v:aa}(h:c_ H ok b v):v.one=true:=by
 rcases h with⟨rfl,_⟩|⟨l,i,cap,ro,els,rfl,_⟩|⟨l,i,cap,rfl,_⟩<;>rfl
def c_.nil(H:ad)(ok:Nat->Prop):c_ H ok [] .ar:= .inl ⟨rfl,rfl⟩
def ew.cells{e:bM}{v:aa}(h:ew H ok e v):∃cs,v= .agg cs/\cs.length=9/\cs.all aa.one=true:=by
 cases e with|mk a es b c=>
 rw[mb]at h;obtain⟨cc,bv,k,rfl,d,i,j⟩:=h;refine⟨_,rfl,rfl,?_⟩;simp only[b9.cells,List.all_cons,List.all_nil,gF,hp,d.ej,i.ej,j.ej,Bool.and_self]
def ew.leaf(H:ad)(ok:Nat->Prop)(a:b9):ew H ok (.mk a [] [] []) (.agg (a.cells .ar .ar .ar)):=
 mb.2 ⟨_,_,_,rfl,.inl ⟨rfl,rfl⟩,.inl ⟨rfl,rfl⟩,.inl ⟨rfl,rfl⟩⟩
def ew.mut{r:Nat}{e:bM}{v:aa}(h:ew H ok e v)(m:cb r H H')(c:¬ok r)(a:∀l,ok l->ok' l):ew H' ok' e v:=ew.a1 (en.mut m c a) e v h
def en.new{n:Nat}(m:c0 (· <n) H H')(c:∀l,n<=l->ok l):en H (bk n) H' ok:=
 ⟨λl ro els a g=>⟨c l a,m.get g (Nat.not_lt.2 a)⟩,λl ro els a g=>⟨c l a,m.get g (Nat.not_lt.2 a)⟩⟩
end
def u1(ok:Nat->Prop)(H:ad)(r:Nat)(T:List Tok)(ao:aa)(e:bM)(s':au)(v:aa)(H':ad):Prop:=cb r H H'/\bQ H' r T ao s'/\ew H' ok e v
abbrev fz(H:ad):=u1 (bk H.next) H
def fz.fin{H bR:ad}{r:Nat}{T:List Tok}{ao:aa}{s s':au}{a:b9}{es:List aA}{b c:List bM}{cc bv e:aa}{x lo:Nat}(i:bQ H r T ao s)(m:cb r H bR)(h:bH bR r ao s')(j:cg bR (bk lo) es cc)(n:c_ bR (bk lo) b bv)(o:c_ bR (bk lo) c e)(p:H.next<=x)(u:x<lo)(d:bW):
  fz H r T ao (.mk a es b c) s' (.agg (a.cells cc bv e)) (bR.set x d):=by
 have q:=i.rd.lt;have m':=m.cE (.inr p) d;have k:en bR (bk lo) (bR.set x d) (bk H.next):=en.set _ (by unfold bk;omega) λl q=>by unfold bk at*;omega
 refine⟨m',i.mut m' ?_,mb.2 ⟨cc,bv,e,rfl,j.a1 k.ex,n.a1 k,o.a1 k⟩⟩;unfold bH at h ⊢;rw[ad.get_set_other af];exact h
def fz.ret{H a:ad}{r:Nat}{T:List Tok}{ao:aa}{s s':au}{e:bM}{v:aa}{b n:Nat}(h:bQ H r T ao s)(m:cb r H a)(d:bH a r ao s')(i:H.next<=b)(he:ew a (bk n) e v)(k:b<n)(c:bW):fz H r T ao e s' v (a.set b c):=by
 have j:=h.rd.lt;have m':=m.cE (.inr i) c;refine⟨m',h.mut m' ?_,ew.a1 (en.set _ (by unfold bk;omega) λl j=>by unfold bk at*;omega) e v he⟩;unfold bH at d ⊢;rw[ad.get_set_other af];exact d
def ew.at{H:ad}{ok:Nat->Prop}{e:bM}{cs:List aa}(h:ew H ok e (.agg cs))(p:Int):ew H ok (e.at p) (.agg (cs.set 7 (I J p))):=by
 cases e with|mk a es b c=>
 rw[mb]at h;obtain⟨cc,bv,d,i,j,k,l⟩:=h;cases i;exact mb.2 ⟨cc,bv,d,rfl,j,k,l⟩
set_option linter.defProp false
def fe:=ai xR (ai qq (ai xS so))
end
def cg.qZ{H:ad}{ok:Nat->Prop}{ks:List aA}{x:aa}(c:cg H ok ks x)(H':ad):b_ P H' .len [41] [x]=D (I J ks.length):=by
 rcases c with⟨rfl,an⟩|⟨d,i1,a,h,e,rfl,_⟩|⟨d,i1,a,rfl,an⟩
 ·rw[an];exact rB
 ·exact mA
 ·rw[an];exact mA
def cg.row{H:ad}{ok:Nat->Prop}{ks:List aA}{x:aa}(c:cg H ok ks x)(h:¬ks.length=0):∃l i cap ro els,x= .aB l i ks.length 11 cap/\ok l/\H.get l=D (.row ro 11 els)/\df H ok ks (els.drop i):=by
 rcases c with⟨_,an⟩|a|⟨_,_,_,_,an⟩
 ·exact absurd an h
 ·exact a
 ·exact absurd an h
def sA(F:Nat)(B:Nat)(e:aA):Prop:=gQ B e->∀(f:aA) (v w:aa) (H:ad) (ok ok':Nat->Prop),cw H ok e v->cw H ok' f w->W (aD P ay F [v,w] H) λr H'=>r= .bool (jL e f)/\aO H H'
def eR.mem{B:Nat}:∀{es:List aA},eR B es->∀e∈es,gQ B e
 |[],_,e,he=>by simp at he
 |x::xs,h,e,he=>by
  rw[eR]at h;rcases List.mem_cons.1 he with rfl|he
  ·exact h.1
  ·exact eR.mem h.2 e he
def aA.O0{a:bG}{ks:List aA}{e:aA}(h:e∈ks):SizeOf.sizeOf e<SizeOf.sizeOf (aA.mk a ks):=by
 have:=List.sizeOf_lt_of_mem h;simp only[aA.mk.sizeOf_spec];omega
def Dh{N B:Nat}{F E K li:Nat}{R lc:Option Nat}{S T:Bool}{A G:List (List aa)}{ok ok':Nat->Prop}:∀(es m:List aA) (j a n:Nat) (H:ad),(∀e∈es,sA 18 B e)->eR B es->df H ok es (A.drop (E+j))->df H ok' m (G.drop (li+j))->es.length=m.length->a=j+es.length->a<=1000000000000->H.get F=D (.row S 11 A)->H.get K=D (.row T 11 G)->es.length<n->
  W (lV (aD P ay) N n (.aB F E a 11 R) (.aB K li a 11 lc) (I J j) H) λr H'=>r= .bool (gM es m)/\aO H H'
 |_,_,_,_,0,_,_,_,_,_,_,_,_,_,_,p=>af
 |[],[],j,a,n+1,H,ax,l,s,u,d,o,w,i,k,p=>by
  have x:¬((j:Int)<(a:Int)):=by simp at o;omega
  simp-implicitDefEqProofs(disch:=try exact aj)only[lV,jF,lU,k1,reduceAdd,reduceLeDiff,reduceIte,aw,x,decide_false];exact ba.2 ⟨by rw[gM],.refl _⟩
 |[],_::_,j,a,n+1,H,ax,l,s,u,d,o,w,i,k,p=>by simp at d
 |_::_,[],j,a,n+1,H,ax,l,s,u,d,o,w,i,k,p=>by simp at d
 |e::es,f::m,j,a,n+1,H,ax,l,s,u,d,o,w,i,k,p=>by
  simp only[List.length_cons]at d o p;have x:(j:Int)<(a:Int):=af;have ag:(0:Int)<=(j:Int):=af;have Q:((j:Int)).toNat=j:=af;obtain⟨cs,g1,g2,g3⟩:=s.cons;obtain⟨y,g4,g5,g6⟩:=u.cons;obtain⟨_,a6,ak,al⟩:=g2.cells;cases a6;obtain⟨_,V,am,an⟩:=g5.cells;cases V;have ab:List.take 11 cs=cs:=List.take_of_length_le af;have ae:List.take 11 y=y:=List.take_of_length_le af;have ah:=ad.aS i;have ai:=ad.aS k;rw[eR]at l;have hw:IntKind.i64.wrap ((j:Int)+1)=((j+1:Nat):Int):=by rw[wrap_i64 af af];omega
  simp-implicitDefEqProofs(disch:=try exact aj)only[lV,jF,lU,k1,reduceAdd,reduceLeDiff,reduceIte,aw,x,decide_true,Q,i,k,g1,g4,ab,ae];refine aP (ax e (by simp) l.1 f _ _ _ ok ok' g2 g5) ?_;rintro _ L ⟨rfl,c⟩;refine⟨c.1,?_⟩;cases z:jL e f with
  |false=>
   simp-implicitDefEqProofs(disch:=try exact aj)only[jF,lU,k1,bh,bx,Bool.not_false];exact ba.2 ⟨by rw[gM,z,Bool.false_and],c⟩
  |true=>
   simp-implicitDefEqProofs(disch:=try exact aj)only[jF,lU,k1,bh,bx,da,Bool.not_true,hw];refine(Dh es m (j+1) a n L (λM O=>ax M (by simp[O])) l.2 (df.a1 (c9.aM c λ_ h=>h) _ _ g3) (df.a1 (c9.aM c λ_ h=>h) _ _ g6) af af w (c.get i) (c.get k) af).mono ?_;rintro v H' ⟨rfl,q⟩;exact⟨by rw[gM,z,Bool.true_and],c.trans q⟩
def KM{B:Nat}(x:B<=1000000000000){H:ad}{ok ok':Nat->Prop}{ks ls:List aA}{kv b0:aa}(ax:∀e∈ks,sA 18 B e)(o:ks.length<=B/\eR B ks)(i:cg H ok ks kv)(j:cg H ok' ls b0):W (aD P ay 52 [kv,b0] H) λr H'=>r= .bool (gM ks ls)/\aO H H':=by
 refine cF (λ_=>Mv (ks.length+1)) ?_;have neq:∀m k:Nat,m≠k->((m:Int) != (k:Int))=true:=λm k h=>by simp;omega
 have q:∀m:Nat,((m:Int) != (m:Int))=false:=λm=>by simp
 have z0:((0:Nat):Int)=0:=rfl;have c:=i.qZ;have d:=j.qZ;by_cases a:ks.length=ls.length
 ·by_cases l:ks.length=0
  ·have p:ls.length=0:=af;obtain rfl:=List.length_eq_zero_iff.1 l;obtain rfl:=List.length_eq_zero_iff.1 p;simp-implicitDefEqProofs(disch:=try exact aj)only[lV,jF,lU,k1,reduceAdd,reduceLeDiff,reduceIte,aw,c,d,List.length_nil,z0,bne_self_eq_false,Int.lt_irrefl,decide_false];exact ba.2 ⟨by rw[gM],.refl _⟩
  ·obtain⟨A,i1,y,F,v,rfl,bO,g1,s⟩:=i.row l;obtain⟨E,i2,z,G,w,rfl,b2,g2,u⟩:=j.row af;rw[<-a];simp-implicitDefEqProofs(disch:=try exact aj)only[jF,k1,bh,bx,ec,da,q ks.length];exact Dh ks ls 0 ks.length (ks.length+1) H ax o.2 s u a af af g1 g2 af
 ·have n:=neq _ _ a;simp-implicitDefEqProofs(disch:=try exact aj)only[jF,lU,k1,bh,bx,da,c,d,n];exact ba.2 ⟨by rw[Fg _ _ a],.refl _⟩
def FB{B:Nat}(h:B<=1000000000000):∀(e:aA),sA 18 B e
 | .mk a ks=>by
  intro i f v w H ok ok' c d;cases f with|mk b ls=>
  rw[hc]at c d;obtain⟨kv,rfl,c⟩:=c;obtain⟨b0,rfl,d⟩:=d;rw[gQ]at i;have ax:∀e∈ks,sA 18 B e:=λe he=>FB h e
  exact OK c.ej d.ej λH' p=>KM h ax i (c.aM p) (d.aM p)
 termination_by e=>SizeOf.sizeOf e
 decreasing_by exact aA.O0 he
section
set_option maxRecDepth 100000
noncomputable section
end
end
end Go.Proofs.YtghmbpmaafnodaaDoor
namespace Go.bs
 @[congr] theorem Qd {H H':ad} {cs a:List aa} {k:aa->ad->O} {z:Nat} (d:H=H') (e:cs=a) (c:hb=z):cn H cs k=cn H' a k:=by rw[d,e]
 @[congr] theorem P8 {ms a:List Nat} {T:List jr} {H:ad} {z:Nat} (c:hb=z):q1 ms a T H=q1 ms a T H:=rfl
end Go.bs
namespace Go.Proofs.YtghmbpmaafnodaaDoor
open Go.bs
open Nat (reduceAdd reduceLeDiff)
mutual
def u3(B:Nat):bM->Prop
 | .mk _ es b c=>(es.length<=B/\eR B es)/\(b.length<=B/\h5 B b)/\(c.length<=B/\h5 B c)
def h5(B:Nat):List bM->Prop
 |[]=>True
 |e::es=>u3 B e/\h5 B es
end
def h5.mem{B:Nat}:∀{es:List bM},h5 B es->∀e∈es,u3 B e
 |[],_,e,he=>by simp at he
 |x::xs,h,e,he=>by
  rw[h5]at h;rcases List.mem_cons.1 he with rfl|he
  ·exact h.1
  ·exact h5.mem h.2 e he
mutual
def Fe:∀e:aA,jL e e=X
 | .mk a ks=>by rw[jL,Fh ks];simp
def Fh:∀es:List aA,gM es es=X
 |[]=>by rw[gM]
 |e::es=>by rw[gM,Fe e,Fh es];rfl
end
def c_.aM{H H':ad}{ok:Nat->Prop}{ks:List bM}{kv:aa}(h:c_ H ok ks kv)(p:aO H H'):c_ H' ok ks kv:=h.a1 (en.aM p λ_ h=>h)
def ew.aM{H H':ad}{ok:Nat->Prop}{e:bM}{v:aa}(h:ew H ok e v)(p:aO H H'):ew H' ok e v:=ew.a1 (en.aM p λ_ h=>h) e v h
def dJ.cons{H:ad}{ok:Nat->Prop}{e:bM}{es:List bM}{els:List (List aa)}{k:Nat}(h:dJ H ok (e::es) (els.drop k)):∃cs,els[k]? =D cs/\ew H ok e (.agg cs)/\dJ H ok es (els.drop (k+1)):=by
 cases a:els.drop k with
 |nil=>rw[a,dJ]at h;exact h.elim
 |cons cs css=>
  rw[a,dJ]at h;have c:els[k]? =D cs:=by
   have:=List.getElem?_drop (xs:=els) (i:=k) (j:=0);rw[a]at this;simpa using this.symm
  have d:els.drop (k+1)=css:=by
   have:(els.drop k).drop 1=css:=by rw[a];rfl
   rwa[List.drop_drop]at this
  exact⟨cs,c,h.1,by rw[d];exact h.2⟩
def c_.qZ{H:ad}{ok:Nat->Prop}{ks:List bM}{x:aa}(c:c_ H ok ks x)(H':ad):b_ P H' .len [71] [x]=D (I J ks.length):=by
 rcases c with⟨rfl,an⟩|⟨d,i1,a,h,e,rfl,_⟩|⟨d,i1,a,rfl,an⟩
 ·rw[an];exact wO
 ·exact ti
 ·rw[an];exact ti
def c_.row{H:ad}{ok:Nat->Prop}{ks:List bM}{x:aa}(c:c_ H ok ks x)(h:¬ks.length=0):∃l i cap ro els,x= .aB l i ks.length 9 (Option.map (· +ks.length) cap)/\ok l/\H.get l=D (.row ro 9 els)/\dJ H ok ks (els.drop i):=by
 rcases c with⟨_,an⟩|a|⟨_,_,_,_,an⟩
 ·exact absurd an h
 ·exact a
 ·exact absurd an h
def rp{d deep:Nat}{b:List bM}(h:∀s∈b,ey d s)(a:deep+d<=51):(flat (cU deep b)).length<=dC b:=rq b λs ax=>wH (h s ax) deep a
def c_.beq{H:ad}{ok:Nat->Prop}{ks:List bM}{kv:aa}(h:c_ H ok ks kv):aa.beq kv kv=true:=by
 rcases h with⟨rfl,_⟩|⟨l,i,cap,ro,els,rfl,_⟩|⟨l,i,cap,rfl,_⟩<;>simp[aa.beq]
def LD{v:aa}(h:aa.beq v v=X):bl (D v) v=true:=by simp[bl,h]
def vK(x:aC)(l:List bF):flat (.b x::l)=x++flat l:=rfl
def nR(l:List bF):flat (nl::l)=[10]++flat l:=rfl
def vM(x o:aC)(z:Int)(l:List bF):flat (kb x o z++l)=x++([58,32]++(flat (cj o z)++flat l)):=by
 unfold kb;rw[List.cons_append,List.cons_append,List.cons_append,ja,c2,eo,db];rfl
def q8(d:aC)(B l:List bF):flat (ib d B++l)=[32,123,10]++(flat B++(d++([125]++flat l))):=by
 unfold ib;rw[List.cons_append,List.cons_append,List.cons_append,eo,c2,nR,db,db,vK,c2,c5];simp
def CT:∀l:List bM,400*l.length<=dC l
 |[]=>by simp[dC]
 | .mk a es b c::r=>by have:=CT r;rw[dC,eu,List.length_cons];omega
