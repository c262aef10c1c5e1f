/-
  Texts of one proof, laid together: Z9 Z10 Z11 ShB.
-/
import Derived.Test.YtghmbpmaafnodaaGreatDoorME
import Derived.Test.YtghmbpmaafnodaaGreatDoorMD
set_option linter.unusedVariables false
set_option linter.unusedSimpArgs false
namespace Go.Proofs.YtghmbpmaafnodaaGreatDoor
open Go.gd
section
theorem abm{T:List Tok}{s:aA}(al:s.aC=0)(e:bp):e8 (kI T e s) (bp.mk {kind:=5,name:=(dk T (aF s)).1,pos:=(ar T s.at_).pos} [e],(dk T (aF s)).2):=by
 have aZ:(aF s).aC=0:=al;by_cases ah:(ar T (aF s).at_).kind=1
 ·refine Or.inl ⟨?_,?_⟩
  ·have ax:((ar T (aF s).at_).kind != 1)=false:=by simp[ah]
   simp only[kI,ax,bj];exact al
  ·simp[kI,dk,ah,aZ]
 ·have ax:((ar T (aF s).at_).kind==1)=false:=by simpa using ah
  have ia:((ar T (aF s).at_).kind != 1)=true:=by simpa using ah
  have aa:=qt (T:=T) aZ 2;refine Or.inr ⟨?_,?_,?_⟩
  ·simp only[kI,ia,bC];show(cS T 2 (aF s)).aC≠0;rw[aa.1];decide
  ·simp only[kI,dk,ax,ia,bC,Bool.and_false,bj];rfl
  ·simp only[kI,dk,ax,ia,bC,Bool.and_false,bj];rfl
theorem abF{T:List Tok}(aH:T.length<=40000000){s:aA}(al:s.aC=0)(ah:(ar T s.at_).kind≠0)(e:bp):left T (kI T e s).2+1<=left T s:=by
 have aZ:=rn aH al ah;have e1:(aF s).aC=0:=al;by_cases e3:(ar T (aF s).at_).kind=1
 ·have ax:((ar T (aF s).at_).kind != 1)=false:=by simp[e3]
  have:=rn aH e1 (by rw[e3];decide);simp only[kI,ax,bj];omega
 ·have ax:((ar T (aF s).at_).kind != 1)=true:=by simpa using e3
  have aa:(aF (cS T 2 (aF s))).aC≠0:=by show(cS T 2 (aF s)).aC≠0;rw[(qt e1 2).1];decide
  simp only[kI,ax,bC,rf aa];omega
theorem JZ{T:List Tok}(aH:T.length<=40000000){k:Nat}(aT: ∀j,j<k->qR T j): ∀(c n cg:Nat) (s s':aA) (e cN:bp),left T s<=c->c<=k->30*c+12<=n->30*c+12<=cg->ho s s'->(s.aC=0->cN=e)->h4 T s (jl T n e s) (lC T cg cN s')
 |c,0,cg,s,s',e,cN,U,aa,ae,h_,am,aB=>Z
 |c,n+1,0,s,s',e,cN,U,aa,ae,h_,am,aB=>Z
 |c,n+1,cg+1,s,s',e,cN,U,aa,ae,h_,am,aB=>by
  by_cases al:s.aC=0
  ·obtain⟨_,rfl⟩:s.aC=0/\s'=s:=am.resolve_right (by rintro⟨h,_⟩;exact h al);cases aB al;have ax:(s'.aC==0)=true:=by simpa using al
   have aI:cd T s' [46]=((ar T s'.at_).kind==4&&(ar T s'.at_).text==[46]):=by show b7 T s' 4 [46]=_;simp only[b7,ax,Bool.true_and]
   have bc:cd T s' [91]=((ar T s'.at_).kind==4&&(ar T s'.at_).text==[91]):=by show b7 T s' 4 [91]=_;simp only[b7,ax,Bool.true_and]
   cases ah:(ar T s'.at_).kind==4 with
   |false=>exact⟨(e,s'),(e,s'),by simp[jl,ax,ah],by simp[lC,aI,bc,ah],.inl ⟨al,rfl⟩,bN _⟩
   |true=>
    have aoe:(ar T s'.at_).kind=4:=by simpa using ah
    cases bd:(ar T s'.at_).text==[46] with
    |true=>
     have az:=abF aH al (by rw[aoe];decide) e;have aM:=abm (T:=T) al e;have:=(JZ aH aT (c-1) n cg _ _ (kI T e s').1 _ Z Z Z Z aM.st (λbw=>by
      rcases aM with⟨_,h⟩|⟨h,_⟩
      ·exact congrArg Prod.fst h
      ·exact absurd bw h)).le (s0:=s') Z
     simpa [jl,ax,ah,bd,lC,aI] using this
    |false=>
     cases bi:(ar T s'.at_).text==[91] with
     |false=>exact⟨(e,s'),(e,s'),by simp[jl,ax,ah,bd,bi],by simp[lC,aI,bc,ah,bd,bi],.inl ⟨al,rfl⟩,bN _⟩
     |true=>
      obtain⟨n,rfl⟩: ∃m,n=m+1:=⟨n-1,Z⟩;have AF: ∀j,j<c->qR T j:=λj bH=>aT j Z
      rcases KD aH AF al U (x:=[91]) rfl 0 n cg Z Z Z with⟨cR,dd,p,q,dG,eM,iN,wB⟩|⟨cR,dd,dG,eM,iN⟩
      ·have CU:=u1 (T:=T) (x:=[93]) iN.st rfl;have aqA:=Bm aH p.2 [93];have:=(JZ aH aT (c-1) (n+1) cg (j1 T [93] p.2).2 (gp T [93] q.2) (.mk {kind:=6,pos:=(ar T s'.at_).pos} [e,p.1]) (.mk {kind:=6,pos:=(ar T s'.at_).pos} [e,q.1]) Z Z Z Z CU (λbw=>by
        rcases iN with⟨_,rfl⟩|⟨h,_⟩
        ·rfl
        ·exact absurd bw (OD h _))).le (s0:=s') Z
       simpa [jl,ax,ah,bd,bi,ki,cR,dG,lC,aI,bc,eM] using this
      ·have ce:(eT T [91] s').aC≠0:=by rw[dG];exact dd
       have ck:((eI T [91] s').2.aC==0)=false:=by simpa using dd
       have x_:(gp T [93] (eT T [91] s'))=ga (eT T [91] s'):=by simp[gp,cr,hv ce,iP ce]
       have lZ:(ga (eT T [91] s')).aC≠0:=ce;refine⟨(.mk {kind:=6,pos:=(ar T s'.at_).pos} [e,.zero],(eI T [91] s').2),(.mk {kind:=6,pos:=(ar T s'.at_).pos} [e,xw T (eT T [91] s')],ga (eT T [91] s')),?_,?_,.inr ⟨dd,dG,eM⟩,?_⟩
       ·simp[jl,ax,ah,bd,bi,ki,cR,ck]
       ·simp[lC,aI,bc,ah,bd,bi,iN,x_,Jm lZ cg Z]
       ·simp only[rf dd];omega
  ·have e1:s'.aC≠0:=by
    rcases am with⟨h,_⟩|⟨_,h,_⟩
    ·exact absurd h al
    ·rw[h];exact al
   have ax:(s.aC==0)=false:=by simpa using al
   exact⟨(e,s),(cN,s'),by simp[jl,ax],Jm e1 (cg+1) Z cN,e8.of am λh=>absurd h al,bN _⟩
end
section
theorem h4.pure{α:Type}{T:List Tok}{s:aA}{p q:α×aA}(h:e8 p q)(az:left T p.2<=left T s):h4 T s (some p) (some q):=⟨p,q,rfl,rfl,h,az⟩
theorem h4.map{α β:Type}{T:List Tok}{s:aA}{a b:Option (α×aA)}(h:h4 T s a b)(f:α->β):h4 T s (a.bind λp=>some (f p.1,p.2)) (b.bind λp=>some (f p.1,p.2)):=by
 obtain⟨p,q,rfl,rfl,ae,am⟩:=h;refine⟨(f p.1,p.2),(f q.1,q.2),rfl,rfl,?_,am⟩;rcases ae with⟨h,rfl⟩|⟨h,U,aa⟩
 ·exact .inl ⟨h,rfl⟩
 ·exact .inr ⟨h,U,aa⟩
theorem ac_{T:List Tok}(aH:T.length<=40000000){k:Nat}(aT: ∀j,j<k->qR T j){s:aA}(al:s.aC=0)(ah:(ar T s.at_).kind=1)(aM:left T s<=k)(n cg:Nat)(aU:30*k+9<=n)(hz:30*k+9<=cg):
  h4 T s (ul T (n+1) s) (bif cd T (dk T s).2 [40] then(pP T (cg+1) (dk T s).2).bind λp=>some (.mk {kind:=7,name:=(dk T s).1,pos:=(ar T s.at_).pos} p.1,p.2) else some (.mk {kind:=4,name:=(dk T s).1,pos:=(ar T s.at_).pos} [],(dk T s).2)):=by
 have dU:dk T s=((ar T s.at_).text,aF s):=by simp[dk,al,ah]
 have aZ:=rn aH al (by rw[ah];decide);have aI:cd T (aF s) [40]=b7 T (aF s) 4 [40]:=rfl;rw[dU];simp only[ul,aI];cases b7 T (aF s) 4 [40] with
 |true=>
  obtain⟨n,rfl⟩: ∃m,n=m+1:=⟨n-1,Z⟩;have:=acQ aH (k:=k-1) (λj bH=>aT j Z) (s:=aF s) al Z n cg Z Z;exact(this.map λl=>bp.mk {kind:=7,name:=(ar T s.at_).text,pos:=(ar T s.at_).pos} l).le Z
 |false=>exact h4.pure (.inl ⟨al,rfl⟩) (by simp only;omega)
theorem abu{T:List Tok}(aH:T.length<=40000000){k:Nat}(aT: ∀j,j<k->qR T j){s:aA}(al:s.aC=0)(ah:(ar T s.at_).kind=3)(aM:left T s<=k)(n cg:Nat)(aU:30*k+9<=n)(hz:30*k+9<=cg):
  h4 T s (sH T (n+1) s) (tN T (cg+1) (ar T s.at_).pos (aF s)):=by
 have aZ:=rn aH al (by rw[ah];decide);have At:(aF s).aC=0:=al;have aI:cd T (aF s) [91]=b7 T (aF s) 4 [91]:=rfl;simp only[sH,tN,aI];cases ax:b7 T (aF s) 4 [91] with
 |true=>
  have sb:=rp aH cm ax;have bt:=of_same T (aF (aF s));have hw:=Bt (T:=T) (x:=[93]) bt.st rfl;have E9:=KQ aH (aF (aF s));have l1:=Bq aH (eL T (aF (aF s))).2 [93];simp only[bC];obtain⟨n,rfl⟩: ∃m,n=m+1:=⟨n-1,Z⟩;obtain⟨cg,rfl⟩: ∃m,cg=m+1:=⟨cg-1,Z⟩;by_cases bw:(cZ T [93] (eL T (aF (aF s))).2).2.aC=0
  ·have aop:(eL T (aF (aF s))).2.aC=0:=by
    by_cases h:(eL T (aF (aF s))).2.aC=0
    ·exact h
    ·exact absurd bw (by simp only[cZ,ma h,bj,iP h];exact h)
   have YA:=(bt.resolve_right (by rintro⟨h,_⟩;exact h aop)).2;have YF:=(hw.resolve_right (by rintro⟨h,_⟩;exact h bw)).2;rw[YA] at YF;rw[YA,YF];have:=JV aH (k:=k-1) (λj bH=>aT j Z) (s:=(cZ T [93] (eL T (aF (aF s))).2).2) bw Z n cg Z Z;exact(this.map λe=>bp.mk {kind:=9,eV:=(eL T (aF (aF s))).1.1,fT:=(eL T (aF (aF s))).1.2,pos:=(ar T s.at_).pos} [e]).le Z
  ·have Nl:=hw.resolve_left (by rintro⟨h,_⟩;exact bw h);have ce:(cr T [93] (fm T (aF (aF s))).2).aC≠0:=by rw[Nl.2.1];exact bw
   have dQ:(eI T [40] (cZ T [93] (eL T (aF (aF s))).2).2)=(false,(cZ T [93] (eL T (aF (aF s))).2).2):=by simp[eI,ma bw,iP bw]
   have ck:eT T [40] (cr T [93] (fm T (aF (aF s))).2)=iK (cr T [93] (fm T (aF (aF s))).2):=by
    simp only[eT,hv ce,Bool.false_and,bj];rw[cr,hv ce,bj,iP ce]
   have MW:(iK (cr T [93] (fm T (aF (aF s))).2)).aC≠0:=ce;have aS:gp T [41] (iK (cr T [93] (fm T (aF (aF s))).2))=ga (iK (cr T [93] (fm T (aF (aF s))).2)):=by
    unfold gp;rw[cr,hv MW,bj,iP MW]
   have aoy:ki T (n+1) [40] [41] (cZ T [93] (eL T (aF (aF s))).2).2=some (.zero,(cZ T [93] (eL T (aF (aF s))).2).2):=by simp[ki,dQ]
   have kP:ns T (cg+1) (cr T [93] (fm T (aF (aF s))).2)=some (xw T (iK (cr T [93] (fm T (aF (aF s))).2)),ga (iK (cr T [93] (fm T (aF (aF s))).2))):=by
    simp only[ns,ck,Be MW cg 0 Z Z,Option.bind_some,aS]
   simp only[aoy,kP,Option.bind_some];exact h4.pure (.inr ⟨bw,Nl.2.1,Nl.2.2⟩) (by simp only[rf bw];omega)
 |false=>
  simp only[bj];by_cases e3:(ar T (aF s).at_).kind=1
  ·have ax:((ar T (aF s).at_).kind != 1)=false:=by simp[e3]
   have:=rn aH At (by rw[e3];decide);have hp:dk T (aF s)=((ar T (aF s).at_).text,aF (aF s)):=by simp[dk,At,e3]
   simp only[ax,bj,hp];exact h4.pure (.inl ⟨al,rfl⟩) (by simp only;omega)
  ·have ax:((ar T (aF s).at_).kind==1)=false:=by simpa using e3
   have ia:((ar T (aF s).at_).kind != 1)=true:=by simpa using e3
   have aa:=qt (T:=T) At 2;have ae:(aF (cS T 2 (aF s))).aC≠0:=by show(cS T 2 (aF s)).aC≠0;rw[aa.1];decide
   simp only[ia,bC,dk,ax,Bool.and_false,bj];exact h4.pure (.inr ⟨ae,rfl,rfl⟩) (by simp only[rf ae];omega)
end
section
theorem D6{T:List Tok}{s:aA}(al:s.aC=0)(x:bl):cd T s x=((ar T s.at_).kind==kw x&&(ar T s.at_).text==x):=by simp[cd,b7,al]
theorem abG{T:List Tok}(aH:T.length<=40000000)(s:aA)(x:bl):left T (eI T x s).2<=left T s:=by
 cases h:b7 T s 4 x with
 |true=>
  simp only[eI,h,bC];split
  ·exact yK s 4
  ·have:=rp aH cm h;have e:left T {s with at_:=hP (s.at_+1),bR:=hP (s.bR+1)}=left T (aF s):=rfl;simp only[e];omega
 |false=>simp only[eI,h,bj];exact yK s 2
theorem adi{T:List Tok}{s:aA}(al:s.aC=0):e8 (pU T s) (bp.mk {kind:=11,pos:=(ar T s.at_).pos} [],gp T [41] (eT T [40] (aF s))):=by
 have At:(aF s).aC=0:=al;simp only[pU];rcases J6 (T:=T) At (x:=[40]) rfl with⟨U,aa,ae,am⟩|⟨U,aa,ae⟩
 ·simp only[U,ae,am,bC];exact e8.of (u1 (.refl _) rfl) λ_=>rfl
 ·simp only[U,bj];have h_:=ae.resolve_left (by rintro⟨h,_⟩;exact aa h);have ce:(eT T [40] (aF s)).aC≠0:=by rw[h_.2.1];exact aa
  refine .inr ⟨aa,?_,?_⟩<;>simp[gp,cr,hv ce,iP ce,ga,h_.2.1,h_.2.2]
theorem ac5{T:List Tok}(aH:T.length<=40000000)(s:aA):left T (pU T s).2<=left T (aF s):=by
 have U:=abG aH (aF s) [40];simp only[pU];cases(eI T [40] (aF s)).1 with
 |true=>simp only[bC];have:=Bm aH (eI T [40] (aF s)).2 [41];omega
 |false=>simp only[bj];omega
theorem acY{T:List Tok}{s:aA}(al:s.aC=0)(U:(ar T s.at_).kind≠1):dk T s=([],cS T 2 s)/\(cS T 2 s).aC≠0:=by
 have ax:((ar T s.at_).kind==1)=false:=by simpa using U
 exact⟨by simp[dk,ax],by rw[(qt al 2).1];decide⟩
theorem abo{T:List Tok}(aH:T.length<=40000000){k:Nat}(aT: ∀j,j<k->qR T j){s:aA}(al:s.aC=0)(aM:left T s<=k)(n cg:Nat)(aU:30*k+10<=n)(hz:30*k+10<=cg):
  h4 T s (og T (n+1) s) (oP T (cg+1) s):=by
 obtain⟨n,rfl⟩: ∃m,n=m+1:=⟨n-1,Z⟩;obtain⟨cg,rfl⟩: ∃m,cg=m+1:=⟨cg-1,Z⟩;have ax:(s.aC==0)=true:=by simpa using al
 have cG:kw [116,114,117,101]=3:=rfl;have dh:kw [102,97,108,115,101]=3:=rfl;have dL:kw [110,117,108,108]=3:=rfl;have gf:kw [110,101,119]=3:=rfl;have jB:kw [108,101,110]=3:=rfl;have j0:kw [114,101,97,100]=3:=rfl;have uZ:kw [40]=4:=rfl;have vM:(ar T s.at_).kind≠1->h4 T s (some (bp.zero,cS T 2 s)) (bif cd T (dk T s).2 [40] then(pP T (cg+1) (dk T s).2).bind λp=>some (.mk {kind:=7,name:=(dk T s).1,pos:=(ar T s.at_).pos} p.1,p.2) else some (.mk {kind:=4,name:=(dk T s).1,pos:=(ar T s.at_).pos} [],(dk T s).2)):=by
  intro U;obtain⟨aI,bc⟩:=acY (T:=T) al U;rw[aI];simp only[hv bc,bj];exact h4.pure (.inr ⟨bc,rfl,rfl⟩) (yK s 2)
 by_cases aa:(ar T s.at_).kind=2
 ·have:=rn aH al (by rw[aa];decide);simp only[og,oP,al,aa,ne_eq,not_true,if_false,if_true,beq_self_eq_true,Bool.and_self,bC];exact h4.pure (.inl ⟨al,rfl⟩) (by simp only;omega)
 have cU:((ar T s.at_).kind==2)=false:=by simpa using aa
 by_cases U:(ar T s.at_).kind=1
 ·have:=ac_ aH aT al U aM n cg Z Z;have anH:((1:Int)==3)=false:=rfl;have anL:((1:Int)==4)=false:=rfl;have anE:((1:Int)==2)=false:=rfl;have MK: ¬((1:Int)=2):=cm;simpa only[og,oP,al,U,MK,ne_eq,not_true,if_false,if_true,beq_self_eq_true,Bool.and_false,Bool.true_and,anH,anL,anE,bj,D6 al,cG,dh,dL,gf,jB,j0,uZ,Bool.false_and,Bool.or_self,or_true,true_or] using this
 by_cases am:(ar T s.at_).kind=4
 ·have X2:((4:Int)==3)=false:=rfl;have X1:((4:Int)==2)=false:=rfl;have X3: ¬((4:Int)=2):=cm;have X4: ¬((4:Int)=1):=cm;have X5:((4:Int)=3\/(4:Int)=4):= .inr rfl;cases bz:(ar T s.at_).text==[40] with
  |true=>
   have:=JV aH aT al aM n cg Z Z;simpa only[og,oP,al,am,X3,X4,X5,X2,X1,bz,ne_eq,not_true,if_false,if_true,beq_self_eq_true,Bool.and_false,Bool.true_and,bj,bC,D6 al,cG,dh,dL,gf,jB,j0,uZ,Bool.false_and,Bool.or_self,or_true,true_or] using this
  |false=>
   have:=vM U;simpa only[og,oP,al,am,X3,X4,X5,X2,X1,bz,ne_eq,not_true,if_false,if_true,beq_self_eq_true,Bool.and_false,Bool.true_and,bj,bC,D6 al,cG,dh,dL,gf,jB,j0,uZ,Bool.false_and,Bool.or_self,or_true,true_or] using this
 by_cases ae:(ar T s.at_).kind=3
 ·have aZ:=rn aH al (by rw[ae];decide);have At:(aF s).aC=0:=al;have anM:((3:Int)==4)=false:=rfl;have anF:((3:Int)==2)=false:=rfl;have anI: ¬((3:Int)=2):=cm;have anJ: ¬((3:Int)=1):=cm;have anK:((3:Int)=3\/(3:Int)=4):= .inl rfl;simp only[og,oP,al,ae,anI,anJ,anK,anM,anF,ne_eq,not_true,if_false,if_true,beq_self_eq_true,Bool.and_false,Bool.true_and,bj,bC,D6 al,cG,dh,dL,gf,jB,j0,uZ,Bool.false_and];cases t1:(ar T s.at_).text==[116,114,117,101]||(ar T s.at_).text==[102,97,108,115,101] with
  |true=>simp only[bC];exact h4.pure (.inl ⟨al,rfl⟩) (by simp only[vH];omega)
  |false=>
   cases t2:(ar T s.at_).text==[110,117,108,108] with
   |true=>
    simp only[bC,bj];have bt:=of_same T (aF s);refine h4.pure ?_ (by have:=KQ aH (aF s);simp only[Cl];omega);refine e8.of bt.st λh=> ?_
    rw[(bt.resolve_right (by rintro⟨bZ,_⟩;exact bZ h)).2]
   |false=>
    cases t3:(ar T s.at_).text==[110,101,119] with
    |true=>simp only[bC,bj];exact abu aH aT al ae aM n cg Z Z
    |false=>
     cases t4:(ar T s.at_).text==[108,101,110] with
     |true=>
      simp only[bC,bj];have:=JV aH (k:=k-1) (λj bH=>aT j Z) (s:=aF s) At Z n cg Z Z;exact(this.map λe=>bp.mk {kind:=10,pos:=(ar T s.at_).pos} [e]).le Z
     |false=>
      cases t5:(ar T s.at_).text==[114,101,97,100] with
      |true=>
       simp only[bC,bj];exact h4.pure (adi al) (by have:=ac5 aH s;omega)
      |false=>simp only[bj];exact vM U
 ·have b3:((ar T s.at_).kind==3)=false:=by simpa using ae
  have eB:((ar T s.at_).kind==4)=false:=by simpa using am
  have:=vM U;simpa only[og,oP,al,U,aa,ae,am,cU,b3,eB,ne_eq,not_true,if_false,if_true,beq_self_eq_true,Bool.and_false,Bool.true_and,bj,bC,D6 al,cG,dh,dL,gf,jB,j0,uZ,Bool.false_and,Bool.or_self,or_self] using this
theorem acL{T:List Tok}(aH:T.length<=40000000){k:Nat}(aT: ∀j,j<k->qR T j){s:aA}(al:s.aC=0)(aM:left T s<=k)(n cg:Nat)(aU:30*k+14<=n)(hz:30*k+14<=cg):
  h4 T s (pL T n s) (ue T cg s):=by
 obtain⟨n,rfl⟩: ∃m,n=m+1:=⟨n-1,Z⟩;obtain⟨cg,rfl⟩: ∃m,cg=m+1:=⟨cg-1,Z⟩;have aI:cd T s [45]=b7 T s 4 [45]:=rfl;have bc:cd T s [33]=b7 T s 4 [33]:=rfl;have VY: ∀(x:bl) (sl:Int),kw x=4->b7 T s 4 x=true->h4 T s (rS T n x sl s) (uq T cg sl s):=by
  intro x sl ag be;obtain⟨n,rfl⟩: ∃m,n=m+1:=⟨n-1,Z⟩;obtain⟨cg,rfl⟩: ∃m,cg=m+1:=⟨cg-1,Z⟩;have bz:(ar T s.at_).text=x:=(sA be).2.2;simp only[rS,uq,bz];rcases KD aH aT al aM ag 5 (n+1) cg Z Z Z with⟨U,aa,p,q,ae,am,aB,aG⟩|⟨U,aa,ae,am,aB⟩
  ·have h_:pL T n (eI T x s).2=some p:=by rw[i_] at ae;exact ae
   simp only[U,h_,am,Option.bind_some,bC];refine h4.pure ?_ (by rw[Ky];omega);refine e8.of aB.st.out λh=> ?_
   rw[(aB.resolve_right (by rintro⟨bZ,_⟩;exact bZ h)).2]
  ·simp only[U,aB,Option.bind_some,bj];exact h4.pure (.inr ⟨aa,ae,am⟩) (by simp only[rf aa];omega)
 simp only[pL,ue,aI,bc];cases i1:b7 T s 4 [45] with
 |true=>simp only[bC];exact VY [45] 12 rfl i1
 |false=>
  cases i2:b7 T s 4 [33] with
  |true=>simp only[bC,bj];exact VY [33] 13 rfl i2
  |false=>
   simp only[bj];obtain⟨n,rfl⟩: ∃m,n=m+2:=⟨n-2,Z⟩;obtain⟨cg,rfl⟩: ∃m,cg=m+1:=⟨cg-1,Z⟩;obtain⟨p,q,ae,am,aB,aG⟩:=abo aH aT al aM n cg Z Z;have:=(JZ aH aT k (n+1) (cg+1) p.2 q.2 p.1 q.1 Z Z Z Z aB.st (λh=>by
    rw[(aB.resolve_right (by rintro⟨bZ,_⟩;exact bZ h)).2])).le aG
   rw[rB];simpa only[ae,am,Option.bind_some] using this
theorem R6{T:List Tok}(aH:T.length<=40000000){k:Nat}(aT: ∀j,j<k->qR T j){s:aA}(al:s.aC=0)(aM:left T s<=k): ∀(j lev n cg:Nat),lev+j=5->30*k+20<=n+lev->30*k+20<=cg+lev->h4 T s (i_ T n lev s) (jF T cg lev s)
 |0,lev,n,cg,az,aU,hz=>by
  obtain rfl:lev=5:=Z;obtain⟨n,rfl⟩: ∃m,n=m+1:=⟨n-1,Z⟩;obtain⟨cg,rfl⟩: ∃m,cg=m+1:=⟨cg-1,Z⟩;simp only[i_,jF,if_true];exact acL aH aT al aM n cg Z Z
 |j+1,lev,n,cg,az,aU,hz=>by
  have aB: ¬lev=5:=Z;obtain⟨n,rfl⟩: ∃m,n=m+1:=⟨n-1,Z⟩;obtain⟨cg,rfl⟩: ∃m,cg=m+1:=⟨cg-1,Z⟩;obtain⟨p,q,g1,g2,g3,g4⟩:=R6 aH aT al aM j (lev+1) n cg Z Z Z;have:=(QX aH aT (lev:=lev) Z k n cg p.2 q.2 p.1 q.1 Z Z Z Z g3.st (λh=>by
   rw[(g3.resolve_right (by rintro⟨bZ,_⟩;exact bZ h)).2])).le g4
  simpa only[i_,jF,aB,if_false,g1,g2,Option.bind_some] using this
theorem Gv{T:List Tok}(aH:T.length<=40000000): ∀k,qR T k:=by
 intro k
 induction k using Nat.strongRecOn with
 |_ k aT=>
  intro s aM lev n cg az aU hz;by_cases al:s.aC=0
  ·exact R6 aH aT al aM (5-lev) lev n cg Z aU hz
  ·exact abQ al lev n cg az Z Z
end
section
set_option maxRecDepth 100000
noncomputable section
def HO(G:av)(Y:I)(H:J):O:=
 ab (b5 Y) λba=>
 ab (aE P 133 ba 4) λbb=>
 ab (aE P 29 bb 0) λbu=>
 ab (aj P H 27 bu) λbx=>
 ab (aW P .neq 27 true bx (.int .i64 0)) λbS=>
 some (bS,H)
theorem af_(G:av)(N:Nat)(Y:I)(H:J):bn Tryz.f102 G N (cB [Y]) H=HO G Y H:=by
 refine cL (A:=bn Tryz.f102 G N) (aL _) ?_;delta HO;kernel_rfl
theorem ahI(N:Nat){Y:I}{H:J}{r:I×J}(h:HO (aq P ao) Y H=some r):aq P ao 102 [Y] H=some r:=
 cQ ad Tryz.func102 ad ad ad ((af_ (aq P ao) N Y H).trans h)
def xY(G:av)(Y ai an:I)(H:J):O:=
 aO H (G 121 [Y] H) λbE U=>
 cy U [(.int .i64 0),(.str []),(.int .i64 0),(.int .i64 0)] λbx aa=>
 a7 aa (aQ P aa 57 bx bE) λae=>
 aO ae (G 102 [Y] ae) λb1 am=>
 ab (eY .not b1) λcb=>
 aD cb true am (bh (aE P 57 bx 0)) λbT aB=>
 aD cb true aB (qr (aj P aB 3 bT)) λbW aG=>
 aD cb true aG (di ai) λbG aP=>
 aD cb true aP (bh (aW P .eql 3 false bW bG)) λcc bq=>
 ab (cX cb (some cc) (some (.bool false))) λcK=>
 aD cK true bq (bh (aE P 57 bx 1)) λcA bJ=>
 aD cK true bJ (qr (aj P bJ 9 cA)) λcx co=>
 aD cK true co (di an) λcz ds=>
 aD cK true ds (bh (aW P .eql 9 false cx cz)) λcH dV=>
 ab (cX cK (some cH) (some (.bool false))) λc1=>
 some (c1,dV)
theorem agm(G:av)(N:Nat)(Y:I)(ai:I)(an:I)(H:J):bn Tryz.f119 G N (cB [Y,ai,an]) H=xY G Y ai an H:=by
 refine cL (A:=bn Tryz.f119 G N) (aL _) ?_;delta xY;kernel_rfl
theorem ahU(N:Nat){Y ai an:I}{H:J}{r:I×J}(h:xY (aq P ao) Y ai an H=some r):aq P ao 119 [Y,ai,an] H=some r:=
 cQ ad Tryz.func119 ad ad ad ((agm (aq P ao) N Y ai an H).trans h)
def w3(G:av)(H:J):O:=
 some ((.bool false),H)
theorem ab5(G:av)(N:Nat): ∀R H,cw P G N (Code.snd (Code.snd (c6 Tryz.f120))) (bY Tryz.f120) [] (bY Tryz.f120) R H=w3 G H:=by
 refine dj (aL _) λR H=> ?_
 delta w3;kernel_rfl
def Ab(G:av)(Y ai:I)(H:J):O:=
 aO H (G 102 [Y] H) λbu U=>
 ab (eY .not bu) λbx=>
 bO (some bx) (aO U (G 121 [Y] U) λb1 aa=>
 ab (d8 P 57 b1 3) λcb=>
 ab (cO P 29 [(0,ai),(1,cb)]) λb6=>
 ab (b5 Y) λbT=>
 ab (aE P 133 bT 4) λbW=>
 a7 aa (aQ P aa 29 bW b6) λae=>
 w3 G ae) (w3 G U)
theorem agn(G:av)(N:Nat)(Y:I)(ai:I)(H:J):bn Tryz.f120 G N (cB [Y,ai]) H=Ab G Y ai H:=by
 refine cL (A:=bn Tryz.f120 G N) ((bk ad ((bk ad (ab5 G N) (aL _))) (aL _))) ?_;delta Ab;generalize w3 G=a1;revert a1;refine id ?_;intro a1;kernel_rfl
theorem ahV(N:Nat){Y ai:I}{H:J}{r:I×J}(h:Ab (aq P ao) Y ai H=some r):aq P ao 120 [Y,ai] H=some r:=
 cQ ad Tryz.func120 ad ad ad ((agn (aq P ao) N Y ai H).trans h)
def Ac(G:av)(Y:I)(H:J):O:=
 cy H [(.int .i64 0),(.str []),(.int .i64 0),(.int .i64 0)] λan U=>
 ab (b5 Y) λba=>
 ab (aE P 133 ba 1) λbb=>
 ab (aj P U 3 bb) λbu=>
 ab (aW P .lss 3 true bu (.int .i64 0)) λbx=>
 aD bx false U (di Y) λbE aa=>
 aD bx false aa (bh (b5 bE)) λcq ae=>
 aD bx false ae (bh (aE P 133 cq 1)) λb1 am=>
 aD bx false am (qr (aj P am 3 b1)) λcb aB=>
 aD bx false aB (di Y) λb6 aG=>
 aD bx false aG (bh (b5 b6)) λbT aP=>
 aD bx false aP (bh (aE P 133 bT 0)) λbW bq=>
 aD bx false bq (qr (aj P bq 50 bW)) λbG bJ=>
 aD bx false bJ (λq=>iu (dF P .empty .len [50] [bG]) (dF P bJ .len [50] [bG]) q) λcc co=>
 aD bx false co (bh (aW P .geq 3 false cb cc)) λcK ds=>
 ab (cX bx (some (.bool true)) (some cK)) λcM=>
 bO (some cM) (a7 ds (aQ P ds 57 an (.agg [(.int .i64 0),(.str []),(.int .i64 0),(.int .i64 0)])) λdV=>
 ab (aj P dV 57 an) λr=>
 some (r,dV)) (ab (b5 Y) λcz=>
 ab (aE P 133 cz 0) λcH=>
 ab (aj P ds 50 cH) λc1=>
 ab (b5 Y) λdt=>
 ab (aE P 133 dt 1) λdc=>
 ab (aj P ds 3 dc) λdT=>
 ab (dS P 50 c1 dT) λdJ=>
 ab (aj P ds 57 dJ) λcF=>
 a7 ds (aQ P ds 57 an cF) λdV=>
 ab (aj P dV 57 an) λr=>
 some (r,dV))
theorem ago(G:av)(N:Nat)(Y:I)(H:J):bn Tryz.f121 G N (cB [Y]) H=Ac G Y H:=by
 refine cL (A:=bn Tryz.f121 G N) (aL _) ?_;delta Ac;kernel_rfl
theorem ahW(N:Nat){Y:I}{H:J}{r:I×J}(h:Ac (aq P ao) Y H=some r):aq P ao 121 [Y] H=some r:=
 cQ ad Tryz.func121 ad ad ad ((ago (aq P ao) N Y H).trans h)
def Ad(G:av)(Y ai:I)(H:J):O:=
 aO H (G 136 [Y,(.int .i64 4),ai] H) λbx U=>
 aD bx false U (di Y) λbE aa=>
 aD bx false aa (λq=>fk aa (G 120 [bE,(.int .i64 2)] aa) q) λcq ae=>
 ab (cX bx (some (.bool true)) (some cq)) λb1=>
 some (b1,ae)
theorem agp(G:av)(N:Nat)(Y:I)(ai:I)(H:J):bn Tryz.f122 G N (cB [Y,ai]) H=Ad G Y ai H:=by
 refine cL (A:=bn Tryz.f122 G N) (aL _) ?_;delta Ad;kernel_rfl
theorem ahX(N:Nat){Y ai:I}{H:J}{r:I×J}(h:Ad (aq P ao) Y ai H=some r):aq P ao 122 [Y,ai] H=some r:=
 cQ ad Tryz.func122 ad ad ad ((agp (aq P ao) N Y ai H).trans h)
def CB(G:av)(Y ai an:I)(H:J):O:=
 aO H (G 119 [Y,ai,an] H) λcq U=>
 ab (eY .not cq) λb1=>
 bO (some b1) (some ((.bool false),U)) (ab (b5 Y) λb6=>
 ab (aE P 133 b6 1) λbT=>
 ab (aj P U 3 bT) λbW=>
 ab (aW P .add 3 true bW (.int .i64 1)) λbG=>
 ab (b5 Y) λcc=>
 ab (aE P 133 cc 1) λcK=>
 a7 U (aQ P U 3 cK bG) λaa=>
 some ((.bool true),aa))
theorem agx(G:av)(N:Nat)(Y:I)(ai:I)(an:I)(H:J):bn Tryz.f136 G N (cB [Y,ai,an]) H=CB G Y ai an H:=by
 refine cL (A:=bn Tryz.f136 G N) (aL _) ?_;delta CB;kernel_rfl
theorem ah5(N:Nat){Y ai an:I}{H:J}{r:I×J}(h:CB (aq P ao) Y ai an H=some r):aq P ao 136 [Y,ai,an] H=some r:=
 cQ ad Tryz.func136 ad ad ad ((agx (aq P ao) N Y ai an H).trans h)
def vV(G:av)(Y ai:I)(H:J):O:=
 aO H (G 119 [Y,(.int .i64 4),ai] H) λbS U=>
 ab (eY .not bS) λbE=>
 bO (some bE) (aO U (G 120 [Y,(.int .i64 2)] U) λb1 aa=>
 some (b1,aa)) (ab (b5 Y) λbT=>
 ab (aE P 133 bT 2) λbW=>
 ab (aj P U 3 bW) λbG=>
 ab (aW P .geq 3 true bG (.int .i64 50)) λcc=>
 bO (some cc) (aO U (G 120 [Y,(.int .i64 4)] U) λcM aa=>
 some (cM,aa)) (ab (b5 Y) λcx=>
 ab (aE P 133 cx 1) λcz=>
 ab (aj P U 3 cz) λcH=>
 ab (aW P .add 3 true cH (.int .i64 1)) λc1=>
 ab (b5 Y) λdn=>
 ab (aE P 133 dn 1) λdt=>
 a7 U (aQ P U 3 dt c1) λaa=>
 ab (b5 Y) λdT=>
 ab (aE P 133 dT 2) λdJ=>
 ab (aj P aa 3 dJ) λcF=>
 ab (aW P .add 3 true cF (.int .i64 1)) λeC=>
 ab (b5 Y) λdy=>
 ab (aE P 133 dy 2) λei=>
 a7 aa (aQ P aa 3 ei eC) λae=>
 some ((.bool true),ae)))
theorem agT(G:av)(N:Nat)(Y:I)(ai:I)(H:J):bn Tryz.f177 G N (cB [Y,ai]) H=vV G Y ai H:=by
 refine cL (A:=bn Tryz.f177 G N) (aL _) ?_;delta vV;kernel_rfl
theorem aiq(N:Nat){Y ai:I}{H:J}{r:I×J}(h:vV (aq P ao) Y ai H=some r):aq P ao 177 [Y,ai] H=some r:=
 cQ ad Tryz.func177 ad ad ad ((agT (aq P ao) N Y ai H).trans h)
def G0(bT:I)(aa:J):O:=
 some (bT,aa)
def HU(G:av)(Y ai:I)(H:J):O:=
 ab (b5 Y) λbu=>
 ab (aE P 133 bu 2) λbx=>
 ab (aj P H 3 bx) λbS=>
 ab (aW P .sub 3 true bS (.int .i64 1)) λbE=>
 ab (b5 Y) λcq=>
 ab (aE P 133 cq 2) λb1=>
 a7 H (aQ P H 3 b1 bE) λU=>
 aO U (G 122 [Y,ai] U) (G0)
theorem ag9(G:av)(N:Nat)(Y:I)(ai:I)(H:J):bn Tryz.f195 G N (cB [Y,ai]) H=HU G Y ai H:=by
 refine cL (A:=bn Tryz.f195 G N) (aL _) ?_;delta HU G0;kernel_rfl
theorem aiG(N:Nat){Y ai:I}{H:J}{r:I×J}(h:HU (aq P ao) Y ai H=some r):aq P ao 195 [Y,ai] H=some r:=
 cQ ad Tryz.func195 ad ad ad ((ag9 (aq P ao) N Y ai H).trans h)
def pB(G:av)(N:Nat)(an ay ba:I)(H:J):O:=
 ab (aE P 57 ba 1) λgk=>
 ab (aj P H 9 gk) λjU=>
 ab (cO P 43 [(0,jU),(1,ay)]) λj_=>
 a7 H (aQ P H 43 an j_) λU=>
 ab (aj P U 43 an) λr=>
 some (r,U)
theorem abW(G:av)(N:Nat): ∀R H,cw P G N (Code.snd (Code.snd (Code.snd (Code.snd (Code.snd (Code.snd (Code.snd (c6 Tryz.f101)))))))) (bY Tryz.f101) [] (bY Tryz.f101) R H=pB G N (R 2) (R 3) (R 4) H:=by
 refine dj (aL _) λR H=> ?_
 delta pB;kernel_rfl
def ru(G:av)(N:Nat)(hC:I->I->I->I->I->I->J->O)(Y an:I)(ay ba:I)(gB hB:I)(H:J):O:=
 ab (aW P .lss 3 false hB gB) λjy=>
 bO (some jy) (aO H (G 122 [Y,(.str [93])] H) λix U=>
 ab (aW P .add 3 true hB (.int .i64 1)) λhQ=>
 hC Y an ay ba gB hQ U) (pB G N an ay ba H)
def wX(G:av)(N:Nat):Nat->I->I->I->I->I->I->J->O
 |0,_,_,_,_,_,_,_=>none
 |n+1,Y,an,ay,ba,gB,hB,H=>ru G N (wX G N n) Y an ay ba gB hB H
theorem abT(G:av)(N:Nat)(hC:I->I->I->I->I->I->J->O): ∀R H,cw P G N (Code.fst (Code.fst (Code.snd (Code.fst (Code.snd (Code.snd (Code.snd (Code.snd (Code.snd (Code.snd (c6 Tryz.f101))))))))))) (λR H=>hC (R 0) (R 2) (R 3) (R 4) (R 46) (R 47) H) [(2,(λR H=>pB G N (R 2) (R 3) (R 4) H))] (bY Tryz.f101) R H=ru G N hC (R 0) (R 2) (R 3) (R 4) (R 46) (R 47) H:=by
 refine dj (aL _) λR H=> ?_
 delta ru;generalize pB G N=a1;revert a1;refine id ?_;intro a1;kernel_rfl
def rq(G:av)(N:Nat)(bJ:J)(Y an:I)(ay ba ej:I):O:=
 bO (some ej) (aO bJ (G 120 [Y,(.int .i64 2)] bJ) λef co=>
 a7 co (aQ P co 43 an (.agg [(.str []),(.int .i64 0)])) λds=>
 ab (aj P ds 43 an) λr=>
 some (r,ds)) (ab (b5 Y) λfi=>
 ab (aE P 133 fi 1) λfU=>
 ab (aj P bJ 3 fU) λgb=>
 ab (aW P .add 3 true gb (.int .i64 1)) λgM=>
 ab (b5 Y) λe4=>
 ab (aE P 133 e4 1) λgR=>
 a7 bJ (aQ P bJ 3 gR gM) λco=>
 wX G N N Y an ay ba ay (.int .i64 0) co)
def nZ(G:av)(N:Nat)(cF Y:I)(an ay:I)(ba fh:I)(bJ:J):O:=
 ab (cX cF (some fh) (some (.bool false))) (rq G N bJ Y an ay ba)
def n0(G:av)(N:Nat)(cF Y:I)(an ay:I)(ba ei:I)(bq:J):O:=
 aD cF true bq (bh (eY .not ei)) (nZ G N cF Y an ay ba)
def n1(G:av)(N:Nat)(cF Y:I)(an ay:I)(ba dy:I)(aP:J):O:=
 aD cF true aP (λq=>fk aP (G 119 [dy,(.int .i64 3),(.str [98,111,111,108])] aP) q) (n0 G N cF Y an ay ba)
def n3(G:av)(N:Nat)(aG:J)(Y an:I)(ay ba cF:I):O:=
 aD cF true aG (di Y) (n1 G N cF Y an ay ba)
def n4(G:av)(N:Nat)(dn Y:I)(an ay:I)(ba dJ:I)(aG:J):O:=
 ab (cX dn (some dJ) (some (.bool false))) (n3 G N aG Y an ay ba)
def n5(G:av)(N:Nat)(dn Y:I)(an ay:I)(ba dT:I)(aB:J):O:=
 aD dn true aB (bh (eY .not dT)) (n4 G N dn Y an ay ba)
def n6(G:av)(N:Nat)(dn Y:I)(an ay:I)(ba dc:I)(am:J):O:=
 aD dn true am (λq=>fk am (G 119 [dc,(.int .i64 3),(.str [105,110,116])] am) q) (n5 G N dn Y an ay ba)
def n7(G:av)(N:Nat)(ae:J)(Y an:I)(ay ba dn:I):O:=
 aD dn true ae (di Y) (n6 G N dn Y an ay ba)
def n8(G:av)(N:Nat)(ae:J)(Y an:I)(ay ba c1:I):O:=
 ab (aW P .neq 3 true c1 (.int .i64 1)) (n7 G N ae Y an ay ba)
def n9(G:av)(N:Nat)(ae:J)(Y an:I)(ay ba cH:I):O:=
 ab (aj P ae 3 cH) (n8 G N ae Y an ay ba)
def n_(G:av)(N:Nat)(ba Y:I)(an ay:I)(ae:J):O:=
 ab (aE P 57 ba 0) (n9 G N ae Y an ay ba)
def oa(G:av)(N:Nat)(cz Y:I)(an ay ba:I)(aa:J):O:=
 a7 aa (aQ P aa 57 ba cz) (n_ G N ba Y an ay)
def ob(G:av)(N:Nat)(Y an:I)(ay cz:I)(U:J):O:=
 cy U [(.int .i64 0),(.str []),(.int .i64 0),(.int .i64 0)] (oa G N cz Y an ay)
def oc(G:av)(N:Nat)(Y an ay:I)(H:J):O:=
 aO H (G 121 [Y] H) (ob G N Y an ay)
theorem abV(G:av)(N:Nat): ∀R H,cw P G N (Code.snd (Code.snd (Code.snd (c6 Tryz.f101)))) (bY Tryz.f101) [] (bY Tryz.f101) R H=oc G N (R 0) (R 2) (R 3) H:=by
 refine dj ((bk ad ((bk ad ((bk ad ((bk ad (abW G N) ((bk ad ((fy ad ((gg (k:=λm R H=>wX G N m (R 0) (R 2) (R 3) (R 4) (R 46) (R 47) H) ad (λR H=>ad) (λm=>abT G N (wX G N m)))))) (aL _))))) (aL _))) (aL _))) (aL _))) λR H=> ?_
 delta oc ob oa n_ n9 n8 n7 n6 n5 n4 n3 n1 n0 nZ rq;generalize wX G N N=a1;revert a1;refine id ?_;intro a1;kernel_rfl
def qz(G:av)(N:Nat)(Y an ay:I)(U:J):O:=
 oc G N Y an ay U
def qA(G:av)(N:Nat)(jM:I->I->I->J->O)(ay Y:I)(an bu:I)(U:J):O:=
 bO (some bu) (ab (aW P .eql 3 true ay (.int .i64 3)) λbS=>
 bO (some bS) (aO U (G 120 [Y,(.int .i64 4)] U) λcq aa=>
 a7 aa (aQ P aa 43 an (.agg [(.str []),(.int .i64 0)])) λae=>
 ab (aj P ae 43 an) λr=>
 some (r,ae)) (ab (aW P .add 3 true ay (.int .i64 1)) λb6=>
 ab (b5 Y) λbW=>
 ab (aE P 133 bW 1) λbG=>
 ab (aj P U 3 bG) λcc=>
 ab (aW P .add 3 true cc (.int .i64 1)) λcK=>
 ab (b5 Y) λcM=>
 ab (aE P 133 cM 1) λcA=>
 a7 U (aQ P U 3 cA cK) λaa=>
 jM Y an b6 aa)) (qz G N Y an ay U)
def pA(G:av)(N:Nat)(jM:I->I->I->J->O)(Y an ay:I)(H:J):O:=
 aO H (G 119 [Y,(.int .i64 4),(.str [91])] H) (qA G N jM ay Y an)
def wY(G:av)(N:Nat):Nat->I->I->I->J->O
 |0,_,_,_,_=>none
 |n+1,Y,an,ay,H=>pA G N (wY G N n) Y an ay H
theorem abU(G:av)(N:Nat)(jM:I->I->I->J->O): ∀R H,cw P G N (Code.fst (Code.fst (Code.fst (Code.snd (Code.snd (c6 Tryz.f101)))))) (λR H=>jM (R 0) (R 2) (R 3) H) [(0,(λR H=>oc G N (R 0) (R 2) (R 3) H))] (bY Tryz.f101) R H=pA G N jM (R 0) (R 2) (R 3) H:=by
 refine dj (aL _) λR H=> ?_
 delta pA qA qz;generalize oc G N=a1;revert a1;refine id ?_;intro a1;kernel_rfl
def rr(G:av)(N:Nat)(Y an:I)(U:J):O:=
 wY G N N Y an (.int .i64 0) U
def qT(G:av)(N:Nat)(Y:I)(H:J):O:=
 cy H [(.str []),(.int .i64 0)] (rr G N Y)
theorem af9(G:av)(N:Nat)(Y:I)(H:J):bn Tryz.f101 G N (cB [Y]) H=qT G N Y H:=by
 refine cL (A:=bn Tryz.f101 G N) ((bk ad ((bk ad ((bk ad (abV G N) ((fy ad ((gg (k:=λm R H=>wY G N m (R 0) (R 2) (R 3) H) ad (λR H=>ad) (λm=>abU G N (wY G N m)))))))) (aL _))) (aL _))) ?_;delta qT rr;generalize wY G N N=a1;revert a1;refine id ?_;intro a1;kernel_rfl
theorem ahH(N:Nat){Y:I}{H:J}{r:I×J}(h:qT (aq P ao) N Y H=some r):aq P ao 101 [Y] H=some r:=
 cQ ad Tryz.func101 ad ad ad ((af9 (aq P ao) N Y H).trans h)
def tJ(G:av)(N:Nat)(H:J):O:=
 some ((.int .i64 0),H)
theorem acs(G:av)(N:Nat): ∀R H,cw P G N (Code.snd (Code.snd (c6 Tryz.f171))) (bY Tryz.f171) [] (bY Tryz.f171) R H=tJ G N H:=by
 refine dj (aL _) λR H=> ?_
 delta tJ;kernel_rfl
def w9(G:av)(N:Nat)(bD:I->I->I->I->J->O)(Y b6:I)(bT bW:I)(H:J):O:=
 ab (aW P .lss 3 false bW bT) λbG=>
 bO (some bG) (ab (dS P 200 b6 bW) λcc=>
 ab (aj P H 199 cc) λcK=>
 cy H [(.str []),(.int .i64 0)] λbu U=>
 a7 U (aQ P U 199 bu cK) λaa=>
 ab (aE P 199 bu 0) λcA=>
 ab (aj P aa 9 cA) λcx=>
 aO aa (G 119 [Y,(.int .i64 4),cx] aa) λcz ae=>
 bO (some cz) (ab (aE P 199 bu 1) λcH=>
 ab (aj P ae 3 cH) λc1=>
 some (c1,ae)) (ab (aW P .add 3 true bW (.int .i64 1)) λdn=>
 bD Y b6 bT dn ae)) (tJ G N H)
def w_(G:av)(N:Nat):Nat->I->I->I->I->J->O
 |0,_,_,_,_,_=>none
 |n+1,Y,b6,bT,bW,H=>w9 G N (w_ G N n) Y b6 bT bW H
theorem acr(G:av)(N:Nat)(bD:I->I->I->I->J->O): ∀R H,cw P G N (Code.fst (Code.fst (Code.snd (Code.fst (Code.snd (c6 Tryz.f171)))))) (λR H=>bD (R 0) (R 13) (R 14) (R 15) H) [(0,(λR H=>tJ G N H))] (bY Tryz.f171) R H=w9 G N bD (R 0) (R 13) (R 14) (R 15) H:=by
 refine dj (aL _) λR H=> ?_
 delta w9;generalize tJ G N=a1;revert a1;refine id ?_;intro a1;kernel_rfl
def x5(G:av)(N:Nat)(Y ai:I)(H:J):O:=
 ab (b5 Y) λbS=>
 ab (aE P 133 bS 3) λbE=>
 ab (aj P H 131 bE) λcq=>
 ab (dS P 131 cq ai) λcb=>
 ab (aj P H 200 cb) λb6=>
 bg P .len [200] [b6] H λbT=>
 w_ G N N Y b6 bT (.int .i64 0) H
theorem agS(G:av)(N:Nat)(Y:I)(ai:I)(H:J):bn Tryz.f171 G N (cB [Y,ai]) H=x5 G N Y ai H:=by
 refine cL (A:=bn Tryz.f171 G N) ((bk ad ((bk ad (acs G N) ((bk ad ((fy ad ((gg (k:=λm R H=>w_ G N m (R 0) (R 13) (R 14) (R 15) H) ad (λR H=>ad) (λm=>acr G N (w_ G N m)))))) (aL _))))) (aL _))) ?_;delta x5;generalize w_ G N N=a1;revert a1;refine id ?_;intro a1;kernel_rfl
theorem aip(N:Nat){Y ai:I}{H:J}{r:I×J}(h:x5 (aq P ao) N Y ai H=some r):aq P ao 171 [Y,ai] H=some r:=
 cQ ad Tryz.func171 ad ad ad ((agS (aq P ao) N Y ai H).trans h)
def y7(G:av)(N:Nat)(ba bb:I)(H:J):O:=
 ab (aj P H 103 bb) λjy=>
 a7 H (aQ P H 103 ba jy) λU=>
 ab (aj P U 103 ba) λr=>
 some (r,U)
theorem aco(G:av)(N:Nat): ∀R H,cw P G N (Code.snd (Code.snd (Code.snd (Code.snd (c6 Tryz.f165))))) (bY Tryz.f165) [] (bY Tryz.f165) R H=y7 G N (R 4) (R 5) H:=by
 refine dj (aL _) λR H=> ?_
 delta y7;kernel_rfl
def sJ(bD:I->I->I->I->I->J->O)(Y ai:I)(ba bb dT:I)(aG:J):O:=
 bD Y ai ba bb dT aG
def tO(G:av)(bD:I->I->I->I->I->J->O)(aB:J)(Y ai:I)(ba bb:I):O:=
 aO aB (G 171 [Y,ai] aB) (sJ bD Y ai ba bb)
def sD(G:av)(N:Nat)(ba bb:I)(H:J):O:=
 y7 G N ba bb H
def sE(G:av)(N:Nat)(bD:I->I->I->I->I->J->O)(H:J)(Y ai:I)(bb bu:I)(ba dn:I):O:=
 bO (some dn) (aO H (G 121 [Y] H) λcF U=>
 ab (d8 P 57 cF 3) λeC=>
 ab (b5 Y) λei=>
 ab (aE P 133 ei 1) λfh=>
 ab (aj P U 3 fh) λej=>
 ab (aW P .add 3 true ej (.int .i64 1)) λdW=>
 ab (b5 Y) λef=>
 ab (aE P 133 ef 1) λfo=>
 a7 U (aQ P U 3 fo dW) λaa=>
 ab (aW P .add 3 true ai (.int .i64 1)) λgM=>
 aO aa (G 165 [Y,gM] aa) λe4 ae=>
 ab (aj P ae 103 bb) λfi=>
 dv ae (dK P (ae).next 96 2 [(0,fi),(1,e4)]) λgR am=>
 ab (cO P 103 [(0,bu),(4,gR),(5,eC)]) λhB=>
 a7 am (aQ P am 103 bb hB) λaB=>
 bif ((cj (aj P aa 103 bb) fi&&(cj (aj P ae 103 bb) fi&&true))&&true) then(tO G bD aB Y ai ba bb) else none) (sD G N ba bb H)
def BL(G:av)(N:Nat)(bD:I->I->I->I->I->J->O)(Y ai:I)(ba bb bu:I)(H:J):O:=
 ab (aW P .neq 3 true bu (.int .i64 0)) (sE G N bD H Y ai bb bu ba)
def y8(G:av)(N:Nat):Nat->I->I->I->I->I->J->O
 |0,_,_,_,_,_,_=>none
 |n+1,Y,ai,ba,bb,bu,H=>BL G N (y8 G N n) Y ai ba bb bu H
theorem acn(G:av)(N:Nat)(bD:I->I->I->I->I->J->O): ∀R H,cw P G N (Code.fst (Code.fst (Code.snd (Code.fst (Code.snd (Code.snd (Code.snd (c6 Tryz.f165)))))))) (λR H=>bD (R 0) (R 1) (R 4) (R 5) (R 6) H) [(0,(λR H=>y7 G N (R 4) (R 5) H))] (bY Tryz.f165) R H=BL G N bD (R 0) (R 1) (R 4) (R 5) (R 6) H:=by
 refine dj (aL _) λR H=> ?_
 delta BL sE sD tO sJ;generalize y7 G N=a1;revert a1;refine id ?_;intro a1;kernel_rfl
def sF(G:av)(N:Nat)(Y ai:I)(ba bb cH:I)(aB:J):O:=
 y8 G N N Y ai ba bb cH aB
def sY(G:av)(N:Nat)(Y ai:I)(H:J):O:=
 cy H [(.int .i64 0),(.int .i64 0),(.str []),(.str []),(.int .i64 0),I.ap,(.int .i64 0),(.int .i64 0),(.int .i64 0),(.int .i64 0),(.int .i64 0)] λba U=>
 ab (b5 Y) λcq=>
 ab (aE P 133 cq 3) λb1=>
 ab (aj P U 131 b1) λcb=>
 bg P .len [131] [cb] U λb6=>
 ab (aW P .eql 3 false ai b6) λbT=>
 bO (some bT) (aO U (G 170 [Y] U) λbG aa=>
 a7 aa (aQ P aa 103 ba bG) λae=>
 ab (aj P ae 103 ba) λr=>
 some (r,ae)) (ab (aW P .add 3 true ai (.int .i64 1)) λcM=>
 aO U (G 165 [Y,cM] U) λcA aa=>
 cy aa [(.int .i64 0),(.int .i64 0),(.str []),(.str []),(.int .i64 0),I.ap,(.int .i64 0),(.int .i64 0),(.int .i64 0),(.int .i64 0),(.int .i64 0)] λbb ae=>
 a7 ae (aQ P ae 103 bb cA) λam=>
 aO am (G 171 [Y,ai] am) (sF G N Y ai ba bb))
theorem agQ(G:av)(N:Nat)(Y:I)(ai:I)(H:J):bn Tryz.f165 G N (cB [Y,ai]) H=sY G N Y ai H:=by
 refine cL (A:=bn Tryz.f165 G N) ((bk ad ((bk ad ((bk ad ((bk ad (aco G N) ((bk ad ((fy ad ((gg (k:=λm R H=>y8 G N m (R 0) (R 1) (R 4) (R 5) (R 6) H) ad (λR H=>ad) (λm=>acn G N (y8 G N m)))))) (aL _))))) (aL _))) (aL _))) (aL _))) ?_;delta sY sF;generalize y8 G N N=a1;revert a1;refine id ?_;intro a1;kernel_rfl
theorem ain(N:Nat){Y ai:I}{H:J}{r:I×J}(h:sY (aq P ao) N Y ai H=some r):aq P ao 165 [Y,ai] H=some r:=
 cQ ad Tryz.func165 ad ad ad ((agQ (aq P ao) N Y ai H).trans h)
def EI(G:av)(Y:I)(H:J):O:=
 cy H [(.int .i64 0),(.int .i64 0),(.str []),(.str []),(.int .i64 0),I.ap,(.int .i64 0),(.int .i64 0),(.int .i64 0),(.int .i64 0),(.int .i64 0)] λan U=>
 aO U (G 165 [Y,(.int .i64 0)] U) λba aa=>
 a7 aa (aQ P aa 103 an ba) λae=>
 ab (aj P ae 103 an) λr=>
 some (r,ae)
theorem agP(G:av)(N:Nat)(Y:I)(H:J):bn Tryz.f163 G N (cB [Y]) H=EI G Y H:=by
 refine cL (A:=bn Tryz.f163 G N) (aL _) ?_;delta EI;kernel_rfl
theorem aim(N:Nat){Y:I}{H:J}{r:I×J}(h:EI (aq P ao) Y H=some r):aq P ao 163 [Y] H=some r:=
 cQ ad Tryz.func163 ad ad ad ((agP (aq P ao) N Y H).trans h)
def BM(G:av)(N:Nat)(Y an:I)(H:J):O:=
 aO H (G 178 [Y] H) λgR U=>
 a7 U (aQ P U 103 an gR) λaa=>
 ab (aj P aa 103 an) λr=>
 some (r,aa)
theorem acq(G:av)(N:Nat): ∀R H,cw P G N (Code.snd (Code.snd (c6 Tryz.f170))) (bY Tryz.f170) [] (bY Tryz.f170) R H=BM G N (R 0) (R 2) H:=by
 refine dj (aL _) λR H=> ?_
 delta BM;kernel_rfl
def va(G:av)(ba:I)(am:J)(Y an cc:I):O:=
 ab (aE P 199 ba 0) λcH=>
 ab (aj P am 9 cH) λc1=>
 aO am (G 177 [Y,c1] am) λdn aB=>
 ab (eY .not dn) λdt=>
 bO (some dt) (a7 aB (aQ P aB 103 an (.agg [(.int .i64 0),(.int .i64 0),(.str []),(.str []),(.int .i64 0),I.ap,(.int .i64 0),(.int .i64 0),(.int .i64 0),(.int .i64 0),(.int .i64 0)])) λaG=>
 ab (aj P aG 103 an) λr=>
 some (r,aG)) (aO aB (G 170 [Y] aB) λdJ aG=>
 cy aG [(.int .i64 0),(.int .i64 0),(.str []),(.str []),(.int .i64 0),I.ap,(.int .i64 0),(.int .i64 0),(.int .i64 0),(.int .i64 0),(.int .i64 0)] λbu aP=>
 a7 aP (aQ P aP 103 bu dJ) λbq=>
 ab (b5 Y) λeC=>
 ab (aE P 133 eC 2) λdy=>
 ab (aj P bq 3 dy) λei=>
 ab (aW P .sub 3 true ei (.int .i64 1)) λfh=>
 ab (b5 Y) λej=>
 ab (aE P 133 ej 2) λdW=>
 a7 bq (aQ P bq 3 dW fh) λbJ=>
 ab (aE P 199 ba 1) λef=>
 ab (aj P bJ 3 ef) λfo=>
 ab (aj P bJ 103 bu) λfv=>
 dv bJ (dK P (bJ).next 96 1 [(0,fv)]) λfi co=>
 ab (cO P 103 [(0,fo),(4,fi),(5,cc)]) λgb=>
 a7 co (aQ P co 103 an gb) λds=>
 ab (aj P ds 103 an) λr=>
 some (r,ds))
def qC(G:av)(N:Nat)(Y an:I)(H:J):O:=
 BM G N Y an H
def qD(G:av)(N:Nat)(bD:I->I->I->I->I->J->O)(bE b1:I)(H:J)(Y an:I)(cq cb:I):O:=
 bO (some cb) (ab (dS P 200 bE b1) λb6=>
 ab (aj P H 199 b6) λbT=>
 cy H [(.str []),(.int .i64 0)] λba U=>
 a7 U (aQ P U 199 ba bT) λaa=>
 aO aa (G 121 [Y] aa) λbG ae=>
 ab (d8 P 57 bG 3) λcc=>
 ab (aE P 199 ba 0) λcM=>
 ab (aj P ae 9 cM) λcA=>
 aO ae (G 119 [Y,(.int .i64 4),cA] ae) λcx am=>
 bO (some cx) (va G ba am Y an cc) (ab (aW P .add 3 true b1 (.int .i64 1)) λgM=>
 bD Y an bE cq gM am)) (qC G N Y an H)
def vb(G:av)(N:Nat)(bD:I->I->I->I->I->J->O)(Y an:I)(bE cq b1:I)(H:J):O:=
 ab (aW P .lss 3 false b1 cq) (qD G N bD bE b1 H Y an cq)
def BN(G:av)(N:Nat):Nat->I->I->I->I->I->J->O
 |0,_,_,_,_,_,_=>none
 |n+1,Y,an,bE,cq,b1,H=>vb G N (BN G N n) Y an bE cq b1 H
theorem acp(G:av)(N:Nat)(bD:I->I->I->I->I->J->O): ∀R H,cw P G N (Code.fst (Code.fst (Code.snd (Code.fst (Code.snd (c6 Tryz.f170)))))) (λR H=>bD (R 0) (R 2) (R 9) (R 10) (R 11) H) [(0,(λR H=>BM G N (R 0) (R 2) H))] (bY Tryz.f170) R H=vb G N bD (R 0) (R 2) (R 9) (R 10) (R 11) H:=by
 refine dj (aL _) λR H=> ?_
 delta vb qD qC va;generalize BM G N=a1;revert a1;refine id ?_;intro a1;kernel_rfl
def qU(G:av)(N:Nat)(Y:I)(H:J):O:=
 cy H [(.int .i64 0),(.int .i64 0),(.str []),(.str []),(.int .i64 0),I.ap,(.int .i64 0),(.int .i64 0),(.int .i64 0),(.int .i64 0),(.int .i64 0)] λan U=>
 dv U (some (.aN (U).next 0 2 2 (some 2),.row false 2 [[(.str [45]),(.int .i64 12)],[(.str [33]),(.int .i64 13)]])) λbE aa=>
 BN G N N Y an bE (.int .i64 2) (.int .i64 0) aa
theorem agR(G:av)(N:Nat)(Y:I)(H:J):bn Tryz.f170 G N (cB [Y]) H=qU G N Y H:=by
 refine cL (A:=bn Tryz.f170 G N) ((bk ad ((bk ad (acq G N) ((bk ad ((fy ad ((gg (k:=λm R H=>BN G N m (R 0) (R 2) (R 9) (R 10) (R 11) H) ad (λR H=>ad) (λm=>acp G N (BN G N m)))))) (aL _))))) (aL _))) ?_;delta qU;generalize BN G N N=a1;revert a1;refine id ?_;intro a1;kernel_rfl
theorem aio(N:Nat){Y:I}{H:J}{r:I×J}(h:qU (aq P ao) N Y H=some r):aq P ao 170 [Y] H=some r:=
 cQ ad Tryz.func170 ad ad ad ((agR (aq P ao) N Y H).trans h)
def xa(G:av)(N:Nat)(an ay:I)(H:J):O:=
 ab (aj P H 103 ay) λdJ=>
 a7 H (aQ P H 103 an dJ) λU=>
 ab (aj P U 103 an) λr=>
 some (r,U)
theorem acv(G:av)(N:Nat): ∀R H,cw P G N (Code.snd (Code.snd (Code.snd (Code.snd (c6 Tryz.f178))))) (bY Tryz.f178) [] (bY Tryz.f178) R H=xa G N (R 2) (R 3) H:=by
 refine dj (aL _) λR H=> ?_
 delta xa;kernel_rfl
def qI(bD:I->I->I->I->J->O)(ay Y:I)(an ba dT:I)(aP:J):O:=
 a7 aP (aQ P aP 103 ay dT) λbq=>
 bD Y an ay ba bq
def DX(G:av)(N:Nat)(bD:I->I->I->I->J->O)(Y an:I)(ay ba:I)(H:J):O:=
 aO H (G 102 [Y] H) λcq U=>
 ab (eY .not cq) λb1=>
 aD b1 true U (di Y) λb6 aa=>
 aD b1 true aa (λq=>fk aa (G 121 [b6] aa) q) λbT ae=>
 aD b1 true ae (bh (d8 P 57 bT 0)) λbW am=>
 aD b1 true am (bh (aW P .eql 3 true bW (.int .i64 4))) λbG aB=>
 ab (cX b1 (some bG) (some (.bool false))) λcc=>
 bO (some cc) (aO aB (G 121 [Y] aB) λcA aG=>
 ab (d8 P 57 cA 1) λcx=>
 ab (nX P aG 212 ba cx false) λcz=>
 ab (aW P .eql 214 true cz I.nilFunc) λc1=>
 bO (some c1) (xa G N an ay aG) (ab (aj P aG 103 ay) λdc=>
 qJ G aG cz [Y,dc] (qI bD ay Y an ba))) (xa G N an ay aB)
def xb(G:av)(N:Nat):Nat->I->I->I->I->J->O
 |0,_,_,_,_,_=>none
 |n+1,Y,an,ay,ba,H=>DX G N (xb G N n) Y an ay ba H
theorem acu(G:av)(N:Nat)(bD:I->I->I->I->J->O): ∀R H,cw P G N (Code.fst (Code.fst (Code.fst (Code.snd (Code.snd (Code.snd (c6 Tryz.f178))))))) (λR H=>bD (R 0) (R 2) (R 3) (R 4) H) [(0,(λR H=>xa G N (R 2) (R 3) H))] (bY Tryz.f178) R H=DX G N bD (R 0) (R 2) (R 3) (R 4) H:=by
 refine dj (aL _) λR H=> ?_
 delta DX qI;generalize xa G N=a1;revert a1;refine id ?_;intro a1;kernel_rfl
def o5(G:av)(N:Nat)(Y:I)(H:J):O:=
 cy H [(.int .i64 0),(.int .i64 0),(.str []),(.str []),(.int .i64 0),I.ap,(.int .i64 0),(.int .i64 0),(.int .i64 0),(.int .i64 0),(.int .i64 0)] λan U=>
 aO U (G 181 [Y] U) λbx aa=>
 cy aa [(.int .i64 0),(.int .i64 0),(.str []),(.str []),(.int .i64 0),I.ap,(.int .i64 0),(.int .i64 0),(.int .i64 0),(.int .i64 0),(.int .i64 0)] λay ae=>
 a7 ae (aQ P ae 103 ay bx) λam=>
 aO am (G 182 [] am) λbS aB=>
 xb G N N Y an ay bS aB
theorem agU(G:av)(N:Nat)(Y:I)(H:J):bn Tryz.f178 G N (cB [Y]) H=o5 G N Y H:=by
 refine cL (A:=bn Tryz.f178 G N) ((bk ad ((bk ad ((bk ad ((bk ad (acv G N) ((fy ad ((gg (k:=λm R H=>xb G N m (R 0) (R 2) (R 3) (R 4) H) ad (λR H=>ad) (λm=>acu G N (xb G N m)))))))) (aL _))) (aL _))) (aL _))) ?_;delta o5;generalize xb G N N=a1;revert a1;refine id ?_;intro a1;kernel_rfl
theorem air(N:Nat){Y:I}{H:J}{r:I×J}(h:o5 (aq P ao) N Y H=some r):aq P ao 178 [Y] H=some r:=
 cQ ad Tryz.func178 ad ad ad ((agU (aq P ao) N Y H).trans h)
def tK(G:av)(Y an:I)(H:J):O:=
 aO H (G 120 [Y,(.int .i64 2)] H) λgk U=>
 a7 U (aQ P U 103 an (.agg [(.int .i64 0),(.int .i64 0),(.str []),(.str []),(.int .i64 0),I.ap,(.int .i64 0),(.int .i64 0),(.int .i64 0),(.int .i64 0),(.int .i64 0)])) λaa=>
 ab (aj P aa 103 an) λr=>
 some (r,aa)
theorem acw(G:av)(N:Nat): ∀R H,cw P G N (Code.snd (Code.snd (Code.snd (c6 Tryz.f181)))) (bY Tryz.f181) [] (bY Tryz.f181) R H=tK G (R 0) (R 2) H:=by
 refine dj (aL _) λR H=> ?_
 delta tK;kernel_rfl
def oe(G:av)(Y an:I)(ay cF:I)(H:J):O:=
 bO (some cF) (aO H (G 184 [] H) λei U=>
 ab (aE P 57 ay 1) λfh=>
 ab (aj P U 9 fh) λej=>
 ab (nX P U 218 ei ej false) λdW=>
 bif ((cj (aj P H 9 fh) ej&&cj (aj P U 9 fh) ej)&&true) then(ab (aW P .neq 217 true dW I.nilFunc) λfo=>
 aD fo true U (bh (aE P 57 ay 0)) λfi aa=>
 aD fo true aa (qr (aj P aa 3 fi)) λfU ae=>
 aD fo true ae (bh (aW P .eql 3 true fU (.int .i64 4))) λgb am=>
 aD fo true am (bh (aE P 57 ay 1)) λgM aB=>
 aD fo true aB (qr (aj P aB 9 gM)) λe4 aG=>
 aD fo true aG (bh (aW P .eql 9 true e4 (.str [40]))) λgR aP=>
 aD fo true aP (bh (aW P .eql 4 false gb gR)) λgB bq=>
 ab (cX fo (some gB) (some (.bool false))) λhB=>
 bO (some hB) (qJ G bq dW [Y] λix bJ=>
 a7 bJ (aQ P bJ 103 an ix) λco=>
 ab (aj P co 103 an) λr=>
 some (r,co)) (tK G Y an bq)) else none) (tK G Y an H)
theorem acx(G:av)(N:Nat): ∀R H,cw P G N (Code.snd (Code.snd (Code.snd (Code.snd (Code.snd (Code.fst (Code.snd (Code.snd (Code.fst (Code.snd (Code.snd (c6 Tryz.f181)))))))))))) (λR H=>tK G (R 0) (R 2) H) [(0,(λR H=>tK G (R 0) (R 2) H))] (bY Tryz.f181) R H=oe G (R 0) (R 2) (R 3) (R 30) H:=by
 refine dj (aL _) λR H=> ?_
 delta oe;generalize tK G=a1;revert a1;refine id ?_;intro a1;kernel_rfl
def mr(G:av)(Y:I)(H:J):O:=
 cy H [(.int .i64 0),(.int .i64 0),(.str []),(.str []),(.int .i64 0),I.ap,(.int .i64 0),(.int .i64 0),(.int .i64 0),(.int .i64 0),(.int .i64 0)] λan U=>
 aO U (G 102 [Y] U) λbu aa=>
 bO (some bu) (a7 aa (aQ P aa 103 an (.agg [(.int .i64 0),(.int .i64 0),(.str []),(.str []),(.int .i64 0),I.ap,(.int .i64 0),(.int .i64 0),(.int .i64 0),(.int .i64 0),(.int .i64 0)])) λae=>
 ab (aj P ae 103 an) λr=>
 some (r,ae)) (aO aa (G 121 [Y] aa) λbE ae=>
 cy ae [(.int .i64 0),(.str []),(.int .i64 0),(.int .i64 0)] λay am=>
 a7 am (aQ P am 57 ay bE) λaB=>
 ab (aE P 57 ay 0) λcq=>
 ab (aj P aB 3 cq) λb1=>
 ab (aW P .eql 3 true b1 (.int .i64 2)) λb6=>
 bO (some b6) (ab (b5 Y) λbW=>
 ab (aE P 133 bW 1) λbG=>
 ab (aj P aB 3 bG) λcc=>
 ab (aW P .add 3 true cc (.int .i64 1)) λcK=>
 ab (b5 Y) λcM=>
 ab (aE P 133 cM 1) λcA=>
 a7 aB (aQ P aB 3 cA cK) λaG=>
 ab (aE P 57 ay 2) λcx=>
 ab (aj P aG 3 cx) λcz=>
 ab (aE P 57 ay 3) λcH=>
 ab (aj P aG 3 cH) λc1=>
 ab (cO P 103 [(0,(.int .i64 1)),(1,cz),(5,c1)]) λdn=>
 a7 aG (aQ P aG 103 an dn) λaP=>
 ab (aj P aP 103 an) λr=>
 some (r,aP)) (ab (aW P .eql 3 true b1 (.int .i64 1)) λdc=>
 bO (some dc) (aO aB (G 183 [Y] aB) λdJ aG=>
 a7 aG (aQ P aG 103 an dJ) λaP=>
 ab (aj P aP 103 an) λr=>
 some (r,aP)) (ab (aW P .eql 3 true b1 (.int .i64 3)) λeC=>
 bO (some eC) (oe G Y an ay eC aB) (ab (aW P .eql 3 true b1 (.int .i64 4)) λdy=>
 oe G Y an ay dy aB))))
theorem agV(G:av)(N:Nat)(Y:I)(H:J):bn Tryz.f181 G N (cB [Y]) H=mr G Y H:=by
 refine cL (A:=bn Tryz.f181 G N) ((bk ad ((bk ad ((bk ad (acw G N) ((bk ad ((bk ad ((fy ad ((bk ad ((qw ad (aL _) ((bk ad ((qw ad (aL _) ((bk ad (acx G N) (aL _))))) (aL _))))) (aL _))))) (aL _))) (aL _))))) (aL _))) (aL _))) ?_;delta mr;generalize oe G=a1;revert a1;refine id ?_;intro a1;kernel_rfl
theorem ais(N:Nat){Y:I}{H:J}{r:I×J}(h:mr (aq P ao) Y H=some r):aq P ao 181 [Y] H=some r:=
 cQ ad Tryz.func181 ad ad ad ((agV (aq P ao) N Y H).trans h)
def Ag(G:av)(H:J):O:=
 dv H (some (.map (H).next,.map [])) λai U=>
 a7 U (jk P U 212 ai (.str [46]) (.func (.func 185) [] [])) λaa=>
 a7 aa (jk P aa 212 ai (.str [91]) (.func (.func 186) [] [])) λae=>
 some (ai,ae)
theorem agW(G:av)(N:Nat)(H:J):bn Tryz.f182 G N (cB []) H=Ag G H:=by
 refine cL (A:=bn Tryz.f182 G N) (aL _) ?_;delta Ag;kernel_rfl
theorem ait(N:Nat){H:J}{r:I×J}(h:Ag (aq P ao) H=some r):aq P ao 182 [] H=some r:=
 cQ ad Tryz.func182 ad ad ad ((agW (aq P ao) N H).trans h)
def uy(G:av)(Y:I)(H:J):O:=
 cy H [(.int .i64 0),(.int .i64 0),(.str []),(.str []),(.int .i64 0),I.ap,(.int .i64 0),(.int .i64 0),(.int .i64 0),(.int .i64 0),(.int .i64 0)] λan U=>
 aO U (G 121 [Y] U) λbb aa=>
 cy aa [(.int .i64 0),(.str []),(.int .i64 0),(.int .i64 0)] λay ae=>
 a7 ae (aQ P ae 57 ay bb) λam=>
 ab (b5 Y) λbx=>
 ab (aE P 133 bx 1) λbS=>
 ab (aj P am 3 bS) λbE=>
 ab (aW P .add 3 true bE (.int .i64 1)) λcq=>
 ab (b5 Y) λb1=>
 ab (aE P 133 b1 1) λcb=>
 a7 am (aQ P am 3 cb cq) λaB=>
 aO aB (G 119 [Y,(.int .i64 4),(.str [40])] aB) λbT aG=>
 ab (eY .not bT) λbW=>
 bO (some bW) (ab (aE P 57 ay 1) λbG=>
 ab (aj P aG 9 bG) λcc=>
 ab (aE P 57 ay 3) λcK=>
 ab (aj P aG 3 cK) λcM=>
 ab (cO P 103 [(0,(.int .i64 4)),(2,cc),(5,cM)]) λcA=>
 a7 aG (aQ P aG 103 an cA) λaP=>
 ab (aj P aP 103 an) λr=>
 some (r,aP)) (aO aG (G 187 [Y,(.func (.func 163) [Y] [])] aG) λdt aP=>
 ab (aE P 57 ay 1) λcx=>
 ab (aj P aP 9 cx) λcz=>
 ab (aE P 57 ay 3) λdc=>
 ab (aj P aP 3 dc) λdT=>
 ab (cO P 103 [(0,(.int .i64 7)),(2,cz),(4,dt),(5,dT)]) λdJ=>
 a7 aP (aQ P aP 103 an dJ) λbq=>
 bif ((cj (aj P aG 9 cx) cz&&(cj (aj P aP 9 cx) cz&&true))&&((cj (aj P aG 3 dc) dT&&(cj (aj P aP 3 dc) dT&&true))&&true)) then(ab (aj P bq 103 an) λr=>
 some (r,bq)) else none)
theorem agX(G:av)(N:Nat)(Y:I)(H:J):bn Tryz.f183 G N (cB [Y]) H=uy G Y H:=by
 refine cL (A:=bn Tryz.f183 G N) (aL _) ?_;delta uy;kernel_rfl
theorem aiu(N:Nat){Y:I}{H:J}{r:I×J}(h:uy (aq P ao) Y H=some r):aq P ao 183 [Y] H=some r:=
 cQ ad Tryz.func183 ad ad ad ((agX (aq P ao) N Y H).trans h)
def r3(G:av)(H:J):O:=
 dv H (some (.map (H).next,.map [])) λai U=>
 a7 U (jk P U 218 ai (.str [116,114,117,101]) (.func (.func 188) [] [])) λaa=>
 a7 aa (jk P aa 218 ai (.str [102,97,108,115,101]) (.func (.func 188) [] [])) λae=>
 a7 ae (jk P ae 218 ai (.str [110,117,108,108]) (.func (.func 189) [] [])) λam=>
 a7 am (jk P am 218 ai (.str [110,101,119]) (.func (.func 190) [] [])) λaB=>
 a7 aB (jk P aB 218 ai (.str [108,101,110]) (.func (.func 191) [] [])) λaG=>
 a7 aG (jk P aG 218 ai (.str [114,101,97,100]) (.func (.func 192) [] [])) λaP=>
 a7 aP (jk P aP 218 ai (.str [40]) (.func (.func 193) [] [])) λbq=>
 some (ai,bq)
theorem agY(G:av)(N:Nat)(H:J):bn Tryz.f184 G N (cB []) H=r3 G H:=by
 refine cL (A:=bn Tryz.f184 G N) (aL _) ?_;delta r3;kernel_rfl
theorem aiv(N:Nat){H:J}{r:I×J}(h:r3 (aq P ao) H=some r):aq P ao 184 [] H=some r:=
 cQ ad Tryz.func184 ad ad ad ((agY (aq P ao) N H).trans h)
def y9(G:av)(Y ay:I)(ba bb bu:I)(H:J):O:=
 ab (b5 Y) λdn=>
 ab (aE P 133 dn 1) λdt=>
 ab (aj P H 3 dt) λdc=>
 ab (aW P .add 3 true dc (.int .i64 1)) λdT=>
 ab (b5 Y) λdJ=>
 ab (aE P 133 dJ 1) λcF=>
 a7 H (aQ P H 3 cF dT) λU=>
 ab (aE P 57 bu 1) λeC=>
 ab (aj P U 9 eC) λdy=>
 ab (aj P U 103 ay) λei=>
 dv U (dK P (U).next 96 1 [(0,ei)]) λfh aa=>
 ab (cO P 103 [(0,(.int .i64 5)),(2,dy),(4,fh),(5,bb)]) λdW=>
 a7 aa (aQ P aa 103 ba dW) λae=>
 ab (aj P ae 103 ba) λr=>
 some (r,ae)
theorem acy(G:av)(N:Nat): ∀R H,cw P G N (Code.snd (Code.snd (Code.snd (Code.snd (Code.snd (c6 Tryz.f185)))))) (bY Tryz.f185) [] (bY Tryz.f185) R H=y9 G (R 0) (R 3) (R 4) (R 5) (R 6) H:=by
 refine dj (aL _) λR H=> ?_
 delta y9;kernel_rfl
def vW(G:av)(Y ai:I)(H:J):O:=
 dv H (eK (H).next ai) λay U=>
 cy U [(.int .i64 0),(.int .i64 0),(.str []),(.str []),(.int .i64 0),I.ap,(.int .i64 0),(.int .i64 0),(.int .i64 0),(.int .i64 0),(.int .i64 0)] λba aa=>
 aO aa (G 121 [Y] aa) λbS ae=>
 ab (d8 P 57 bS 3) λbE=>
 ab (b5 Y) λb1=>
 ab (aE P 133 b1 1) λcb=>
 ab (aj P ae 3 cb) λb6=>
 ab (aW P .add 3 true b6 (.int .i64 1)) λbT=>
 ab (b5 Y) λbW=>
 ab (aE P 133 bW 1) λbG=>
 a7 ae (aQ P ae 3 bG bT) λam=>
 aO am (G 121 [Y] am) λcK aB=>
 cy aB [(.int .i64 0),(.str []),(.int .i64 0),(.int .i64 0)] λbu aG=>
 a7 aG (aQ P aG 57 bu cK) λaP=>
 ab (aE P 57 bu 0) λcM=>
 ab (aj P aP 3 cM) λcA=>
 ab (aW P .neq 3 true cA (.int .i64 1)) λcx=>
 bO (some cx) (aO aP (G 120 [Y,(.int .i64 2)] aP) λcH bq=>
 y9 G Y ay ba bE bu bq) (y9 G Y ay ba bE bu aP)
theorem agZ(G:av)(N:Nat)(Y:I)(ai:I)(H:J):bn Tryz.f185 G N (cB [Y,ai]) H=vW G Y ai H:=by
 refine cL (A:=bn Tryz.f185 G N) ((bk ad ((bk ad ((bk ad ((bk ad ((bk ad (acy G N) (aL _))) (aL _))) (aL _))) (aL _))) (aL _))) ?_;delta vW;generalize y9 G=a1;revert a1;refine id ?_;intro a1;kernel_rfl
theorem aiw(N:Nat){Y ai:I}{H:J}{r:I×J}(h:vW (aq P ao) Y ai H=some r):aq P ao 185 [Y,ai] H=some r:=
 cQ ad Tryz.func185 ad ad ad ((agZ (aq P ao) N Y ai H).trans h)
def CF(G:av)(Y ai:I)(H:J):O:=
 dv H (eK (H).next ai) λay U=>
 cy U [(.int .i64 0),(.int .i64 0),(.str []),(.str []),(.int .i64 0),I.ap,(.int .i64 0),(.int .i64 0),(.int .i64 0),(.int .i64 0),(.int .i64 0)] λba aa=>
 aO aa (G 121 [Y] aa) λbx ae=>
 ab (d8 P 57 bx 3) λbS=>
 aO ae (G 194 [Y,(.str [91]),(.str [93])] ae) λb1 am=>
 ab (aj P am 103 ay) λbE=>
 dv am (dK P (am).next 96 2 [(0,bE),(1,b1)]) λcb aB=>
 ab (cO P 103 [(0,(.int .i64 6)),(4,cb),(5,bS)]) λbT=>
 a7 aB (aQ P aB 103 ba bT) λaG=>
 bif ((cj (aj P ae 103 ay) bE&&(cj (aj P am 103 ay) bE&&true))&&true) then(ab (aj P aG 103 ba) λr=>
 some (r,aG)) else none
theorem ag0(G:av)(N:Nat)(Y:I)(ai:I)(H:J):bn Tryz.f186 G N (cB [Y,ai]) H=CF G Y ai H:=by
 refine cL (A:=bn Tryz.f186 G N) (aL _) ?_;delta CF;kernel_rfl
theorem aix(N:Nat){Y ai:I}{H:J}{r:I×J}(h:CF (aq P ao) Y ai H=some r):aq P ao 186 [Y,ai] H=some r:=
 cQ ad Tryz.func186 ad ad ad ((ag0 (aq P ao) N Y ai H).trans h)
def vd(G:av)(N:Nat)(Y bb:I)(H:J):O:=
 aO H (G 195 [Y,(.str [41])] H) λdn U=>
 some (bb,U)
theorem acA(G:av)(N:Nat): ∀R H,cw P G N (Code.snd (Code.snd (Code.snd (Code.snd (c6 Tryz.f187))))) (bY Tryz.f187) [] (bY Tryz.f187) R H=vd G N (R 0) (R 5) H:=by
 refine dj (aL _) λR H=> ?_
 delta vd;kernel_rfl
def vc(G:av)(N:Nat)(bD:I->I->I->J->O)(Y ai bb:I)(H:J):O:=
 aO H (G 136 [Y,(.int .i64 4),(.str [44])] H) λcK U=>
 bO (some cK) (qJ G U ai [] λcx aa=>
 dv aa (dK P (aa).next 96 1 [(0,cx)]) λcz ae=>
 aO ae (fQ P ae [96,96] bb cz) λcH am=>
 bD Y ai cH am) (vd G N Y bb U)
def y_(G:av)(N:Nat):Nat->I->I->I->J->O
 |0,_,_,_,_=>none
 |n+1,Y,ai,bb,H=>vc G N (y_ G N n) Y ai bb H
theorem acz(G:av)(N:Nat)(bD:I->I->I->J->O): ∀R H,cw P G N (Code.fst (Code.fst (Code.snd (Code.fst (Code.snd (Code.fst (Code.snd (Code.snd (Code.snd (c6 Tryz.f187)))))))))) (λR H=>bD (R 0) (R 1) (R 5) H) [(0,(λR H=>vd G N (R 0) (R 5) H))] (bY Tryz.f187) R H=vc G N bD (R 0) (R 1) (R 5) H:=by
 refine dj (aL _) λR H=> ?_
 delta vc;generalize vd G N=a1;revert a1;refine id ?_;intro a1;kernel_rfl
def o6(G:av)(N:Nat)(Y ai:I)(H:J):O:=
 aO H (G 177 [Y,(.str [40])] H) λbx U=>
 ab (eY .not bx) λbS=>
 bO (some bS) (some (I.ap,U)) (aO U (G 119 [Y,(.int .i64 4),(.str [41])] U) λcq aa=>
 ab (eY .not cq) λb1=>
 bO (some b1) (qJ G aa ai [] λbT ae=>
 dv ae (dK P (ae).next 96 1 [(0,bT)]) λbW am=>
 aO am (fQ P am [96,96] I.ap bW) λbG aB=>
 y_ G N N Y ai bG aB) (vd G N Y I.ap aa))
theorem ag1(G:av)(N:Nat)(Y:I)(ai:I)(H:J):bn Tryz.f187 G N (cB [Y,ai]) H=o6 G N Y ai H:=by
 refine cL (A:=bn Tryz.f187 G N) ((bk ad ((bk ad ((bk ad ((bk ad (acA G N) ((bk ad ((qw ad ((bk ad ((fy ad ((gg (k:=λm R H=>y_ G N m (R 0) (R 1) (R 5) H) ad (λR H=>ad) (λm=>acz G N (y_ G N m)))))) (aL _))) (aL _))) (aL _))))) (aL _))) (aL _))) (aL _))) ?_;delta o6;generalize vd G N=a1;generalize y_ G N N=l8;revert a1 l8;refine id ?_;intro a1 l8;kernel_rfl
theorem aiy(N:Nat){Y ai:I}{H:J}{r:I×J}(h:o6 (aq P ao) N Y ai H=some r):aq P ao 187 [Y,ai] H=some r:=
 cQ ad Tryz.func187 ad ad ad ((ag1 (aq P ao) N Y ai H).trans h)
def xc(G:av)(an ba:I)(H:J):O:=
 ab (aj P H 103 ba) λcx=>
 a7 H (aQ P H 103 an cx) λU=>
 ab (aj P U 103 an) λr=>
 some (r,U)
theorem acB(G:av)(N:Nat): ∀R H,cw P G N (Code.snd (Code.snd (Code.snd (Code.snd (Code.snd (c6 Tryz.f188)))))) (bY Tryz.f188) [] (bY Tryz.f188) R H=xc G (R 2) (R 4) H:=by
 refine dj (aL _) λR H=> ?_
 delta xc;kernel_rfl
def CG(G:av)(Y:I)(H:J):O:=
 cy H [(.int .i64 0),(.int .i64 0),(.str []),(.str []),(.int .i64 0),I.ap,(.int .i64 0),(.int .i64 0),(.int .i64 0),(.int .i64 0),(.int .i64 0)] λan U=>
 aO U (G 121 [Y] U) λbu aa=>
 cy aa [(.int .i64 0),(.str []),(.int .i64 0),(.int .i64 0)] λay ae=>
 a7 ae (aQ P ae 57 ay bu) λam=>
 ab (b5 Y) λbS=>
 ab (aE P 133 bS 1) λbE=>
 ab (aj P am 3 bE) λcq=>
 ab (aW P .add 3 true cq (.int .i64 1)) λb1=>
 ab (b5 Y) λcb=>
 ab (aE P 133 cb 1) λb6=>
 a7 am (aQ P am 3 b6 b1) λaB=>
 ab (aE P 57 ay 3) λbT=>
 ab (aj P aB 3 bT) λbW=>
 ab (cO P 103 [(0,(.int .i64 2)),(5,bW)]) λbG=>
 cy aB [(.int .i64 0),(.int .i64 0),(.str []),(.str []),(.int .i64 0),I.ap,(.int .i64 0),(.int .i64 0),(.int .i64 0),(.int .i64 0),(.int .i64 0)] λba aG=>
 a7 aG (aQ P aG 103 ba bG) λaP=>
 ab (aE P 57 ay 1) λcc=>
 ab (aj P aP 9 cc) λcK=>
 ab (aW P .eql 9 true cK (.str [116,114,117,101])) λcM=>
 bO (some cM) (ab (aE P 103 ba 1) λcA=>
 a7 aP (aQ P aP 3 cA (.int .i64 1)) λbq=>
 xc G an ba bq) (xc G an ba aP)
theorem ag2(G:av)(N:Nat)(Y:I)(H:J):bn Tryz.f188 G N (cB [Y]) H=CG G Y H:=by
 refine cL (A:=bn Tryz.f188 G N) ((bk ad ((bk ad ((bk ad ((bk ad ((bk ad (acB G N) (aL _))) (aL _))) (aL _))) (aL _))) (aL _))) ?_;delta CG;generalize xc G=a1;revert a1;refine id ?_;intro a1;kernel_rfl
theorem aiz(N:Nat){Y:I}{H:J}{r:I×J}(h:CG (aq P ao) Y H=some r):aq P ao 188 [Y] H=some r:=
 cQ ad Tryz.func188 ad ad ad ((ag2 (aq P ao) N Y H).trans h)
def CH(G:av)(Y:I)(H:J):O:=
 cy H [(.int .i64 0),(.int .i64 0),(.str []),(.str []),(.int .i64 0),I.ap,(.int .i64 0),(.int .i64 0),(.int .i64 0),(.int .i64 0),(.int .i64 0)] λan U=>
 aO U (G 121 [Y] U) λbb aa=>
 ab (d8 P 57 bb 3) λbu=>
 ab (b5 Y) λbS=>
 ab (aE P 133 bS 1) λbE=>
 ab (aj P aa 3 bE) λcq=>
 ab (aW P .add 3 true cq (.int .i64 1)) λb1=>
 ab (b5 Y) λcb=>
 ab (aE P 133 cb 1) λb6=>
 a7 aa (aQ P aa 3 b6 b1) λae=>
 aO ae (G 101 [Y] ae) λbW am=>
 ab (cO P 103 [(0,(.int .i64 3)),(3,bW),(5,bu)]) λcc=>
 a7 am (aQ P am 103 an cc) λaB=>
 ab (aj P aB 103 an) λr=>
 some (r,aB)
theorem ag3(G:av)(N:Nat)(Y:I)(H:J):bn Tryz.f189 G N (cB [Y]) H=CH G Y H:=by
 refine cL (A:=bn Tryz.f189 G N) (aL _) ?_;delta CH;kernel_rfl
theorem aiA(N:Nat){Y:I}{H:J}{r:I×J}(h:CH (aq P ao) Y H=some r):aq P ao 189 [Y] H=some r:=
 cQ ad Tryz.func189 ad ad ad ((ag3 (aq P ao) N Y H).trans h)
def xd(G:av)(Y an:I)(ay bb:I)(H:J):O:=
 ab (b5 Y) λdW=>
 ab (aE P 133 dW 1) λef=>
 ab (aj P H 3 ef) λfo=>
 ab (aW P .add 3 true fo (.int .i64 1)) λfv=>
 ab (b5 Y) λfi=>
 ab (aE P 133 fi 1) λfU=>
 a7 H (aQ P H 3 fU fv) λU=>
 ab (aE P 57 bb 1) λgb=>
 ab (aj P U 9 gb) λgM=>
 ab (cO P 43 [(0,gM)]) λe4=>
 ab (cO P 103 [(0,(.int .i64 8)),(3,e4),(5,ay)]) λgB=>
 a7 U (aQ P U 103 an gB) λaa=>
 ab (aj P aa 103 an) λr=>
 some (r,aa)
theorem acC(G:av)(N:Nat): ∀R H,cw P G N (Code.snd (Code.snd (Code.snd (Code.snd (Code.snd (Code.snd (c6 Tryz.f190))))))) (bY Tryz.f190) [] (bY Tryz.f190) R H=xd G (R 0) (R 2) (R 3) (R 5) H:=by
 refine dj (aL _) λR H=> ?_
 delta xd;kernel_rfl
def p0(G:av)(Y:I)(H:J):O:=
 cy H [(.int .i64 0),(.int .i64 0),(.str []),(.str []),(.int .i64 0),I.ap,(.int .i64 0),(.int .i64 0),(.int .i64 0),(.int .i64 0),(.int .i64 0)] λan U=>
 aO U (G 121 [Y] U) λbx aa=>
 ab (d8 P 57 bx 3) λbS=>
 ab (b5 Y) λcq=>
 ab (aE P 133 cq 1) λb1=>
 ab (aj P aa 3 b1) λcb=>
 ab (aW P .add 3 true cb (.int .i64 1)) λb6=>
 ab (b5 Y) λbT=>
 ab (aE P 133 bT 1) λbW=>
 a7 aa (aQ P aa 3 bW b6) λae=>
 aO ae (G 136 [Y,(.int .i64 4),(.str [91])] ae) λcc am=>
 bO (some cc) (aO am (G 101 [Y] am) λcM aB=>
 cy aB [(.str []),(.int .i64 0)] λba aG=>
 a7 aG (aQ P aG 43 ba cM) λaP=>
 aO aP (G 122 [Y,(.str [93])] aP) λcx bq=>
 aO bq (G 194 [Y,(.str [40]),(.str [41])] bq) λc1 bJ=>
 ab (aj P bJ 43 ba) λcz=>
 dv bJ (dK P (bJ).next 96 1 [(0,c1)]) λdn co=>
 ab (cO P 103 [(0,(.int .i64 9)),(3,cz),(4,dn),(5,bS)]) λdc=>
 a7 co (aQ P co 103 an dc) λds=>
 bif ((cj (aj P bq 43 ba) cz&&(cj (aj P bJ 43 ba) cz&&(cj (aj P co 43 ba) cz&&true)))&&true) then(ab (aj P ds 103 an) λr=>
 some (r,ds)) else none) (aO am (G 121 [Y] am) λdJ aB=>
 cy aB [(.int .i64 0),(.str []),(.int .i64 0),(.int .i64 0)] λbb aG=>
 a7 aG (aQ P aG 57 bb dJ) λaP=>
 ab (aE P 57 bb 0) λcF=>
 ab (aj P aP 3 cF) λeC=>
 ab (aW P .neq 3 true eC (.int .i64 1)) λdy=>
 bO (some dy) (aO aP (G 120 [Y,(.int .i64 2)] aP) λfh bq=>
 xd G Y an bS bb bq) (xd G Y an bS bb aP))
theorem ag4(G:av)(N:Nat)(Y:I)(H:J):bn Tryz.f190 G N (cB [Y]) H=p0 G Y H:=by
 refine cL (A:=bn Tryz.f190 G N) ((bk ad ((bk ad ((bk ad ((bk ad ((bk ad ((bk ad (acC G N) (aL _))) (aL _))) (aL _))) (aL _))) (aL _))) (aL _))) ?_;delta p0;generalize xd G=a1;revert a1;refine id ?_;intro a1;kernel_rfl
theorem aiB(N:Nat){Y:I}{H:J}{r:I×J}(h:p0 (aq P ao) Y H=some r):aq P ao 190 [Y] H=some r:=
 cQ ad Tryz.func190 ad ad ad ((ag4 (aq P ao) N Y H).trans h)
def CI(G:av)(Y:I)(H:J):O:=
 cy H [(.int .i64 0),(.int .i64 0),(.str []),(.str []),(.int .i64 0),I.ap,(.int .i64 0),(.int .i64 0),(.int .i64 0),(.int .i64 0),(.int .i64 0)] λan U=>
 aO U (G 121 [Y] U) λbb aa=>
 ab (d8 P 57 bb 3) λbu=>
 ab (b5 Y) λbS=>
 ab (aE P 133 bS 1) λbE=>
 ab (aj P aa 3 bE) λcq=>
 ab (aW P .add 3 true cq (.int .i64 1)) λb1=>
 ab (b5 Y) λcb=>
 ab (aE P 133 cb 1) λb6=>
 a7 aa (aQ P aa 3 b6 b1) λae=>
 aO ae (G 194 [Y,(.str [40]),(.str [41])] ae) λbW am=>
 dv am (dK P (am).next 96 1 [(0,bW)]) λbG aB=>
 ab (cO P 103 [(0,(.int .i64 10)),(4,bG),(5,bu)]) λcK=>
 a7 aB (aQ P aB 103 an cK) λaG=>
 ab (aj P aG 103 an) λr=>
 some (r,aG)
theorem ag5(G:av)(N:Nat)(Y:I)(H:J):bn Tryz.f191 G N (cB [Y]) H=CI G Y H:=by
 refine cL (A:=bn Tryz.f191 G N) (aL _) ?_;delta CI;kernel_rfl
theorem aiC(N:Nat){Y:I}{H:J}{r:I×J}(h:CI (aq P ao) Y H=some r):aq P ao 191 [Y] H=some r:=
 cQ ad Tryz.func191 ad ad ad ((ag5 (aq P ao) N Y H).trans h)
def tL(G:av)(an ay:I)(H:J):O:=
 ab (cO P 103 [(0,(.int .i64 11)),(5,ay)]) λcM=>
 a7 H (aQ P H 103 an cM) λU=>
 ab (aj P U 103 an) λr=>
 some (r,U)
theorem acD(G:av)(N:Nat): ∀R H,cw P G N (Code.snd (Code.snd (Code.snd (Code.snd (c6 Tryz.f192))))) (bY Tryz.f192) [] (bY Tryz.f192) R H=tL G (R 2) (R 3) H:=by
 refine dj (aL _) λR H=> ?_
 delta tL;kernel_rfl
def x6(G:av)(Y:I)(H:J):O:=
 cy H [(.int .i64 0),(.int .i64 0),(.str []),(.str []),(.int .i64 0),I.ap,(.int .i64 0),(.int .i64 0),(.int .i64 0),(.int .i64 0),(.int .i64 0)] λan U=>
 aO U (G 121 [Y] U) λbb aa=>
 ab (d8 P 57 bb 3) λbu=>
 ab (b5 Y) λbS=>
 ab (aE P 133 bS 1) λbE=>
 ab (aj P aa 3 bE) λcq=>
 ab (aW P .add 3 true cq (.int .i64 1)) λb1=>
 ab (b5 Y) λcb=>
 ab (aE P 133 cb 1) λb6=>
 a7 aa (aQ P aa 3 b6 b1) λae=>
 aO ae (G 177 [Y,(.str [40])] ae) λbW am=>
 bO (some bW) (aO am (G 195 [Y,(.str [41])] am) λcc aB=>
 tL G an bu aB) (tL G an bu am)
theorem ag6(G:av)(N:Nat)(Y:I)(H:J):bn Tryz.f192 G N (cB [Y]) H=x6 G Y H:=by
 refine cL (A:=bn Tryz.f192 G N) ((bk ad ((bk ad ((bk ad ((bk ad (acD G N) (aL _))) (aL _))) (aL _))) (aL _))) ?_;delta x6;generalize tL G=a1;revert a1;refine id ?_;intro a1;kernel_rfl
theorem aiD(N:Nat){Y:I}{H:J}{r:I×J}(h:x6 (aq P ao) Y H=some r):aq P ao 192 [Y] H=some r:=
 cQ ad Tryz.func192 ad ad ad ((ag6 (aq P ao) N Y H).trans h)
def EJ(G:av)(Y:I)(H:J):O:=
 cy H [(.int .i64 0),(.int .i64 0),(.str []),(.str []),(.int .i64 0),I.ap,(.int .i64 0),(.int .i64 0),(.int .i64 0),(.int .i64 0),(.int .i64 0)] λan U=>
 aO U (G 194 [Y,(.str [40]),(.str [41])] U) λba aa=>
 a7 aa (aQ P aa 103 an ba) λae=>
 ab (aj P ae 103 an) λr=>
 some (r,ae)
theorem ag7(G:av)(N:Nat)(Y:I)(H:J):bn Tryz.f193 G N (cB [Y]) H=EJ G Y H:=by
 refine cL (A:=bn Tryz.f193 G N) (aL _) ?_;delta EJ;kernel_rfl
theorem aiE(N:Nat){Y:I}{H:J}{r:I×J}(h:EJ (aq P ao) Y H=some r):aq P ao 193 [Y] H=some r:=
 cQ ad Tryz.func193 ad ad ad ((ag7 (aq P ao) N Y H).trans h)
def x7(G:av)(Y ai an:I)(H:J):O:=
 cy H [(.int .i64 0),(.int .i64 0),(.str []),(.str []),(.int .i64 0),I.ap,(.int .i64 0),(.int .i64 0),(.int .i64 0),(.int .i64 0),(.int .i64 0)] λbu U=>
 aO U (G 177 [Y,ai] U) λcq aa=>
 ab (eY .not cq) λb1=>
 bO (some b1) (a7 aa (aQ P aa 103 bu (.agg [(.int .i64 0),(.int .i64 0),(.str []),(.str []),(.int .i64 0),I.ap,(.int .i64 0),(.int .i64 0),(.int .i64 0),(.int .i64 0),(.int .i64 0)])) λae=>
 ab (aj P ae 103 bu) λr=>
 some (r,ae)) (aO aa (G 163 [Y] aa) λbT ae=>
 cy ae [(.int .i64 0),(.int .i64 0),(.str []),(.str []),(.int .i64 0),I.ap,(.int .i64 0),(.int .i64 0),(.int .i64 0),(.int .i64 0),(.int .i64 0)] λbx am=>
 a7 am (aQ P am 103 bx bT) λaB=>
 aO aB (G 195 [Y,an] aB) λcc aG=>
 ab (aj P aG 103 bx) λcK=>
 a7 aG (aQ P aG 103 bu cK) λaP=>
 ab (aj P aP 103 bu) λr=>
 some (r,aP))
theorem ag8(G:av)(N:Nat)(Y:I)(ai:I)(an:I)(H:J):bn Tryz.f194 G N (cB [Y,ai,an]) H=x7 G Y ai an H:=by
 refine cL (A:=bn Tryz.f194 G N) (aL _) ?_;delta x7;kernel_rfl
theorem aiF(N:Nat){Y ai an:I}{H:J}{r:I×J}(h:x7 (aq P ao) Y ai an H=some r):aq P ao 194 [Y,ai,an] H=some r:=
 cQ ad Tryz.func194 ad ad ad ((ag8 (aq P ao) N Y ai an H).trans h)
def HT(G:av)(H:J):O:=
 dv H (some (.aN (H).next 0 1 2 (some 1),.row false 2 [[(.str [124,124]),(.int .i64 24)]])) λan U=>
 dv U (some (.aN (U).next 0 1 2 (some 1),.row false 2 [[(.str [38,38]),(.int .i64 23)]])) λba aa=>
 dv aa (some (.aN (aa).next 0 4 2 (some 4),.row false 2 [[(.str [60]),(.int .i64 19)],[(.str [60,61]),(.int .i64 20)],[(.str [61,61]),(.int .i64 21)],[(.str [33,61]),(.int .i64 22)]])) λbE ae=>
 dv ae (some (.aN (ae).next 0 2 2 (some 2),.row false 2 [[(.str [43]),(.int .i64 14)],[(.str [45]),(.int .i64 15)]])) λcb am=>
 dv am (some (.aN (am).next 0 3 2 (some 3),.row false 2 [[(.str [42]),(.int .i64 16)],[(.str [47]),(.int .i64 17)],[(.str [37]),(.int .i64 18)]])) λbG aB=>
 dv aB (dK P (aB).next 131 5 [(0,an),(1,ba),(2,bE),(3,cb),(4,bG)]) λcc aG=>
 some (cc,aG)
theorem agO(G:av)(N:Nat)(H:J):bn Tryz.f162 G N (cB []) H=HT G H:=by
 refine cL (A:=bn Tryz.f162 G N) (aL _) ?_;delta HT;kernel_rfl
theorem ail(N:Nat){H:J}{r:I×J}(h:HT (aq P ao) H=some r):aq P ao 162 [] H=some r:=
 cQ ad Tryz.func162 ad ad ad ((agO (aq P ao) N H).trans h)
def AQ(G:av)(Y ai:I)(H:J):O:=
 cy H [(.str []),(.int .i64 0)] λba U=>
 cy U [(.int .i64 0),(.int .i64 0)] λbu aa=>
 ab (cO P 133 [(0,Y),(1,ai)]) λb1=>
 dv aa (eK (aa).next b1) λcb ae=>
 aO ae (G 101 [cb] ae) λbT am=>
 cy am [(.str []),(.int .i64 0)] λbS aB=>
 a7 aB (aQ P aB 43 bS bT) λaG=>
 aO aG (G 102 [cb] aG) λbG aP=>
 bO (some bG) (a7 aP (aQ P aP 43 ba (.agg [(.str []),(.int .i64 0)])) λbq=>
 ab (b5 cb) λcM=>
 ab (aE P 133 cM 4) λcA=>
 ab (aj P bq 29 cA) λcx=>
 a7 bq (aQ P bq 29 bu cx) λbJ=>
 bif ((cj (aj P aP 29 cA) cx&&(cj (aj P bq 29 cA) cx&&true))&&true) then(ab (aj P bJ 43 ba) λr=>
 ab (aj P bJ 29 bu) λmz=>
 some (.tuple [r,(.int .i64 0),mz],bJ)) else none) (ab (aj P aP 43 bS) λcz=>
 a7 aP (aQ P aP 43 ba cz) λbq=>
 ab (b5 cb) λc1=>
 ab (aE P 133 c1 1) λdn=>
 ab (aj P bq 3 dn) λdt=>
 a7 bq (aQ P bq 29 bu (.agg [(.int .i64 0),(.int .i64 0)])) λbJ=>
 bif ((cj (aj P aP 3 dn) dt&&(cj (aj P bq 3 dn) dt&&true))&&true) then(ab (aj P bJ 43 ba) λr=>
 ab (aj P bJ 29 bu) λmz=>
 some (.tuple [r,dt,mz],bJ)) else none)
theorem ajA(G:av)(N:Nat)(Y:I)(ai:I)(H:J):bn Tryz.f73 G N (cB [Y,ai]) H=AQ G Y ai H:=by
 refine cL (A:=bn Tryz.f73 G N) (aL _) ?_;delta AQ;kernel_rfl
theorem alE(N:Nat){Y ai:I}{H:J}{r:I×J}(h:AQ (aq P ao) Y ai H=some r):aq P ao 73 [Y,ai] H=some r:=
 cQ ad Tryz.func73 ad ad ad ((ajA (aq P ao) N Y ai H).trans h)
def x4(G:av)(Y ai an:I)(H:J):O:=
 cy H [(.int .i64 0),(.int .i64 0),(.str []),(.str []),(.int .i64 0),I.ap,(.int .i64 0),(.int .i64 0),(.int .i64 0),(.int .i64 0),(.int .i64 0)] λbu U=>
 cy U [(.int .i64 0),(.int .i64 0)] λbS aa=>
 bg P .max [3,3] [an,(.int .i64 0)] aa λbT=>
 aO aa (G 162 [] aa) λbW ae=>
 ab (cO P 133 [(0,Y),(1,ai),(2,bT),(3,bW)]) λbG=>
 dv ae (eK (ae).next bG) λcc am=>
 aO am (G 163 [cc] am) λcM aB=>
 cy aB [(.int .i64 0),(.int .i64 0),(.str []),(.str []),(.int .i64 0),I.ap,(.int .i64 0),(.int .i64 0),(.int .i64 0),(.int .i64 0),(.int .i64 0)] λcq aG=>
 a7 aG (aQ P aG 103 cq cM) λaP=>
 aO aP (G 102 [cc] aP) λcx bq=>
 bO (some cx) (a7 bq (aQ P bq 103 bu (.agg [(.int .i64 0),(.int .i64 0),(.str []),(.str []),(.int .i64 0),I.ap,(.int .i64 0),(.int .i64 0),(.int .i64 0),(.int .i64 0),(.int .i64 0)])) λbJ=>
 ab (b5 cc) λc1=>
 ab (aE P 133 c1 4) λdn=>
 ab (aj P bJ 29 dn) λdt=>
 a7 bJ (aQ P bJ 29 bS dt) λco=>
 bif ((cj (aj P bq 29 dn) dt&&(cj (aj P bJ 29 dn) dt&&true))&&true) then(ab (aj P co 103 bu) λr=>
 ab (aj P co 29 bS) λmz=>
 some (.tuple [r,(.int .i64 0),mz],co)) else none) (ab (aj P bq 103 cq) λdc=>
 a7 bq (aQ P bq 103 bu dc) λbJ=>
 ab (b5 cc) λdJ=>
 ab (aE P 133 dJ 1) λcF=>
 ab (aj P bJ 3 cF) λeC=>
 a7 bJ (aQ P bJ 29 bS (.agg [(.int .i64 0),(.int .i64 0)])) λco=>
 bif ((cj (aj P bq 3 cF) eC&&(cj (aj P bJ 3 cF) eC&&true))&&true) then(ab (aj P co 103 bu) λr=>
 ab (aj P co 29 bS) λmz=>
 some (.tuple [r,eC,mz],co)) else none)
theorem agI(G:av)(N:Nat)(Y:I)(ai:I)(an:I)(H:J):bn Tryz.f153 G N (cB [Y,ai,an]) H=x4 G Y ai an H:=by
 refine cL (A:=bn Tryz.f153 G N) (aL _) ?_;delta x4;kernel_rfl
theorem aif(N:Nat){Y ai an:I}{H:J}{r:I×J}(h:x4 (aq P ao) Y ai an H=some r):aq P ao 153 [Y,ai,an] H=some r:=
 cQ ad Tryz.func153 ad ad ad ((agI (aq P ao) N Y ai an H).trans h)
end
end
end Go.Proofs.YtghmbpmaafnodaaGreatDoor
