/-
  Texts of one proof, laid together: Z9 Z10 Z11 ShB.
-/
import Derived.Test.YtghmbpmaafnodaaGreatDoorME
import Derived.Test.YtghmbpmaafnodaaGreatDoorMD
set_option linter.unusedVariables false
set_option linter.unusedSimpArgs false
namespace Go.Proofs.YtghmbpmaafnodaaGreatDoor
open Go.f7
section
theorem ab2{T:List Tok}{s:aw}(ak:s.aA=0)(e:bh):e4 (kF T e s) (bh.mk {kind:=5,name:=(da T (aE s)).1,pos:=(aq T s.at_).pos} [e],(da T (aE s)).2):=by
 have aX:(aE s).aA=0:=ak;by_cases ah:(aq T (aE s).at_).kind=1
 ·refine Or.inl ⟨?_,?_⟩
  ·have ay:((aq T (aE s).at_).kind != 1)=false:=by simp[ah]
   simp only[kF,ay,bi];exact ak
  ·simp[kF,da,ah,aX]
 ·have ay:((aq T (aE s).at_).kind==1)=false:=by simpa using ah
  have hZ:((aq T (aE s).at_).kind != 1)=true:=by simpa using ah
  have aa:=qC (T:=T) aX 2;refine Or.inr ⟨?_,?_,?_⟩
  ·simp only[kF,hZ,bx];show(cL T 2 (aE s)).aA≠0;rw[aa.1];decide
  ·simp only[kF,da,ay,hZ,bx,Bool.and_false,bi];rfl
  ·simp only[kF,da,ay,hZ,bx,Bool.and_false,bi];rfl
theorem acj{T:List Tok}(aH:T.length<=40000000){s:aw}(ak:s.aA=0)(ah:(aq T s.at_).kind≠0)(e:bh):left T (kF T e s).2+1<=left T s:=by
 have aX:=rr aH ak ah;have eX:(aE s).aA=0:=ak;by_cases eZ:(aq T (aE s).at_).kind=1
 ·have ay:((aq T (aE s).at_).kind != 1)=false:=by simp[eZ]
  have:=rr aH eX (by rw[eZ];decide);simp only[kF,ay,bi];omega
 ·have ay:((aq T (aE s).at_).kind != 1)=true:=by simpa using eZ
  have aa:(aE (cL T 2 (aE s))).aA≠0:=by show(cL T 2 (aE s)).aA≠0;rw[(qC eX 2).1];decide
  simp only[kF,ay,bx,rm aa];omega
theorem J6{T:List Tok}(aH:T.length<=40000000){k:Nat}(aT: ∀j,j<k->qX T j): ∀(c n cg:Nat) (s s':aw) (e cC:bh),left T s<=c->c<=k->30*c+12<=n->30*c+12<=cg->g_ s s'->(s.aA=0->cC=e)->hS T s (jh T n e s) (jV T cg cC s')
 |c,0,cg,s,s',e,cC,U,aa,ae,hY,al,aB=>Z
 |c,n+1,0,s,s',e,cC,U,aa,ae,hY,al,aB=>Z
 |c,n+1,cg+1,s,s',e,cC,U,aa,ae,hY,al,aB=>by
  by_cases ak:s.aA=0
  ·obtain⟨_,rfl⟩:s.aA=0/\s'=s:=al.resolve_right (by rintro⟨h,_⟩;exact h ak);cases aB ak;have ay:(s'.aA==0)=true:=by simpa using ak
   have aI:b2 T s' [46]=((aq T s'.at_).kind==4&&(aq T s'.at_).text==[46]):=by show b4 T s' 4 [46]=_;simp only[b4,ay,Bool.true_and]
   have bc:b2 T s' [91]=((aq T s'.at_).kind==4&&(aq T s'.at_).text==[91]):=by show b4 T s' 4 [91]=_;simp only[b4,ay,Bool.true_and]
   cases ah:(aq T s'.at_).kind==4 with
   |false=>exact⟨(e,s'),(e,s'),by simp[jh,ay,ah],by simp[jV,aI,bc,ah],.inl ⟨ak,rfl⟩,bL _⟩
   |true=>
    have ape:(aq T s'.at_).kind=4:=by simpa using ah
    cases bb:(aq T s'.at_).text==[46] with
    |true=>
     have ax:=acj aH ak (by rw[ape];decide) e;have aO:=ab2 (T:=T) ak e;have:=(J6 aH aT (c-1) n cg _ _ (kF T e s').1 _ Z Z Z Z aO.st (λbA=>by
      rcases aO with⟨_,h⟩|⟨h,_⟩
      ·exact congrArg Prod.fst h
      ·exact absurd bA h)).le (s0:=s') Z
     simpa [jh,ay,ah,bb,jV,aI] using this
    |false=>
     cases bg:(aq T s'.at_).text==[91] with
     |false=>exact⟨(e,s'),(e,s'),by simp[jh,ay,ah,bb,bg],by simp[jV,aI,bc,ah,bb,bg],.inl ⟨ak,rfl⟩,bL _⟩
     |true=>
      obtain⟨n,rfl⟩: ∃m,n=m+1:=⟨n-1,Z⟩;have AC: ∀j,j<c->qX T j:=λj bP=>aT j Z
      rcases KP aH AC ak U (x:=[91]) rfl 0 n cg Z Z Z with⟨cZ,dk,p,q,dJ,eL,iJ,wB⟩|⟨cZ,dk,dJ,eL,iJ⟩
      ·have CT:=u1 (T:=T) (x:=[93]) iJ.st rfl;have arE:=Bi aH p.2 [93];have:=(J6 aH aT (c-1) (n+1) cg (jW T [93] p.2).2 (f0 T [93] q.2) (.mk {kind:=6,pos:=(aq T s'.at_).pos} [e,p.1]) (.mk {kind:=6,pos:=(aq T s'.at_).pos} [e,q.1]) Z Z Z Z CT (λbA=>by
        rcases iJ with⟨_,rfl⟩|⟨h,_⟩
        ·rfl
        ·exact absurd bA (O1 h _))).le (s0:=s') Z
       simpa [jh,ay,ah,bb,bg,kg,cZ,dJ,jV,aI,bc,eL] using this
      ·have ce:(eE T [91] s').aA≠0:=by rw[dJ];exact dk
       have cn:((eG T [91] s').2.aA==0)=false:=by simpa using dk
       have x6:(f0 T [93] (eE T [91] s'))=fU (eE T [91] s'):=by simp[f0,cq,hg ce,iK ce]
       have lT:(fU (eE T [91] s')).aA≠0:=ce;refine⟨(.mk {kind:=6,pos:=(aq T s'.at_).pos} [e,.zero],(eG T [91] s').2),(.mk {kind:=6,pos:=(aq T s'.at_).pos} [e,xu T (eE T [91] s')],fU (eE T [91] s')),?_,?_,.inr ⟨dk,dJ,eL⟩,?_⟩
       ·simp[jh,ay,ah,bb,bg,kg,cZ,cn]
       ·simp[jV,aI,bc,ah,bb,bg,iJ,x6,Ju lT cg Z]
       ·simp only[rm dk];omega
  ·have eX:s'.aA≠0:=by
    rcases al with⟨h,_⟩|⟨_,h,_⟩
    ·exact absurd h ak
    ·rw[h];exact ak
   have ay:(s.aA==0)=false:=by simpa using ak
   exact⟨(e,s),(cC,s'),by simp[jh,ay],Ju eX (cg+1) Z cC,e4.of al λh=>absurd h ak,bL _⟩
end
section
theorem hS.pure{α:Type}{T:List Tok}{s:aw}{p q:α×aw}(h:e4 p q)(ax:left T p.2<=left T s):hS T s (some p) (some q):=⟨p,q,rfl,rfl,h,ax⟩
theorem hS.map{α β:Type}{T:List Tok}{s:aw}{a b:Option (α×aw)}(h:hS T s a b)(f:α->β):hS T s (a.bind λp=>some (f p.1,p.2)) (b.bind λp=>some (f p.1,p.2)):=by
 obtain⟨p,q,rfl,rfl,ae,al⟩:=h;refine⟨(f p.1,p.2),(f q.1,q.2),rfl,rfl,?_,al⟩;rcases ae with⟨h,rfl⟩|⟨h,U,aa⟩
 ·exact .inl ⟨h,rfl⟩
 ·exact .inr ⟨h,U,aa⟩
theorem adQ{T:List Tok}(aH:T.length<=40000000){k:Nat}(aT: ∀j,j<k->qX T j){s:aw}(ak:s.aA=0)(ah:(aq T s.at_).kind=1)(aO:left T s<=k)(n cg:Nat)(aV:30*k+9<=n)(hk:30*k+9<=cg):
  hS T s (um T (n+1) s) (bif b2 T (da T s).2 [40] then(mJ T (cg+1) (da T s).2).bind λp=>some (.mk {kind:=7,name:=(da T s).1,pos:=(aq T s.at_).pos} p.1,p.2) else some (.mk {kind:=4,name:=(da T s).1,pos:=(aq T s.at_).pos} [],(da T s).2)):=by
 have dX:da T s=((aq T s.at_).text,aE s):=by simp[da,ak,ah]
 have aX:=rr aH ak (by rw[ah];decide);have aI:b2 T (aE s) [40]=b4 T (aE s) 4 [40]:=rfl;rw[dX];simp only[um,aI];cases b4 T (aE s) 4 [40] with
 |true=>
  obtain⟨n,rfl⟩: ∃m,n=m+1:=⟨n-1,Z⟩;have:=adu aH (k:=k-1) (λj bP=>aT j Z) (s:=aE s) ak Z n cg Z Z;exact(this.map λl=>bh.mk {kind:=7,name:=(aq T s.at_).text,pos:=(aq T s.at_).pos} l).le Z
 |false=>exact hS.pure (.inl ⟨ak,rfl⟩) (by simp only;omega)
theorem ab9{T:List Tok}(aH:T.length<=40000000){k:Nat}(aT: ∀j,j<k->qX T j){s:aw}(ak:s.aA=0)(ah:(aq T s.at_).kind=3)(aO:left T s<=k)(n cg:Nat)(aV:30*k+9<=n)(hk:30*k+9<=cg):
  hS T s (sG T (n+1) s) (pP T (cg+1) (aq T s.at_).pos (aE s)):=by
 have aX:=rr aH ak (by rw[ah];decide);have Aq:(aE s).aA=0:=ak;have aI:b2 T (aE s) [91]=b4 T (aE s) 4 [91]:=rfl;simp only[sG,pP,aI];cases ay:b4 T (aE s) 4 [91] with
 |true=>
  have r_:=ru aH cl ay;have bs:=of_same T (aE (aE s));have hw:=Bq (T:=T) (x:=[93]) bs.st rfl;have Fh:=K5 aH (aE (aE s));have lV:=Bn aH (eJ T (aE (aE s))).2 [93];simp only[bx];obtain⟨n,rfl⟩: ∃m,n=m+1:=⟨n-1,Z⟩;obtain⟨cg,rfl⟩: ∃m,cg=m+1:=⟨cg-1,Z⟩;by_cases bA:(cY T [93] (eJ T (aE (aE s))).2).2.aA=0
  ·have apq:(eJ T (aE (aE s))).2.aA=0:=by
    by_cases h:(eJ T (aE (aE s))).2.aA=0
    ·exact h
    ·exact absurd bA (by simp only[cY,l2 h,bi,iK h];exact h)
   have Y7:=(bs.resolve_right (by rintro⟨h,_⟩;exact h apq)).2;have Zb:=(hw.resolve_right (by rintro⟨h,_⟩;exact h bA)).2;rw[Y7] at Zb;rw[Y7,Zb];have:=J2 aH (k:=k-1) (λj bP=>aT j Z) (s:=(cY T [93] (eJ T (aE (aE s))).2).2) bA Z n cg Z Z;exact(this.map λe=>bh.mk {kind:=9,eQ:=(eJ T (aE (aE s))).1.1,fS:=(eJ T (aE (aE s))).1.2,pos:=(aq T s.at_).pos} [e]).le Z
  ·have NC:=hw.resolve_left (by rintro⟨h,_⟩;exact bA h);have ce:(cq T [93] (e5 T (aE (aE s))).2).aA≠0:=by rw[NC.2.1];exact bA
   have dS:(eG T [40] (cY T [93] (eJ T (aE (aE s))).2).2)=(false,(cY T [93] (eJ T (aE (aE s))).2).2):=by simp[eG,l2 bA,iK bA]
   have cn:eE T [40] (cq T [93] (e5 T (aE (aE s))).2)=ig (cq T [93] (e5 T (aE (aE s))).2):=by
    simp only[eE,hg ce,Bool.false_and,bi];rw[cq,hg ce,bi,iK ce]
   have Nb:(ig (cq T [93] (e5 T (aE (aE s))).2)).aA≠0:=ce;have aS:f0 T [41] (ig (cq T [93] (e5 T (aE (aE s))).2))=fU (ig (cq T [93] (e5 T (aE (aE s))).2)):=by
    unfold f0;rw[cq,hg Nb,bi,iK Nb]
   have apA:kg T (n+1) [40] [41] (cY T [93] (eJ T (aE (aE s))).2).2=some (.zero,(cY T [93] (eJ T (aE (aE s))).2).2):=by simp[kg,dS]
   have kP:ld T (cg+1) (cq T [93] (e5 T (aE (aE s))).2)=some (xu T (ig (cq T [93] (e5 T (aE (aE s))).2)),fU (ig (cq T [93] (e5 T (aE (aE s))).2))):=by
    simp only[ld,cn,Ba Nb cg 0 Z Z,Option.bind_some,aS]
   simp only[apA,kP,Option.bind_some];exact hS.pure (.inr ⟨bA,NC.2.1,NC.2.2⟩) (by simp only[rm bA];omega)
 |false=>
  simp only[bi];by_cases eZ:(aq T (aE s).at_).kind=1
  ·have ay:((aq T (aE s).at_).kind != 1)=false:=by simp[eZ]
   have:=rr aH Aq (by rw[eZ];decide);have ha:da T (aE s)=((aq T (aE s).at_).text,aE (aE s)):=by simp[da,Aq,eZ]
   simp only[ay,bi,ha];exact hS.pure (.inl ⟨ak,rfl⟩) (by simp only;omega)
  ·have ay:((aq T (aE s).at_).kind==1)=false:=by simpa using eZ
   have hZ:((aq T (aE s).at_).kind != 1)=true:=by simpa using eZ
   have aa:=qC (T:=T) Aq 2;have ae:(aE (cL T 2 (aE s))).aA≠0:=by show(cL T 2 (aE s)).aA≠0;rw[aa.1];decide
   simp only[hZ,bx,da,ay,Bool.and_false,bi];exact hS.pure (.inr ⟨ae,rfl,rfl⟩) (by simp only[rm ae];omega)
end
section
theorem Ea{T:List Tok}{s:aw}(ak:s.aA=0)(x:bk):b2 T s x=((aq T s.at_).kind==kw x&&(aq T s.at_).text==x):=by simp[b2,b4,ak]
theorem ack{T:List Tok}(aH:T.length<=40000000)(s:aw)(x:bk):left T (eG T x s).2<=left T s:=by
 cases h:b4 T s 4 x with
 |true=>
  simp only[eG,h,bx];split
  ·exact yG s 4
  ·have:=ru aH cl h;have e:left T {s with at_:=hD (s.at_+1),bN:=hD (s.bN+1)}=left T (aE s):=rfl;simp only[e];omega
 |false=>simp only[eG,h,bi];exact yG s 2
theorem adZ{T:List Tok}{s:aw}(ak:s.aA=0):e4 (p0 T s) (bh.mk {kind:=11,pos:=(aq T s.at_).pos} [],f0 T [41] (eE T [40] (aE s))):=by
 have Aq:(aE s).aA=0:=ak;simp only[p0];rcases Kd (T:=T) Aq (x:=[40]) rfl with⟨U,aa,ae,al⟩|⟨U,aa,ae⟩
 ·simp only[U,ae,al,bx];exact e4.of (u1 (.refl _) rfl) λ_=>rfl
 ·simp only[U,bi];have hY:=ae.resolve_left (by rintro⟨h,_⟩;exact aa h);have ce:(eE T [40] (aE s)).aA≠0:=by rw[hY.2.1];exact aa
  refine .inr ⟨aa,?_,?_⟩<;>simp[f0,cq,hg ce,iK ce,fU,hY.2.1,hY.2.2]
theorem adL{T:List Tok}(aH:T.length<=40000000)(s:aw):left T (p0 T s).2<=left T (aE s):=by
 have U:=ack aH (aE s) [40];simp only[p0];cases(eG T [40] (aE s)).1 with
 |true=>simp only[bx];have:=Bi aH (eG T [40] (aE s)).2 [41];omega
 |false=>simp only[bi];omega
theorem adE{T:List Tok}{s:aw}(ak:s.aA=0)(U:(aq T s.at_).kind≠1):da T s=([],cL T 2 s)/\(cL T 2 s).aA≠0:=by
 have ay:((aq T s.at_).kind==1)=false:=by simpa using U
 exact⟨by simp[da,ay],by rw[(qC ak 2).1];decide⟩
theorem ab4{T:List Tok}(aH:T.length<=40000000){k:Nat}(aT: ∀j,j<k->qX T j){s:aw}(ak:s.aA=0)(aO:left T s<=k)(n cg:Nat)(aV:30*k+10<=n)(hk:30*k+10<=cg):
  hS T s (oo T (n+1) s) (l5 T (cg+1) s):=by
 obtain⟨n,rfl⟩: ∃m,n=m+1:=⟨n-1,Z⟩;obtain⟨cg,rfl⟩: ∃m,cg=m+1:=⟨cg-1,Z⟩;have ay:(s.aA==0)=true:=by simpa using ak
 have cS:kw [116,114,117,101]=3:=rfl;have dq:kw [102,97,108,115,101]=3:=rfl;have dP:kw [110,117,108,108]=3:=rfl;have gd:kw [110,101,119]=3:=rfl;have jx:kw [108,101,110]=3:=rfl;have jT:kw [114,101,97,100]=3:=rfl;have uY:kw [40]=4:=rfl;have vK:(aq T s.at_).kind≠1->hS T s (some (bh.zero,cL T 2 s)) (bif b2 T (da T s).2 [40] then(mJ T (cg+1) (da T s).2).bind λp=>some (.mk {kind:=7,name:=(da T s).1,pos:=(aq T s.at_).pos} p.1,p.2) else some (.mk {kind:=4,name:=(da T s).1,pos:=(aq T s.at_).pos} [],(da T s).2)):=by
  intro U;obtain⟨aI,bc⟩:=adE (T:=T) ak U;rw[aI];simp only[hg bc,bi];exact hS.pure (.inr ⟨bc,rfl,rfl⟩) (yG s 2)
 by_cases aa:(aq T s.at_).kind=2
 ·have:=rr aH ak (by rw[aa];decide);simp only[oo,l5,ak,aa,ne_eq,not_true,if_false,if_true,beq_self_eq_true,Bool.and_self,bx];exact hS.pure (.inl ⟨ak,rfl⟩) (by simp only;omega)
 have cD:((aq T s.at_).kind==2)=false:=by simpa using aa
 by_cases U:(aq T s.at_).kind=1
 ·have:=adQ aH aT ak U aO n cg Z Z;have aoF:((1:Int)==3)=false:=rfl;have aoJ:((1:Int)==4)=false:=rfl;have aoC:((1:Int)==2)=false:=rfl;have MW: ¬((1:Int)=2):=cl;simpa only[oo,l5,ak,U,MW,ne_eq,not_true,if_false,if_true,beq_self_eq_true,Bool.and_false,Bool.true_and,aoF,aoJ,aoC,bi,Ea ak,cS,dq,dP,gd,jx,jT,uY,Bool.false_and,Bool.or_self,or_true,true_or] using this
 by_cases al:(aq T s.at_).kind=4
 ·have Ys:((4:Int)==3)=false:=rfl;have Yr:((4:Int)==2)=false:=rfl;have Yt: ¬((4:Int)=2):=cl;have Yu: ¬((4:Int)=1):=cl;have Yv:((4:Int)=3\/(4:Int)=4):= .inr rfl;cases bC:(aq T s.at_).text==[40] with
  |true=>
   have:=J2 aH aT ak aO n cg Z Z;simpa only[oo,l5,ak,al,Yt,Yu,Yv,Ys,Yr,bC,ne_eq,not_true,if_false,if_true,beq_self_eq_true,Bool.and_false,Bool.true_and,bi,bx,Ea ak,cS,dq,dP,gd,jx,jT,uY,Bool.false_and,Bool.or_self,or_true,true_or] using this
  |false=>
   have:=vK U;simpa only[oo,l5,ak,al,Yt,Yu,Yv,Ys,Yr,bC,ne_eq,not_true,if_false,if_true,beq_self_eq_true,Bool.and_false,Bool.true_and,bi,bx,Ea ak,cS,dq,dP,gd,jx,jT,uY,Bool.false_and,Bool.or_self,or_true,true_or] using this
 by_cases ae:(aq T s.at_).kind=3
 ·have aX:=rr aH ak (by rw[ae];decide);have Aq:(aE s).aA=0:=ak;have aoK:((3:Int)==4)=false:=rfl;have aoD:((3:Int)==2)=false:=rfl;have aoG: ¬((3:Int)=2):=cl;have aoH: ¬((3:Int)=1):=cl;have aoI:((3:Int)=3\/(3:Int)=4):= .inl rfl;simp only[oo,l5,ak,ae,aoG,aoH,aoI,aoK,aoD,ne_eq,not_true,if_false,if_true,beq_self_eq_true,Bool.and_false,Bool.true_and,bi,bx,Ea ak,cS,dq,dP,gd,jx,jT,uY,Bool.false_and];cases t1:(aq T s.at_).text==[116,114,117,101]||(aq T s.at_).text==[102,97,108,115,101] with
  |true=>simp only[bx];exact hS.pure (.inl ⟨ak,rfl⟩) (by simp only[vD];omega)
  |false=>
   cases t2:(aq T s.at_).text==[110,117,108,108] with
   |true=>
    simp only[bx,bi];have bs:=of_same T (aE s);refine hS.pure ?_ (by have:=K5 aH (aE s);simp only[Cl];omega);refine e4.of bs.st λh=> ?_
    rw[(bs.resolve_right (by rintro⟨bZ,_⟩;exact bZ h)).2]
   |false=>
    cases t3:(aq T s.at_).text==[110,101,119] with
    |true=>simp only[bx,bi];exact ab9 aH aT ak ae aO n cg Z Z
    |false=>
     cases t4:(aq T s.at_).text==[108,101,110] with
     |true=>
      simp only[bx,bi];have:=J2 aH (k:=k-1) (λj bP=>aT j Z) (s:=aE s) Aq Z n cg Z Z;exact(this.map λe=>bh.mk {kind:=10,pos:=(aq T s.at_).pos} [e]).le Z
     |false=>
      cases t5:(aq T s.at_).text==[114,101,97,100] with
      |true=>
       simp only[bx,bi];exact hS.pure (adZ ak) (by have:=adL aH s;omega)
      |false=>simp only[bi];exact vK U
 ·have b3:((aq T s.at_).kind==3)=false:=by simpa using ae
  have ez:((aq T s.at_).kind==4)=false:=by simpa using al
  have:=vK U;simpa only[oo,l5,ak,U,aa,ae,al,cD,b3,ez,ne_eq,not_true,if_false,if_true,beq_self_eq_true,Bool.and_false,Bool.true_and,bi,bx,Ea ak,cS,dq,dP,gd,jx,jT,uY,Bool.false_and,Bool.or_self,or_self] using this
theorem adp{T:List Tok}(aH:T.length<=40000000){k:Nat}(aT: ∀j,j<k->qX T j){s:aw}(ak:s.aA=0)(aO:left T s<=k)(n cg:Nat)(aV:30*k+14<=n)(hk:30*k+14<=cg):
  hS T s (pT T n s) (pU T cg s):=by
 obtain⟨n,rfl⟩: ∃m,n=m+1:=⟨n-1,Z⟩;obtain⟨cg,rfl⟩: ∃m,cg=m+1:=⟨cg-1,Z⟩;have aI:b2 T s [45]=b4 T s 4 [45]:=rfl;have bc:b2 T s [33]=b4 T s 4 [33]:=rfl;have Wm: ∀(x:bk) (sk:Int),kw x=4->b4 T s 4 x=true->hS T s (rT T n x sk s) (p3 T cg sk s):=by
  intro x sk af be;obtain⟨n,rfl⟩: ∃m,n=m+1:=⟨n-1,Z⟩;obtain⟨cg,rfl⟩: ∃m,cg=m+1:=⟨cg-1,Z⟩;have bC:(aq T s.at_).text=x:=(sz be).2.2;simp only[rT,p3,bC];rcases KP aH aT ak aO af 5 (n+1) cg Z Z Z with⟨U,aa,p,q,ae,al,aB,aG⟩|⟨U,aa,ae,al,aB⟩
  ·have hY:pT T n (eG T x s).2=some p:=by rw[iY] at ae;exact ae
   simp only[U,hY,al,Option.bind_some,bx];refine hS.pure ?_ (by rw[KJ];omega);refine e4.of aB.st.out λh=> ?_
   rw[(aB.resolve_right (by rintro⟨bZ,_⟩;exact bZ h)).2]
  ·simp only[U,aB,Option.bind_some,bi];exact hS.pure (.inr ⟨aa,ae,al⟩) (by simp only[rm aa];omega)
 simp only[pT,pU,aI,bc];cases i1:b4 T s 4 [45] with
 |true=>simp only[bx];exact Wm [45] 12 rfl i1
 |false=>
  cases i2:b4 T s 4 [33] with
  |true=>simp only[bx,bi];exact Wm [33] 13 rfl i2
  |false=>
   simp only[bi];obtain⟨n,rfl⟩: ∃m,n=m+2:=⟨n-2,Z⟩;obtain⟨cg,rfl⟩: ∃m,cg=m+1:=⟨cg-1,Z⟩;obtain⟨p,q,ae,al,aB,aG⟩:=ab4 aH aT ak aO n cg Z Z;have:=(J6 aH aT k (n+1) (cg+1) p.2 q.2 p.1 q.1 Z Z Z Z aB.st (λh=>by
    rw[(aB.resolve_right (by rintro⟨bZ,_⟩;exact bZ h)).2])).le aG
   rw[rD];simpa only[ae,al,Option.bind_some] using this
theorem St{T:List Tok}(aH:T.length<=40000000){k:Nat}(aT: ∀j,j<k->qX T j){s:aw}(ak:s.aA=0)(aO:left T s<=k): ∀(j lev n cg:Nat),lev+j=5->30*k+20<=n+lev->30*k+20<=cg+lev->hS T s (iY T n lev s) (im T cg lev s)
 |0,lev,n,cg,ax,aV,hk=>by
  obtain rfl:lev=5:=Z;obtain⟨n,rfl⟩: ∃m,n=m+1:=⟨n-1,Z⟩;obtain⟨cg,rfl⟩: ∃m,cg=m+1:=⟨cg-1,Z⟩;simp only[iY,im,if_true];exact adp aH aT ak aO n cg Z Z
 |j+1,lev,n,cg,ax,aV,hk=>by
  have aB: ¬lev=5:=Z;obtain⟨n,rfl⟩: ∃m,n=m+1:=⟨n-1,Z⟩;obtain⟨cg,rfl⟩: ∃m,cg=m+1:=⟨cg-1,Z⟩;obtain⟨p,q,g1,g2,g3,g4⟩:=St aH aT ak aO j (lev+1) n cg Z Z Z;have:=(Rk aH aT (lev:=lev) Z k n cg p.2 q.2 p.1 q.1 Z Z Z Z g3.st (λh=>by
   rw[(g3.resolve_right (by rintro⟨bZ,_⟩;exact bZ h)).2])).le g4
  simpa only[iY,im,aB,if_false,g1,g2,Option.bind_some] using this
theorem GC{T:List Tok}(aH:T.length<=40000000): ∀k,qX T k:=by
 intro k
 induction k using Nat.strongRecOn with
 |_ k aT=>
  intro s aO lev n cg ax aV hk;by_cases ak:s.aA=0
  ·exact St aH aT ak aO (5-lev) lev n cg Z aV hk
  ·exact acu ak lev n cg ax Z Z
end
section
set_option maxRecDepth 100000
noncomputable section
def HU(G:av)(Y:I)(H:J):O:=
 ab (b7 Y) λa_=>
 ab (aF P 133 a_ 4) λbf=>
 ab (aF P 29 bf 0) λbB=>
 ab (am P H 27 bB) λbu=>
 ab (aZ P .neq 27 true bu (.int .i64 0)) λbS=>
 some (bS,H)
theorem ag8(G:av)(N:Nat)(Y:I)(H:J):bp Tryz.f102 G N (cF [Y]) H=HU G Y H:=by
 refine cP (A:=bp Tryz.f102 G N) (aN _) ?_;delta HU;kernel_rfl
theorem aiJ(N:Nat){Y:I}{H:J}{r:I×J}(h:HU (au P ao) Y H=some r):au P ao 102 [Y] H=some r:=
 cV ad Tryz.func102 ad ad ad ((ag8 (au P ao) N Y H).trans h)
def xU(G:av)(Y ai ap:I)(H:J):O:=
 aL H (G 121 [Y] H) λbF U=>
 cv U [(.int .i64 0),(.str []),(.int .i64 0),(.int .i64 0)] λbu aa=>
 a1 aa (aQ P aa 57 bu bF) λae=>
 aL ae (G 102 [Y] ae) λb8 al=>
 ab (fh .not b8) λcb=>
 aD cb true al (bm (aF P 57 bu 0)) λbT aB=>
 aD cb true aB (qr (am P aB 3 bT)) λbX aG=>
 aD cb true aG (dw ai) λbI aP=>
 aD cb true aP (bm (aZ P .eql 3 false bX bI)) λcc bn=>
 ab (cW cb (some cc) (some (.bool false))) λcG=>
 aD cG true bn (bm (aF P 57 bu 1)) λcN bH=>
 aD cG true bH (qr (am P bH 9 cN)) λcz co=>
 aD cG true co (dw ap) λc7 dp=>
 aD cG true dp (bm (aZ P .eql 9 false cz c7)) λcI dR=>
 ab (cW cG (some cI) (some (.bool false))) λdb=>
 some (db,dR)
theorem ahj(G:av)(N:Nat)(Y:I)(ai:I)(ap:I)(H:J):bp Tryz.f119 G N (cF [Y,ai,ap]) H=xU G Y ai ap H:=by
 refine cP (A:=bp Tryz.f119 G N) (aN _) ?_;delta xU;kernel_rfl
theorem aiV(N:Nat){Y ai ap:I}{H:J}{r:I×J}(h:xU (au P ao) Y ai ap H=some r):au P ao 119 [Y,ai,ap] H=some r:=
 cV ad Tryz.func119 ad ad ad ((ahj (au P ao) N Y ai ap H).trans h)
def w2(G:av)(H:J):O:=
 some ((.bool false),H)
theorem acJ(G:av)(N:Nat): ∀R H,cA P G N (Code.snd (Code.snd (di Tryz.f120))) (b_ Tryz.f120) [] (b_ Tryz.f120) R H=w2 G H:=by
 refine ds (aN _) λR H=> ?_
 delta w2;kernel_rfl
def z_(G:av)(Y ai:I)(H:J):O:=
 aL H (G 102 [Y] H) λbB U=>
 ab (fh .not bB) λbu=>
 bQ (some bu) (aL U (G 121 [Y] U) λb8 aa=>
 ab (d8 P 57 b8 3) λcb=>
 ab (cM P 29 [(0,ai),(1,cb)]) λb0=>
 ab (b7 Y) λbT=>
 ab (aF P 133 bT 4) λbX=>
 a1 aa (aQ P aa 29 bX b0) λae=>
 w2 G ae) (w2 G U)
theorem ahk(G:av)(N:Nat)(Y:I)(ai:I)(H:J):bp Tryz.f120 G N (cF [Y,ai]) H=z_ G Y ai H:=by
 refine cP (A:=bp Tryz.f120 G N) ((br ad ((br ad (acJ G N) (aN _))) (aN _))) ?_;delta z_;generalize w2 G=ba;revert ba;refine id ?_;intro ba;kernel_rfl
theorem aiW(N:Nat){Y ai:I}{H:J}{r:I×J}(h:z_ (au P ao) Y ai H=some r):au P ao 120 [Y,ai] H=some r:=
 cV ad Tryz.func120 ad ad ad ((ahk (au P ao) N Y ai H).trans h)
def Aa(G:av)(Y:I)(H:J):O:=
 cv H [(.int .i64 0),(.str []),(.int .i64 0),(.int .i64 0)] λap U=>
 ab (b7 Y) λa_=>
 ab (aF P 133 a_ 1) λbf=>
 ab (am P U 3 bf) λbB=>
 ab (aZ P .lss 3 true bB (.int .i64 0)) λbu=>
 aD bu false U (dw Y) λbF aa=>
 aD bu false aa (bm (b7 bF)) λcr ae=>
 aD bu false ae (bm (aF P 133 cr 1)) λb8 al=>
 aD bu false al (qr (am P al 3 b8)) λcb aB=>
 aD bu false aB (dw Y) λb0 aG=>
 aD bu false aG (bm (b7 b0)) λbT aP=>
 aD bu false aP (bm (aF P 133 bT 0)) λbX bn=>
 aD bu false bn (qr (am P bn 50 bX)) λbI bH=>
 aD bu false bH (λq=>ia (dC P .empty .len [50] [bI]) (dC P bH .len [50] [bI]) q) λcc co=>
 aD bu false co (bm (aZ P .geq 3 false cb cc)) λcG dp=>
 ab (cW bu (some (.bool true)) (some cG)) λc6=>
 bQ (some c6) (a1 dp (aQ P dp 57 ap (.agg [(.int .i64 0),(.str []),(.int .i64 0),(.int .i64 0)])) λdR=>
 ab (am P dR 57 ap) λr=>
 some (r,dR)) (ab (b7 Y) λc7=>
 ab (aF P 133 c7 0) λcI=>
 ab (am P dp 50 cI) λdb=>
 ab (b7 Y) λdu=>
 ab (aF P 133 du 1) λdh=>
 ab (am P dp 3 dh) λdT=>
 ab (en P 50 db dT) λdI=>
 ab (am P dp 57 dI) λcH=>
 a1 dp (aQ P dp 57 ap cH) λdR=>
 ab (am P dR 57 ap) λr=>
 some (r,dR))
theorem ahl(G:av)(N:Nat)(Y:I)(H:J):bp Tryz.f121 G N (cF [Y]) H=Aa G Y H:=by
 refine cP (A:=bp Tryz.f121 G N) (aN _) ?_;delta Aa;kernel_rfl
theorem aiX(N:Nat){Y:I}{H:J}{r:I×J}(h:Aa (au P ao) Y H=some r):au P ao 121 [Y] H=some r:=
 cV ad Tryz.func121 ad ad ad ((ahl (au P ao) N Y H).trans h)
def Ab(G:av)(Y ai:I)(H:J):O:=
 aL H (G 136 [Y,(.int .i64 4),ai] H) λbu U=>
 aD bu false U (dw Y) λbF aa=>
 aD bu false aa (λq=>fo aa (G 120 [bF,(.int .i64 2)] aa) q) λcr ae=>
 ab (cW bu (some (.bool true)) (some cr)) λb8=>
 some (b8,ae)
theorem ahm(G:av)(N:Nat)(Y:I)(ai:I)(H:J):bp Tryz.f122 G N (cF [Y,ai]) H=Ab G Y ai H:=by
 refine cP (A:=bp Tryz.f122 G N) (aN _) ?_;delta Ab;kernel_rfl
theorem aiY(N:Nat){Y ai:I}{H:J}{r:I×J}(h:Ab (au P ao) Y ai H=some r):au P ao 122 [Y,ai] H=some r:=
 cV ad Tryz.func122 ad ad ad ((ahm (au P ao) N Y ai H).trans h)
def CA(G:av)(Y ai ap:I)(H:J):O:=
 aL H (G 119 [Y,ai,ap] H) λcr U=>
 ab (fh .not cr) λb8=>
 bQ (some b8) (some ((.bool false),U)) (ab (b7 Y) λb0=>
 ab (aF P 133 b0 1) λbT=>
 ab (am P U 3 bT) λbX=>
 ab (aZ P .add 3 true bX (.int .i64 1)) λbI=>
 ab (b7 Y) λcc=>
 ab (aF P 133 cc 1) λcG=>
 a1 U (aQ P U 3 cG bI) λaa=>
 some ((.bool true),aa))
theorem ahu(G:av)(N:Nat)(Y:I)(ai:I)(ap:I)(H:J):bp Tryz.f136 G N (cF [Y,ai,ap]) H=CA G Y ai ap H:=by
 refine cP (A:=bp Tryz.f136 G N) (aN _) ?_;delta CA;kernel_rfl
theorem ai6(N:Nat){Y ai ap:I}{H:J}{r:I×J}(h:CA (au P ao) Y ai ap H=some r):au P ao 136 [Y,ai,ap] H=some r:=
 cV ad Tryz.func136 ad ad ad ((ahu (au P ao) N Y ai ap H).trans h)
def vT(G:av)(Y ai:I)(H:J):O:=
 aL H (G 119 [Y,(.int .i64 4),ai] H) λbS U=>
 ab (fh .not bS) λbF=>
 bQ (some bF) (aL U (G 120 [Y,(.int .i64 2)] U) λb8 aa=>
 some (b8,aa)) (ab (b7 Y) λbT=>
 ab (aF P 133 bT 2) λbX=>
 ab (am P U 3 bX) λbI=>
 ab (aZ P .geq 3 true bI (.int .i64 50)) λcc=>
 bQ (some cc) (aL U (G 120 [Y,(.int .i64 4)] U) λc6 aa=>
 some (c6,aa)) (ab (b7 Y) λcz=>
 ab (aF P 133 cz 1) λc7=>
 ab (am P U 3 c7) λcI=>
 ab (aZ P .add 3 true cI (.int .i64 1)) λdb=>
 ab (b7 Y) λdn=>
 ab (aF P 133 dn 1) λdu=>
 a1 U (aQ P U 3 du db) λaa=>
 ab (b7 Y) λdT=>
 ab (aF P 133 dT 2) λdI=>
 ab (am P aa 3 dI) λcH=>
 ab (aZ P .add 3 true cH (.int .i64 1)) λep=>
 ab (b7 Y) λdV=>
 ab (aF P 133 dV 2) λef=>
 a1 aa (aQ P aa 3 ef ep) λae=>
 some ((.bool true),ae)))
theorem ahQ(G:av)(N:Nat)(Y:I)(ai:I)(H:J):bp Tryz.f177 G N (cF [Y,ai]) H=vT G Y ai H:=by
 refine cP (A:=bp Tryz.f177 G N) (aN _) ?_;delta vT;kernel_rfl
theorem ajr(N:Nat){Y ai:I}{H:J}{r:I×J}(h:vT (au P ao) Y ai H=some r):au P ao 177 [Y,ai] H=some r:=
 cV ad Tryz.func177 ad ad ad ((ahQ (au P ao) N Y ai H).trans h)
def G9(bT:I)(aa:J):O:=
 some (bT,aa)
def H2(G:av)(Y ai:I)(H:J):O:=
 ab (b7 Y) λbB=>
 ab (aF P 133 bB 2) λbu=>
 ab (am P H 3 bu) λbS=>
 ab (aZ P .sub 3 true bS (.int .i64 1)) λbF=>
 ab (b7 Y) λcr=>
 ab (aF P 133 cr 2) λb8=>
 a1 H (aQ P H 3 b8 bF) λU=>
 aL U (G 122 [Y,ai] U) (G9)
theorem ah6(G:av)(N:Nat)(Y:I)(ai:I)(H:J):bp Tryz.f195 G N (cF [Y,ai]) H=H2 G Y ai H:=by
 refine cP (A:=bp Tryz.f195 G N) (aN _) ?_;delta H2 G9;kernel_rfl
theorem ajH(N:Nat){Y ai:I}{H:J}{r:I×J}(h:H2 (au P ao) Y ai H=some r):au P ao 195 [Y,ai] H=some r:=
 cV ad Tryz.func195 ad ad ad ((ah6 (au P ao) N Y ai H).trans h)
def pJ(G:av)(N:Nat)(ap aC a_:I)(H:J):O:=
 ab (aF P 57 a_ 1) λgx=>
 ab (am P H 9 gx) λkm=>
 ab (cM P 43 [(0,km),(1,aC)]) λiR=>
 a1 H (aQ P H 43 ap iR) λU=>
 ab (am P U 43 ap) λr=>
 some (r,U)
theorem acA(G:av)(N:Nat): ∀R H,cA P G N (Code.snd (Code.snd (Code.snd (Code.snd (Code.snd (Code.snd (Code.snd (di Tryz.f101)))))))) (b_ Tryz.f101) [] (b_ Tryz.f101) R H=pJ G N (R 2) (R 3) (R 4) H:=by
 refine ds (aN _) λR H=> ?_
 delta pJ;kernel_rfl
def rz(G:av)(N:Nat)(h2:I->I->I->I->I->I->J->O)(Y ap:I)(aC a_:I)(gb gS:I)(H:J):O:=
 ab (aZ P .lss 3 false gS gb) λju=>
 bQ (some ju) (aL H (G 122 [Y,(.str [93])] H) λh1 U=>
 ab (aZ P .add 3 true gS (.int .i64 1)) λhV=>
 h2 Y ap aC a_ gb hV U) (pJ G N ap aC a_ H)
def wW(G:av)(N:Nat):Nat->I->I->I->I->I->I->J->O
 |0,_,_,_,_,_,_,_=>none
 |n+1,Y,ap,aC,a_,gb,gS,H=>rz G N (wW G N n) Y ap aC a_ gb gS H
theorem acx(G:av)(N:Nat)(h2:I->I->I->I->I->I->J->O): ∀R H,cA P G N (Code.fst (Code.fst (Code.snd (Code.fst (Code.snd (Code.snd (Code.snd (Code.snd (Code.snd (Code.snd (di Tryz.f101))))))))))) (λR H=>h2 (R 0) (R 2) (R 3) (R 4) (R 46) (R 47) H) [(2,(λR H=>pJ G N (R 2) (R 3) (R 4) H))] (b_ Tryz.f101) R H=rz G N h2 (R 0) (R 2) (R 3) (R 4) (R 46) (R 47) H:=by
 refine ds (aN _) λR H=> ?_
 delta rz;generalize pJ G N=ba;revert ba;refine id ?_;intro ba;kernel_rfl
def rv(G:av)(N:Nat)(bH:J)(Y ap:I)(aC a_ eg:I):O:=
 bQ (some eg) (aL bH (G 120 [Y,(.int .i64 2)] bH) λed co=>
 a1 co (aQ P co 43 ap (.agg [(.str []),(.int .i64 0)])) λdp=>
 ab (am P dp 43 ap) λr=>
 some (r,dp)) (ab (b7 Y) λe7=>
 ab (aF P 133 e7 1) λfy=>
 ab (am P bH 3 fy) λfW=>
 ab (aZ P .add 3 true fW (.int .i64 1)) λgv=>
 ab (b7 Y) λeU=>
 ab (aF P 133 eU 1) λgw=>
 a1 bH (aQ P bH 3 gw gv) λco=>
 wW G N N Y ap aC a_ aC (.int .i64 0) co)
def n5(G:av)(N:Nat)(cH Y:I)(ap aC:I)(a_ e6:I)(bH:J):O:=
 ab (cW cH (some e6) (some (.bool false))) (rv G N bH Y ap aC a_)
def n6(G:av)(N:Nat)(cH Y:I)(ap aC:I)(a_ ef:I)(bn:J):O:=
 aD cH true bn (bm (fh .not ef)) (n5 G N cH Y ap aC a_)
def n7(G:av)(N:Nat)(cH Y:I)(ap aC:I)(a_ dV:I)(aP:J):O:=
 aD cH true aP (λq=>fo aP (G 119 [dV,(.int .i64 3),(.str [98,111,111,108])] aP) q) (n6 G N cH Y ap aC a_)
def n8(G:av)(N:Nat)(aG:J)(Y ap:I)(aC a_ cH:I):O:=
 aD cH true aG (dw Y) (n7 G N cH Y ap aC a_)
def n9(G:av)(N:Nat)(dn Y:I)(ap aC:I)(a_ dI:I)(aG:J):O:=
 ab (cW dn (some dI) (some (.bool false))) (n8 G N aG Y ap aC a_)
def n_(G:av)(N:Nat)(dn Y:I)(ap aC:I)(a_ dT:I)(aB:J):O:=
 aD dn true aB (bm (fh .not dT)) (n9 G N dn Y ap aC a_)
def oa(G:av)(N:Nat)(dn Y:I)(ap aC:I)(a_ dh:I)(al:J):O:=
 aD dn true al (λq=>fo al (G 119 [dh,(.int .i64 3),(.str [105,110,116])] al) q) (n_ G N dn Y ap aC a_)
def ob(G:av)(N:Nat)(ae:J)(Y ap:I)(aC a_ dn:I):O:=
 aD dn true ae (dw Y) (oa G N dn Y ap aC a_)
def oc(G:av)(N:Nat)(ae:J)(Y ap:I)(aC a_ db:I):O:=
 ab (aZ P .neq 3 true db (.int .i64 1)) (ob G N ae Y ap aC a_)
def od(G:av)(N:Nat)(ae:J)(Y ap:I)(aC a_ cI:I):O:=
 ab (am P ae 3 cI) (oc G N ae Y ap aC a_)
def oe(G:av)(N:Nat)(a_ Y:I)(ap aC:I)(ae:J):O:=
 ab (aF P 57 a_ 0) (od G N ae Y ap aC a_)
def og(G:av)(N:Nat)(c7 Y:I)(ap aC a_:I)(aa:J):O:=
 a1 aa (aQ P aa 57 a_ c7) (oe G N a_ Y ap aC)
def oh(G:av)(N:Nat)(Y ap:I)(aC c7:I)(U:J):O:=
 cv U [(.int .i64 0),(.str []),(.int .i64 0),(.int .i64 0)] (og G N c7 Y ap aC)
def oi(G:av)(N:Nat)(Y ap aC:I)(H:J):O:=
 aL H (G 121 [Y] H) (oh G N Y ap aC)
theorem acz(G:av)(N:Nat): ∀R H,cA P G N (Code.snd (Code.snd (Code.snd (di Tryz.f101)))) (b_ Tryz.f101) [] (b_ Tryz.f101) R H=oi G N (R 0) (R 2) (R 3) H:=by
 refine ds ((br ad ((br ad ((br ad ((br ad (acA G N) ((br ad ((fL ad ((gD (k:=λm R H=>wW G N m (R 0) (R 2) (R 3) (R 4) (R 46) (R 47) H) ad (λR H=>ad) (λm=>acx G N (wW G N m)))))) (aN _))))) (aN _))) (aN _))) (aN _))) λR H=> ?_
 delta oi oh og oe od oc ob oa n_ n9 n8 n7 n6 n5 rv;generalize wW G N N=ba;revert ba;refine id ?_;intro ba;kernel_rfl
def qH(G:av)(N:Nat)(Y ap aC:I)(U:J):O:=
 oi G N Y ap aC U
def qI(G:av)(N:Nat)(lr:I->I->I->J->O)(aC Y:I)(ap bB:I)(U:J):O:=
 bQ (some bB) (ab (aZ P .eql 3 true aC (.int .i64 3)) λbS=>
 bQ (some bS) (aL U (G 120 [Y,(.int .i64 4)] U) λcr aa=>
 a1 aa (aQ P aa 43 ap (.agg [(.str []),(.int .i64 0)])) λae=>
 ab (am P ae 43 ap) λr=>
 some (r,ae)) (ab (aZ P .add 3 true aC (.int .i64 1)) λb0=>
 ab (b7 Y) λbX=>
 ab (aF P 133 bX 1) λbI=>
 ab (am P U 3 bI) λcc=>
 ab (aZ P .add 3 true cc (.int .i64 1)) λcG=>
 ab (b7 Y) λc6=>
 ab (aF P 133 c6 1) λcN=>
 a1 U (aQ P U 3 cN cG) λaa=>
 lr Y ap b0 aa)) (qH G N Y ap aC U)
def pI(G:av)(N:Nat)(lr:I->I->I->J->O)(Y ap aC:I)(H:J):O:=
 aL H (G 119 [Y,(.int .i64 4),(.str [91])] H) (qI G N lr aC Y ap)
def wX(G:av)(N:Nat):Nat->I->I->I->J->O
 |0,_,_,_,_=>none
 |n+1,Y,ap,aC,H=>pI G N (wX G N n) Y ap aC H
theorem acy(G:av)(N:Nat)(lr:I->I->I->J->O): ∀R H,cA P G N (Code.fst (Code.fst (Code.fst (Code.snd (Code.snd (di Tryz.f101)))))) (λR H=>lr (R 0) (R 2) (R 3) H) [(0,(λR H=>oi G N (R 0) (R 2) (R 3) H))] (b_ Tryz.f101) R H=pI G N lr (R 0) (R 2) (R 3) H:=by
 refine ds (aN _) λR H=> ?_
 delta pI qI qH;generalize oi G N=ba;revert ba;refine id ?_;intro ba;kernel_rfl
def ry(G:av)(N:Nat)(Y ap:I)(U:J):O:=
 wX G N N Y ap (.int .i64 0) U
def q1(G:av)(N:Nat)(Y:I)(H:J):O:=
 cv H [(.str []),(.int .i64 0)] (ry G N Y)
theorem ag7(G:av)(N:Nat)(Y:I)(H:J):bp Tryz.f101 G N (cF [Y]) H=q1 G N Y H:=by
 refine cP (A:=bp Tryz.f101 G N) ((br ad ((br ad ((br ad (acz G N) ((fL ad ((gD (k:=λm R H=>wX G N m (R 0) (R 2) (R 3) H) ad (λR H=>ad) (λm=>acy G N (wX G N m)))))))) (aN _))) (aN _))) ?_;delta q1 ry;generalize wX G N N=ba;revert ba;refine id ?_;intro ba;kernel_rfl
theorem aiI(N:Nat){Y:I}{H:J}{r:I×J}(h:q1 (au P ao) N Y H=some r):au P ao 101 [Y] H=some r:=
 cV ad Tryz.func101 ad ad ad ((ag7 (au P ao) N Y H).trans h)
def tK(G:av)(N:Nat)(H:J):O:=
 some ((.int .i64 0),H)
theorem ac6(G:av)(N:Nat): ∀R H,cA P G N (Code.snd (Code.snd (di Tryz.f171))) (b_ Tryz.f171) [] (b_ Tryz.f171) R H=tK G N H:=by
 refine ds (aN _) λR H=> ?_
 delta tK;kernel_rfl
def w8(G:av)(N:Nat)(bE:I->I->I->I->J->O)(Y b0:I)(bT bX:I)(H:J):O:=
 ab (aZ P .lss 3 false bX bT) λbI=>
 bQ (some bI) (ab (en P 200 b0 bX) λcc=>
 ab (am P H 199 cc) λcG=>
 cv H [(.str []),(.int .i64 0)] λbB U=>
 a1 U (aQ P U 199 bB cG) λaa=>
 ab (aF P 199 bB 0) λcN=>
 ab (am P aa 9 cN) λcz=>
 aL aa (G 119 [Y,(.int .i64 4),cz] aa) λc7 ae=>
 bQ (some c7) (ab (aF P 199 bB 1) λcI=>
 ab (am P ae 3 cI) λdb=>
 some (db,ae)) (ab (aZ P .add 3 true bX (.int .i64 1)) λdn=>
 bE Y b0 bT dn ae)) (tK G N H)
def w9(G:av)(N:Nat):Nat->I->I->I->I->J->O
 |0,_,_,_,_,_=>none
 |n+1,Y,b0,bT,bX,H=>w8 G N (w9 G N n) Y b0 bT bX H
theorem ac5(G:av)(N:Nat)(bE:I->I->I->I->J->O): ∀R H,cA P G N (Code.fst (Code.fst (Code.snd (Code.fst (Code.snd (di Tryz.f171)))))) (λR H=>bE (R 0) (R 13) (R 14) (R 15) H) [(0,(λR H=>tK G N H))] (b_ Tryz.f171) R H=w8 G N bE (R 0) (R 13) (R 14) (R 15) H:=by
 refine ds (aN _) λR H=> ?_
 delta w8;generalize tK G N=ba;revert ba;refine id ?_;intro ba;kernel_rfl
def x1(G:av)(N:Nat)(Y ai:I)(H:J):O:=
 ab (b7 Y) λbS=>
 ab (aF P 133 bS 3) λbF=>
 ab (am P H 131 bF) λcr=>
 ab (en P 131 cr ai) λcb=>
 ab (am P H 200 cb) λb0=>
 bj P .len [200] [b0] H λbT=>
 w9 G N N Y b0 bT (.int .i64 0) H
theorem ahP(G:av)(N:Nat)(Y:I)(ai:I)(H:J):bp Tryz.f171 G N (cF [Y,ai]) H=x1 G N Y ai H:=by
 refine cP (A:=bp Tryz.f171 G N) ((br ad ((br ad (ac6 G N) ((br ad ((fL ad ((gD (k:=λm R H=>w9 G N m (R 0) (R 13) (R 14) (R 15) H) ad (λR H=>ad) (λm=>ac5 G N (w9 G N m)))))) (aN _))))) (aN _))) ?_;delta x1;generalize w9 G N N=ba;revert ba;refine id ?_;intro ba;kernel_rfl
theorem ajq(N:Nat){Y ai:I}{H:J}{r:I×J}(h:x1 (au P ao) N Y ai H=some r):au P ao 171 [Y,ai] H=some r:=
 cV ad Tryz.func171 ad ad ad ((ahP (au P ao) N Y ai H).trans h)
def y5(G:av)(N:Nat)(a_ bf:I)(H:J):O:=
 ab (am P H 103 bf) λju=>
 a1 H (aQ P H 103 a_ ju) λU=>
 ab (am P U 103 a_) λr=>
 some (r,U)
theorem ac2(G:av)(N:Nat): ∀R H,cA P G N (Code.snd (Code.snd (Code.snd (Code.snd (di Tryz.f165))))) (b_ Tryz.f165) [] (b_ Tryz.f165) R H=y5 G N (R 4) (R 5) H:=by
 refine ds (aN _) λR H=> ?_
 delta y5;kernel_rfl
def sI(bE:I->I->I->I->I->J->O)(Y ai:I)(a_ bf dT:I)(aG:J):O:=
 bE Y ai a_ bf dT aG
def tQ(G:av)(bE:I->I->I->I->I->J->O)(aB:J)(Y ai:I)(a_ bf:I):O:=
 aL aB (G 171 [Y,ai] aB) (sI bE Y ai a_ bf)
def sC(G:av)(N:Nat)(a_ bf:I)(H:J):O:=
 y5 G N a_ bf H
def sD(G:av)(N:Nat)(bE:I->I->I->I->I->J->O)(H:J)(Y ai:I)(bf bB:I)(a_ dn:I):O:=
 bQ (some dn) (aL H (G 121 [Y] H) λcH U=>
 ab (d8 P 57 cH 3) λep=>
 ab (b7 Y) λef=>
 ab (aF P 133 ef 1) λe6=>
 ab (am P U 3 e6) λeg=>
 ab (aZ P .add 3 true eg (.int .i64 1)) λej=>
 ab (b7 Y) λed=>
 ab (aF P 133 ed 1) λfj=>
 a1 U (aQ P U 3 fj ej) λaa=>
 ab (aZ P .add 3 true ai (.int .i64 1)) λgv=>
 aL aa (G 165 [Y,gv] aa) λeU ae=>
 ab (am P ae 103 bf) λe7=>
 dA ae (dH P (ae).next 96 2 [(0,e7),(1,eU)]) λgw al=>
 ab (cM P 103 [(0,bB),(4,gw),(5,ep)]) λgS=>
 a1 al (aQ P al 103 bf gS) λaB=>
 bif ((cd (am P aa 103 bf) e7&&(cd (am P ae 103 bf) e7&&true))&&true) then(tQ G bE aB Y ai a_ bf) else none) (sC G N a_ bf H)
def BR(G:av)(N:Nat)(bE:I->I->I->I->I->J->O)(Y ai:I)(a_ bf bB:I)(H:J):O:=
 ab (aZ P .neq 3 true bB (.int .i64 0)) (sD G N bE H Y ai bf bB a_)
def y6(G:av)(N:Nat):Nat->I->I->I->I->I->J->O
 |0,_,_,_,_,_,_=>none
 |n+1,Y,ai,a_,bf,bB,H=>BR G N (y6 G N n) Y ai a_ bf bB H
theorem ac1(G:av)(N:Nat)(bE:I->I->I->I->I->J->O): ∀R H,cA P G N (Code.fst (Code.fst (Code.snd (Code.fst (Code.snd (Code.snd (Code.snd (di Tryz.f165)))))))) (λR H=>bE (R 0) (R 1) (R 4) (R 5) (R 6) H) [(0,(λR H=>y5 G N (R 4) (R 5) H))] (b_ Tryz.f165) R H=BR G N bE (R 0) (R 1) (R 4) (R 5) (R 6) H:=by
 refine ds (aN _) λR H=> ?_
 delta BR sD sC tQ sI;generalize y5 G N=ba;revert ba;refine id ?_;intro ba;kernel_rfl
def sE(G:av)(N:Nat)(Y ai:I)(a_ bf cI:I)(aB:J):O:=
 y6 G N N Y ai a_ bf cI aB
def sX(G:av)(N:Nat)(Y ai:I)(H:J):O:=
 cv H [(.int .i64 0),(.int .i64 0),(.str []),(.str []),(.int .i64 0),I.an,(.int .i64 0),(.int .i64 0),(.int .i64 0),(.int .i64 0),(.int .i64 0)] λa_ U=>
 ab (b7 Y) λcr=>
 ab (aF P 133 cr 3) λb8=>
 ab (am P U 131 b8) λcb=>
 bj P .len [131] [cb] U λb0=>
 ab (aZ P .eql 3 false ai b0) λbT=>
 bQ (some bT) (aL U (G 170 [Y] U) λbI aa=>
 a1 aa (aQ P aa 103 a_ bI) λae=>
 ab (am P ae 103 a_) λr=>
 some (r,ae)) (ab (aZ P .add 3 true ai (.int .i64 1)) λc6=>
 aL U (G 165 [Y,c6] U) λcN aa=>
 cv aa [(.int .i64 0),(.int .i64 0),(.str []),(.str []),(.int .i64 0),I.an,(.int .i64 0),(.int .i64 0),(.int .i64 0),(.int .i64 0),(.int .i64 0)] λbf ae=>
 a1 ae (aQ P ae 103 bf cN) λal=>
 aL al (G 171 [Y,ai] al) (sE G N Y ai a_ bf))
theorem ahN(G:av)(N:Nat)(Y:I)(ai:I)(H:J):bp Tryz.f165 G N (cF [Y,ai]) H=sX G N Y ai H:=by
 refine cP (A:=bp Tryz.f165 G N) ((br ad ((br ad ((br ad ((br ad (ac2 G N) ((br ad ((fL ad ((gD (k:=λm R H=>y6 G N m (R 0) (R 1) (R 4) (R 5) (R 6) H) ad (λR H=>ad) (λm=>ac1 G N (y6 G N m)))))) (aN _))))) (aN _))) (aN _))) (aN _))) ?_;delta sX sE;generalize y6 G N N=ba;revert ba;refine id ?_;intro ba;kernel_rfl
theorem ajo(N:Nat){Y ai:I}{H:J}{r:I×J}(h:sX (au P ao) N Y ai H=some r):au P ao 165 [Y,ai] H=some r:=
 cV ad Tryz.func165 ad ad ad ((ahN (au P ao) N Y ai H).trans h)
def EP(G:av)(Y:I)(H:J):O:=
 cv H [(.int .i64 0),(.int .i64 0),(.str []),(.str []),(.int .i64 0),I.an,(.int .i64 0),(.int .i64 0),(.int .i64 0),(.int .i64 0),(.int .i64 0)] λap U=>
 aL U (G 165 [Y,(.int .i64 0)] U) λa_ aa=>
 a1 aa (aQ P aa 103 ap a_) λae=>
 ab (am P ae 103 ap) λr=>
 some (r,ae)
theorem ahM(G:av)(N:Nat)(Y:I)(H:J):bp Tryz.f163 G N (cF [Y]) H=EP G Y H:=by
 refine cP (A:=bp Tryz.f163 G N) (aN _) ?_;delta EP;kernel_rfl
theorem ajn(N:Nat){Y:I}{H:J}{r:I×J}(h:EP (au P ao) Y H=some r):au P ao 163 [Y] H=some r:=
 cV ad Tryz.func163 ad ad ad ((ahM (au P ao) N Y H).trans h)
def BS(G:av)(N:Nat)(Y ap:I)(H:J):O:=
 aL H (G 178 [Y] H) λgw U=>
 a1 U (aQ P U 103 ap gw) λaa=>
 ab (am P aa 103 ap) λr=>
 some (r,aa)
theorem ac4(G:av)(N:Nat): ∀R H,cA P G N (Code.snd (Code.snd (di Tryz.f170))) (b_ Tryz.f170) [] (b_ Tryz.f170) R H=BS G N (R 0) (R 2) H:=by
 refine ds (aN _) λR H=> ?_
 delta BS;kernel_rfl
def va(G:av)(a_:I)(al:J)(Y ap cc:I):O:=
 ab (aF P 199 a_ 0) λcI=>
 ab (am P al 9 cI) λdb=>
 aL al (G 177 [Y,db] al) λdn aB=>
 ab (fh .not dn) λdu=>
 bQ (some du) (a1 aB (aQ P aB 103 ap (.agg [(.int .i64 0),(.int .i64 0),(.str []),(.str []),(.int .i64 0),I.an,(.int .i64 0),(.int .i64 0),(.int .i64 0),(.int .i64 0),(.int .i64 0)])) λaG=>
 ab (am P aG 103 ap) λr=>
 some (r,aG)) (aL aB (G 170 [Y] aB) λdI aG=>
 cv aG [(.int .i64 0),(.int .i64 0),(.str []),(.str []),(.int .i64 0),I.an,(.int .i64 0),(.int .i64 0),(.int .i64 0),(.int .i64 0),(.int .i64 0)] λbB aP=>
 a1 aP (aQ P aP 103 bB dI) λbn=>
 ab (b7 Y) λep=>
 ab (aF P 133 ep 2) λdV=>
 ab (am P bn 3 dV) λef=>
 ab (aZ P .sub 3 true ef (.int .i64 1)) λe6=>
 ab (b7 Y) λeg=>
 ab (aF P 133 eg 2) λej=>
 a1 bn (aQ P bn 3 ej e6) λbH=>
 ab (aF P 199 a_ 1) λed=>
 ab (am P bH 3 ed) λfj=>
 ab (am P bH 103 bB) λft=>
 dA bH (dH P (bH).next 96 1 [(0,ft)]) λe7 co=>
 ab (cM P 103 [(0,fj),(4,e7),(5,cc)]) λfW=>
 a1 co (aQ P co 103 ap fW) λdp=>
 ab (am P dp 103 ap) λr=>
 some (r,dp))
def qK(G:av)(N:Nat)(Y ap:I)(H:J):O:=
 BS G N Y ap H
def qL(G:av)(N:Nat)(bE:I->I->I->I->I->J->O)(bF b8:I)(H:J)(Y ap:I)(cr cb:I):O:=
 bQ (some cb) (ab (en P 200 bF b8) λb0=>
 ab (am P H 199 b0) λbT=>
 cv H [(.str []),(.int .i64 0)] λa_ U=>
 a1 U (aQ P U 199 a_ bT) λaa=>
 aL aa (G 121 [Y] aa) λbI ae=>
 ab (d8 P 57 bI 3) λcc=>
 ab (aF P 199 a_ 0) λc6=>
 ab (am P ae 9 c6) λcN=>
 aL ae (G 119 [Y,(.int .i64 4),cN] ae) λcz al=>
 bQ (some cz) (va G a_ al Y ap cc) (ab (aZ P .add 3 true b8 (.int .i64 1)) λgv=>
 bE Y ap bF cr gv al)) (qK G N Y ap H)
def vb(G:av)(N:Nat)(bE:I->I->I->I->I->J->O)(Y ap:I)(bF cr b8:I)(H:J):O:=
 ab (aZ P .lss 3 false b8 cr) (qL G N bE bF b8 H Y ap cr)
def BT(G:av)(N:Nat):Nat->I->I->I->I->I->J->O
 |0,_,_,_,_,_,_=>none
 |n+1,Y,ap,bF,cr,b8,H=>vb G N (BT G N n) Y ap bF cr b8 H
theorem ac3(G:av)(N:Nat)(bE:I->I->I->I->I->J->O): ∀R H,cA P G N (Code.fst (Code.fst (Code.snd (Code.fst (Code.snd (di Tryz.f170)))))) (λR H=>bE (R 0) (R 2) (R 9) (R 10) (R 11) H) [(0,(λR H=>BS G N (R 0) (R 2) H))] (b_ Tryz.f170) R H=vb G N bE (R 0) (R 2) (R 9) (R 10) (R 11) H:=by
 refine ds (aN _) λR H=> ?_
 delta vb qL qK va;generalize BS G N=ba;revert ba;refine id ?_;intro ba;kernel_rfl
def q2(G:av)(N:Nat)(Y:I)(H:J):O:=
 cv H [(.int .i64 0),(.int .i64 0),(.str []),(.str []),(.int .i64 0),I.an,(.int .i64 0),(.int .i64 0),(.int .i64 0),(.int .i64 0),(.int .i64 0)] λap U=>
 dA U (some (.aM (U).next 0 2 2 (some 2),.row false 2 [[(.str [45]),(.int .i64 12)],[(.str [33]),(.int .i64 13)]])) λbF aa=>
 BT G N N Y ap bF (.int .i64 2) (.int .i64 0) aa
theorem ahO(G:av)(N:Nat)(Y:I)(H:J):bp Tryz.f170 G N (cF [Y]) H=q2 G N Y H:=by
 refine cP (A:=bp Tryz.f170 G N) ((br ad ((br ad (ac4 G N) ((br ad ((fL ad ((gD (k:=λm R H=>BT G N m (R 0) (R 2) (R 9) (R 10) (R 11) H) ad (λR H=>ad) (λm=>ac3 G N (BT G N m)))))) (aN _))))) (aN _))) ?_;delta q2;generalize BT G N N=ba;revert ba;refine id ?_;intro ba;kernel_rfl
theorem ajp(N:Nat){Y:I}{H:J}{r:I×J}(h:q2 (au P ao) N Y H=some r):au P ao 170 [Y] H=some r:=
 cV ad Tryz.func170 ad ad ad ((ahO (au P ao) N Y H).trans h)
def w_(G:av)(N:Nat)(ap aC:I)(H:J):O:=
 ab (am P H 103 aC) λdI=>
 a1 H (aQ P H 103 ap dI) λU=>
 ab (am P U 103 ap) λr=>
 some (r,U)
theorem ac8(G:av)(N:Nat): ∀R H,cA P G N (Code.snd (Code.snd (Code.snd (Code.snd (di Tryz.f178))))) (b_ Tryz.f178) [] (b_ Tryz.f178) R H=w_ G N (R 2) (R 3) H:=by
 refine ds (aN _) λR H=> ?_
 delta w_;kernel_rfl
def qQ(bE:I->I->I->I->J->O)(aC Y:I)(ap a_ dT:I)(aP:J):O:=
 a1 aP (aQ P aP 103 aC dT) λbn=>
 bE Y ap aC a_ bn
def D2(G:av)(N:Nat)(bE:I->I->I->I->J->O)(Y ap:I)(aC a_:I)(H:J):O:=
 aL H (G 102 [Y] H) λcr U=>
 ab (fh .not cr) λb8=>
 aD b8 true U (dw Y) λb0 aa=>
 aD b8 true aa (λq=>fo aa (G 121 [b0] aa) q) λbT ae=>
 aD b8 true ae (bm (d8 P 57 bT 0)) λbX al=>
 aD b8 true al (bm (aZ P .eql 3 true bX (.int .i64 4))) λbI aB=>
 ab (cW b8 (some bI) (some (.bool false))) λcc=>
 bQ (some cc) (aL aB (G 121 [Y] aB) λcN aG=>
 ab (d8 P 57 cN 1) λcz=>
 ab (n1 P aG 212 a_ cz false) λc7=>
 ab (aZ P .eql 214 true c7 I.nilFunc) λdb=>
 bQ (some db) (w_ G N ap aC aG) (ab (am P aG 103 aC) λdh=>
 qR G aG c7 [Y,dh] (qQ bE aC Y ap a_))) (w_ G N ap aC aB)
def xa(G:av)(N:Nat):Nat->I->I->I->I->J->O
 |0,_,_,_,_,_=>none
 |n+1,Y,ap,aC,a_,H=>D2 G N (xa G N n) Y ap aC a_ H
theorem ac7(G:av)(N:Nat)(bE:I->I->I->I->J->O): ∀R H,cA P G N (Code.fst (Code.fst (Code.fst (Code.snd (Code.snd (Code.snd (di Tryz.f178))))))) (λR H=>bE (R 0) (R 2) (R 3) (R 4) H) [(0,(λR H=>w_ G N (R 2) (R 3) H))] (b_ Tryz.f178) R H=D2 G N bE (R 0) (R 2) (R 3) (R 4) H:=by
 refine ds (aN _) λR H=> ?_
 delta D2 qQ;generalize w_ G N=ba;revert ba;refine id ?_;intro ba;kernel_rfl
def pa(G:av)(N:Nat)(Y:I)(H:J):O:=
 cv H [(.int .i64 0),(.int .i64 0),(.str []),(.str []),(.int .i64 0),I.an,(.int .i64 0),(.int .i64 0),(.int .i64 0),(.int .i64 0),(.int .i64 0)] λap U=>
 aL U (G 181 [Y] U) λbu aa=>
 cv aa [(.int .i64 0),(.int .i64 0),(.str []),(.str []),(.int .i64 0),I.an,(.int .i64 0),(.int .i64 0),(.int .i64 0),(.int .i64 0),(.int .i64 0)] λaC ae=>
 a1 ae (aQ P ae 103 aC bu) λal=>
 aL al (G 182 [] al) λbS aB=>
 xa G N N Y ap aC bS aB
theorem ahR(G:av)(N:Nat)(Y:I)(H:J):bp Tryz.f178 G N (cF [Y]) H=pa G N Y H:=by
 refine cP (A:=bp Tryz.f178 G N) ((br ad ((br ad ((br ad ((br ad (ac8 G N) ((fL ad ((gD (k:=λm R H=>xa G N m (R 0) (R 2) (R 3) (R 4) H) ad (λR H=>ad) (λm=>ac7 G N (xa G N m)))))))) (aN _))) (aN _))) (aN _))) ?_;delta pa;generalize xa G N N=ba;revert ba;refine id ?_;intro ba;kernel_rfl
theorem ajs(N:Nat){Y:I}{H:J}{r:I×J}(h:pa (au P ao) N Y H=some r):au P ao 178 [Y] H=some r:=
 cV ad Tryz.func178 ad ad ad ((ahR (au P ao) N Y H).trans h)
def tL(G:av)(Y ap:I)(H:J):O:=
 aL H (G 120 [Y,(.int .i64 2)] H) λgx U=>
 a1 U (aQ P U 103 ap (.agg [(.int .i64 0),(.int .i64 0),(.str []),(.str []),(.int .i64 0),I.an,(.int .i64 0),(.int .i64 0),(.int .i64 0),(.int .i64 0),(.int .i64 0)])) λaa=>
 ab (am P aa 103 ap) λr=>
 some (r,aa)
theorem ac9(G:av)(N:Nat): ∀R H,cA P G N (Code.snd (Code.snd (Code.snd (di Tryz.f181)))) (b_ Tryz.f181) [] (b_ Tryz.f181) R H=tL G (R 0) (R 2) H:=by
 refine ds (aN _) λR H=> ?_
 delta tL;kernel_rfl
def ol(G:av)(Y ap:I)(aC cH:I)(H:J):O:=
 bQ (some cH) (aL H (G 184 [] H) λef U=>
 ab (aF P 57 aC 1) λe6=>
 ab (am P U 9 e6) λeg=>
 ab (n1 P U 218 ef eg false) λej=>
 bif ((cd (am P H 9 e6) eg&&cd (am P U 9 e6) eg)&&true) then(ab (aZ P .neq 217 true ej I.nilFunc) λfj=>
 aD fj true U (bm (aF P 57 aC 0)) λe7 aa=>
 aD fj true aa (qr (am P aa 3 e7)) λfy ae=>
 aD fj true ae (bm (aZ P .eql 3 true fy (.int .i64 4))) λfW al=>
 aD fj true al (bm (aF P 57 aC 1)) λgv aB=>
 aD fj true aB (qr (am P aB 9 gv)) λeU aG=>
 aD fj true aG (bm (aZ P .eql 9 true eU (.str [40]))) λgw aP=>
 aD fj true aP (bm (aZ P .eql 4 false fW gw)) λgb bn=>
 ab (cW fj (some gb) (some (.bool false))) λgS=>
 bQ (some gS) (qR G bn ej [Y] λh1 bH=>
 a1 bH (aQ P bH 103 ap h1) λco=>
 ab (am P co 103 ap) λr=>
 some (r,co)) (tL G Y ap bn)) else none) (tL G Y ap H)
theorem ac_(G:av)(N:Nat): ∀R H,cA P G N (Code.snd (Code.snd (Code.snd (Code.snd (Code.snd (Code.fst (Code.snd (Code.snd (Code.fst (Code.snd (Code.snd (di Tryz.f181)))))))))))) (λR H=>tL G (R 0) (R 2) H) [(0,(λR H=>tL G (R 0) (R 2) H))] (b_ Tryz.f181) R H=ol G (R 0) (R 2) (R 3) (R 30) H:=by
 refine ds (aN _) λR H=> ?_
 delta ol;generalize tL G=ba;revert ba;refine id ?_;intro ba;kernel_rfl
def mg(G:av)(Y:I)(H:J):O:=
 cv H [(.int .i64 0),(.int .i64 0),(.str []),(.str []),(.int .i64 0),I.an,(.int .i64 0),(.int .i64 0),(.int .i64 0),(.int .i64 0),(.int .i64 0)] λap U=>
 aL U (G 102 [Y] U) λbB aa=>
 bQ (some bB) (a1 aa (aQ P aa 103 ap (.agg [(.int .i64 0),(.int .i64 0),(.str []),(.str []),(.int .i64 0),I.an,(.int .i64 0),(.int .i64 0),(.int .i64 0),(.int .i64 0),(.int .i64 0)])) λae=>
 ab (am P ae 103 ap) λr=>
 some (r,ae)) (aL aa (G 121 [Y] aa) λbF ae=>
 cv ae [(.int .i64 0),(.str []),(.int .i64 0),(.int .i64 0)] λaC al=>
 a1 al (aQ P al 57 aC bF) λaB=>
 ab (aF P 57 aC 0) λcr=>
 ab (am P aB 3 cr) λb8=>
 ab (aZ P .eql 3 true b8 (.int .i64 2)) λb0=>
 bQ (some b0) (ab (b7 Y) λbX=>
 ab (aF P 133 bX 1) λbI=>
 ab (am P aB 3 bI) λcc=>
 ab (aZ P .add 3 true cc (.int .i64 1)) λcG=>
 ab (b7 Y) λc6=>
 ab (aF P 133 c6 1) λcN=>
 a1 aB (aQ P aB 3 cN cG) λaG=>
 ab (aF P 57 aC 2) λcz=>
 ab (am P aG 3 cz) λc7=>
 ab (aF P 57 aC 3) λcI=>
 ab (am P aG 3 cI) λdb=>
 ab (cM P 103 [(0,(.int .i64 1)),(1,c7),(5,db)]) λdn=>
 a1 aG (aQ P aG 103 ap dn) λaP=>
 ab (am P aP 103 ap) λr=>
 some (r,aP)) (ab (aZ P .eql 3 true b8 (.int .i64 1)) λdh=>
 bQ (some dh) (aL aB (G 183 [Y] aB) λdI aG=>
 a1 aG (aQ P aG 103 ap dI) λaP=>
 ab (am P aP 103 ap) λr=>
 some (r,aP)) (ab (aZ P .eql 3 true b8 (.int .i64 3)) λep=>
 bQ (some ep) (ol G Y ap aC ep aB) (ab (aZ P .eql 3 true b8 (.int .i64 4)) λdV=>
 ol G Y ap aC dV aB))))
theorem ahS(G:av)(N:Nat)(Y:I)(H:J):bp Tryz.f181 G N (cF [Y]) H=mg G Y H:=by
 refine cP (A:=bp Tryz.f181 G N) ((br ad ((br ad ((br ad (ac9 G N) ((br ad ((br ad ((fL ad ((br ad ((qF ad (aN _) ((br ad ((qF ad (aN _) ((br ad (ac_ G N) (aN _))))) (aN _))))) (aN _))))) (aN _))) (aN _))))) (aN _))) (aN _))) ?_;delta mg;generalize ol G=ba;revert ba;refine id ?_;intro ba;kernel_rfl
theorem ajt(N:Nat){Y:I}{H:J}{r:I×J}(h:mg (au P ao) Y H=some r):au P ao 181 [Y] H=some r:=
 cV ad Tryz.func181 ad ad ad ((ahS (au P ao) N Y H).trans h)
def Ae(G:av)(H:J):O:=
 dA H (some (.map (H).next,.map [])) λai U=>
 a1 U (jg P U 212 ai (.str [46]) (.func (.func 185) [] [])) λaa=>
 a1 aa (jg P aa 212 ai (.str [91]) (.func (.func 186) [] [])) λae=>
 some (ai,ae)
theorem ahT(G:av)(N:Nat)(H:J):bp Tryz.f182 G N (cF []) H=Ae G H:=by
 refine cP (A:=bp Tryz.f182 G N) (aN _) ?_;delta Ae;kernel_rfl
theorem aju(N:Nat){H:J}{r:I×J}(h:Ae (au P ao) H=some r):au P ao 182 [] H=some r:=
 cV ad Tryz.func182 ad ad ad ((ahT (au P ao) N H).trans h)
def uy(G:av)(Y:I)(H:J):O:=
 cv H [(.int .i64 0),(.int .i64 0),(.str []),(.str []),(.int .i64 0),I.an,(.int .i64 0),(.int .i64 0),(.int .i64 0),(.int .i64 0),(.int .i64 0)] λap U=>
 aL U (G 121 [Y] U) λbf aa=>
 cv aa [(.int .i64 0),(.str []),(.int .i64 0),(.int .i64 0)] λaC ae=>
 a1 ae (aQ P ae 57 aC bf) λal=>
 ab (b7 Y) λbu=>
 ab (aF P 133 bu 1) λbS=>
 ab (am P al 3 bS) λbF=>
 ab (aZ P .add 3 true bF (.int .i64 1)) λcr=>
 ab (b7 Y) λb8=>
 ab (aF P 133 b8 1) λcb=>
 a1 al (aQ P al 3 cb cr) λaB=>
 aL aB (G 119 [Y,(.int .i64 4),(.str [40])] aB) λbT aG=>
 ab (fh .not bT) λbX=>
 bQ (some bX) (ab (aF P 57 aC 1) λbI=>
 ab (am P aG 9 bI) λcc=>
 ab (aF P 57 aC 3) λcG=>
 ab (am P aG 3 cG) λc6=>
 ab (cM P 103 [(0,(.int .i64 4)),(2,cc),(5,c6)]) λcN=>
 a1 aG (aQ P aG 103 ap cN) λaP=>
 ab (am P aP 103 ap) λr=>
 some (r,aP)) (aL aG (G 187 [Y,(.func (.func 163) [Y] [])] aG) λdu aP=>
 ab (aF P 57 aC 1) λcz=>
 ab (am P aP 9 cz) λc7=>
 ab (aF P 57 aC 3) λdh=>
 ab (am P aP 3 dh) λdT=>
 ab (cM P 103 [(0,(.int .i64 7)),(2,c7),(4,du),(5,dT)]) λdI=>
 a1 aP (aQ P aP 103 ap dI) λbn=>
 bif ((cd (am P aG 9 cz) c7&&(cd (am P aP 9 cz) c7&&true))&&((cd (am P aG 3 dh) dT&&(cd (am P aP 3 dh) dT&&true))&&true)) then(ab (am P bn 103 ap) λr=>
 some (r,bn)) else none)
theorem ahU(G:av)(N:Nat)(Y:I)(H:J):bp Tryz.f183 G N (cF [Y]) H=uy G Y H:=by
 refine cP (A:=bp Tryz.f183 G N) (aN _) ?_;delta uy;kernel_rfl
theorem ajv(N:Nat){Y:I}{H:J}{r:I×J}(h:uy (au P ao) Y H=some r):au P ao 183 [Y] H=some r:=
 cV ad Tryz.func183 ad ad ad ((ahU (au P ao) N Y H).trans h)
def r3(G:av)(H:J):O:=
 dA H (some (.map (H).next,.map [])) λai U=>
 a1 U (jg P U 218 ai (.str [116,114,117,101]) (.func (.func 188) [] [])) λaa=>
 a1 aa (jg P aa 218 ai (.str [102,97,108,115,101]) (.func (.func 188) [] [])) λae=>
 a1 ae (jg P ae 218 ai (.str [110,117,108,108]) (.func (.func 189) [] [])) λal=>
 a1 al (jg P al 218 ai (.str [110,101,119]) (.func (.func 190) [] [])) λaB=>
 a1 aB (jg P aB 218 ai (.str [108,101,110]) (.func (.func 191) [] [])) λaG=>
 a1 aG (jg P aG 218 ai (.str [114,101,97,100]) (.func (.func 192) [] [])) λaP=>
 a1 aP (jg P aP 218 ai (.str [40]) (.func (.func 193) [] [])) λbn=>
 some (ai,bn)
theorem ahV(G:av)(N:Nat)(H:J):bp Tryz.f184 G N (cF []) H=r3 G H:=by
 refine cP (A:=bp Tryz.f184 G N) (aN _) ?_;delta r3;kernel_rfl
theorem ajw(N:Nat){H:J}{r:I×J}(h:r3 (au P ao) H=some r):au P ao 184 [] H=some r:=
 cV ad Tryz.func184 ad ad ad ((ahV (au P ao) N H).trans h)
def y7(G:av)(Y aC:I)(a_ bf bB:I)(H:J):O:=
 ab (b7 Y) λdn=>
 ab (aF P 133 dn 1) λdu=>
 ab (am P H 3 du) λdh=>
 ab (aZ P .add 3 true dh (.int .i64 1)) λdT=>
 ab (b7 Y) λdI=>
 ab (aF P 133 dI 1) λcH=>
 a1 H (aQ P H 3 cH dT) λU=>
 ab (aF P 57 bB 1) λep=>
 ab (am P U 9 ep) λdV=>
 ab (am P U 103 aC) λef=>
 dA U (dH P (U).next 96 1 [(0,ef)]) λe6 aa=>
 ab (cM P 103 [(0,(.int .i64 5)),(2,dV),(4,e6),(5,bf)]) λej=>
 a1 aa (aQ P aa 103 a_ ej) λae=>
 ab (am P ae 103 a_) λr=>
 some (r,ae)
theorem ada(G:av)(N:Nat): ∀R H,cA P G N (Code.snd (Code.snd (Code.snd (Code.snd (Code.snd (di Tryz.f185)))))) (b_ Tryz.f185) [] (b_ Tryz.f185) R H=y7 G (R 0) (R 3) (R 4) (R 5) (R 6) H:=by
 refine ds (aN _) λR H=> ?_
 delta y7;kernel_rfl
def vU(G:av)(Y ai:I)(H:J):O:=
 dA H (eW (H).next ai) λaC U=>
 cv U [(.int .i64 0),(.int .i64 0),(.str []),(.str []),(.int .i64 0),I.an,(.int .i64 0),(.int .i64 0),(.int .i64 0),(.int .i64 0),(.int .i64 0)] λa_ aa=>
 aL aa (G 121 [Y] aa) λbS ae=>
 ab (d8 P 57 bS 3) λbF=>
 ab (b7 Y) λb8=>
 ab (aF P 133 b8 1) λcb=>
 ab (am P ae 3 cb) λb0=>
 ab (aZ P .add 3 true b0 (.int .i64 1)) λbT=>
 ab (b7 Y) λbX=>
 ab (aF P 133 bX 1) λbI=>
 a1 ae (aQ P ae 3 bI bT) λal=>
 aL al (G 121 [Y] al) λcG aB=>
 cv aB [(.int .i64 0),(.str []),(.int .i64 0),(.int .i64 0)] λbB aG=>
 a1 aG (aQ P aG 57 bB cG) λaP=>
 ab (aF P 57 bB 0) λc6=>
 ab (am P aP 3 c6) λcN=>
 ab (aZ P .neq 3 true cN (.int .i64 1)) λcz=>
 bQ (some cz) (aL aP (G 120 [Y,(.int .i64 2)] aP) λcI bn=>
 y7 G Y aC a_ bF bB bn) (y7 G Y aC a_ bF bB aP)
theorem ahW(G:av)(N:Nat)(Y:I)(ai:I)(H:J):bp Tryz.f185 G N (cF [Y,ai]) H=vU G Y ai H:=by
 refine cP (A:=bp Tryz.f185 G N) ((br ad ((br ad ((br ad ((br ad ((br ad (ada G N) (aN _))) (aN _))) (aN _))) (aN _))) (aN _))) ?_;delta vU;generalize y7 G=ba;revert ba;refine id ?_;intro ba;kernel_rfl
theorem ajx(N:Nat){Y ai:I}{H:J}{r:I×J}(h:vU (au P ao) Y ai H=some r):au P ao 185 [Y,ai] H=some r:=
 cV ad Tryz.func185 ad ad ad ((ahW (au P ao) N Y ai H).trans h)
def CE(G:av)(Y ai:I)(H:J):O:=
 dA H (eW (H).next ai) λaC U=>
 cv U [(.int .i64 0),(.int .i64 0),(.str []),(.str []),(.int .i64 0),I.an,(.int .i64 0),(.int .i64 0),(.int .i64 0),(.int .i64 0),(.int .i64 0)] λa_ aa=>
 aL aa (G 121 [Y] aa) λbu ae=>
 ab (d8 P 57 bu 3) λbS=>
 aL ae (G 194 [Y,(.str [91]),(.str [93])] ae) λb8 al=>
 ab (am P al 103 aC) λbF=>
 dA al (dH P (al).next 96 2 [(0,bF),(1,b8)]) λcb aB=>
 ab (cM P 103 [(0,(.int .i64 6)),(4,cb),(5,bS)]) λbT=>
 a1 aB (aQ P aB 103 a_ bT) λaG=>
 bif ((cd (am P ae 103 aC) bF&&(cd (am P al 103 aC) bF&&true))&&true) then(ab (am P aG 103 a_) λr=>
 some (r,aG)) else none
theorem ahX(G:av)(N:Nat)(Y:I)(ai:I)(H:J):bp Tryz.f186 G N (cF [Y,ai]) H=CE G Y ai H:=by
 refine cP (A:=bp Tryz.f186 G N) (aN _) ?_;delta CE;kernel_rfl
theorem ajy(N:Nat){Y ai:I}{H:J}{r:I×J}(h:CE (au P ao) Y ai H=some r):au P ao 186 [Y,ai] H=some r:=
 cV ad Tryz.func186 ad ad ad ((ahX (au P ao) N Y ai H).trans h)
def vd(G:av)(N:Nat)(Y bf:I)(H:J):O:=
 aL H (G 195 [Y,(.str [41])] H) λdn U=>
 some (bf,U)
theorem ade(G:av)(N:Nat): ∀R H,cA P G N (Code.snd (Code.snd (Code.snd (Code.snd (di Tryz.f187))))) (b_ Tryz.f187) [] (b_ Tryz.f187) R H=vd G N (R 0) (R 5) H:=by
 refine ds (aN _) λR H=> ?_
 delta vd;kernel_rfl
def vc(G:av)(N:Nat)(bE:I->I->I->J->O)(Y ai bf:I)(H:J):O:=
 aL H (G 136 [Y,(.int .i64 4),(.str [44])] H) λcG U=>
 bQ (some cG) (qR G U ai [] λcz aa=>
 dA aa (dH P (aa).next 96 1 [(0,cz)]) λc7 ae=>
 aL ae (fM P ae [96,96] bf c7) λcI al=>
 bE Y ai cI al) (vd G N Y bf U)
def y8(G:av)(N:Nat):Nat->I->I->I->J->O
 |0,_,_,_,_=>none
 |n+1,Y,ai,bf,H=>vc G N (y8 G N n) Y ai bf H
theorem adb(G:av)(N:Nat)(bE:I->I->I->J->O): ∀R H,cA P G N (Code.fst (Code.fst (Code.snd (Code.fst (Code.snd (Code.fst (Code.snd (Code.snd (Code.snd (di Tryz.f187)))))))))) (λR H=>bE (R 0) (R 1) (R 5) H) [(0,(λR H=>vd G N (R 0) (R 5) H))] (b_ Tryz.f187) R H=vc G N bE (R 0) (R 1) (R 5) H:=by
 refine ds (aN _) λR H=> ?_
 delta vc;generalize vd G N=ba;revert ba;refine id ?_;intro ba;kernel_rfl
def pb(G:av)(N:Nat)(Y ai:I)(H:J):O:=
 aL H (G 177 [Y,(.str [40])] H) λbu U=>
 ab (fh .not bu) λbS=>
 bQ (some bS) (some (I.an,U)) (aL U (G 119 [Y,(.int .i64 4),(.str [41])] U) λcr aa=>
 ab (fh .not cr) λb8=>
 bQ (some b8) (qR G aa ai [] λbT ae=>
 dA ae (dH P (ae).next 96 1 [(0,bT)]) λbX al=>
 aL al (fM P al [96,96] I.an bX) λbI aB=>
 y8 G N N Y ai bI aB) (vd G N Y I.an aa))
theorem ahY(G:av)(N:Nat)(Y:I)(ai:I)(H:J):bp Tryz.f187 G N (cF [Y,ai]) H=pb G N Y ai H:=by
 refine cP (A:=bp Tryz.f187 G N) ((br ad ((br ad ((br ad ((br ad (ade G N) ((br ad ((qF ad ((br ad ((fL ad ((gD (k:=λm R H=>y8 G N m (R 0) (R 1) (R 5) H) ad (λR H=>ad) (λm=>adb G N (y8 G N m)))))) (aN _))) (aN _))) (aN _))))) (aN _))) (aN _))) (aN _))) ?_;delta pb;generalize vd G N=ba;generalize y8 G N N=lZ;revert ba lZ;refine id ?_;intro ba lZ;kernel_rfl
theorem ajz(N:Nat){Y ai:I}{H:J}{r:I×J}(h:pb (au P ao) N Y ai H=some r):au P ao 187 [Y,ai] H=some r:=
 cV ad Tryz.func187 ad ad ad ((ahY (au P ao) N Y ai H).trans h)
def xb(G:av)(ap a_:I)(H:J):O:=
 ab (am P H 103 a_) λcz=>
 a1 H (aQ P H 103 ap cz) λU=>
 ab (am P U 103 ap) λr=>
 some (r,U)
theorem adf(G:av)(N:Nat): ∀R H,cA P G N (Code.snd (Code.snd (Code.snd (Code.snd (Code.snd (di Tryz.f188)))))) (b_ Tryz.f188) [] (b_ Tryz.f188) R H=xb G (R 2) (R 4) H:=by
 refine ds (aN _) λR H=> ?_
 delta xb;kernel_rfl
def CF(G:av)(Y:I)(H:J):O:=
 cv H [(.int .i64 0),(.int .i64 0),(.str []),(.str []),(.int .i64 0),I.an,(.int .i64 0),(.int .i64 0),(.int .i64 0),(.int .i64 0),(.int .i64 0)] λap U=>
 aL U (G 121 [Y] U) λbB aa=>
 cv aa [(.int .i64 0),(.str []),(.int .i64 0),(.int .i64 0)] λaC ae=>
 a1 ae (aQ P ae 57 aC bB) λal=>
 ab (b7 Y) λbS=>
 ab (aF P 133 bS 1) λbF=>
 ab (am P al 3 bF) λcr=>
 ab (aZ P .add 3 true cr (.int .i64 1)) λb8=>
 ab (b7 Y) λcb=>
 ab (aF P 133 cb 1) λb0=>
 a1 al (aQ P al 3 b0 b8) λaB=>
 ab (aF P 57 aC 3) λbT=>
 ab (am P aB 3 bT) λbX=>
 ab (cM P 103 [(0,(.int .i64 2)),(5,bX)]) λbI=>
 cv aB [(.int .i64 0),(.int .i64 0),(.str []),(.str []),(.int .i64 0),I.an,(.int .i64 0),(.int .i64 0),(.int .i64 0),(.int .i64 0),(.int .i64 0)] λa_ aG=>
 a1 aG (aQ P aG 103 a_ bI) λaP=>
 ab (aF P 57 aC 1) λcc=>
 ab (am P aP 9 cc) λcG=>
 ab (aZ P .eql 9 true cG (.str [116,114,117,101])) λc6=>
 bQ (some c6) (ab (aF P 103 a_ 1) λcN=>
 a1 aP (aQ P aP 3 cN (.int .i64 1)) λbn=>
 xb G ap a_ bn) (xb G ap a_ aP)
theorem ahZ(G:av)(N:Nat)(Y:I)(H:J):bp Tryz.f188 G N (cF [Y]) H=CF G Y H:=by
 refine cP (A:=bp Tryz.f188 G N) ((br ad ((br ad ((br ad ((br ad ((br ad (adf G N) (aN _))) (aN _))) (aN _))) (aN _))) (aN _))) ?_;delta CF;generalize xb G=ba;revert ba;refine id ?_;intro ba;kernel_rfl
theorem ajA(N:Nat){Y:I}{H:J}{r:I×J}(h:CF (au P ao) Y H=some r):au P ao 188 [Y] H=some r:=
 cV ad Tryz.func188 ad ad ad ((ahZ (au P ao) N Y H).trans h)
def CG(G:av)(Y:I)(H:J):O:=
 cv H [(.int .i64 0),(.int .i64 0),(.str []),(.str []),(.int .i64 0),I.an,(.int .i64 0),(.int .i64 0),(.int .i64 0),(.int .i64 0),(.int .i64 0)] λap U=>
 aL U (G 121 [Y] U) λbf aa=>
 ab (d8 P 57 bf 3) λbB=>
 ab (b7 Y) λbS=>
 ab (aF P 133 bS 1) λbF=>
 ab (am P aa 3 bF) λcr=>
 ab (aZ P .add 3 true cr (.int .i64 1)) λb8=>
 ab (b7 Y) λcb=>
 ab (aF P 133 cb 1) λb0=>
 a1 aa (aQ P aa 3 b0 b8) λae=>
 aL ae (G 101 [Y] ae) λbX al=>
 ab (cM P 103 [(0,(.int .i64 3)),(3,bX),(5,bB)]) λcc=>
 a1 al (aQ P al 103 ap cc) λaB=>
 ab (am P aB 103 ap) λr=>
 some (r,aB)
theorem ah0(G:av)(N:Nat)(Y:I)(H:J):bp Tryz.f189 G N (cF [Y]) H=CG G Y H:=by
 refine cP (A:=bp Tryz.f189 G N) (aN _) ?_;delta CG;kernel_rfl
theorem ajB(N:Nat){Y:I}{H:J}{r:I×J}(h:CG (au P ao) Y H=some r):au P ao 189 [Y] H=some r:=
 cV ad Tryz.func189 ad ad ad ((ah0 (au P ao) N Y H).trans h)
def xc(G:av)(Y ap:I)(aC bf:I)(H:J):O:=
 ab (b7 Y) λej=>
 ab (aF P 133 ej 1) λed=>
 ab (am P H 3 ed) λfj=>
 ab (aZ P .add 3 true fj (.int .i64 1)) λft=>
 ab (b7 Y) λe7=>
 ab (aF P 133 e7 1) λfy=>
 a1 H (aQ P H 3 fy ft) λU=>
 ab (aF P 57 bf 1) λfW=>
 ab (am P U 9 fW) λgv=>
 ab (cM P 43 [(0,gv)]) λeU=>
 ab (cM P 103 [(0,(.int .i64 8)),(3,eU),(5,aC)]) λgb=>
 a1 U (aQ P U 103 ap gb) λaa=>
 ab (am P aa 103 ap) λr=>
 some (r,aa)
theorem adg(G:av)(N:Nat): ∀R H,cA P G N (Code.snd (Code.snd (Code.snd (Code.snd (Code.snd (Code.snd (di Tryz.f190))))))) (b_ Tryz.f190) [] (b_ Tryz.f190) R H=xc G (R 0) (R 2) (R 3) (R 5) H:=by
 refine ds (aN _) λR H=> ?_
 delta xc;kernel_rfl
def p_(G:av)(Y:I)(H:J):O:=
 cv H [(.int .i64 0),(.int .i64 0),(.str []),(.str []),(.int .i64 0),I.an,(.int .i64 0),(.int .i64 0),(.int .i64 0),(.int .i64 0),(.int .i64 0)] λap U=>
 aL U (G 121 [Y] U) λbu aa=>
 ab (d8 P 57 bu 3) λbS=>
 ab (b7 Y) λcr=>
 ab (aF P 133 cr 1) λb8=>
 ab (am P aa 3 b8) λcb=>
 ab (aZ P .add 3 true cb (.int .i64 1)) λb0=>
 ab (b7 Y) λbT=>
 ab (aF P 133 bT 1) λbX=>
 a1 aa (aQ P aa 3 bX b0) λae=>
 aL ae (G 136 [Y,(.int .i64 4),(.str [91])] ae) λcc al=>
 bQ (some cc) (aL al (G 101 [Y] al) λc6 aB=>
 cv aB [(.str []),(.int .i64 0)] λa_ aG=>
 a1 aG (aQ P aG 43 a_ c6) λaP=>
 aL aP (G 122 [Y,(.str [93])] aP) λcz bn=>
 aL bn (G 194 [Y,(.str [40]),(.str [41])] bn) λdb bH=>
 ab (am P bH 43 a_) λc7=>
 dA bH (dH P (bH).next 96 1 [(0,db)]) λdn co=>
 ab (cM P 103 [(0,(.int .i64 9)),(3,c7),(4,dn),(5,bS)]) λdh=>
 a1 co (aQ P co 103 ap dh) λdp=>
 bif ((cd (am P bn 43 a_) c7&&(cd (am P bH 43 a_) c7&&(cd (am P co 43 a_) c7&&true)))&&true) then(ab (am P dp 103 ap) λr=>
 some (r,dp)) else none) (aL al (G 121 [Y] al) λdI aB=>
 cv aB [(.int .i64 0),(.str []),(.int .i64 0),(.int .i64 0)] λbf aG=>
 a1 aG (aQ P aG 57 bf dI) λaP=>
 ab (aF P 57 bf 0) λcH=>
 ab (am P aP 3 cH) λep=>
 ab (aZ P .neq 3 true ep (.int .i64 1)) λdV=>
 bQ (some dV) (aL aP (G 120 [Y,(.int .i64 2)] aP) λe6 bn=>
 xc G Y ap bS bf bn) (xc G Y ap bS bf aP))
theorem ah1(G:av)(N:Nat)(Y:I)(H:J):bp Tryz.f190 G N (cF [Y]) H=p_ G Y H:=by
 refine cP (A:=bp Tryz.f190 G N) ((br ad ((br ad ((br ad ((br ad ((br ad ((br ad (adg G N) (aN _))) (aN _))) (aN _))) (aN _))) (aN _))) (aN _))) ?_;delta p_;generalize xc G=ba;revert ba;refine id ?_;intro ba;kernel_rfl
theorem ajC(N:Nat){Y:I}{H:J}{r:I×J}(h:p_ (au P ao) Y H=some r):au P ao 190 [Y] H=some r:=
 cV ad Tryz.func190 ad ad ad ((ah1 (au P ao) N Y H).trans h)
def CH(G:av)(Y:I)(H:J):O:=
 cv H [(.int .i64 0),(.int .i64 0),(.str []),(.str []),(.int .i64 0),I.an,(.int .i64 0),(.int .i64 0),(.int .i64 0),(.int .i64 0),(.int .i64 0)] λap U=>
 aL U (G 121 [Y] U) λbf aa=>
 ab (d8 P 57 bf 3) λbB=>
 ab (b7 Y) λbS=>
 ab (aF P 133 bS 1) λbF=>
 ab (am P aa 3 bF) λcr=>
 ab (aZ P .add 3 true cr (.int .i64 1)) λb8=>
 ab (b7 Y) λcb=>
 ab (aF P 133 cb 1) λb0=>
 a1 aa (aQ P aa 3 b0 b8) λae=>
 aL ae (G 194 [Y,(.str [40]),(.str [41])] ae) λbX al=>
 dA al (dH P (al).next 96 1 [(0,bX)]) λbI aB=>
 ab (cM P 103 [(0,(.int .i64 10)),(4,bI),(5,bB)]) λcG=>
 a1 aB (aQ P aB 103 ap cG) λaG=>
 ab (am P aG 103 ap) λr=>
 some (r,aG)
theorem ah2(G:av)(N:Nat)(Y:I)(H:J):bp Tryz.f191 G N (cF [Y]) H=CH G Y H:=by
 refine cP (A:=bp Tryz.f191 G N) (aN _) ?_;delta CH;kernel_rfl
theorem ajD(N:Nat){Y:I}{H:J}{r:I×J}(h:CH (au P ao) Y H=some r):au P ao 191 [Y] H=some r:=
 cV ad Tryz.func191 ad ad ad ((ah2 (au P ao) N Y H).trans h)
def tM(G:av)(ap aC:I)(H:J):O:=
 ab (cM P 103 [(0,(.int .i64 11)),(5,aC)]) λc6=>
 a1 H (aQ P H 103 ap c6) λU=>
 ab (am P U 103 ap) λr=>
 some (r,U)
theorem adh(G:av)(N:Nat): ∀R H,cA P G N (Code.snd (Code.snd (Code.snd (Code.snd (di Tryz.f192))))) (b_ Tryz.f192) [] (b_ Tryz.f192) R H=tM G (R 2) (R 3) H:=by
 refine ds (aN _) λR H=> ?_
 delta tM;kernel_rfl
def x2(G:av)(Y:I)(H:J):O:=
 cv H [(.int .i64 0),(.int .i64 0),(.str []),(.str []),(.int .i64 0),I.an,(.int .i64 0),(.int .i64 0),(.int .i64 0),(.int .i64 0),(.int .i64 0)] λap U=>
 aL U (G 121 [Y] U) λbf aa=>
 ab (d8 P 57 bf 3) λbB=>
 ab (b7 Y) λbS=>
 ab (aF P 133 bS 1) λbF=>
 ab (am P aa 3 bF) λcr=>
 ab (aZ P .add 3 true cr (.int .i64 1)) λb8=>
 ab (b7 Y) λcb=>
 ab (aF P 133 cb 1) λb0=>
 a1 aa (aQ P aa 3 b0 b8) λae=>
 aL ae (G 177 [Y,(.str [40])] ae) λbX al=>
 bQ (some bX) (aL al (G 195 [Y,(.str [41])] al) λcc aB=>
 tM G ap bB aB) (tM G ap bB al)
theorem ah3(G:av)(N:Nat)(Y:I)(H:J):bp Tryz.f192 G N (cF [Y]) H=x2 G Y H:=by
 refine cP (A:=bp Tryz.f192 G N) ((br ad ((br ad ((br ad ((br ad (adh G N) (aN _))) (aN _))) (aN _))) (aN _))) ?_;delta x2;generalize tM G=ba;revert ba;refine id ?_;intro ba;kernel_rfl
theorem ajE(N:Nat){Y:I}{H:J}{r:I×J}(h:x2 (au P ao) Y H=some r):au P ao 192 [Y] H=some r:=
 cV ad Tryz.func192 ad ad ad ((ah3 (au P ao) N Y H).trans h)
def EQ(G:av)(Y:I)(H:J):O:=
 cv H [(.int .i64 0),(.int .i64 0),(.str []),(.str []),(.int .i64 0),I.an,(.int .i64 0),(.int .i64 0),(.int .i64 0),(.int .i64 0),(.int .i64 0)] λap U=>
 aL U (G 194 [Y,(.str [40]),(.str [41])] U) λa_ aa=>
 a1 aa (aQ P aa 103 ap a_) λae=>
 ab (am P ae 103 ap) λr=>
 some (r,ae)
theorem ah4(G:av)(N:Nat)(Y:I)(H:J):bp Tryz.f193 G N (cF [Y]) H=EQ G Y H:=by
 refine cP (A:=bp Tryz.f193 G N) (aN _) ?_;delta EQ;kernel_rfl
theorem ajF(N:Nat){Y:I}{H:J}{r:I×J}(h:EQ (au P ao) Y H=some r):au P ao 193 [Y] H=some r:=
 cV ad Tryz.func193 ad ad ad ((ah4 (au P ao) N Y H).trans h)
def x3(G:av)(Y ai ap:I)(H:J):O:=
 cv H [(.int .i64 0),(.int .i64 0),(.str []),(.str []),(.int .i64 0),I.an,(.int .i64 0),(.int .i64 0),(.int .i64 0),(.int .i64 0),(.int .i64 0)] λbB U=>
 aL U (G 177 [Y,ai] U) λcr aa=>
 ab (fh .not cr) λb8=>
 bQ (some b8) (a1 aa (aQ P aa 103 bB (.agg [(.int .i64 0),(.int .i64 0),(.str []),(.str []),(.int .i64 0),I.an,(.int .i64 0),(.int .i64 0),(.int .i64 0),(.int .i64 0),(.int .i64 0)])) λae=>
 ab (am P ae 103 bB) λr=>
 some (r,ae)) (aL aa (G 163 [Y] aa) λbT ae=>
 cv ae [(.int .i64 0),(.int .i64 0),(.str []),(.str []),(.int .i64 0),I.an,(.int .i64 0),(.int .i64 0),(.int .i64 0),(.int .i64 0),(.int .i64 0)] λbu al=>
 a1 al (aQ P al 103 bu bT) λaB=>
 aL aB (G 195 [Y,ap] aB) λcc aG=>
 ab (am P aG 103 bu) λcG=>
 a1 aG (aQ P aG 103 bB cG) λaP=>
 ab (am P aP 103 bB) λr=>
 some (r,aP))
theorem ah5(G:av)(N:Nat)(Y:I)(ai:I)(ap:I)(H:J):bp Tryz.f194 G N (cF [Y,ai,ap]) H=x3 G Y ai ap H:=by
 refine cP (A:=bp Tryz.f194 G N) (aN _) ?_;delta x3;kernel_rfl
theorem ajG(N:Nat){Y ai ap:I}{H:J}{r:I×J}(h:x3 (au P ao) Y ai ap H=some r):au P ao 194 [Y,ai,ap] H=some r:=
 cV ad Tryz.func194 ad ad ad ((ah5 (au P ao) N Y ai ap H).trans h)
def HZ(G:av)(H:J):O:=
 dA H (some (.aM (H).next 0 1 2 (some 1),.row false 2 [[(.str [124,124]),(.int .i64 24)]])) λap U=>
 dA U (some (.aM (U).next 0 1 2 (some 1),.row false 2 [[(.str [38,38]),(.int .i64 23)]])) λa_ aa=>
 dA aa (some (.aM (aa).next 0 4 2 (some 4),.row false 2 [[(.str [60]),(.int .i64 19)],[(.str [60,61]),(.int .i64 20)],[(.str [61,61]),(.int .i64 21)],[(.str [33,61]),(.int .i64 22)]])) λbF ae=>
 dA ae (some (.aM (ae).next 0 2 2 (some 2),.row false 2 [[(.str [43]),(.int .i64 14)],[(.str [45]),(.int .i64 15)]])) λcb al=>
 dA al (some (.aM (al).next 0 3 2 (some 3),.row false 2 [[(.str [42]),(.int .i64 16)],[(.str [47]),(.int .i64 17)],[(.str [37]),(.int .i64 18)]])) λbI aB=>
 dA aB (dH P (aB).next 131 5 [(0,ap),(1,a_),(2,bF),(3,cb),(4,bI)]) λcc aG=>
 some (cc,aG)
theorem ahL(G:av)(N:Nat)(H:J):bp Tryz.f162 G N (cF []) H=HZ G H:=by
 refine cP (A:=bp Tryz.f162 G N) (aN _) ?_;delta HZ;kernel_rfl
theorem ajm(N:Nat){H:J}{r:I×J}(h:HZ (au P ao) H=some r):au P ao 162 [] H=some r:=
 cV ad Tryz.func162 ad ad ad ((ahL (au P ao) N H).trans h)
def AK(G:av)(Y ai:I)(H:J):O:=
 cv H [(.str []),(.int .i64 0)] λa_ U=>
 cv U [(.int .i64 0),(.int .i64 0)] λbB aa=>
 ab (cM P 133 [(0,Y),(1,ai)]) λb8=>
 dA aa (eW (aa).next b8) λcb ae=>
 aL ae (G 101 [cb] ae) λbT al=>
 cv al [(.str []),(.int .i64 0)] λbS aB=>
 a1 aB (aQ P aB 43 bS bT) λaG=>
 aL aG (G 102 [cb] aG) λbI aP=>
 bQ (some bI) (a1 aP (aQ P aP 43 a_ (.agg [(.str []),(.int .i64 0)])) λbn=>
 ab (b7 cb) λc6=>
 ab (aF P 133 c6 4) λcN=>
 ab (am P bn 29 cN) λcz=>
 a1 bn (aQ P bn 29 bB cz) λbH=>
 bif ((cd (am P aP 29 cN) cz&&(cd (am P bn 29 cN) cz&&true))&&true) then(ab (am P bH 43 a_) λr=>
 ab (am P bH 29 bB) λmq=>
 some (.tuple [r,(.int .i64 0),mq],bH)) else none) (ab (am P aP 43 bS) λc7=>
 a1 aP (aQ P aP 43 a_ c7) λbn=>
 ab (b7 cb) λdb=>
 ab (aF P 133 db 1) λdn=>
 ab (am P bn 3 dn) λdu=>
 a1 bn (aQ P bn 29 bB (.agg [(.int .i64 0),(.int .i64 0)])) λbH=>
 bif ((cd (am P aP 3 dn) du&&(cd (am P bn 3 dn) du&&true))&&true) then(ab (am P bH 43 a_) λr=>
 ab (am P bH 29 bB) λmq=>
 some (.tuple [r,du,mq],bH)) else none)
theorem aky(G:av)(N:Nat)(Y:I)(ai:I)(H:J):bp Tryz.f73 G N (cF [Y,ai]) H=AK G Y ai H:=by
 refine cP (A:=bp Tryz.f73 G N) (aN _) ?_;delta AK;kernel_rfl
theorem amz(N:Nat){Y ai:I}{H:J}{r:I×J}(h:AK (au P ao) Y ai H=some r):au P ao 73 [Y,ai] H=some r:=
 cV ad Tryz.func73 ad ad ad ((aky (au P ao) N Y ai H).trans h)
def x0(G:av)(Y ai ap:I)(H:J):O:=
 cv H [(.int .i64 0),(.int .i64 0),(.str []),(.str []),(.int .i64 0),I.an,(.int .i64 0),(.int .i64 0),(.int .i64 0),(.int .i64 0),(.int .i64 0)] λbB U=>
 cv U [(.int .i64 0),(.int .i64 0)] λbS aa=>
 bj P .max [3,3] [ap,(.int .i64 0)] aa λbT=>
 aL aa (G 162 [] aa) λbX ae=>
 ab (cM P 133 [(0,Y),(1,ai),(2,bT),(3,bX)]) λbI=>
 dA ae (eW (ae).next bI) λcc al=>
 aL al (G 163 [cc] al) λc6 aB=>
 cv aB [(.int .i64 0),(.int .i64 0),(.str []),(.str []),(.int .i64 0),I.an,(.int .i64 0),(.int .i64 0),(.int .i64 0),(.int .i64 0),(.int .i64 0)] λcr aG=>
 a1 aG (aQ P aG 103 cr c6) λaP=>
 aL aP (G 102 [cc] aP) λcz bn=>
 bQ (some cz) (a1 bn (aQ P bn 103 bB (.agg [(.int .i64 0),(.int .i64 0),(.str []),(.str []),(.int .i64 0),I.an,(.int .i64 0),(.int .i64 0),(.int .i64 0),(.int .i64 0),(.int .i64 0)])) λbH=>
 ab (b7 cc) λdb=>
 ab (aF P 133 db 4) λdn=>
 ab (am P bH 29 dn) λdu=>
 a1 bH (aQ P bH 29 bS du) λco=>
 bif ((cd (am P bn 29 dn) du&&(cd (am P bH 29 dn) du&&true))&&true) then(ab (am P co 103 bB) λr=>
 ab (am P co 29 bS) λmq=>
 some (.tuple [r,(.int .i64 0),mq],co)) else none) (ab (am P bn 103 cr) λdh=>
 a1 bn (aQ P bn 103 bB dh) λbH=>
 ab (b7 cc) λdI=>
 ab (aF P 133 dI 1) λcH=>
 ab (am P bH 3 cH) λep=>
 a1 bH (aQ P bH 29 bS (.agg [(.int .i64 0),(.int .i64 0)])) λco=>
 bif ((cd (am P bn 3 cH) ep&&(cd (am P bH 3 cH) ep&&true))&&true) then(ab (am P co 103 bB) λr=>
 ab (am P co 29 bS) λmq=>
 some (.tuple [r,ep,mq],co)) else none)
theorem ahF(G:av)(N:Nat)(Y:I)(ai:I)(ap:I)(H:J):bp Tryz.f153 G N (cF [Y,ai,ap]) H=x0 G Y ai ap H:=by
 refine cP (A:=bp Tryz.f153 G N) (aN _) ?_;delta x0;kernel_rfl
theorem ajg(N:Nat){Y ai ap:I}{H:J}{r:I×J}(h:x0 (au P ao) Y ai ap H=some r):au P ao 153 [Y,ai,ap] H=some r:=
 cV ad Tryz.func153 ad ad ad ((ahF (au P ao) N Y ai ap H).trans h)
end
end
end Go.Proofs.YtghmbpmaafnodaaGreatDoor
