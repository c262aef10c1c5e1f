/-
  Texts of one proof, laid together: Pc Pd T2 T3 T4 T5.
-/
import Derived.Test.YtghmbpmaafnodaaGreatDoorML
import Derived.Test.YtghmbpmaafnodaaGreatDoorMH
import Derived.Test.YtghmbpmaafnodaaGreatDoorMK
set_option linter.unusedVariables false
set_option linter.unusedSimpArgs false
namespace Go.Proofs.YtghmbpmaafnodaaGreatDoor
open Go.f7
section
def mx(o a0:Int)(m:Nat)(e:bh)(bd:Int):Prop:=(l1 e:Int)<=60*(bd-a0)/\ ∃d:Nat,o+d<=50/\gi d m e
theorem mx.low{o a0 bd:Int}{m fp:Nat}{e:bh}(h:mx o a0 m e bd)(hm:fp<=m):mx o a0 fp e bd:=⟨h.1,h.2.imp λ_ h=>⟨h.1,h.2.low hm⟩⟩
theorem mx.wide{o a0 bd ZR c_:Int}{m:Nat}{e:bh}(h:mx o a0 m e bd)(a6:ZR<=a0)(U:bd<=c_):mx o ZR m e c_:=⟨by have:=h.1;omega,h.2⟩
theorem H6{a:fm}(aV:a.name.length<=8)(bs:a.eQ=[]):(l1 (.mk a []):Int)<=60:=by simp[l1,kT,bs];omega
theorem WS{a:fm}(aV:a.eQ.length<=8)(bs:a.name=[]):(l1 (.mk a []):Int)<=60:=by simp[l1,kT,bs];omega
theorem H7{a:fm}{e:bh}(aV:a.name.length+a.eQ.length<=8):(l1 (.mk a [e]):Int)<=60+l1 e:=by simp[l1,kT];omega
theorem X6{a:fm}{e f:bh}(aV:a.name.length+a.eQ.length<=8):(l1 (.mk a [e,f]):Int)<=60+l1 e+l1 f:=by simp[l1,kT];omega
theorem aoi{a:fm}{l:List bh}(aV:a.name.length+a.eQ.length<=8):(l1 (.mk a l):Int)<=60+kT l:=by simp[l1];omega
structure akZ(T:List Tok)(E:Int)(n:Nat):Prop where
 expr: ∀lev s p,lev<=5->hs E s->im T n lev s=some p->p.2.aA=0->fk E s p.2 1/\mx s.bN s.at_ (lev+1) p.1 p.2.at_
 Wc: ∀lev e a0 s p,lev<=4->hs E s->(s.aA=0->mx s.bN a0 (lev+1) e s.at_)->om T n lev e s=some p->p.2.aA=0->fk E s p.2 0/\mx s.bN a0 (lev+1) p.1 p.2.at_
 unary: ∀s p,hs E s->pU T n s=some p->p.2.aA=0->fk E s p.2 1/\mx s.bN s.at_ 6 p.1 p.2.at_
 sign: ∀k s p,k=12\/k=13->hs E s->p3 T n k s=some p->p.2.aA=0->fk E s p.2 1/\mx s.bN s.at_ 6 p.1 p.2.at_
 behind: ∀e a0 s p,hs E s->(s.aA=0->mx s.bN a0 7 e s.at_)->jV T n e s=some p->p.2.aA=0->fk E s p.2 0/\mx s.bN a0 7 p.1 p.2.at_
 inner: ∀s p,hs E s->ld T n s=some p->p.2.aA=0->fk E s p.2 1/\mx (s.bN+1) s.at_ 0 p.1 p.2.at_
 first: ∀s p,hs E s->l5 T n s=some p->p.2.aA=0->fk E s p.2 1/\mx s.bN s.at_ 7 p.1 p.2.at_
 fresh: ∀pos s p,hs E s->pP T n pos s=some p->p.2.aA=0->fk E s p.2 1/\mx s.bN (s.at_-1) 7 p.1 p.2.at_
 args: ∀s p,hs E s->mJ T n s=some p->p.2.aA=0->fk E s p.2 1/\(kT p.1:Int)<=60*(p.2.at_-s.at_)/\ ∃d:Nat,s.bN+1+d<=50/\ ∀e∈p.1,gi d 0 e
 V2: ∀l a0 s p,hs E s->1<=s.bN->(s.aA=0->(kT l:Int)<=60*(s.at_-a0)/\ ∃d:Nat,s.bN+d<=50/\ ∀e∈l,gi d 0 e)->lb T n l s=some p->p.2.aA=0->(s.aA=0/\p.2.bN=s.bN-1/\s.at_+1<=p.2.at_/\p.2.at_<=E)/\(kT p.1:Int)<=60*(p.2.at_-a0)/\ ∃d:Nat,s.bN+d<=50/\ ∀e∈p.1,gi d 0 e
theorem nw{α β:Type}{x:Option α}{f:α->Option β}{b:β}(h:x.bind f=some b): ∃a,x=some a/\f a=some b:=eT.1 h
theorem Sc{x:bk}: ∀l:List (bk×Int),uv x l≠0-> ∃k,(x,k)∈l/\uv x l=k
 |[],h=>absurd rfl h
 |(y,k)::r,h=>by
  rw[uv] at h ⊢;cases cR:y==x with
  |true=>
   obtain rfl:y=x:=by simpa using cR
   rw[bx];exact⟨k,List.mem_cons_self,rfl⟩
  |false=>
   rw[cR,bi] at h;rw[bi];obtain⟨k,U,aa⟩:=Sc r h;exact⟨k,List.mem_cons_of_mem _ U,aa⟩
def alB(lev:Nat):Bool:=(mO[lev]?.getD []).all λp=>decide (14<=p.2)&&decide (p.2<=24)&&wq p.2==lev+1
theorem agV:(List.range 5).all alB=true:=by decide+kernel
theorem agU{lev:Nat}(ax:lev<=4){t:Tok}(h:jk lev t≠0):t.kind=4/\14<=jk lev t/\jk lev t<=24/\wq (jk lev t)=lev+1/\(t.text,jk lev t)∈mO[lev]?.getD []:=by
 unfold jk at h ⊢;cases ah:(t.kind != 4) with
 |true=>rw[ah,bx] at h;exact absurd rfl h
 |false=>
  rw[ah,bi] at h;rw[bi];obtain⟨k,U,aa⟩:=Sc _ h;have:=List.all_eq_true.1 (List.all_eq_true.1 agV lev (List.mem_range.2 Z)) _ U;simp only[Bool.and_eq_true,decide_eq_true_eq,beq_iff_eq] at this;rw[aa];exact⟨by simpa using ah,this.1.1,this.1.2,this.2,U⟩
theorem DP{o:Int}{d ek:Nat}(h:o+d<=50)(bZ:o+ek<=50):o+(max d ek:Nat)<=50:=Z
theorem VJ{T:List Tok}{E:Int}(aH:Good T E): ∀n,akZ T E n
 |0=>by
  constructor<;>intros<;>rename_i h _<;>first|cases h|skip
 |n+1=>by
  have aT:=VJ aH n;refine⟨?_,?_,?_,?_,?_,?_,?_,?_,?_,?_⟩
  ·intro lev s p ax be h bA;rw[im] at h;split at h
   ·rename_i aB;subst aB;exact aT.unary s p be h bA
   ·obtain⟨q,g1,g2⟩:=nw h;have U:=λbg=>aT.expr (lev+1) s q Z be g1 bg
    obtain⟨cS,dq⟩:=aT.Wc lev q.1 s.at_ q.2 p Z (λbg=>(U bg).1.in (be (U bg).1.f) Z) (λbg=>by rw[(U bg).1.o];exact(U bg).2.low Z) g2 bA;have U:=U cS.f;exact⟨(U.1.trans cS).less Z,by rw[U.1.o] at dq;exact dq⟩
  ·intro lev e a0 s p ax be he h bA;rw[om] at h;cases aS:(s.aA==0&&jk lev (aq T s.at_) != 0) with
   |false=>
    rw[aS,bi] at h;cases h;exact⟨.refl (be bA) bA,he bA⟩
   |true=>
    rw[aS,bx] at h;simp only[Bool.and_eq_true,beq_iff_eq,bne_iff_ne,ne_eq] at aS;obtain⟨ak,fx⟩:=aS;obtain⟨gj,e3,gk,nh,-⟩:=agU ax fx;have aX:=(go_ok aH (be ak) ak Z).2;have i7:=aX.in (be ak) Z;obtain⟨q,g1,g2⟩:=nw h;have U:=λbg=>aT.expr (lev+1) (aE s) q Z (λ_=>i7) g1 bg
    have key: ∀bg:q.2.aA=0,mx q.2.bN a0 (lev+1) (.mk {kind:=jk lev (aq T s.at_),pos:=(aq T s.at_).pos} [e,q.1]) q.2.at_:=by
     intro bg;obtain⟨eV,my,d,kr,hd⟩:=U bg;obtain⟨i2,ek,i3,i4⟩:=he ak;have:=X6 (a:={kind:=jk lev (aq T s.at_),pos:=(aq T s.at_).pos}) (e:=e) (f:=q.1) (by simp);have fv:=aX.a;have go:=aX.o;have Dj:=eV.o;refine⟨Z,max d ek,by rw[Dj,go];exact DP (by rw[<-go];exact kr) i3,?_⟩;refine .bin Z e3 gk ?_ ?_
     ·rw[nh];exact i4.more Z
     ·rw[nh];exact hd.more Z
    obtain⟨cS,dq⟩:=aT.Wc lev _ a0 q.2 p ax (λbg=>(U bg).1.in i7 Z) key g2 bA;have U:=U cS.f;refine⟨((aX.trans U.1).trans cS).less Z,?_⟩;rw[U.1.o,aX.o] at dq;exact dq
  ·intro s p be h bA;rw[pU] at h;cases af:b2 T s [45] with
   |true=>rw[af,bx] at h;exact aT.sign 12 s p (.inl rfl) be h bA
   |false=>
    rw[af,bi] at h;cases cR:b2 T s [33] with
    |true=>rw[cR,bx] at h;exact aT.sign 13 s p (.inr rfl) be h bA
    |false=>
     rw[cR,bi] at h;obtain⟨q,g1,g2⟩:=nw h;have U:=λbg=>aT.first s q be g1 bg
     obtain⟨cS,dq⟩:=aT.behind q.1 s.at_ q.2 p (λbg=>(U bg).1.in (be (U bg).1.f) Z) (λbg=>by rw[(U bg).1.o];exact(U bg).2) g2 bA;have U:=U cS.f;exact⟨(U.1.trans cS).less Z,by rw[U.1.o] at dq;exact dq.low Z⟩
  ·intro k s p ah be h bA;rw[p3] at h;obtain⟨q,g1,g2⟩:=nw h;cases g2;have bg:q.2.aA=0:=bA;have apz:(eE T (aq T s.at_).text s).aA=0->hs E (eE T (aq T s.at_).text s):=λak _=>(qE aH be ak).2.2.2.2.1
   obtain⟨eV,my,d,kr,hd⟩:=aT.expr 5 _ q Z (λak=>apz ak ak) g1 bg;obtain⟨cZ,dk,dJ,eL,iJ,wB⟩:=qE aH be eV.f;have CW:=eV.in iJ Z;have bs:=La CW;simp only[bs] at bA ⊢;have AZ:=eV.a;have Dj:=eV.o;have Ji:=eV.b;have:=H7 (a:={kind:=k,pos:=(aq T s.at_).pos}) (e:=q.1) (by simp);refine⟨⟨dk,bA,by(try simp only);omega,by(try simp only);omega,Ji⟩,by(try simp only);omega,d+1,Z,.sign Z ah hd⟩
  ·intro e a0 s p be he h bA;rw[jV] at h;cases af:b2 T s [46] with
   |true=>
    rw[af,bx] at h;have ak:=(ik af).1;have aX:=mE aH (be ak) af;have i7:=aX.in (be ak) Z;have aV:=λbg=>BO aH (s:=aE s) (λ_=>i7) bg
    obtain⟨i2,ek,i3,i4⟩:=he ak;obtain⟨cS,dq⟩:=aT.behind _ a0 _ p (λbg=>(aV bg).2.in i7 Z) (λbg=>by
     obtain⟨fw,n2⟩:=aV bg;have:=H7 (a:={kind:=5,name:=(da T (aE s)).1,pos:=(aq T s.at_).pos}) (e:=e) (by have:=wO fw;simp;omega);have F9:=n2.a;have fv:=aX.a;refine⟨Z,ek,by rw[n2.o,aX.o];exact i3,.field Z fw i4⟩) h bA
    have n2:=(aV cS.f).2;refine⟨((aX.trans n2).trans cS).less Z,?_⟩;rw[n2.o,aX.o] at dq;exact dq
   |false=>
    rw[af,bi] at h;cases cR:b2 T s [91] with
    |true=>
     rw[cR,bx] at h;have ak:=(ik cR).1;obtain⟨q,g1,g2⟩:=nw h;obtain⟨i2,ek,i3,i4⟩:=he ak;have U:=λbg=>aT.expr 0 _ q Z (λak=>(qE aH be ak).2.2.2.2.1) g1 bg
     have j4:(f0 T [93] q.2).aA=0->q.2.aA=0:=λbW=>by
      have bZ:(cq T [93] q.2).aA=0:=bW;unfold cq at bZ;cases ct:b2 T q.2 [93] with
      |true=>exact(ik ct).1
      |false=>rw[ct,bi] at bZ;exact absurd bZ (iU cl)
     have key: ∀bW:(f0 T [93] q.2).aA=0,fk E s (f0 T [93] q.2) 3/\mx s.bN a0 7 (.mk {kind:=6,pos:=(aq T s.at_).pos} [e,q.1]) (f0 T [93] q.2).at_:=by
      intro bW;obtain⟨eV,my,d,kr,hd⟩:=U (j4 bW);obtain⟨cZ,dk,dJ,eL,iJ,wB⟩:=qE aH be eV.f;have aS:=DI aH Z dJ.symm eL.symm ak iJ eV bW;have Od:=aS.a;have Ji:q.2.at_+1<=(f0 T [93] q.2).at_:=by
       have bZ:(cq T [93] q.2).aA=0:=bW;have:=(l4 aH (λ_=>eV.in iJ Z) bZ).2.2.a;exact this
      have:=X6 (a:={kind:=6,pos:=(aq T s.at_).pos}) (e:=e) (f:=q.1) (by simp);refine⟨aS.less Z,Z,max ek (d+1),DP i3 Z,?_⟩;obtain⟨z,ct⟩: ∃z,max ek (d+1)=z+1:=⟨max ek (d+1)-1,Z⟩;rw[ct];exact .item Z (i4.more Z) ((hd.low Z).more Z)
     obtain⟨cS,dq⟩:=aT.behind _ a0 _ p (λbW=>(key bW).1.in (be ak) Z) (λbW=>by rw[(key bW).1.o];exact(key bW).2) g2 bA;have dP:=(key cS.f).1;refine⟨(dP.trans cS).less Z,?_⟩;rw[dP.o] at dq;exact dq
    |false=>
     rw[cR,bi] at h;cases h;exact⟨.refl (be bA) bA,he bA⟩
  ·intro s p be h bA;rw[ld] at h;obtain⟨q,g1,g2⟩:=nw h;cases g2;have bg:q.2.aA=0:=by
    have bZ:(cq T [41] q.2).aA=0:=bA;unfold cq at bZ;cases ct:b2 T q.2 [41] with
    |true=>exact(ik ct).1
    |false=>rw[ct,bi] at bZ;exact absurd bZ (iU cl)
   obtain⟨eV,my,d,kr,hd⟩:=aT.expr 0 _ q Z (λak=>(qE aH be ak).2.2.2.2.1) g1 bg;obtain⟨cZ,dk,dJ,eL,iJ,wB⟩:=qE aH be eV.f;have aS:=DI aH Z dJ.symm eL.symm dk iJ eV bA;have Od:=aS.a;have Ji:q.2.at_+1<=(f0 T [41] q.2).at_:=by
    have bZ:(cq T [41] q.2).aA=0:=bA;exact(l4 aH (λ_=>eV.in iJ Z) bZ).2.2.a
   refine⟨aS.less Z,by(try simp only);omega,d,by rw[<-dJ];exact kr,hd.low Z⟩
  ·intro s p be h bA;rw[l5] at h;cases U:(s.aA==0&&(aq T s.at_).kind==2) with
   |true=>
    rw[U,bx] at h;cases h;simp only[Bool.and_eq_true,beq_iff_eq] at U;have aX:=(go_ok aH (be U.1) U.1 Z).2;have aV:=aie aH U.2;have fv:=aX.a;have:=H6 (a:={kind:=1,n:=(aq T s.at_).n,pos:=(aq T s.at_).pos}) (by simp) rfl;have bb:=(be U.1).d;exact⟨aX,by(try simp only);omega,0,by simpa using bb,.int Z aV.1 aV.2⟩
   |false=>
    rw[U,bi] at h;cases aa:(b2 T s [116,114,117,101]||b2 T s [102,97,108,115,101]) with
    |true=>
     rw[aa,bx] at h;cases h;have aX:fk E s (aE s) 1:=by
      rcases Bool.or_eq_true_iff.1 aa with af|af<;>exact mE aH (be (ik af).1) af
     have fv:=aX.a;have bb:=(be aX.f).d;have:=H6 (a:={kind:=2,n:=bif (aq T s.at_).text==[116,114,117,101] then 1 else 0,pos:=(aq T s.at_).pos}) (by simp) rfl;refine⟨aX,by(try simp only);omega,0,by simpa using bb,.bool Z ?_⟩;cases(aq T s.at_).text==[116,114,117,101]
     ·exact .inl rfl
     ·exact .inr rfl
    |false=>
     rw[aa,bi] at h;cases ae:b2 T s [110,117,108,108] with
     |true=>
      rw[ae,bx] at h;cases h;have ak:=(ik ae).1;have aX:=mE aH (be ak) ae;obtain⟨cZ,dk⟩:=Ep aH (aX.pj be Z) bA;have fv:=aX.a;have A4:=dk.a;have bb:=(be ak).d;have:=WS (a:={kind:=3,eQ:=(e5 T (aE s)).1.1,fS:=(e5 T (aE s)).1.2,pos:=(aq T s.at_).pos}) (G7 cZ) rfl;exact⟨(aX.trans dk).less Z,by(try simp only);omega,0,by simpa using bb,.null Z cZ⟩
     |false=>
      rw[ae,bi] at h;cases al:b2 T s [110,101,119] with
      |true=>
       rw[al,bx] at h;have ak:=(ik al).1;have aX:=mE aH (be ak) al;obtain⟨cS,dq⟩:=aT.fresh _ _ p (aX.pj be Z) h bA;have fv:=aX.a;have ge:=(go_ok aH (be ak) ak (by rw[(ik al).2.1];exact L4 _)).1;rw[aX.o] at dq;exact⟨(aX.trans cS).less Z,dq.wide (by rw[ge];simp) (Int.le_refl _)⟩
      |false=>
       rw[al,bi] at h;cases aB:b2 T s [108,101,110] with
       |true=>
        rw[aB,bx] at h;have ak:=(ik aB).1;have aX:=mE aH (be ak) aB;obtain⟨q,g1,g2⟩:=nw h;cases g2;obtain⟨eV,my,d,kr,hd⟩:=aT.inner _ q (aX.pj be Z) g1 bA;have fv:=aX.a;have go:=aX.o;have:=H7 (a:={kind:=10,pos:=(aq T s.at_).pos}) (e:=q.1) (by simp);exact⟨(aX.trans eV).less Z,by(try simp only);omega,d+1,Z,.len Z hd⟩
       |false=>
        rw[aB,bi] at h;cases aG:b2 T s [114,101,97,100] with
        |true=>
         rw[aG,bx] at h;cases h;have ak:=(ik aG).1;have aX:=mE aH (be ak) aG;have bg:(eE T [40] (aE s)).aA=0:=by
          have bZ:(cq T [41] (eE T [40] (aE s))).aA=0:=bA;unfold cq at bZ;cases ct:b2 T (eE T [40] (aE s)) [41] with
          |true=>exact(ik ct).1
          |false=>rw[ct,bi] at bZ;exact absurd bZ (iU cl)
         obtain⟨cZ,dk,dJ,eL,iJ,wB⟩:=qE aH (aX.pj be Z) bg;have aS:=DI aH (k:=0) Z dJ.symm eL.symm dk iJ (.refl iJ bg) bA;have fv:=aX.a;have go:=aX.o;have Od:=aS.a;have:=H6 (a:={kind:=11,pos:=(aq T s.at_).pos}) (by simp) rfl;exact⟨(aX.trans aS).less Z,by(try simp only);omega,1,Z,.read Z⟩
        |false=>
         rw[aG,bi] at h;cases aP:b2 T s [40] with
         |true=>
          rw[aP,bx] at h;obtain⟨eV,my,d,kr,hd⟩:=aT.inner s p be h bA;exact⟨eV,my,d+1,Z,hd.up Z⟩
         |false=>
          rw[aP,bi] at h;have bb:s.aA=0->s.bN<=50:=λak=>(be ak).d
          cases bn:b2 T (da T s).2 [40] with
          |true=>
           rw[bn,bx] at h;obtain⟨q,g1,g2⟩:=nw h;cases g2;obtain⟨fw,n2⟩:=BO aH be (ik bn).1;obtain⟨cS,dq,d,dP,gd⟩:=aT.args _ q (n2.pj be Z) g1 bA;have F9:=n2.a;have no:=n2.o;have:=aoi (a:={kind:=7,name:=(da T s).1,pos:=(aq T s.at_).pos}) (l:=q.1) (by have:=wO fw;simp;omega);exact⟨(n2.trans cS).less Z,by(try simp only);omega,d+1,Z,.call Z fw gd⟩
          |false=>
           rw[bn,bi] at h;cases h;obtain⟨fw,n2⟩:=BO aH be bA;have F9:=n2.a;have:=H6 (a:={kind:=4,name:=(da T s).1,pos:=(aq T s.at_).pos}) (wO fw) rfl;exact⟨n2,by(try simp only);omega,0,by simpa using bb n2.f,.var Z fw⟩
  ·intro pos s p be h bA;rw[pP] at h;cases af:b2 T s [91] with
   |true=>
    rw[af,bx] at h;obtain⟨q,g1,g2⟩:=nw h;cases g2;have ak:=(ik af).1;have aX:=mE aH (be ak) af;have i7:=aX.in (be ak) Z;have bC:=λbg:(cq T [93] (e5 T (aE s)).2).aA=0=>by
     have aa:(e5 T (aE s)).2.aA=0:=by
      unfold cq at bg;cases ct:b2 T (e5 T (aE s)).2 [93] with
      |true=>exact(ik ct).1
      |false=>rw[ct,bi] at bg;exact absurd bg (iU cl)
     have o:=Ep aH (λ_=>i7) aa;exact ar o (l4 aH (λ_=>o.2.in i7 Z) bg).2.2
    obtain⟨eV,my,d,kr,hd⟩:=aT.inner _ q (λbg=>((bC bg).1.2.trans (bC bg).2).in i7 Z) g1 bA;obtain⟨⟨cZ,dk⟩,dJ⟩:=bC eV.f;have fv:=aX.a;have go:=aX.o;have A4:=dk.a;have asi:=dk.o;have Oy:=dJ.a;have to:=dJ.o;have:=H7 (a:={kind:=9,eQ:=(e5 T (aE s)).1.1,fS:=(e5 T (aE s)).1.2,pos:=pos}) (e:=q.1) (by have:=G7 cZ;simp;omega);exact⟨(((aX.trans dk).trans dJ).trans eV).less Z,by(try simp only);omega,d+1,Z,.make Z cZ hd⟩
   |false=>
    rw[af,bi] at h;cases h;obtain⟨fw,n2⟩:=BO aH be bA;have F9:=n2.a;have bb:=(be n2.f).d;have:=WS (a:={kind:=8,eQ:=(da T s).1,pos:=pos}) (wO fw) rfl;exact⟨n2,by(try simp only);omega,0,by simpa using bb,.new Z fw⟩
  ·intro s p be h bA;rw[mJ] at h;cases af:b2 T (eE T [40] s) [41] with
   |true=>
    rw[af,bx] at h;cases h;obtain⟨cZ,dk,dJ,eL,iJ,wB⟩:=qE aH be (ik af).1;have aS:=DI aH (k:=0) Z dJ.symm eL.symm dk iJ (.refl iJ (ik af).1) bA;have Od:=aS.a;refine⟨aS.less Z,by simp only[kT];omega,0,Z,λe he=>by cases he⟩
   |false=>
    rw[af,bi] at h;obtain⟨q,g1,g2⟩:=nw h;have U:=λbg=>aT.expr 0 _ q Z (λak=>(qE aH be ak).2.2.2.2.1) g1 bg
    have a6:=λbg=>qE aH be (U bg).1.f
    by_cases bg:q.2.aA=0
    ·obtain⟨eV,my,d,kr,hd⟩:=U bg;obtain⟨cZ,dk,dJ,eL,iJ,wB⟩:=a6 bg;have Dj:=eV.o;have AZ:=eV.a;have aS:=(be dk).c;obtain⟨⟨cS,dq,dP,gd⟩,jx,ek,jT,uY⟩:=aT.V2 [q.1] s.at_ q.2 p (λ_=>eV.in iJ Z) Z (λ_=>⟨by simp only[kT];omega,d,Z,λe he=>by
      simp only[List.mem_cons,List.not_mem_nil,or_false] at he;subst he;exact hd.low Z⟩) g2 bA
     exact⟨⟨dk,bA,Z,Z,gd⟩,jx,ek,Z,uY⟩
    ·exfalso;cases n with
     |zero=>rw[lb] at g2;cases g2
     |succ n=>
      rw[lb,hg bg,bi] at g2;cases g2;have bZ:(cq T [41] q.2).aA=0:=bA;unfold cq at bZ;rw[hg bg,bi] at bZ;exact absurd bZ (iU cl)
  ·intro l a0 s p be aO he h bA;rw[lb] at h;cases af:b2 T s [44] with
   |true=>
    rw[af,bx] at h;obtain⟨q,g1,g2⟩:=nw h;have ak:=(ik af).1;have aX:=mE aH (be ak) af;have i7:=aX.in (be ak) Z;have U:=λbg=>aT.expr 0 _ q Z (λ_=>i7) g1 bg
    by_cases bg:q.2.aA=0
    ·obtain⟨eV,my,d,kr,hd⟩:=U bg;obtain⟨i2,ek,i3,i4⟩:=he ak;have go:=aX.o;have fv:=aX.a;have Dj:=eV.o;have AZ:=eV.a;obtain⟨⟨cS,dq,dP,gd⟩,jx,d2,jT,uY⟩:=aT.V2 (l++[q.1]) a0 q.2 p (λ_=>eV.in i7 Z) Z (λ_=>⟨by rw[VY];omega,max d ek,DP Z Z,λe he=>by
      rcases List.mem_append.1 he with he|he
      ·exact(i4 e he).more Z
      ·simp only[List.mem_cons,List.not_mem_nil,or_false] at he;subst he;exact(hd.low Z).more Z⟩) g2 bA
     exact⟨⟨ak,Z,Z,gd⟩,jx,d2,Z,uY⟩
    ·exfalso;cases n with
     |zero=>rw[lb] at g2;cases g2
     |succ n=>
      rw[lb,hg bg,bi] at g2;cases g2;have bZ:(cq T [41] q.2).aA=0:=bA;unfold cq at bZ;rw[hg bg,bi] at bZ;exact absurd bZ (iU cl)
   |false=>
    rw[af,bi] at h;cases h;have bZ:(cq T [41] s).aA=0:=bA;obtain⟨t1,t2,t3⟩:=l4 aH be bZ;have ak:=t3.f;obtain⟨i2,ek,i3,i4⟩:=he ak;have Oy:=t3.a;have to:=t3.o;have wF:=t3.b;have No:=t3.in (be ak) Z;have e:f0 T [41] s={cq T [41] s with bN:=(cq T [41] s).bN-1}:=by unfold f0;exact La No
    simp only[e] at bA ⊢;refine⟨⟨ak,by(try simp only);omega,by(try simp only);omega,wF⟩,by(try simp only);omega,ek,i3,i4⟩
end
section
inductive jS:Nat->cy->Prop
 |var {d x o z p}:iz x=true->zM o z->jS d (.mk {kind:=1,name:=x,eQ:=o,fS:=z,pos:=p} [] [] [])
 |lets {d x o z p e}:iz x=true->zM o z->gi d 0 e->jS d (.mk {kind:=2,name:=x,eQ:=o,fS:=z,pos:=p} [e] [] [])
 |set {d x p e}:iz x=true->gi d 0 e->jS d (.mk {kind:=3,name:=x,pos:=p} [e] [] [])
 |put {d p e f}:e.kind=5\/e.kind=6->gi d 0 e->gi d 0 f->jS d (.mk {kind:=4,pos:=p} [e,f] [] [])
 |ifs {d p e b c}:gi (d+1) 0 e->(∀s∈b,jS d s)->(∀s∈c,jS d s)->jS (d+1) (.mk {kind:=5,pos:=p} [e] b c)
 |while {d p e b}:gi (d+1) 0 e->(∀s∈b,jS d s)->jS (d+1) (.mk {kind:=6,pos:=p} [e] b [])
 |EM {d p}:jS d (.mk {kind:=7,pos:=p} [] [] [])
 |EN {d p e}:gi d 0 e->jS d (.mk {kind:=7,pos:=p} [e] [] [])
 |print {d p e}:gi d 0 e->jS d (.mk {kind:=8,pos:=p} [e] [] [])
 |call {d p e}:e.kind=7->gi d 0 e->jS d (.mk {kind:=9,pos:=p} [e] [] [])
theorem jS.at{d:Nat}{s:cy}(h:jS d s)(p:Int):jS d (s.at p):=by
 cases h with
 |var a b=>exact .var a b
 |lets a b c=>exact .lets a b c
 |set a b=>exact .set a b
 |put a b c=>exact .put a b c
 |ifs a b c=>exact .ifs a b c
 | «while» a b=>exact .while a b
 |EM=>exact .EM
 |EN a=>exact .EN a
 |print a=>exact .print a
 |call a b=>exact .call a b
theorem jS.more{d:Nat}{s:cy}(h:jS d s): ∀{ek:Nat},d<=ek->jS ek s:=by
 induction h with
 |var a b=>intro ek _;exact .var a b
 |lets a b c=>intro ek bb;exact .lets a b (c.more bb)
 |set a b=>intro ek bb;exact .set a (b.more bb)
 |put a b c=>intro ek bb;exact .put a (b.more bb) (c.more bb)
 |ifs a _ _ ih1 ih2=>intro ek bb;obtain⟨k,rfl⟩: ∃k,ek=k+1:=⟨ek-1,Z⟩;exact .ifs (a.more bb) (λs aO=>ih1 s aO Z) (λs aO=>ih2 s aO Z)
 | «while» a _ ih1=>intro ek bb;obtain⟨k,rfl⟩: ∃k,ek=k+1:=⟨ek-1,Z⟩;exact .while (a.more bb) (λs aO=>ih1 s aO Z)
 |EM=>intro ek _;exact .EM
 |EN a=>intro ek bb;exact .EN (a.more bb)
 |print a=>intro ek bb;exact .print (a.more bb)
 |call a b=>intro ek bb;exact .call a (b.more bb)
mutual
def pD:cy->Nat
 | .mk a es b c=>400+a.name.length+a.eQ.length+kT es+mu b+mu c
def mu:List cy->Nat
 |[]=>0
 |e::r=>pD e+mu r
end
theorem T0: ∀(l:List cy) (e:cy),mu (l++[e])=mu l+pD e
 |[],e=>by simp[mu]
 |x::l,e=>by rw[List.cons_append,mu,T0 l e,mu];omega
theorem am2(s:cy)(p:Int):pD (s.at p)=pD s:=by cases s;rfl
theorem X7{a:dv}(aV:a.name.length+a.eQ.length<=16):(pD (.mk a [] [] []):Int)<=416:=by simp[pD,kT,mu];omega
theorem EV{a:dv}{e:bh}(aV:a.name.length+a.eQ.length<=16):(pD (.mk a [e] [] []):Int)<=416+l1 e:=by simp[pD,kT,mu];omega
theorem am3{a:dv}{e f:bh}(aV:a.name.length+a.eQ.length<=16):(pD (.mk a [e,f] [] []):Int)<=416+l1 e+l1 f:=by simp[pD,kT,mu];omega
theorem MM{a:dv}{e:bh}{b c:List cy}(aV:a.name.length+a.eQ.length<=16):(pD (.mk a [e] b c):Int)<=416+l1 e+mu b+mu c:=by simp[pD,kT];omega
section
variable {T:List Tok}{E:Int}{s s' s2:aw}
theorem fk.to{y:aw}{k:Int}(be:hs E s)(h:y.aA=0->fk E s y k)(ah:0<=k):hs E y:=λcR=>(h cR).in (be (h cR).f) ah
def Ib(T:List Tok):Prop:= ∀s,∃p,im T 800000000 0 s=some p
theorem yH(aH:Good T E)(hG:Ib T)(be:hs E s)(h:(dx T s).2.aA=0):fk E s (dx T s).2 1/\mx s.bN s.at_ 0 (dx T s).1 (dx T s).2.at_:=by
 obtain⟨p,bA⟩:=hG s;unfold dx at h ⊢;rw[bA] at h ⊢;obtain⟨U,aa⟩:=(VJ aH 800000000).expr 0 s p Z be bA h;exact⟨U,aa.low Z⟩
theorem SE(aH:Good T E)(be:hs E s)(h:(fN T s).2.aA=0):iz (fN T s).1.1=true/\zM (fN T s).1.2.1 (fN T s).1.2.2/\fk E s (fN T s).2 3:=by
 have U:=λbg=>BO aH be bg
 have aa:=λbg=>l4 aH (s:=(da T s).2) (x:=[58]) (fk.to be (λcR=>(U cR).2) Z) bg
 have ae:=Ep aH (s:=cq T [58] (da T s).2) (fk.to be (λcR=>(U (aa cR).2.2.f).2.trans (aa cR).2.2) Z) h;have dq:=aa ae.2.f;have cS:=U dq.2.2.f;exact⟨cS.1,ae.1,((cS.2.trans dq.2.2).trans ae.2).less Z⟩
structure ak0(T:List Tok)(E:Int)(n:Nat):Prop where
 block: ∀s p,hs E s->jX T n s=some p->p.2.aA=0->fk E s p.2 2/\(mu p.1:Int)<=400*(p.2.at_-s.at_-2)/\ ∃d:Nat,s.bN+(d+1)<=50/\ ∀x∈p.1,jS d x
 loop: ∀l a0 s p,hs E s->(s.aA=0->(mu l:Int)<=400*(s.at_-a0)/\ ∃d:Nat,s.bN+d<=50/\ ∀x∈l,jS d x)->mK T n l s=some p->p.2.aA=0->fk E s p.2 0/\(mu p.1:Int)<=400*(p.2.at_-a0)/\ ∃d:Nat,s.bN+d<=50/\ ∀x∈p.1,jS d x
 stmt: ∀s p,hs E s->rU T n s=some p->p.2.aA=0->fk E s p.2 2/\(pD p.1:Int)<=400*(p.2.at_-s.at_)/\ ∃d:Nat,s.bN+d<=50/\jS d p.1
theorem af2(aH:Good T E)(hG:Ib T)(be:hs E s)(h:(nr T s).2.aA=0):fk E s (nr T s).2 2/\(pD (nr T s).1:Int)<=400*((nr T s).2.at_-s.at_)/\ ∃d:Nat,s.bN+d<=50/\jS d (nr T s).1:=by
 have U:=λbg=>yH aH hG be bg
 have i1:hs E (dx T s).2:=fk.to be (λcR=>(U cR).1) Z;unfold nr at h ⊢;cases af:b2 T (dx T s).2 [61] with
 |true=>
  rw[af,bx] at h;rw[bx];have ak:=(ik af).1;obtain⟨eV,my,d,kr,hd⟩:=U ak;have bZ:(cq T [59] (dx T (mh T (dx T s).1 (dx T s).2)).2).aA=0:=h;have aI:=λbg=>l4 aH (s:=bif iO (dx T s).1 then cL T 2 (dx T s).2 else(dx T s).2) (x:=[61]) (λay=>by
   cases ah:iO (dx T s).1 with
   |true=>rw[ah,bx] at ay;exact absurd ay (iU cl)
   |false=>rw[bi];exact i1 ak) bg
  have tp:(mh T (dx T s).1 (dx T s).2).aA=0->iO (dx T s).1=false/\fk E (dx T s).2 (mh T (dx T s).1 (dx T s).2) 1:=λbg=>by
   have bc:=(aI bg).2.2;cases ah:iO (dx T s).1 with
   |true=>
    have:=bc.f;rw[ah,bx] at this;exact absurd this (iU cl)
   |false=>
    rw[ah,bi] at bc;unfold mh;rw[ah,bi];exact⟨rfl,bc⟩
  have i2:hs E (mh T (dx T s).1 (dx T s).2):=λbg=>(tp bg).2.in (i1 ak) Z
  have aa:=λbg=>yH aH hG i2 bg
  have i3:hs E (dx T (mh T (dx T s).1 (dx T s).2)).2:=fk.to i2 (λcR=>(aa cR).1) Z;obtain⟨-,-,t3⟩:=l4 aH i3 bZ;obtain⟨cS,dq,ek,dP,gd⟩:=aa t3.f;obtain⟨cE,cx⟩:=tp cS.f;have AZ:=eV.a;have Dj:=eV.o;have asl:=cx.a;have asm:=cx.o;have Dk:=cS.a;have Oy:=t3.a;have f_:fk E s (cq T [59] (dx T (mh T (dx T s).1 (dx T s).2)).2) 2:=(((eV.trans cx).trans cS).trans t3).less Z;simp only[xB];refine⟨f_,?_⟩;cases al:(dx T s).1.kind==4 with
  |true=>
   rw[bx];have lm:(dx T s).1.kind=4:=by simpa using al
   have Ir:iz (dx T s).1.name=true:=by
    generalize (dx T s).1=e at hd lm;cases hd with
    |par _ h _=>omega
    |var _ h=>exact h
    |bin a6 U aa _ _=>simp only[bh.kind] at lm;omega
    |sign _ U _=>simp only[bh.kind] at lm;omega
    |_=>simp[bh.kind] at lm
   have:=EV (a:={kind:=3,name:=(dx T s).1.name}) (e:=(dx T (mh T (dx T s).1 (dx T s).2)).1) (by have:=wO Ir;simp;omega);exact⟨Z,ek,Z,.set Ir gd⟩
  |false=>
   rw[bi];have lm:(dx T s).1.kind≠4:=by simpa using al
   have ah:(dx T s).1.kind=5\/(dx T s).1.kind=6:=by
    unfold iO at cE;simp only[Bool.and_eq_false_iff,bne_eq_false_iff_eq] at cE;rcases cE with q|q|q
    ·exact absurd q lm
    ·exact .inl q
    ·exact .inr q
   have:=am3 (a:={kind:=4}) (e:=(dx T s).1) (f:=(dx T (mh T (dx T s).1 (dx T s).2)).1) (by simp);exact⟨Z,max d ek,DP kr Z,.put ah (hd.more Z) (gd.more Z)⟩
 |false=>
  rw[af,bi] at h;rw[bi];have bZ:(cq T [59] (bif b2 T (dx T s).2 [59]&&(dx T s).1.kind != 7 then cL T 2 (dx T s).2 else(dx T s).2)).aA=0:=h;cases ay:b2 T (dx T s).2 [59]&&(dx T s).1.kind != 7 with
  |true=>
   rw[ay,bx] at bZ;unfold cq at bZ;rw[hg (iU cl),bi,iK (iU cl)] at bZ;exact absurd bZ (iU cl)
  |false=>
   rw[ay,bi] at bZ;obtain⟨t1,t2,t3⟩:=l4 aH i1 bZ;obtain⟨eV,my,d,kr,hd⟩:=U t3.f;rw[t1,Bool.true_and] at ay;have aP:(dx T s).1.kind=7:=by simpa using ay
   have AZ:=eV.a;have Dj:=eV.o;have Oy:=t3.a;have:=EV (a:={kind:=9}) (e:=(dx T s).1) (by simp);simp only[bi];exact⟨(eV.trans t3).less Z,Z,d,kr,.call aP hd⟩
theorem LC(aH:Good T E)(hG:Ib T): ∀n,ak0 T E n
 |0=>by
  constructor<;>intros<;>rename_i h _<;>first|cases h|skip
 |n+1=>by
  have aT:=LC aH hG n;refine⟨?_,?_,?_⟩
  ·intro s p be h bA;rw[jX] at h;obtain⟨q,g1,g2⟩:=nw h;cases g2;have bg:q.2.aA=0:=by
    have bZ:(cq T [125] q.2).aA=0:=bA;unfold cq at bZ;cases ct:b2 T q.2 [125] with
    |true=>exact(ik ct).1
    |false=>rw[ct,bi] at bZ;exact absurd bZ (iU cl)
   obtain⟨eV,my,d,kr,hd⟩:=aT.loop [] (eE T [123] s).at_ _ q (λak=>(qE aH be ak).2.2.2.2.1) (λak=>⟨by simp[mu],0,by have:=(qE aH be ak).2.2.2.2.1.d;simpa using this,λx af=>by cases af⟩) g1 bg;obtain⟨cZ,dk,dJ,eL,iJ,wB⟩:=qE aH be eV.f;have aS:=DI aH (k:=0) Z dJ.symm eL.symm dk iJ eV bA;have Ji:q.2.at_+1<=(f0 T [125] q.2).at_:=by
    have bZ:(cq T [125] q.2).aA=0:=bA;exact(l4 aH (λ_=>eV.in iJ Z) bZ).2.2.a
   exact⟨aS.less Z,by(try simp only);omega,d,Z,hd⟩
  ·intro l a0 s p be he h bA;rw[mK] at h;cases aS:(s.aA==0&& !b2 T s [125]) with
   |false=>
    rw[aS,bi] at h;cases h;exact⟨.refl (be bA) bA,he bA⟩
   |true=>
    rw[aS,bx] at h;simp only[Bool.and_eq_true,beq_iff_eq] at aS;obtain⟨q,g1,g2⟩:=nw h;have U:=λbg=>aT.stmt s q be g1 bg
    obtain⟨i2,ek,i3,i4⟩:=he aS.1;obtain⟨cS,dq,d2,dP,gd⟩:=aT.loop (l++[q.1]) a0 q.2 p (fk.to be (λcR=>(U cR).1) Z) (λbg=>by
     obtain⟨eV,my,d,kr,hd⟩:=U bg;refine⟨by rw[T0];omega,max d ek,by rw[eV.o];exact DP kr i3,λx af=> ?_⟩;rcases List.mem_append.1 af with af|af
     ·exact(i4 x af).more Z
     ·simp only[List.mem_cons,List.not_mem_nil,or_false] at af;subst af;exact hd.more Z) g2 bA
    have eV:=(U cS.f).1;exact⟨(eV.trans cS).less Z,dq,d2,by rw[<-eV.o];exact dP,gd⟩
  ·intro s p be h bA;rw[rU] at h;obtain⟨q,g1,g2⟩:=nw h;cases g2;have key:fk E s q.2 2/\(pD q.1:Int)<=400*(q.2.at_-s.at_)/\ ∃d:Nat,s.bN+d<=50/\jS d q.1:=by
    have bg:q.2.aA=0:=bA;clear bA;cases bJ:(b2 T s [118,97,114]||b2 T s [108,101,116]) with
    |true=>
     rw[bJ,bx] at g1;have aX:fk E s (aE s) 1:=by
      rcases Bool.or_eq_true_iff.1 bJ with af|af<;>exact mE aH (be (ik af).1) af
     have i7:=aX.pj be Z;have fv:=aX.a;have go:=aX.o;have t1:=λbg=>SE aH i7 bg
     have it:hs E (fN T (aE s)).2:=fk.to i7 (λcR=>(t1 cR).2.2) Z;cases c2:(aq T s.at_).text==[108,101,116] with
     |true=>
      rw[c2,bx] at g1;cases g1;have aI:=λbg=>l4 aH (x:=[61]) it bg
      have yx:hs E (cq T [61] (fN T (aE s)).2):=fk.to it (λcR=>(aI cR).2.2) Z;have ai:=λbg=>yH aH hG yx bg
      have l0:hs E (dx T (cq T [61] (fN T (aE s)).2)).2:=fk.to yx (λcR=>(ai cR).1) Z;obtain⟨-,-,lw⟩:=l4 aH (x:=[59]) l0 bg;obtain⟨eV,my,d,kr,hd⟩:=ai lw.f;obtain⟨-,-,A9⟩:=aI eV.f;obtain⟨fw,n2,jy⟩:=t1 A9.f;have Jp:=lw.a;have AZ:=eV.a;have asn:=A9.a;have pE:=A9.o;have F9:=jy.a;have no:=jy.o;have:=EV (a:={kind:=2,name:=(fN T (aE s)).1.1,eQ:=(fN T (aE s)).1.2.1,fS:=(fN T (aE s)).1.2.2}) (e:=(dx T (cq T [61] (fN T (aE s)).2)).1) (by have:=wO fw;have:=G7 n2;simp;omega);simp only[ul];exact⟨((((aX.trans jy).trans A9).trans eV).trans lw).less Z,Z,d,Z,.lets fw n2 hd⟩
     |false=>
      rw[c2,bi] at g1;cases g1;obtain⟨-,-,lw⟩:=l4 aH (x:=[59]) it bg;obtain⟨fw,n2,jy⟩:=t1 lw.f;have Jp:=lw.a;have F9:=jy.a;have bb:=(be aX.f).d;have:=X7 (a:={kind:=1,name:=(fN T (aE s)).1.1,eQ:=(fN T (aE s)).1.2.1,fS:=(fN T (aE s)).1.2.2}) (by have:=wO fw;have:=G7 n2;simp;omega);simp only[uk];exact⟨((aX.trans jy).trans lw).less Z,Z,0,by simpa using bb,.var fw n2⟩
    |false=>
     rw[bJ,bi] at g1;cases c2:b2 T s [105,102] with
     |true=>
      rw[c2,bx] at g1;have aX:=mE aH (be (ik c2).1) c2;have i7:=aX.pj be Z;have fv:=aX.a;have go:=aX.o;have ai:=λbg=>yH aH hG i7 bg
      have l0:hs E (dx T (aE s)).2:=fk.to i7 (λcR=>(ai cR).1) Z;obtain⟨b,g3,g4⟩:=nw g1;have c_:=λbg=>aT.block _ b l0 g3 bg
      cases c3:b2 T b.2 [101,108,115,101] with
      |true=>
       rw[c3,bx] at g4;obtain⟨c,g5,g6⟩:=nw g4;cases g6;have ay:=c_ (ik c3).1;have ZX:hs E b.2:=ay.1.pj l0 Z;have r_:=mE aH (ZX (ik c3).1) c3;obtain⟨m1,m2,d2,m3,m4⟩:=aT.block _ c (r_.pj ZX Z) g5 bg;obtain⟨eI,fB,d1,gL,hO⟩:=ay;obtain⟨eV,my,d,kr,hd⟩:=ai eI.f;have:=MM (a:={kind:=5}) (e:=(dx T (aE s)).1) (b:=b.1) (c:=c.1) (by simp);have bd:=eV.a;have a2:=eI.a;have a3:=r_.a;have a4:=m1.a;have cZ:=eV.o;have dk:=eI.o;have dJ:=r_.o;refine⟨((((aX.trans eV).trans eI).trans r_).trans m1).less Z,by(try simp only);omega,max (d-1) (max d1 d2)+1,Z,.ifs (hd.more Z) (λx af=>(hO x af).more Z) (λx af=>(m4 x af).more Z)⟩
      |false=>
       rw[c3,bi] at g4;cases g4;obtain⟨eI,fB,d1,gL,hO⟩:=c_ bg;obtain⟨eV,my,d,kr,hd⟩:=ai eI.f;have:=MM (a:={kind:=5}) (e:=(dx T (aE s)).1) (b:=b.1) (c:=[]) (by simp);have bd:=eV.a;have a2:=eI.a;have cZ:=eV.o;have nT:mu []=0:=rfl;refine⟨((aX.trans eV).trans eI).less Z,by(try simp only);omega,max (d-1) d1+1,Z,.ifs (hd.more Z) (λx af=>(hO x af).more Z) (λx af=>by cases af)⟩
     |false=>
      rw[c2,bi] at g1;cases c3:b2 T s [119,104,105,108,101] with
      |true=>
       rw[c3,bx] at g1;have aX:=mE aH (be (ik c3).1) c3;have i7:=aX.pj be Z;have fv:=aX.a;have go:=aX.o;have ai:=λbg=>yH aH hG i7 bg
       have l0:hs E (dx T (aE s)).2:=fk.to i7 (λcR=>(ai cR).1) Z;obtain⟨b,g3,g4⟩:=nw g1;cases g4;obtain⟨eI,fB,d1,gL,hO⟩:=aT.block _ b l0 g3 bg;obtain⟨eV,my,d,kr,hd⟩:=ai eI.f;have:=MM (a:={kind:=6}) (e:=(dx T (aE s)).1) (b:=b.1) (c:=[]) (by simp);have bd:=eV.a;have a2:=eI.a;have cZ:=eV.o;have nT:mu []=0:=rfl;refine⟨((aX.trans eV).trans eI).less Z,by(try simp only);omega,max (d-1) d1+1,Z,.while (hd.more Z) (λx af=>(hO x af).more Z)⟩
      |false=>
       rw[c3,bi] at g1;cases c4:b2 T s [114,101,116,117,114,110] with
       |true=>
        rw[c4,bx] at g1;have aX:=mE aH (be (ik c4).1) c4;have i7:=aX.pj be Z;have fv:=aX.a;have go:=aX.o;have bb:=(be aX.f).d;cases g1;unfold vH at bg ⊢;cases c5:b2 T (aE s) [59] with
        |true=>
         rw[c5,bx] at bg;rw[bx];obtain⟨-,-,lw⟩:=l4 aH (x:=[59]) i7 bg;have Jp:=lw.a;have:=X7 (a:={kind:=7}) (by simp);exact⟨(aX.trans lw).less Z,by(try simp only);omega,0,by simpa using bb,.EM⟩
        |false=>
         rw[c5,bi] at bg;rw[bi];have ai:=λbg=>yH aH hG i7 bg
         have l0:hs E (dx T (aE s)).2:=fk.to i7 (λcR=>(ai cR).1) Z;obtain⟨-,-,lw⟩:=l4 aH (x:=[59]) l0 bg;obtain⟨eV,my,d,kr,hd⟩:=ai lw.f;have Jp:=lw.a;have AZ:=eV.a;have:=EV (a:={kind:=7}) (e:=(dx T (aE s)).1) (by simp);exact⟨((aX.trans eV).trans lw).less Z,by(try simp only);omega,d,Z,.EN hd⟩
       |false=>
        rw[c4,bi] at g1;cases c5:b2 T s [112,114,105,110,116] with
        |true=>
         rw[c5,bx] at g1;have aX:=mE aH (be (ik c5).1) c5;have i7:=aX.pj be Z;have fv:=aX.a;have go:=aX.o;cases g1;unfold xe at bg ⊢;have ai:=λbg=>yH aH hG i7 bg
         have l0:hs E (dx T (aE s)).2:=fk.to i7 (λcR=>(ai cR).1) Z;obtain⟨-,-,lw⟩:=l4 aH (x:=[59]) l0 bg;obtain⟨eV,my,d,kr,hd⟩:=ai lw.f;have Jp:=lw.a;have AZ:=eV.a;have:=EV (a:={kind:=8}) (e:=(dx T (aE s)).1) (by simp);exact⟨((aX.trans eV).trans lw).less Z,by(try simp only);omega,d,Z,.print hd⟩
        |false=>
         rw[c5,bi] at g1;cases g1;exact af2 aH hG be bg
   obtain⟨cS,dq,d,dP,gd⟩:=key;exact⟨cS,by rw[am2];exact dq,d,dP,gd.at _⟩
end
end
section
def e0{α:Type}(F:aw->R α):Prop:= ∀s x,F s=some x->x.2.aA=0->s.aA=0/\(0<=s.bN->x.2.bN=s.bN/\x.2.cw=s.cw)
def gp(f:aw->aw):Prop:= ∀s,(f s).aA=0->s.aA=0/\(f s).bN=s.bN/\(f s).cw=s.cw
theorem e0.bind{α β:Type}{F:aw->R α}{G:α->aw->R β}(h:e0 F)(aX: ∀x,e0 (G x)):e0 λs=>(F s).bind λp=>G p.1 p.2:=by
 intro s x af ak;obtain⟨p,U,aa⟩:=hL af;obtain⟨g1,g2⟩:=aX p.1 p.2 x aa ak;obtain⟨f1,f2⟩:=h s p U g1;refine⟨f1,λbs=> ?_⟩;obtain⟨aI,bc⟩:=f2 bs;obtain⟨dm,eS⟩:=g2 (by rw[aI];exact bs);exact⟨dm.trans aI,eS.trans bc⟩
theorem e0.none{α:Type}{F:aw->R α}(h: ∀s,F s=none):e0 F:=λs x af=>by rw[h] at af;cases af
theorem e0.Zs{α:Type}{f:aw->α×aw}(h:gp λs=>(f s).2):e0 λs=>some (f s):=λs x af ak=>by
 cases af;obtain⟨U,aa⟩:=h s ak;exact⟨U,λ_=>aa⟩
theorem gp.comp{f g:aw->aw}(h:gp f)(k:gp g):gp λs=>g (f s):=λs aO=>by
 obtain⟨bd,a2,a3⟩:=k _ aO;obtain⟨c_,cD,b3⟩:=h _ bd;exact⟨c_,a2.trans cD,a3.trans b3⟩
theorem e0.pre{α:Type}{F:aw->R α}{f:aw->aw}(h:gp f)(k:e0 F):e0 λs=>F (f s):=λs x af ak=>by
 obtain⟨bd,a2⟩:=k _ x af ak;obtain⟨c_,cD,b3⟩:=h s bd;refine⟨c_,λbs=> ?_⟩;obtain⟨bJ,c2⟩:=a2 (by rw[cD];exact bs);exact⟨bJ.trans cD,c2.trans b3⟩
theorem gp.go:gp aE:=λs h=>⟨h,rfl,rfl⟩
theorem gp.id:gp λs=>s:=λs h=>⟨h,rfl,rfl⟩
variable {T:List Tok}
theorem pG{s:aw}{e:Int}(he:e≠0)(h:(cL T e s).aA=0):False:=by
 unfold cL at h;split at h
 ·exact he h
 ·rename_i aO;exact aO h
theorem gp.sR(x:bk):gp λs=>(cY T x s).2:=λs h=>by
 have h:(cY T x s).2.aA=0:=h;show s.aA=0/\(cY T x s).2.bN=s.bN/\(cY T x s).2.cw=s.cw;cases ay:b4 T s 4 x with
 |true=>
  have e:(cY T x s).2=aE s:=by simp[cY,ay]
  rw[e] at h ⊢;exact⟨h,rfl,rfl⟩
 |false=>
  have e:(cY T x s).2=cL T 2 s:=by simp[cY,ay]
  rw[e] at h;exact(pG cl h).elim
theorem gp.oA(x:bk): ∀n:Nat,gp (oA T x n)
 |0=>gp.id
 |n+1=>gp.comp (f:=λs=>(cY T x s).2) (g:=YtghmbpmaafnodaaGreatDoor.oA T x n) (gp.sR x) (gp.oA x n)
theorem VE: ∀(n:Nat) (d:Int) (s:aw),(∀ek s',jt T n d s= .inl (ek,s')->s'.aA=0->s.aA=0/\s'.bN=s.bN/\s'.cw=s.cw)/\ ∀s',jt T n d s= .inr s'->s'.aA≠0
 |0,d,s=>by
  simp only[jt];cases b4 T s 4 [91] with
  |true=>exact⟨λ_ _ h=>(by cases h),λs' h a6=>by cases h;exact pG cl a6⟩
  |false=>exact⟨λ_ _ h ak=>(by cases h;exact⟨ak,rfl,rfl⟩),λ_ h=>(by cases h)⟩
 |n+1,d,s=>by
  simp only[jt];cases b4 T s 4 [91] with
  |true=>exact VE n (d+1) (aE s)
  |false=>exact⟨λ_ _ h ak=>(by cases h;exact⟨ak,rfl,rfl⟩),λ_ h=>(by cases h)⟩
theorem gp.of:gp λs=>(eJ T s).2:=λs h=>by
 obtain⟨i1,i2⟩:=VE (T:=T) 3 0 s;have bZ:(eJ T s).2.aA=0:=h;show s.aA=0/\(eJ T s).2.bN=s.bN/\(eJ T s).2.cw=s.cw;unfold eJ at bZ ⊢;cases ax:jt T 3 0 s with
 |inr s'=>rw[ax] at bZ;exact absurd bZ (i2 s' ax)
 |inl p=>
  obtain⟨d,s1⟩:=p;rw[ax] at bZ;simp only at bZ ⊢;cases aS:((aq T s1.at_).kind != 1&&(!b4 T s1 3 [105,110,116]&& !b4 T s1 3 [98,111,111,108])) with
  |true=>
   simp only[js,aS,bx] at bZ;exact(pG cl bZ).elim
  |false=>
   simp only[js,aS,bi] at bZ ⊢;obtain⟨bd,a2,a3⟩:=gp.comp gp.go (gp.oA [93] d.toNat) s1 bZ;obtain⟨c_,cD,b3⟩:=i1 d s1 ax bd;exact⟨c_,a2.trans cD,a3.trans b3⟩
theorem TG{s:aw}{x:bk}(h:(eG T x s).1=true):s.aA=0/\s.bN<50/\(eG T x s).2={s with at_:=hD (s.at_+1),bN:=hD (s.bN+1)}:=by
 unfold eG at h ⊢;cases ay:b4 T s 4 x with
 |false=>rw[ay] at h;cases h
 |true=>
  rw[ay] at h;simp only[bx] at h ⊢;split at h
  ·cases h
  ·rename_i bs;rw[if_neg bs];exact⟨(sz ay).1,Z,rfl⟩
theorem Ra{s:aw}{x:bk}(h:(eG T x s).1=false):(eG T x s).2.aA≠0:=by
 unfold eG at h ⊢;cases ay:b4 T s 4 x with
 |false=>exact λa6=>pG cl a6
 |true=>
  rw[ay] at h;simp only[bx] at h ⊢;split at h
  ·rename_i bs;rw[if_pos bs];exact λa6=>pG cl a6
  ·cases h
theorem Hg{o:Int}(a6:0<=o)(U:o<50):hD (o+1)=o+1/\hD (o+1-1)=o:=⟨wrap_i64 Z Z,by rw[show o+1-1=o by omega];exact wrap_i64 Z Z⟩
theorem e0.within{α β:Type}{F:aw->R α}{g:aw->α->β}{v:β}{w:aw->aw}{x:bk}(h:e0 F)(hw: ∀s,(w s).aA=0->s.aA=0/\(w s).bN=hD (s.bN-1)/\(w s).cw=s.cw):
  e0 λs=>bif (eG T x s).1 then(F (eG T x s).2).bind λp=>some (g s p.1,w p.2) else some (v,(eG T x s).2):=by
 intro s y cR ak;cases bs:(eG T x s).1 with
 |false=>
  simp only[bs,bi,bD] at cR;subst cR;exact absurd ak (Ra bs)
 |true=>
  obtain⟨cZ,dk,dJ⟩:=TG bs;simp only[bs,bx] at cR;obtain⟨p,U,aa⟩:=hL cR;simp only[bD] at aa;subst aa;obtain⟨bd,a2,a3⟩:=hw p.2 ak;obtain⟨c_,cD⟩:=h _ p U bd;refine⟨cZ,λa6=> ?_⟩;obtain⟨bJ,c2⟩:=Hg a6 dk;rw[dJ] at cD;obtain⟨d1,d2⟩:=cD (by simp only;rw[bJ];omega);refine⟨?_,a3.trans d2⟩;show(w p.2).bN=s.bN;rw[a2,d1];simp only
  rw[bJ,c2]
theorem Gx(y:bk)(s:aw)(h:(jW T y s).2.aA=0):s.aA=0/\(jW T y s).2.bN=hD (s.bN-1)/\(jW T y s).2.cw=s.cw:=by
 obtain⟨bd,a2,a3⟩:=gp.sR (T:=T) y (fU s) h;exact⟨bd,a2,a3⟩
structure akY(T:List Tok)(n:Nat):Prop where
 row: ∀lev,e0 (iY T n lev)
 lG: ∀lev e,e0 (lG T n lev e)
 unary:e0 (pT T n)
 sign: ∀x q,e0 (rT T n x q)
 chain:e0 (rD T n)
 jh: ∀e,e0 (jh T n e)
 single: ∀x y,e0 (kg T n x y)
 first:e0 (oo T n)
 name:e0 (um T n)
 fresh:e0 (sG T n)
 list:e0 (rR T n)
 mb: ∀l s x,mb T n l s=some x->x.2.aA=0->s.aA=0/\(1<=s.bN/\s.bN<=50->x.2.bN=s.bN-1/\x.2.cw=s.cw)
theorem e0.ite{α:Type}{F G:aw->R α}(c:aw->Bool)(h:e0 F)(k:e0 G):e0 λs=>bif c s then F s else G s:=λs x af=>by
 cases aS:c s with
 |true=>simp only[aS,bx] at af;exact h s x af
 |false=>simp only[aS,bi] at af;exact k s x af
theorem e0.bad{α:Type}{v:α}:e0 λs=>some (v,cL T 2 s):=λs x af ak=>by
 cases af;exact(pG cl ak).elim
theorem e0.eq{α:Type}{F G:aw->R α}(h:e0 F)(e: ∀s,G s=F s):e0 G:=λs x af=>h s x (by rw[<-e];exact af)
theorem Ww(T:List Tok): ∀n,akY T n
 |0=>by
  refine⟨?_,?_,?_,?_,?_,?_,?_,?_,?_,?_,?_,?_⟩
  all_goals intros
  all_goals first|exact e0.none λ_=>rfl|(rename_i h _;cases h)
 |n+1=>by
  have aT:=Ww T n;refine⟨λlev=> ?_,λlev e=> ?_,?_,λx q=> ?_,?_,λe=> ?_,λx y=> ?_,?_,?_,?_,?_,λl=> ?_⟩
  ·by_cases aB:lev=5
   ·exact aT.unary.eq λs=>by rw[iY,if_pos aB]
   ·exact(e0.bind (aT.row (lev+1)) λe=>aT.lG lev e).eq λs=>by rw[iY,if_neg aB]
  ·intro s x af ak;rw[lG] at af;by_cases ah:ma T lev s=0
   ·rw[if_pos ah] at af;cases af;exact⟨ak,λ_=>⟨rfl,rfl⟩⟩
   ·rw[if_neg ah] at af;exact e0.pre gp.go (e0.bind (aT.row (lev+1)) λb=>aT.lG lev (.mk {kind:=ma T lev s,pos:=(aq T s.at_).pos} [e,b])) s x af ak
  ·exact(e0.ite (λs=>b4 T s 4 [45]) (aT.sign [45] 12) (e0.ite (λs=>b4 T s 4 [33]) (aT.sign [33] 13) aT.chain)).eq λs=>by rw[pT]
  ·exact(e0.within (T:=T) (x:=x) (g:=λs a=> .mk {kind:=q,pos:=(aq T s.at_).pos} [a]) (v:=bh.zero) (w:=fU) aT.unary λs h=>⟨h,rfl,rfl⟩).eq λs=>by rw[rT]
  ·exact(e0.bind aT.first λe=>aT.jh e).eq λs=>by rw[rD]
  ·intro s x af ak;rw[jh] at af;cases aS:(s.aA==0&&(aq T s.at_).kind==4) with
   |false=>simp only[aS,bi,bD] at af;subst af;exact⟨ak,λ_=>⟨rfl,rfl⟩⟩
   |true=>
    simp only[aS,bx] at af;cases bb:(aq T s.at_).text==[46] with
    |true=>
     simp only[bb,bx] at af;obtain⟨bd,a2⟩:=aT.jh _ _ x af ak;have Ar:(kF T e s).2.aA=0->s.aA=0/\(kF T e s).2.bN=s.bN/\(kF T e s).2.cw=s.cw:=by
      unfold kF;cases ah:((aq T (aE s).at_).kind != 1) with
      |true=>exact λh=>(pG (T:=T) (s:=aE s) (e:=2) cl h).elim
      |false=>exact λh=>⟨h,rfl,rfl⟩
     obtain⟨c_,cD,b3⟩:=Ar bd;refine⟨c_,λbs=> ?_⟩;obtain⟨bJ,c2⟩:=a2 (by rw[cD];exact bs);exact⟨bJ.trans cD,c2.trans b3⟩
    |false=>
     simp only[bb,bi] at af;cases mS:(aq T s.at_).text==[91] with
     |true=>
      simp only[mS,bx] at af;exact e0.bind (aT.single [91] [93]) (λb=>aT.jh (.mk {kind:=6,pos:=(aq T s.at_).pos} [e,b])) s x af ak
     |false=>simp only[mS,bi,bD] at af;subst af;exact⟨ak,λ_=>⟨rfl,rfl⟩⟩
  ·exact(e0.within (T:=T) (x:=x) (g:=λ_ a=>a) (v:=bh.zero) (w:=λs=>(jW T y s).2) (aT.row 0) (Gx y)).eq λs=>by rw[kg]
  ·intro s x af ak;rw[oo] at af;by_cases j4:s.aA=0
   ·rw[if_neg (by simp[j4])] at af;by_cases dq:(aq T s.at_).kind=2
    ·rw[if_pos dq] at af;cases af;exact⟨ak,λ_=>⟨rfl,rfl⟩⟩
    ·rw[if_neg dq] at af;by_cases cS:(aq T s.at_).kind=1
     ·rw[if_pos cS] at af;exact aT.name s x af ak
     ·rw[if_neg cS] at af;by_cases Zi:(aq T s.at_).kind=3\/(aq T s.at_).kind=4
      ·rw[if_pos Zi] at af;have ait:e0 λs=>some (vD T s):=e0.Zs λs h=>⟨h,rfl,rfl⟩
       have alh:e0 λs=>some (Cl T s):=e0.Zs (gp.comp gp.go (gp.of (T:=T)))
       have alj:e0 λs=>some (p0 T s):=by
        refine e0.eq (F:=λs=>(λs=>bif (eG T [40] s).1 then(some ((),(eG T [40] s).2)).bind λp=>some ((),(jW T [41] p.2).2) else some ((),(eG T [40] s).2)) (aE s)|>.bind λp=>some (.mk {kind:=11,pos:=(aq T s.at_).pos} [],p.2)) ?_ λs=> ?_
        ·intro s y cR NG;obtain⟨p,aU,aJ⟩:=hL cR;cases aJ;exact e0.pre gp.go (e0.within (T:=T) (x:=[40]) (F:=λs=>some ((),s)) (g:=λ_ _=>()) (v:=()) (w:=λs=>(jW T [41] s).2) (λs z ct apM=>by cases ct;exact⟨apM,λ_=>⟨rfl,rfl⟩⟩) (Gx [41])) s p aU NG
        ·simp only[p0];cases(eG T [40] (aE s)).1<;>rfl
       have hlen:e0 λs=>(kg T n [40] [41] (aE s)).bind λp=>some (bh.mk {kind:=10,pos:=(aq T s.at_).pos} [p.1],p.2):=by
        intro s y cR NG;obtain⟨p,aU,aJ⟩:=hL cR;cases aJ;exact e0.pre gp.go (aT.single [40] [41]) s p aU NG
       exact e0.ite (λs=>(aq T s.at_).kind==4) (e0.ite (λs=>(aq T s.at_).text==[40]) (aT.single [40] [41]) e0.bad)
        (e0.ite (λs=>(aq T s.at_).text==[116,114,117,101]||(aq T s.at_).text==[102,97,108,115,101]) ait (e0.ite (λs=>(aq T s.at_).text==[110,117,108,108]) alh
         (e0.ite (λs=>(aq T s.at_).text==[110,101,119]) aT.fresh (e0.ite (λs=>(aq T s.at_).text==[108,101,110]) hlen (e0.ite (λs=>(aq T s.at_).text==[114,101,97,100]) alj e0.bad))))) s x af ak
      ·rw[if_neg Zi] at af;exact e0.bad s x af ak
   ·rw[if_pos (by simpa using j4)] at af;cases af;exact absurd ak j4
  ·intro s x af ak;rw[um] at af;cases ay:b4 T (aE s) 4 [40] with
   |true=>
    simp only[ay,bx] at af;obtain⟨p,aU,aJ⟩:=hL af;cases aJ;exact e0.pre gp.go aT.list s p aU ak
   |false=>simp only[ay,bi,bD] at af;subst af;exact gp.go s ak|>.imp id λh _=>h
  ·intro s x af ak;rw[sG] at af;cases ay:b4 T (aE s) 4 [91] with
   |true=>
    simp only[ay,bx] at af;obtain⟨p,aU,aJ⟩:=hL af;cases aJ;exact e0.pre (gp.comp (gp.comp (gp.comp gp.go gp.go) (gp.of (T:=T))) (gp.sR (T:=T) [93])) (aT.single [40] [41]) s p aU ak
   |false=>
    simp only[ay,bi,bD] at af;subst af;cases ah:((aq T (aE s).at_).kind != 1) with
    |true=>
     simp only[ah,bx] at ak;exact(pG (T:=T) (s:=aE s) (e:=2) cl ak).elim
    |false=>simp only[ah,bi] at ak ⊢;exact⟨ak,λ_=>⟨rfl,rfl⟩⟩
  ·intro s x af ak;rw[rR] at af;cases bs:(eG T [40] s).1 with
   |false=>simp only[bs,bi,bD] at af;subst af;exact absurd ak (Ra bs)
   |true=>
    obtain⟨cZ,dk,dJ⟩:=TG bs;simp only[bs,bx] at af;cases ay:b4 T (eG T [40] s).2 4 [41] with
    |true=>
     simp only[ay,bx,bD] at af;subst af;obtain⟨bd,a2,a3⟩:=Gx [41] _ ak;refine⟨cZ,λa6=> ?_⟩;obtain⟨bJ,c2⟩:=Hg a6 dk;rw[dJ] at a2 a3;simp only[bJ] at a2 a3;rw[c2] at a2;rw[dJ];simp only[bJ];exact⟨a2,a3⟩
    |false=>
     simp only[ay,bi] at af;obtain⟨p,aU,aJ⟩:=hL af;obtain⟨bd,a2⟩:=aT.mb [p.1] p.2 x aJ ak;obtain⟨c_,cD⟩:=aT.row 0 _ p aU bd;refine⟨cZ,λa6=> ?_⟩;obtain⟨bJ,c2⟩:=Hg a6 dk;rw[dJ] at cD;simp only[bJ] at cD;obtain⟨d1,d2⟩:=cD Z;obtain⟨aI,bc⟩:=a2 (by rw[d1];omega);exact⟨by rw[aI,d1];omega,bc.trans d2⟩
  ·intro s x af ak;rw[mb] at af;cases bC:(fg T 4 [44] s).1 with
   |false=>
    simp only[bC,bi,bD] at af;subst af;have NA:(fg T 4 [44] s).2=s:=by
     unfold fg at bC ⊢;cases ay:b4 T s 4 [44] with
     |true=>rw[ay] at bC;cases bC
     |false=>rfl
    simp only[NA] at ak ⊢;obtain⟨bd,a2,a3⟩:=Gx [41] s ak;exact⟨bd,λh=>⟨by rw[a2];exact wrap_i64 Z Z,a3⟩⟩
   |true=>
    simp only[bC,bx] at af;obtain⟨p,aU,aJ⟩:=hL af;have NA:(fg T 4 [44] s).2=aE s:=by
     unfold fg at bC ⊢;cases ay:b4 T s 4 [44] with
     |true=>rfl
     |false=>rw[ay] at bC;cases bC
    rw[NA] at aU;obtain⟨bd,a2⟩:=aT.mb _ p.2 x aJ ak;obtain⟨c_,cD⟩:=aT.row 0 _ p aU bd;refine⟨c_,λh=> ?_⟩;obtain⟨d1,d2⟩:=cD (by show(0:Int)<=s.bN;omega);have Yq:p.2.bN=s.bN:=d1;obtain⟨aI,bc⟩:=a2 (by rw[Yq];exact h);exact⟨by rw[aI,Yq],bc.trans d2⟩
end
section
def iL(l:List cy)(s:aw):List cy×Int×Int×Int:=if s.aA=0 then(l,s.at_,0,0) else([],0,s.aA,s.cw)
end
section
def nC(T:List Tok)(s x y:aw):Prop:=g_ x y/\(x.aA=0->x.bN=s.bN/\x.cw=s.cw/\left T x<=left T s)
def kS{α:Type}(T:List Tok)(s:aw)(x y:α×aw):Prop:=e4 x y/\(x.2.aA=0->x.2.bN=s.bN/\x.2.cw=s.cw/\left T x.2<=left T s)
theorem e4.eq{α:Type}{p q:α×aw}(h:e4 p q)(ak:p.2.aA=0):q=p:=by
 rcases h with h|h
 ·exact h.2
 ·exact absurd ak h.1
theorem e4.mr{α:Type}{p q:α×aw}(h:e4 p q):g_ p.2 q.2:=by
 rcases h with⟨h,rfl⟩|⟨U,aa,ae⟩
 ·exact .inl ⟨h,rfl⟩
 ·exact .inr ⟨U,aa,ae⟩
theorem e4.mX{α:Type}{p q:α×aw}(h:g_ p.2 q.2)(bw:p.2.aA=0->q.1=p.1):e4 p q:=by
 rcases h with⟨h,e⟩|⟨U,aa,ae⟩
 ·exact .inl ⟨h,Prod.ext (bw h) e⟩
 ·exact .inr ⟨U,aa,ae⟩
theorem kS.st{α:Type}{T:List Tok}{s:aw}{x y:α×aw}(h:kS T s x y):nC T s x.2 y.2:=⟨h.1.mr,h.2⟩
theorem g_.eq{x y:aw}(h:g_ x y)(ak:x.aA=0):y=x:=by
 rcases h with h|h
 ·exact h.2
 ·exact absurd ak h.1
theorem g_.ne{x y:aw}(h:g_ x y)(ak:x.aA≠0):y.aA≠0:=by
 rcases h with h|h
 ·exact absurd h.1 ak
 ·rw[h.2.1];exact ak
section
variable {T:List Tok}(aH:T.length<=20000000)
include aH
theorem GH{s x y:aw}(h:nC T s x y){z:bk}(ct:kw z=4):nC T s (cY T z x).2 (cq T z y):=by
 refine⟨Bq h.1 ct,λak=> ?_⟩;obtain⟨bd,a2,a3⟩:=gp.sR z x ak;obtain⟨c_,cD,b3⟩:=h.2 bd;exact⟨a2.trans c_,a3.trans cD,Nat.le_trans (Bn Z x z) b3⟩
theorem aa2{x:aw}{z:bk}(ak:(cY T z x).2.aA=0):left T (cY T z x).2+1<=left T x:=by
 cases ay:b4 T x 4 z with
 |true=>
  have:(cY T z x).2=aE x:=by simp[cY,ay]
  rw[this];exact ru Z cl ay
 |false=>
  have:(cY T z x).2=cL T 2 x:=by simp[cY,ay]
  rw[this] at ak;exact(pG cl ak).elim
theorem wQ{α:Type}{s x y:aw}(h:nC T s x y){v dr:α}(bw:x.aA=0->dr=v):kS T s (v,(cY T [59] x).2) (dr,cq T [59] y)/\((cY T [59] x).2.aA=0->left T (cY T [59] x).2+1<=left T s):=by
 have hw:=GH aH h (z:=[59]) cl;refine⟨⟨e4.mX hw.1 λak=>bw (gp.sR [59] x ak).1,hw.2⟩,λak=> ?_⟩;have:=aa2 aH ak;have:=(h.2 (gp.sR [59] x ak).1).2.2;omega
omit aH in
theorem PT{x:aw}(a6:x.aA=0)(U:x.cw=0)(aa:0<=x.bN):lE x.at_ x.bN=x:=by
 cases x;simp only at a6 U aa;subst a6 U;simp only[lE];rw[if_neg Z]
theorem yP{s x y:aw}(h:nC T s x y)(b1:s.cw=0)(bs:0<=s.bN):kS T s (eP T x) (dx T y):=by
 by_cases ak:x.aA=0
 ·obtain rfl:=h.1.eq ak;obtain⟨c_,cD,b3⟩:=h.2 ak;obtain⟨p,q,U,aa,ae,al⟩:=GC (T:=T) Z T.length y (DW _ _) 0 800000000 800000000 Z Z Z;have bg:dx T y=q:=by simp only[dx,aa]
  rw[bg];have aO:=PT ak (cD.trans b1) (by rw[c_];exact bs);by_cases bA:p.2.aA=0
  ·obtain⟨-,e⟩:=(Ww T 800000000).row 0 y p U bA;obtain⟨aI,bc⟩:=e (by rw[c_];exact bs);have Nu:eP T y=p:=by
    unfold eP;rw[if_neg (by simp[ak]),aO,U];simp only[bA,if_true];refine Prod.ext rfl ?_;rw[show p.2=⟨p.2.at_,p.2.bN,p.2.aA,p.2.cw⟩ from rfl,aI,bc,bA,<-ak]
   rw[Nu];exact⟨ae,λ_=>⟨aI.trans c_,bc.trans cD,Nat.le_trans al b3⟩⟩
  ·have Nu:eP T y=(.zero,{y with aA:=p.2.aA,cw:=p.2.cw}):=by
    unfold eP;rw[if_neg (by simp[ak]),aO,U];simp only[bA,if_false]
   rw[Nu];rcases ae with ae|⟨aB,aG,aP⟩
   ·exact absurd ae.1 bA
   ·exact⟨.inr ⟨aB,aG,aP⟩,λh=>absurd h bA⟩
 ·have cR:=h.1.ne ak;have bA:eP T x=(.zero,x):=by simp[eP,ak]
  have bg:dx T y=(xu T y,y):=by simp only[dx,Ba cR 800000000 0 Z Z]
  rw[bA,bg];refine⟨e4.mX h.1 λa6=>absurd a6 ak,λa6=>absurd a6 ak⟩
omit aH in
theorem Rs(x:bk)(o:Int): ∀(n:Nat) (s:aw),oA T x n {s with bN:=o}={oA T x n s with bN:=o}
 |0,s=>rfl
 |n+1,s=>by
  have:(cY T x {s with bN:=o}).2={(cY T x s).2 with bN:=o}:=by
   have ay:b4 T {s with bN:=o} 4 x=b4 T s 4 x:=rfl;simp only[cY,ay];cases b4 T s 4 x with
   |true=>rfl
   |false=>
    simp only[bi,cL];split<;>rfl
  simp only[YtghmbpmaafnodaaGreatDoor.oA,this];exact Rs x o n _
omit aH in
theorem TI(o:Int): ∀(n:Nat) (d:Int) (s:aw),jt T n d {s with bN:=o}=match jt T n d s with
  | .inl p=> .inl (p.1,{p.2 with bN:=o})
  | .inr s'=> .inr {s' with bN:=o}
 |0,d,s=>by
  have ay:b4 T {s with bN:=o} 4 [91]=b4 T s 4 [91]:=rfl;simp only[jt,ay];cases b4 T s 4 [91] with
  |true=>simp only[bx,cL];split<;>rfl
  |false=>rfl
 |n+1,d,s=>by
  have ay:b4 T {s with bN:=o} 4 [91]=b4 T s 4 [91]:=rfl;simp only[jt,ay];cases b4 T s 4 [91] with
  |true=>exact TI o n (d+1) (aE s)
  |false=>rfl
omit aH in
theorem aiE(o:Int)(s:aw):eJ T {s with bN:=o}=((eJ T s).1,{(eJ T s).2 with bN:=o}):=by
 unfold eJ;rw[TI];cases jt T 3 0 s with
 |inr s'=>rfl
 |inl p=>
  have ay: ∀x,b4 T {p.2 with bN:=o} 3 x=b4 T p.2 3 x:=λ_=>rfl
  simp only[js,ay];cases((aq T p.2.at_).kind != 1&&(!b4 T p.2 3 [105,110,116]&& !b4 T p.2 3 [98,111,111,108])) with
  |true=>simp only[bx,cL];split<;>rfl
  |false=>
   simp only[bi];exact Prod.ext rfl (Rs [93] o p.1.toNat (aE p.2))
omit aH in
theorem DG{y:aw}(h:y.aA≠0):e5 T y=(([],0),y):=by
 simp only[e5,jm,hg h,bi,jl,Bool.or_self,Gd h];rfl
theorem Hi{s x:aw}(ak:x.aA=0)(h:x.bN=s.bN/\x.cw=s.cw/\left T x<=left T s)(b1:s.cw=0):kS T s (mo T x) (e5 T x):=by
 obtain⟨c_,cD,b3⟩:=h;have af:x={(⟨x.at_,0,0,0⟩:aw) with bN:=x.bN}:=by
  cases x;simp only at ak cD ⊢;rw[ak,cD,b1]
 have bs:=aiE (T:=T) x.bN ⟨x.at_,0,0,0⟩;rw[<-af] at bs;have aO:=of_same T x;rw[bs] at aO;unfold mo;by_cases bg:(eJ T ⟨x.at_,0,0,0⟩).2.aA=0
 ·obtain⟨-,bJ,c2⟩:=gp.of (T:=T) ⟨x.at_,0,0,0⟩ bg;rw[if_pos bg];have e:({x with at_:=(eJ T ⟨x.at_,0,0,0⟩).2.at_}:aw)={(eJ T ⟨x.at_,0,0,0⟩).2 with bN:=x.bN}:=by
   have aox:(eJ T ⟨x.at_,0,0,0⟩).2.cw=0:=c2;show _=(⟨(eJ T ⟨x.at_,0,0,0⟩).2.at_,x.bN,(eJ T ⟨x.at_,0,0,0⟩).2.aA,(eJ T ⟨x.at_,0,0,0⟩).2.cw⟩:aw);rw[ak,bg,aox,cD,b1]
  rw[e];have ax:=K5 (T:=T) Z ⟨x.at_,0,0,0⟩;refine⟨aO,λ_=>⟨c_,?_,?_⟩⟩
  ·show(eJ T ⟨x.at_,0,0,0⟩).2.cw=s.cw;rw[b1];exact c2
  ·refine Nat.le_trans (Nat.le_trans ax ?_) b3;unfold left;simp[ak]
 ·rw[if_neg bg];rcases aO with aO|⟨g1,g2,g3⟩
  ·exact absurd aO.1 bg
  ·exact⟨.inr ⟨g1,g2,g3⟩,λh=>absurd h bg⟩
theorem KD{s x:aw}(ak:x.aA=0)(h:x.bN=s.bN/\x.cw=s.cw/\left T x<=left T s)(b1:s.cw=0):kS T s (jz T x) (fN T x):=by
 have ql:(x.aA==0)=true:=by simp[ak]
 have base:nC T s (aE (bif (aq T x.at_).kind != 1 then cL T 2 x else x)) (da T x).2/\((aE (bif (aq T x.at_).kind != 1 then cL T 2 x else x)).aA=0->(da T x).1=(aq T x.at_).text):=by
  by_cases ah:(aq T x.at_).kind=1
  ·have U:((aq T x.at_).kind != 1)=false:=by simp[ah]
   have aa:((aq T x.at_).kind==1)=true:=by simp[ah]
   simp only[U,bi,da,ql,aa,Bool.and_self,bx];have ax:=rr (T:=T) Z ak (by rw[ah];decide);exact⟨⟨g_.refl _,λ_=>⟨h.1,h.2.1,Z⟩⟩,λ_=>trivial⟩
  ·have U:((aq T x.at_).kind != 1)=true:=by simpa using ah
   have aa:((aq T x.at_).kind==1)=false:=by simpa using ah
   simp only[U,bx,da,aa,Bool.and_false,bi];have ct:(cL T 2 x).aA≠0:=λa6=>pG cl a6
   exact⟨⟨.inr ⟨ct,rfl,rfl⟩,λa6=>absurd a6 ct⟩,λa6=>absurd a6 ct⟩
 have aS:nC T s (colonS T x) (cq T [58] (da T x).2):=GH aH base.1 (z:=[58]) cl;unfold jz fN;by_cases ct:(colonS T x).aA=0
 ·rw[if_neg (by simp[ct])];have aV:=base.2 (gp.sR [58] _ ct).1;rw[aS.1.eq ct,aV];have bs:=Hi aH ct (aS.2 ct) b1;exact⟨e4.mX bs.1.mr λa6=>by rw[bs.1.eq a6],bs.2⟩
 ·rw[if_pos ct];have cR:=aS.1.ne ct;rw[DG cR];exact⟨e4.mX aS.1 λa6=>absurd a6 ct,λa6=>absurd a6 ct⟩
def za{α:Type}(T:List Tok)(s:aw)(p:α×aw):Prop:=p.2.aA=0->left T p.2+1<=left T s
theorem agu{s x:aw}(ak:x.aA=0)(h:x.bN=s.bN/\x.cw=s.cw/\left T x<=left T s)(b1:s.cw=0):kS T s (Ce T x) (uk T x):=by
 have bC:=KD aH ak h b1;exact(wQ aH bC.st λa6=>by rw[bC.1.eq a6]).1
theorem agv{s x:aw}(ak:x.aA=0)(h:x.bN=s.bN/\x.cw=s.cw/\left T x<=left T s)(b1:s.cw=0)(bs:0<=s.bN):kS T s (Cj T x) (ul T x):=by
 have bC:=KD aH ak h b1;have he:=yP aH (GH aH bC.st (z:=[61]) cl) b1 bs;refine(wQ aH he.st λa6=> ?_).1;have U:(cY T [61] (jz T x).2).2.aA=0:=by
  by_cases ct:(cY T [61] (jz T x).2).2.aA=0
  ·exact ct
  ·rw[show eP T (cY T [61] (jz T x).2).2=(.zero,(cY T [61] (jz T x).2).2) by simp[eP,ct]] at a6;exact absurd a6 ct
 have aa:=(gp.sR [61] _ U).1;rw[he.1.eq a6,bC.1.eq aa]
theorem afp{s x:aw}(h:nC T s x x)(b1:s.cw=0)(bs:0<=s.bN):kS T s (B1 T x) (xe T x):=by
 have he:=yP aH h b1 bs;exact(wQ aH he.st λa6=>by rw[he.1.eq a6]).1
omit aH in
theorem xO(s:aw)(x:bk)(h:kw x=4):b2 T s x=b4 T s 4 x:=by rw[b2,h]
theorem agx{s x:aw}(h:nC T s x x)(b1:s.cw=0)(bs:0<=s.bN):kS T s (xz T x) (vH T x):=by
 unfold xz vH;rw[xO x [59] cl];cases b4 T x 4 [59] with
 |true=>exact(wQ aH h λ_=>rfl).1
 |false=>
  have he:=yP aH h b1 bs;exact(wQ aH he.st λa6=>by rw[he.1.eq a6]).1
theorem agy{s x:aw}(h:nC T s x x)(e:bh)(b1:s.cw=0)(bs:0<=s.bN):kS T s (xC T e x) (xB T e x)/\za T s (xC T e x):=by
 have ay:nC T s (bif iO e then cL T 2 x else x) (bif iO e then cL T 2 x else x):=by
  cases iO e with
  |false=>exact h
  |true=>exact⟨g_.refl _,λa6=>(pG (T:=T) (s:=x) (e:=2) cl a6).elim⟩
 have he:=yP aH (GH aH ay (z:=[61]) cl) b1 bs;exact wQ aH he.st λa6=>by rw[show dx T (mh T e x)=eP T (q4 T e x) from he.1.eq a6]
theorem afo{s x:aw}(h:nC T s x x)(b1:s.cw=0)(bs:0<=s.bN):kS T s (qP T x) (nr T x)/\za T s (qP T x):=by
 have he:=yP aH h b1 bs;unfold qP nr;rw[xO _ [61] cl,xO _ [59] cl];by_cases ak:(eP T x).2.aA=0
 ·rw[he.1.eq ak];have af:nC T s (eP T x).2 (eP T x).2:=⟨g_.refl _,he.2⟩;cases b4 T (eP T x).2 4 [61] with
  |true=>exact agy aH af _ b1 bs
  |false=>
   refine wQ aH ?_ λ_=>rfl
   cases(b4 T (eP T x).2 4 [59]&&(eP T x).1.kind != 7) with
   |false=>exact af
   |true=>exact⟨g_.refl _,λa6=>(pG (T:=T) (s:=(eP T x).2) (e:=2) cl a6).elim⟩
 ·have cR:=he.1.mr.ne ak;simp only[l2 ak,l2 cR,bi,Bool.false_and];exact wQ aH he.st λa6=>absurd a6 ak
end
end
section
set_option linter.unusedSectionVars false
def Hh(T:List Tok)(k:Nat):Prop:= ∀s:aw,s.aA=0->s.cw=0->0<=s.bN->left T s<=k-> ∀n cg,10*k+10<=n->10*k+10<=cg-> ∃p q,xD T n s=some p/\rU T cg s=some q/\kS T s p q/\za T s p
def Lj(T:List Tok)(k:Nat):Prop:= ∀s x y:aw,nC T s x y->s.cw=0->0<=s.bN->left T x<=k-> ∀n cg,10*k+5<=n->10*k+5<=cg-> ∃p q,oU T n x=some p/\jX T cg y=some q/\kS T s p q/\za T x p
section
variable {T:List Tok}(aH:T.length<=20000000)
theorem Gf{x:aw}(h:x.aA≠0)(n:Nat)(l:List cy):pV T (n+1) l x=some (l,x):=by
 have ay:(x.aA==0)=false:=by simpa using h
 simp[pV,ay]
theorem Dt{x:aw}(h:x.aA≠0)(n:Nat)(l:List cy):mK T (n+1) l x=some (l,x):=by
 have ay:(x.aA==0)=false:=by simpa using h
 simp[mK,ay]
include aH
theorem agw{K:Nat}(aT: ∀j,j<=K->Hh T j): ∀(c:Nat),c<=K-> ∀(s x y:aw),nC T s x y->s.cw=0->0<=s.bN->left T x<=c-> ∀n cg,10*c+12<=n->10*c+12<=cg-> ∀l l',(x.aA=0->l'=l)->
  ∃p q,pV T n l x=some p/\mK T cg l' y=some q/\kS T s p q:=by
 intro c
 induction c with
 |zero=>
  intro aS s x y h b1 bs ax n cg aV hk l l' he;obtain⟨n,rfl⟩: ∃m,n=m+2:=⟨n-2,Z⟩;obtain⟨cg,rfl⟩: ∃m,cg=m+2:=⟨cg-2,Z⟩;by_cases ak:x.aA=0
  ·obtain rfl:=h.1.eq ak;rw[he ak];obtain⟨c_,cD,b3⟩:=h.2 ak;have ay:(y.aA==0)=true:=by simp[ak]
   simp only[pV,mK,ay,xO y [125] cl,Bool.true_and];cases b4 T y 4 [125] with
   |true=>exact⟨_,_,rfl,rfl,.inl ⟨ak,rfl⟩,h.2⟩
   |false=>
    simp only[Bool.not_false,bx];obtain⟨p,q,U,aa,ae,al⟩:=aT 0 Z y ak (cD.trans b1) (by rw[c_];exact bs) ax (n+1) (cg+1) Z Z;rw[U,aa];simp only[Option.bind_some];have bA:p.2.aA≠0:=λa6=>by have:=al a6;omega
    have bg:=ae.1.mr.ne bA;have Z8:=Gf (T:=T) bA n (l++[p.1]);have Z9:=Dt (T:=T) bg cg (l++[q.1]);simp only[pV] at Z8;simp only[mK] at Z9;rw[Z8,Z9];exact⟨_,_,rfl,rfl,e4.mX ae.1.mr λa6=>absurd a6 bA,λa6=>absurd a6 bA⟩
  ·exact⟨_,_,Gf ak _ _,Dt (h.1.ne ak) _ _,e4.mX h.1 λa6=>absurd a6 ak,λa6=>absurd a6 ak⟩
 |succ c AC=>
  intro aS s x y h b1 bs ax n cg aV hk l l' he;obtain⟨n,rfl⟩: ∃m,n=m+2:=⟨n-2,Z⟩;obtain⟨cg,rfl⟩: ∃m,cg=m+2:=⟨cg-2,Z⟩;by_cases ak:x.aA=0
  ·obtain rfl:=h.1.eq ak;rw[he ak];obtain⟨c_,cD,b3⟩:=h.2 ak;have ay:(y.aA==0)=true:=by simp[ak]
   rw[pV,mK];simp only[ay,xO y [125] cl,Bool.true_and];cases b4 T y 4 [125] with
   |true=>exact⟨_,_,rfl,rfl,.inl ⟨ak,rfl⟩,h.2⟩
   |false=>
    simp only[Bool.not_false,bx];obtain⟨p,q,U,aa,ae,al⟩:=aT (c+1) aS y ak (cD.trans b1) (by rw[c_];exact bs) ax (n+1) (cg+1) Z Z;rw[U,aa];simp only[Option.bind_some];by_cases bA:p.2.aA=0
    ·have bg:=ae.1.eq bA;have eo:=al bA;obtain⟨d1,d2,d3⟩:=ae.2 bA;rw[bg];exact AC Z s p.2 p.2 ⟨g_.refl _,λ_=>⟨d1.trans c_,d2.trans cD,Nat.le_trans d3 b3⟩⟩ b1 bs Z (n+1) (cg+1) Z Z _ _ λ_=>rfl
    ·have bg:=ae.1.mr.ne bA;exact⟨_,_,Gf bA _ _,Dt bg _ _,e4.mX ae.1.mr λa6=>absurd a6 bA,λa6=>absurd a6 bA⟩
  ·exact⟨_,_,Gf ak _ _,Dt (h.1.ne ak) _ _,e4.mX h.1 λa6=>absurd a6 ak,λa6=>absurd a6 ak⟩
theorem J4{s x y:aw}{e:Int}(he:e≠0)(cg:Nat)(Jf:g_ (cL T e x) (eE T [123] y))(aV:2<=cg):
  ∃p q,some (([]:List cy),cL T e x)=some p/\jX T cg y=some q/\kS T s p q/\za T x p:=by
 obtain⟨cg,rfl⟩: ∃m,cg=m+2:=⟨cg-2,Z⟩;have U:(cL T e x).aA≠0:=λa6=>pG he a6
 have aa:=Jf.ne U;rw[jX,Dt aa,Option.bind_some];have ae:f0 T [125] (eE T [123] y)=fU (eE T [123] y):=by
  simp only[f0,cq,hg aa,bi,iK aa]
 refine⟨_,_,rfl,rfl,⟨?_,λa6=>absurd a6 U⟩,λa6=>absurd a6 U⟩;simp only[ae];rcases Jf with Jf|⟨g1,g2,g3⟩
 ·exact absurd Jf.1 U
 ·exact .inr ⟨g1,g2,g3⟩
theorem Ry{k:Nat}(aT: ∀j,j<k->Hh T j):Lj T k:=by
 intro s x y h b1 bs ax n cg aV hk;obtain⟨n,rfl⟩: ∃m,n=m+1:=⟨n-1,Z⟩;rw[oU];by_cases ak:x.aA=0
 ·obtain rfl:=h.1.eq ak;obtain⟨c_,cD,b3⟩:=h.2 ak;cases be:b4 T y 4 [123] with
  |false=>
   refine J4 aH cl cg ?_ Z;have:eE T [123] y=ig (cL T 2 y):=by simp[eE,cq,xO y [123] cl,be]
   rw[this];exact .inr ⟨λa6=>pG cl a6,rfl,rfl⟩
  |true=>
   simp only[bx];by_cases aB:50<=y.bN
   ·rw[if_pos aB];refine J4 aH cl cg ?_ Z;have:eE T [123] y=cL T 4 y:=by simp[eE,xO y [123] cl,be,aB]
    rw[this];exact .refl _
   ·rw[if_neg aB];have apr:eE T [123] y={y with at_:=hD (y.at_+1),bN:=hD (y.bN+1)}:=by
     simp only[eE,cq,xO y [123] cl,be,aB,decide_false,Bool.and_false,bi,bx];rfl
    have ah:1<=k:=by
     have:=ru (T:=T) Z (s:=y) cl be;omega
    have As:=ru (T:=T) Z (s:=y) cl be;obtain⟨cg,rfl⟩: ∃m,cg=m+1:=⟨cg-1,Z⟩;rw[jX,apr];obtain⟨bJ,c2⟩:=Hg (o:=y.bN) (by rw[c_];exact bs) Z;have Fh:left T {y with at_:=hD (y.at_+1),bN:=hD (y.bN+1)}+1<=left T y:=As;obtain⟨p,q,U,aa,ae⟩:=agw aH (K:=k-1) (λj bP=>aT j Z) (k-1) (bL _) {y with at_:=hD (y.at_+1),bN:=hD (y.bN+1)} _ _ ⟨g_.refl _,λ_=>⟨rfl,rfl,bL _⟩⟩ (cD.trans b1) (by show(0:Int)<=hD (y.bN+1);rw[bJ,c_];omega) Z n cg Z Z [] [] λ_=>rfl
    rw[U,aa];simp only[Option.bind_some];have CT:=u1 (T:=T) ae.1.mr (x:=[125]) cl;have anq:g_ (cY T [125] (fU p.2)).2 (f0 T [125] q.2):=CT;refine⟨_,_,rfl,rfl,⟨e4.mX anq λa6=> ?_,λa6=> ?_⟩,λa6=> ?_⟩
    ·have:=(gp.sR [125] _ a6).1;rw[ae.1.eq this]
    ·obtain⟨d1,d2,d3⟩:=gp.sR [125] _ a6;obtain⟨aI,bc,dm⟩:=ae.2 d1;refine⟨?_,d3.trans (bc.trans cD),?_⟩
     ·rw[d2];show hD (p.2.bN-1)=s.bN;rw[aI];show hD (hD (y.bN+1)-1)=s.bN;rw[bJ,c2,c_]
     ·have hw:=Bn (T:=T) Z (fU p.2) [125];rw[KJ] at hw;have aO:left T (cY T [125] (fU p.2)).2<=left T s:=Z;exact aO
    ·obtain⟨d1,d2,d3⟩:=gp.sR [125] _ a6;obtain⟨aI,bc,dm⟩:=ae.2 d1;have hw:=Bn (T:=T) Z (fU p.2) [125];rw[KJ] at hw;have aO:left T (cY T [125] (fU p.2)).2+1<=left T y:=Z;exact aO
 ·rw[l2 ak,bi];refine J4 aH cl cg ?_ Z;have cR:=h.1.ne ak;have:eE T [123] y=ig y:=by simp[eE,cq,hg cR,iK cR]
  rw[this,iK ak];rcases h.1 with U|⟨g1,g2,g3⟩
  ·exact absurd U.1 ak
  ·exact .inr ⟨g1,g2,g3⟩
omit aH in
theorem zG{s:aw}(ak:s.aA=0){x:bk}(af:kw x=3):b2 T s x=((aq T s.at_).kind==3&&(aq T s.at_).text==x):=by
 simp[b2,af,b4,ak]
theorem V1{s:aw}{p q:cy×aw}(pos:Int)(h:kS T s p q):kS T s (p.1.at pos,p.2) (q.1.at pos,q.2):=⟨e4.mX h.1.mr λa6=>by rw[h.1.eq a6],h.2⟩
theorem agz{k:Nat}(FA: ∀j,j<k->Lj T j):Hh T k:=by
 intro s ak b1 bs ax n cg aV hk;obtain⟨n,rfl⟩: ∃m,n=m+2:=⟨n-2,Z⟩;obtain⟨cg,rfl⟩: ∃m,cg=m+2:=⟨cg-2,Z⟩;have self:nC T s s s:=⟨g_.refl _,λ_=>⟨rfl,rfl,bL _⟩⟩;rw[xD,rU];simp only[zG ak (x:=[118,97,114]) cl,zG ak (x:=[108,101,116]) cl,zG ak (x:=[105,102]) cl,zG ak (x:=[119,104,105,108,101]) cl,zG ak (x:=[114,101,116,117,114,110]) cl,zG ak (x:=[112,114,105,110,116]) cl];have plain: ∃p q,(some (qP T s)).bind (λp=>some (p.1.at (aq T s.at_).pos,p.2))=some p/\(some (nr T s)).bind (λp=>some (p.1.at (aq T s.at_).pos,p.2))=some q/\kS T s p q/\za T s p:=by
  obtain⟨U,aa⟩:=afo aH self b1 bs;exact⟨_,_,rfl,rfl,V1 aH _ U,aa⟩
 cases ah:(aq T s.at_).kind==3 with
 |false=>
  simp only[bi,Bool.false_and,Bool.or_self];exact plain
 |true=>
  simp only[bx,Bool.true_and];have Fg:(aq T s.at_).kind=3:=by simpa using ah
  have aX:=rr (T:=T) Z ak (by rw[Fg];decide);have gs:nC T (aE s) (aE s) (aE s):=⟨g_.refl _,λ_=>⟨rfl,rfl,bL _⟩⟩;have up: ∀{p q:cy×aw},kS T (aE s) p q-> ∃qz rl,(some p).bind (λp=>some (p.1.at (aq T s.at_).pos,p.2))=some qz/\(some q).bind (λp=>some (p.1.at (aq T s.at_).pos,p.2))=some rl/\kS T s qz rl/\za T s qz:=λ{p q} h=>by
   refine⟨_,_,rfl,rfl,V1 aH _ ⟨h.1,λa6=> ?_⟩,λa6=> ?_⟩
   ·obtain⟨aI,bc,dm⟩:=h.2 a6;exact⟨aI,bc,Z⟩
   ·obtain⟨aI,bc,dm⟩:=h.2 a6;show left T p.2+1<=left T s;omega
  have YE:=gs.2 ak;cases t1:(aq T s.at_).text==[118,97,114] with
  |true=>
   have t2:((aq T s.at_).text==[108,101,116])=false:=by
    have:(aq T s.at_).text=[118,97,114]:=by simpa using t1
    rw[this];rfl
   simp only[bx,Bool.true_or,t2,bi];exact up (agu aH ak YE b1)
  |false=>
   simp only[bi,Bool.false_or];cases t2:(aq T s.at_).text==[108,101,116] with
   |true=>
    simp only[bx];exact up (agv aH ak YE b1 bs)
   |false=>
    simp only[bi];cases t3:(aq T s.at_).text==[105,102] with
    |true=>
     simp only[bx];have he:=yP aH gs b1 bs;rw[wR];have hle:left T (eP T (aE s)).2<=k-1:=by
      by_cases a6:(eP T (aE s)).2.aA=0
      ·have:=(he.2 a6).2.2;omega
      ·rw[rm a6];omega
     obtain⟨p,q,U,aa,ae,al⟩:=FA (k-1) Z (aE s) _ _ he.st b1 bs hle n (cg+1) Z Z;rw[U,aa];simp only[Option.bind_some];by_cases bA:p.2.aA=0
     ·have bg:=ae.1.eq bA;have se:=al bA;have Nk:(eP T (aE s)).2.aA=0:=by
       by_cases a6:(eP T (aE s)).2.aA=0
       ·exact a6
       ·rw[rm a6] at se;omega
      rw[bg,he.1.eq Nk,zG bA (x:=[101,108,115,101]) cl];have kk:b4 T p.2 3 [101,108,115,101]=((aq T p.2.at_).kind==3&&(aq T p.2.at_).text==[101,108,115,101]):=by simp[b4,bA]
      rw[<-kk];cases kN:b4 T p.2 3 [101,108,115,101] with
      |false=>
       simp only[bi];exact up ⟨.inl ⟨bA,rfl⟩,ae.2⟩
      |true=>
       simp only[bx];have r_:=ru (T:=T) Z (s:=p.2) cl kN;obtain⟨f1,f2,f3⟩:=ae.2 bA;obtain⟨aJ,cx,g1,g2,g3,g4⟩:=FA (k-1) Z (aE s) (aE p.2) (aE p.2) ⟨g_.refl _,λ_=>⟨f1,f2,Z⟩⟩ b1 bs Z n (cg+1) Z Z;rw[g1,g2];simp only[Option.bind_some];refine up (p:=(cy.mk {kind:=5} [(eP T (aE s)).1] p.1 aJ.1,aJ.2)) (q:=(cy.mk {kind:=5} [(eP T (aE s)).1] p.1 cx.1,cx.2)) ?_;exact⟨e4.mX g3.1.mr λa6=>by simp only[g3.1.eq a6],g3.2⟩
     ·have bg:=ae.1.mr.ne bA;rw[l2 bA,hg bg];simp only[bi];exact up ⟨e4.mX ae.1.mr λa6=>absurd a6 bA,λa6=>absurd a6 bA⟩
    |false=>
     simp only[bi];cases t4:(aq T s.at_).text==[119,104,105,108,101] with
     |true=>
      simp only[bx];have he:=yP aH gs b1 bs;rw[wV];have hle:left T (eP T (aE s)).2<=k-1:=by
       by_cases a6:(eP T (aE s)).2.aA=0
       ·have:=(he.2 a6).2.2;omega
       ·rw[rm a6];omega
      obtain⟨p,q,U,aa,ae,al⟩:=FA (k-1) Z (aE s) _ _ he.st b1 bs hle n (cg+1) Z Z;rw[U,aa];simp only[Option.bind_some];refine up (p:=(cy.mk {kind:=6} [(eP T (aE s)).1] p.1 [],p.2)) (q:=(cy.mk {kind:=6} [(dx T (aE s)).1] q.1 [],q.2)) ?_;refine⟨e4.mX ae.1.mr λa6=> ?_,ae.2⟩;have se:=al a6;have Nk:(eP T (aE s)).2.aA=0:=by
       by_cases bH:(eP T (aE s)).2.aA=0
       ·exact bH
       ·rw[rm bH] at se;omega
      simp only[ae.1.eq a6,he.1.eq Nk]
     |false=>
      simp only[bi];cases t5:(aq T s.at_).text==[114,101,116,117,114,110] with
      |true=>
       simp only[bx];exact up (agx aH gs b1 bs)
      |false=>
       simp only[bi];cases t6:(aq T s.at_).text==[112,114,105,110,116] with
       |true=>
        simp only[bx];exact up (afp aH gs b1 bs)
       |false=>
        simp only[bi];exact plain
theorem am1: ∀k,Hh T k:=by
 intro k
 induction k using Nat.strongRecOn with
 |_ k aT=>exact agz aH λj bP=>Ry aH λi be=>aT i Z
theorem aih(k:Nat):Lj T k:=Ry aH λj _=>am1 aH j
theorem P9(at_ bN:Int): ∃p q,oU T 800000000 (lE at_ bN)=some p/\jX T 800000000 (lE at_ bN)=some q/\iL q.1 q.2=iL p.1 p.2/\kS T (lE at_ bN) p q:=by
 have bs:(0:Int)<=(lE at_ bN).bN:=by
  show(0:Int)<=if bN<0 then 0 else bN
  split<;>omega
 obtain⟨p,q,U,aa,ae,-⟩:=aih aH T.length (lE at_ bN) _ _ ⟨g_.refl _,λ_=>⟨rfl,rfl,bL _⟩⟩ rfl bs (DW _ _) 800000000 800000000 Z Z;refine⟨p,q,U,aa,?_,ae⟩;rcases ae.1 with⟨h,rfl⟩|⟨h,b1,ay⟩
 ·rfl
 ·have bZ: ¬q.2.aA=0:=by rw[b1];exact h
  simp only[iL,if_neg h,if_neg bZ,b1,ay]
end
end
end Go.Proofs.YtghmbpmaafnodaaGreatDoor
