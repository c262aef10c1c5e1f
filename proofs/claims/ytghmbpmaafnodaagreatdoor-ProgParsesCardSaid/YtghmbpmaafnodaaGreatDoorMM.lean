/-
  Texts of one proof, laid together: Pc Pd T2 T3 T4 T5.
-/
import Derived.Test.YtghmbpmaafnodaaGreatDoorML
import Derived.Test.YtghmbpmaafnodaaGreatDoorMH
import Derived.Test.YtghmbpmaafnodaaGreatDoorMK
set_option linter.unusedVariables false
set_option linter.unusedSimpArgs false
namespace Go.Proofs.YtghmbpmaafnodaaGreatDoor
open Go.gd
section
def mD(o a0:Int)(m:Nat)(e:bp)(bf:Int):Prop:=(l_ e:Int)<=60*(bf-a0)/\ ∃d:Nat,o+d<=50/\gl d m e
theorem mD.low{o a0 bf:Int}{m fr:Nat}{e:bp}(h:mD o a0 m e bf)(hm:fr<=m):mD o a0 fr e bf:=⟨h.1,h.2.imp λ_ h=>⟨h.1,h.2.low hm⟩⟩
theorem mD.wide{o a0 bf Zm df:Int}{m:Nat}{e:bp}(h:mD o a0 m e bf)(aY:Zm<=a0)(U:bf<=df):mD o Zm m e df:=⟨by have:=h.1;omega,h.2⟩
theorem HY{a:f6}(aU:a.name.length<=8)(bt:a.eV=[]):(l_ (.mk a []):Int)<=60:=by simp[l_,kV,bt];omega
theorem Wt{a:f6}(aU:a.eV.length<=8)(bt:a.name=[]):(l_ (.mk a []):Int)<=60:=by simp[l_,kV,bt];omega
theorem HZ{a:f6}{e:bp}(aU:a.name.length+a.eV.length<=8):(l_ (.mk a [e]):Int)<=60+l_ e:=by simp[l_,kV];omega
theorem XG{a:f6}{e f:bp}(aU:a.name.length+a.eV.length<=8):(l_ (.mk a [e,f]):Int)<=60+l_ e+l_ f:=by simp[l_,kV];omega
theorem anl{a:f6}{l:List bp}(aU:a.name.length+a.eV.length<=8):(l_ (.mk a l):Int)<=60+kV l:=by simp[l_];omega
structure aj1(T:List Tok)(E:Int)(n:Nat):Prop where
 expr: ∀lev s p,lev<=5->hI E s->jF T n lev s=some p->p.2.aC=0->fp E s p.2 1/\mD s.bR s.at_ (lev+1) p.1 p.2.at_
 VO: ∀lev e a0 s p,lev<=4->hI E s->(s.aC=0->mD s.bR a0 (lev+1) e s.at_)->rD T n lev e s=some p->p.2.aC=0->fp E s p.2 0/\mD s.bR a0 (lev+1) p.1 p.2.at_
 unary: ∀s p,hI E s->ue T n s=some p->p.2.aC=0->fp E s p.2 1/\mD s.bR s.at_ 6 p.1 p.2.at_
 sign: ∀k s p,k=12\/k=13->hI E s->uq T n k s=some p->p.2.aC=0->fp E s p.2 1/\mD s.bR s.at_ 6 p.1 p.2.at_
 behind: ∀e a0 s p,hI E s->(s.aC=0->mD s.bR a0 7 e s.at_)->lC T n e s=some p->p.2.aC=0->fp E s p.2 0/\mD s.bR a0 7 p.1 p.2.at_
 inner: ∀s p,hI E s->ns T n s=some p->p.2.aC=0->fp E s p.2 1/\mD (s.bR+1) s.at_ 0 p.1 p.2.at_
 first: ∀s p,hI E s->oP T n s=some p->p.2.aC=0->fp E s p.2 1/\mD s.bR s.at_ 7 p.1 p.2.at_
 fresh: ∀pos s p,hI E s->tN T n pos s=some p->p.2.aC=0->fp E s p.2 1/\mD s.bR (s.at_-1) 7 p.1 p.2.at_
 args: ∀s p,hI E s->pP T n s=some p->p.2.aC=0->fp E s p.2 1/\(kV p.1:Int)<=60*(p.2.at_-s.at_)/\ ∃d:Nat,s.bR+1+d<=50/\ ∀e∈p.1,gl d 0 e
 VD: ∀l a0 s p,hI E s->1<=s.bR->(s.aC=0->(kV l:Int)<=60*(s.at_-a0)/\ ∃d:Nat,s.bR+d<=50/\ ∀e∈l,gl d 0 e)->nr T n l s=some p->p.2.aC=0->(s.aC=0/\p.2.bR=s.bR-1/\s.at_+1<=p.2.at_/\p.2.at_<=E)/\(kV p.1:Int)<=60*(p.2.at_-a0)/\ ∃d:Nat,s.bR+d<=50/\ ∀e∈p.1,gl d 0 e
theorem nw{α β:Type}{x:Option α}{f:α->Option β}{b:β}(h:x.bind f=some b): ∃a,x=some a/\f a=some b:=eW.1 h
theorem RP{x:bl}: ∀l:List (bl×Int),uv x l≠0-> ∃k,(x,k)∈l/\uv x l=k
 |[],h=>absurd rfl h
 |(y,k)::r,h=>by
  rw[uv] at h ⊢;cases cV:y==x with
  |true=>
   obtain rfl:y=x:=by simpa using cV
   rw[bC];exact⟨k,List.mem_cons_self,rfl⟩
  |false=>
   rw[cV,bj] at h;rw[bj];obtain⟨k,U,aa⟩:=RP r h;exact⟨k,List.mem_cons_of_mem _ U,aa⟩
def akB(lev:Nat):Bool:=(mS[lev]?.getD []).all λp=>decide (14<=p.2)&&decide (p.2<=24)&&wo p.2==lev+1
theorem af0:(List.range 5).all akB=true:=by decide+kernel
theorem afZ{lev:Nat}(az:lev<=4){t:Tok}(h:jQ lev t≠0):t.kind=4/\14<=jQ lev t/\jQ lev t<=24/\wo (jQ lev t)=lev+1/\(t.text,jQ lev t)∈mS[lev]?.getD []:=by
 unfold jQ at h ⊢;cases ah:(t.kind != 4) with
 |true=>rw[ah,bC] at h;exact absurd rfl h
 |false=>
  rw[ah,bj] at h;rw[bj];obtain⟨k,U,aa⟩:=RP _ h;have:=List.all_eq_true.1 (List.all_eq_true.1 af0 lev (List.mem_range.2 Z)) _ U;simp only[Bool.and_eq_true,decide_eq_true_eq,beq_iff_eq] at this;rw[aa];exact⟨by simpa using ah,this.1.1,this.1.2,this.2,U⟩
theorem DK{o:Int}{d ep:Nat}(h:o+d<=50)(bZ:o+ep<=50):o+(max d ep:Nat)<=50:=Z
theorem Vk{T:List Tok}{E:Int}(aH:Good T E): ∀n,aj1 T E n
 |0=>by
  constructor<;>intros<;>rename_i h _<;>first|cases h|skip
 |n+1=>by
  have aT:=Vk aH n;refine⟨?_,?_,?_,?_,?_,?_,?_,?_,?_,?_⟩
  ·intro lev s p az be h bw;rw[jF] at h;split at h
   ·rename_i aB;subst aB;exact aT.unary s p be h bw
   ·obtain⟨q,g1,g2⟩:=nw h;have U:=λbi=>aT.expr (lev+1) s q Z be g1 bi
    obtain⟨cG,dh⟩:=aT.VO lev q.1 s.at_ q.2 p Z (λbi=>(U bi).1.in (be (U bi).1.f) Z) (λbi=>by rw[(U bi).1.o];exact(U bi).2.low Z) g2 bw;have U:=U cG.f;exact⟨(U.1.trans cG).less Z,by rw[U.1.o] at dh;exact dh⟩
  ·intro lev e a0 s p az be he h bw;rw[rD] at h;cases aS:(s.aC==0&&jQ lev (ar T s.at_) != 0) with
   |false=>
    rw[aS,bj] at h;cases h;exact⟨.refl (be bw) bw,he bw⟩
   |true=>
    rw[aS,bC] at h;simp only[Bool.and_eq_true,beq_iff_eq,bne_iff_ne,ne_eq] at aS;obtain⟨al,fC⟩:=aS;obtain⟨gm,e0,gC,nk,-⟩:=afZ az fC;have aZ:=(go_ok aH (be al) al Z).2;have jd:=aZ.in (be al) Z;obtain⟨q,g1,g2⟩:=nw h;have U:=λbi=>aT.expr (lev+1) (aF s) q Z (λ_=>jd) g1 bi
    have key: ∀bi:q.2.aC=0,mD q.2.bR a0 (lev+1) (.mk {kind:=jQ lev (ar T s.at_),pos:=(ar T s.at_).pos} [e,q.1]) q.2.at_:=by
     intro bi;obtain⟨eP,lw,d,ku,hs⟩:=U bi;obtain⟨i2,ep,i3,i4⟩:=he al;have:=XG (a:={kind:=jQ lev (ar T s.at_),pos:=(ar T s.at_).pos}) (e:=e) (f:=q.1) (by simp);have e7:=aZ.a;have go:=aZ.o;have Dj:=eP.o;refine⟨Z,max d ep,by rw[Dj,go];exact DK (by rw[<-go];exact ku) i3,?_⟩;refine .bin Z e0 gC ?_ ?_
     ·rw[nk];exact i4.more Z
     ·rw[nk];exact hs.more Z
    obtain⟨cG,dh⟩:=aT.VO lev _ a0 q.2 p az (λbi=>(U bi).1.in jd Z) key g2 bw;have U:=U cG.f;refine⟨((aZ.trans U.1).trans cG).less Z,?_⟩;rw[U.1.o,aZ.o] at dh;exact dh
  ·intro s p be h bw;rw[ue] at h;cases ag:cd T s [45] with
   |true=>rw[ag,bC] at h;exact aT.sign 12 s p (.inl rfl) be h bw
   |false=>
    rw[ag,bj] at h;cases cV:cd T s [33] with
    |true=>rw[cV,bC] at h;exact aT.sign 13 s p (.inr rfl) be h bw
    |false=>
     rw[cV,bj] at h;obtain⟨q,g1,g2⟩:=nw h;have U:=λbi=>aT.first s q be g1 bi
     obtain⟨cG,dh⟩:=aT.behind q.1 s.at_ q.2 p (λbi=>(U bi).1.in (be (U bi).1.f) Z) (λbi=>by rw[(U bi).1.o];exact(U bi).2) g2 bw;have U:=U cG.f;exact⟨(U.1.trans cG).less Z,by rw[U.1.o] at dh;exact dh.low Z⟩
  ·intro k s p ah be h bw;rw[uq] at h;obtain⟨q,g1,g2⟩:=nw h;cases g2;have bi:q.2.aC=0:=bw;have aox:(eT T (ar T s.at_).text s).aC=0->hI E (eT T (ar T s.at_).text s):=λal _=>(qv aH be al).2.2.2.2.1
   obtain⟨eP,lw,d,ku,hs⟩:=aT.expr 5 _ q Z (λal=>aox al al) g1 bi;obtain⟨cR,dd,dG,eM,iN,wB⟩:=qv aH be eP.f;have CX:=eP.in iN Z;have bt:=KW CX;simp only[bt] at bw ⊢;have A4:=eP.a;have Dj:=eP.o;have Ja:=eP.b;have:=HZ (a:={kind:=k,pos:=(ar T s.at_).pos}) (e:=q.1) (by simp);refine⟨⟨dd,bw,by(try simp only);omega,by(try simp only);omega,Ja⟩,by(try simp only);omega,d+1,Z,.sign Z ah hs⟩
  ·intro e a0 s p be he h bw;rw[lC] at h;cases ag:cd T s [46] with
   |true=>
    rw[ag,bC] at h;have al:=(iq ag).1;have aZ:=mJ aH (be al) ag;have jd:=aZ.in (be al) Z;have aU:=λbi=>BI aH (s:=aF s) (λ_=>jd) bi
    obtain⟨i2,ep,i3,i4⟩:=he al;obtain⟨cG,dh⟩:=aT.behind _ a0 _ p (λbi=>(aU bi).2.in jd Z) (λbi=>by
     obtain⟨fB,n2⟩:=aU bi;have:=HZ (a:={kind:=5,name:=(dk T (aF s)).1,pos:=(ar T s.at_).pos}) (e:=e) (by have:=wO fB;simp;omega);have F0:=n2.a;have e7:=aZ.a;refine⟨Z,ep,by rw[n2.o,aZ.o];exact i3,.field Z fB i4⟩) h bw
    have n2:=(aU cG.f).2;refine⟨((aZ.trans n2).trans cG).less Z,?_⟩;rw[n2.o,aZ.o] at dh;exact dh
   |false=>
    rw[ag,bj] at h;cases cV:cd T s [91] with
    |true=>
     rw[cV,bC] at h;have al:=(iq cV).1;obtain⟨q,g1,g2⟩:=nw h;obtain⟨i2,ep,i3,i4⟩:=he al;have U:=λbi=>aT.expr 0 _ q Z (λal=>(qv aH be al).2.2.2.2.1) g1 bi
     have j7:(gp T [93] q.2).aC=0->q.2.aC=0:=λb0=>by
      have bZ:(cr T [93] q.2).aC=0:=b0;unfold cr at bZ;cases cn:cd T q.2 [93] with
      |true=>exact(iq cn).1
      |false=>rw[cn,bj] at bZ;exact absurd bZ (iZ cm)
     have key: ∀b0:(gp T [93] q.2).aC=0,fp E s (gp T [93] q.2) 3/\mD s.bR a0 7 (.mk {kind:=6,pos:=(ar T s.at_).pos} [e,q.1]) (gp T [93] q.2).at_:=by
      intro b0;obtain⟨eP,lw,d,ku,hs⟩:=U (j7 b0);obtain⟨cR,dd,dG,eM,iN,wB⟩:=qv aH be eP.f;have aS:=DD aH Z dG.symm eM.symm al iN eP b0;have NR:=aS.a;have Ja:q.2.at_+1<=(gp T [93] q.2).at_:=by
       have bZ:(cr T [93] q.2).aC=0:=b0;have:=(mc aH (λ_=>eP.in iN Z) bZ).2.2.a;exact this
      have:=XG (a:={kind:=6,pos:=(ar T s.at_).pos}) (e:=e) (f:=q.1) (by simp);refine⟨aS.less Z,Z,max ep (d+1),DK i3 Z,?_⟩;obtain⟨z,cn⟩: ∃z,max ep (d+1)=z+1:=⟨max ep (d+1)-1,Z⟩;rw[cn];exact .item Z (i4.more Z) ((hs.low Z).more Z)
     obtain⟨cG,dh⟩:=aT.behind _ a0 _ p (λb0=>(key b0).1.in (be al) Z) (λb0=>by rw[(key b0).1.o];exact(key b0).2) g2 bw;have dL:=(key cG.f).1;refine⟨(dL.trans cG).less Z,?_⟩;rw[dL.o] at dh;exact dh
    |false=>
     rw[cV,bj] at h;cases h;exact⟨.refl (be bw) bw,he bw⟩
  ·intro s p be h bw;rw[ns] at h;obtain⟨q,g1,g2⟩:=nw h;cases g2;have bi:q.2.aC=0:=by
    have bZ:(cr T [41] q.2).aC=0:=bw;unfold cr at bZ;cases cn:cd T q.2 [41] with
    |true=>exact(iq cn).1
    |false=>rw[cn,bj] at bZ;exact absurd bZ (iZ cm)
   obtain⟨eP,lw,d,ku,hs⟩:=aT.expr 0 _ q Z (λal=>(qv aH be al).2.2.2.2.1) g1 bi;obtain⟨cR,dd,dG,eM,iN,wB⟩:=qv aH be eP.f;have aS:=DD aH Z dG.symm eM.symm dd iN eP bw;have NR:=aS.a;have Ja:q.2.at_+1<=(gp T [41] q.2).at_:=by
    have bZ:(cr T [41] q.2).aC=0:=bw;exact(mc aH (λ_=>eP.in iN Z) bZ).2.2.a
   refine⟨aS.less Z,by(try simp only);omega,d,by rw[<-dG];exact ku,hs.low Z⟩
  ·intro s p be h bw;rw[oP] at h;cases U:(s.aC==0&&(ar T s.at_).kind==2) with
   |true=>
    rw[U,bC] at h;cases h;simp only[Bool.and_eq_true,beq_iff_eq] at U;have aZ:=(go_ok aH (be U.1) U.1 Z).2;have aU:=ahh aH U.2;have e7:=aZ.a;have:=HY (a:={kind:=1,n:=(ar T s.at_).n,pos:=(ar T s.at_).pos}) (by simp) rfl;have bd:=(be U.1).d;exact⟨aZ,by(try simp only);omega,0,by simpa using bd,.int Z aU.1 aU.2⟩
   |false=>
    rw[U,bj] at h;cases aa:(cd T s [116,114,117,101]||cd T s [102,97,108,115,101]) with
    |true=>
     rw[aa,bC] at h;cases h;have aZ:fp E s (aF s) 1:=by
      rcases Bool.or_eq_true_iff.1 aa with ag|ag<;>exact mJ aH (be (iq ag).1) ag
     have e7:=aZ.a;have bd:=(be aZ.f).d;have:=HY (a:={kind:=2,n:=bif (ar T s.at_).text==[116,114,117,101] then 1 else 0,pos:=(ar T s.at_).pos}) (by simp) rfl;refine⟨aZ,by(try simp only);omega,0,by simpa using bd,.bool Z ?_⟩;cases(ar T s.at_).text==[116,114,117,101]
     ·exact .inl rfl
     ·exact .inr rfl
    |false=>
     rw[aa,bj] at h;cases ae:cd T s [110,117,108,108] with
     |true=>
      rw[ae,bC] at h;cases h;have al:=(iq ae).1;have aZ:=mJ aH (be al) ae;obtain⟨cR,dd⟩:=Ej aH (aZ.pd be Z) bw;have e7:=aZ.a;have A9:=dd.a;have bd:=(be al).d;have:=Wt (a:={kind:=3,eV:=(fm T (aF s)).1.1,fT:=(fm T (aF s)).1.2,pos:=(ar T s.at_).pos}) (GX cR) rfl;exact⟨(aZ.trans dd).less Z,by(try simp only);omega,0,by simpa using bd,.null Z cR⟩
     |false=>
      rw[ae,bj] at h;cases am:cd T s [110,101,119] with
      |true=>
       rw[am,bC] at h;have al:=(iq am).1;have aZ:=mJ aH (be al) am;obtain⟨cG,dh⟩:=aT.fresh _ _ p (aZ.pd be Z) h bw;have e7:=aZ.a;have ge:=(go_ok aH (be al) al (by rw[(iq am).2.1];exact LP _)).1;rw[aZ.o] at dh;exact⟨(aZ.trans cG).less Z,dh.wide (by rw[ge];simp) (Int.le_refl _)⟩
      |false=>
       rw[am,bj] at h;cases aB:cd T s [108,101,110] with
       |true=>
        rw[aB,bC] at h;have al:=(iq aB).1;have aZ:=mJ aH (be al) aB;obtain⟨q,g1,g2⟩:=nw h;cases g2;obtain⟨eP,lw,d,ku,hs⟩:=aT.inner _ q (aZ.pd be Z) g1 bw;have e7:=aZ.a;have go:=aZ.o;have:=HZ (a:={kind:=10,pos:=(ar T s.at_).pos}) (e:=q.1) (by simp);exact⟨(aZ.trans eP).less Z,by(try simp only);omega,d+1,Z,.len Z hs⟩
       |false=>
        rw[aB,bj] at h;cases aG:cd T s [114,101,97,100] with
        |true=>
         rw[aG,bC] at h;cases h;have al:=(iq aG).1;have aZ:=mJ aH (be al) aG;have bi:(eT T [40] (aF s)).aC=0:=by
          have bZ:(cr T [41] (eT T [40] (aF s))).aC=0:=bw;unfold cr at bZ;cases cn:cd T (eT T [40] (aF s)) [41] with
          |true=>exact(iq cn).1
          |false=>rw[cn,bj] at bZ;exact absurd bZ (iZ cm)
         obtain⟨cR,dd,dG,eM,iN,wB⟩:=qv aH (aZ.pd be Z) bi;have aS:=DD aH (k:=0) Z dG.symm eM.symm dd iN (.refl iN bi) bw;have e7:=aZ.a;have go:=aZ.o;have NR:=aS.a;have:=HY (a:={kind:=11,pos:=(ar T s.at_).pos}) (by simp) rfl;exact⟨(aZ.trans aS).less Z,by(try simp only);omega,1,Z,.read Z⟩
        |false=>
         rw[aG,bj] at h;cases aP:cd T s [40] with
         |true=>
          rw[aP,bC] at h;obtain⟨eP,lw,d,ku,hs⟩:=aT.inner s p be h bw;exact⟨eP,lw,d+1,Z,hs.up Z⟩
         |false=>
          rw[aP,bj] at h;have bd:s.aC=0->s.bR<=50:=λal=>(be al).d
          cases bq:cd T (dk T s).2 [40] with
          |true=>
           rw[bq,bC] at h;obtain⟨q,g1,g2⟩:=nw h;cases g2;obtain⟨fB,n2⟩:=BI aH be (iq bq).1;obtain⟨cG,dh,d,dL,gf⟩:=aT.args _ q (n2.pd be Z) g1 bw;have F0:=n2.a;have no:=n2.o;have:=anl (a:={kind:=7,name:=(dk T s).1,pos:=(ar T s.at_).pos}) (l:=q.1) (by have:=wO fB;simp;omega);exact⟨(n2.trans cG).less Z,by(try simp only);omega,d+1,Z,.call Z fB gf⟩
          |false=>
           rw[bq,bj] at h;cases h;obtain⟨fB,n2⟩:=BI aH be bw;have F0:=n2.a;have:=HY (a:={kind:=4,name:=(dk T s).1,pos:=(ar T s.at_).pos}) (wO fB) rfl;exact⟨n2,by(try simp only);omega,0,by simpa using bd n2.f,.var Z fB⟩
  ·intro pos s p be h bw;rw[tN] at h;cases ag:cd T s [91] with
   |true=>
    rw[ag,bC] at h;obtain⟨q,g1,g2⟩:=nw h;cases g2;have al:=(iq ag).1;have aZ:=mJ aH (be al) ag;have jd:=aZ.in (be al) Z;have bz:=λbi:(cr T [93] (fm T (aF s)).2).aC=0=>by
     have aa:(fm T (aF s)).2.aC=0:=by
      unfold cr at bi;cases cn:cd T (fm T (aF s)).2 [93] with
      |true=>exact(iq cn).1
      |false=>rw[cn,bj] at bi;exact absurd bi (iZ cm)
     have o:=Ej aH (λ_=>jd) aa;exact au o (mc aH (λ_=>o.2.in jd Z) bi).2.2
    obtain⟨eP,lw,d,ku,hs⟩:=aT.inner _ q (λbi=>((bz bi).1.2.trans (bz bi).2).in jd Z) g1 bw;obtain⟨⟨cR,dd⟩,dG⟩:=bz eP.f;have e7:=aZ.a;have go:=aZ.o;have A9:=dd.a;have are:=dd.o;have N9:=dG.a;have to:=dG.o;have:=HZ (a:={kind:=9,eV:=(fm T (aF s)).1.1,fT:=(fm T (aF s)).1.2,pos:=pos}) (e:=q.1) (by have:=GX cR;simp;omega);exact⟨(((aZ.trans dd).trans dG).trans eP).less Z,by(try simp only);omega,d+1,Z,.make Z cR hs⟩
   |false=>
    rw[ag,bj] at h;cases h;obtain⟨fB,n2⟩:=BI aH be bw;have F0:=n2.a;have bd:=(be n2.f).d;have:=Wt (a:={kind:=8,eV:=(dk T s).1,pos:=pos}) (wO fB) rfl;exact⟨n2,by(try simp only);omega,0,by simpa using bd,.new Z fB⟩
  ·intro s p be h bw;rw[pP] at h;cases ag:cd T (eT T [40] s) [41] with
   |true=>
    rw[ag,bC] at h;cases h;obtain⟨cR,dd,dG,eM,iN,wB⟩:=qv aH be (iq ag).1;have aS:=DD aH (k:=0) Z dG.symm eM.symm dd iN (.refl iN (iq ag).1) bw;have NR:=aS.a;refine⟨aS.less Z,by simp only[kV];omega,0,Z,λe he=>by cases he⟩
   |false=>
    rw[ag,bj] at h;obtain⟨q,g1,g2⟩:=nw h;have U:=λbi=>aT.expr 0 _ q Z (λal=>(qv aH be al).2.2.2.2.1) g1 bi
    have aY:=λbi=>qv aH be (U bi).1.f
    by_cases bi:q.2.aC=0
    ·obtain⟨eP,lw,d,ku,hs⟩:=U bi;obtain⟨cR,dd,dG,eM,iN,wB⟩:=aY bi;have Dj:=eP.o;have A4:=eP.a;have aS:=(be dd).c;obtain⟨⟨cG,dh,dL,gf⟩,jB,ep,j0,uZ⟩:=aT.VD [q.1] s.at_ q.2 p (λ_=>eP.in iN Z) Z (λ_=>⟨by simp only[kV];omega,d,Z,λe he=>by
      simp only[List.mem_cons,List.not_mem_nil,or_false] at he;subst he;exact hs.low Z⟩) g2 bw
     exact⟨⟨dd,bw,Z,Z,gf⟩,jB,ep,Z,uZ⟩
    ·exfalso;cases n with
     |zero=>rw[nr] at g2;cases g2
     |succ n=>
      rw[nr,hv bi,bj] at g2;cases g2;have bZ:(cr T [41] q.2).aC=0:=bw;unfold cr at bZ;rw[hv bi,bj] at bZ;exact absurd bZ (iZ cm)
  ·intro l a0 s p be aM he h bw;rw[nr] at h;cases ag:cd T s [44] with
   |true=>
    rw[ag,bC] at h;obtain⟨q,g1,g2⟩:=nw h;have al:=(iq ag).1;have aZ:=mJ aH (be al) ag;have jd:=aZ.in (be al) Z;have U:=λbi=>aT.expr 0 _ q Z (λ_=>jd) g1 bi
    by_cases bi:q.2.aC=0
    ·obtain⟨eP,lw,d,ku,hs⟩:=U bi;obtain⟨i2,ep,i3,i4⟩:=he al;have go:=aZ.o;have e7:=aZ.a;have Dj:=eP.o;have A4:=eP.a;obtain⟨⟨cG,dh,dL,gf⟩,jB,d2,j0,uZ⟩:=aT.VD (l++[q.1]) a0 q.2 p (λ_=>eP.in jd Z) Z (λ_=>⟨by rw[Vz];omega,max d ep,DK Z Z,λe he=>by
      rcases List.mem_append.1 he with he|he
      ·exact(i4 e he).more Z
      ·simp only[List.mem_cons,List.not_mem_nil,or_false] at he;subst he;exact(hs.low Z).more Z⟩) g2 bw
     exact⟨⟨al,Z,Z,gf⟩,jB,d2,Z,uZ⟩
    ·exfalso;cases n with
     |zero=>rw[nr] at g2;cases g2
     |succ n=>
      rw[nr,hv bi,bj] at g2;cases g2;have bZ:(cr T [41] q.2).aC=0:=bw;unfold cr at bZ;rw[hv bi,bj] at bZ;exact absurd bZ (iZ cm)
   |false=>
    rw[ag,bj] at h;cases h;have bZ:(cr T [41] s).aC=0:=bw;obtain⟨t1,t2,t3⟩:=mc aH be bZ;have al:=t3.f;obtain⟨i2,ep,i3,i4⟩:=he al;have N9:=t3.a;have to:=t3.o;have wE:=t3.b;have M7:=t3.in (be al) Z;have e:gp T [41] s={cr T [41] s with bR:=(cr T [41] s).bR-1}:=by unfold gp;exact KW M7
    simp only[e] at bw ⊢;refine⟨⟨al,by(try simp only);omega,by(try simp only);omega,wE⟩,by(try simp only);omega,ep,i3,i4⟩
end
section
inductive jZ:Nat->cE->Prop
 |var {d x o z p}:iG x=true->zR o z->jZ d (.mk {kind:=1,name:=x,eV:=o,fT:=z,pos:=p} [] [] [])
 |lets {d x o z p e}:iG x=true->zR o z->gl d 0 e->jZ d (.mk {kind:=2,name:=x,eV:=o,fT:=z,pos:=p} [e] [] [])
 |set {d x p e}:iG x=true->gl d 0 e->jZ d (.mk {kind:=3,name:=x,pos:=p} [e] [] [])
 |put {d p e f}:e.kind=5\/e.kind=6->gl d 0 e->gl d 0 f->jZ d (.mk {kind:=4,pos:=p} [e,f] [] [])
 |ifs {d p e b c}:gl (d+1) 0 e->(∀s∈b,jZ d s)->(∀s∈c,jZ d s)->jZ (d+1) (.mk {kind:=5,pos:=p} [e] b c)
 |while {d p e b}:gl (d+1) 0 e->(∀s∈b,jZ d s)->jZ (d+1) (.mk {kind:=6,pos:=p} [e] b [])
 |EF {d p}:jZ d (.mk {kind:=7,pos:=p} [] [] [])
 |EG {d p e}:gl d 0 e->jZ d (.mk {kind:=7,pos:=p} [e] [] [])
 |print {d p e}:gl d 0 e->jZ d (.mk {kind:=8,pos:=p} [e] [] [])
 |call {d p e}:e.kind=7->gl d 0 e->jZ d (.mk {kind:=9,pos:=p} [e] [] [])
theorem jZ.at{d:Nat}{s:cE}(h:jZ d s)(p:Int):jZ d (s.at p):=by
 cases h with
 |var a b=>exact .var a b
 |lets a b c=>exact .lets a b c
 |set a b=>exact .set a b
 |put a b c=>exact .put a b c
 |ifs a b c=>exact .ifs a b c
 | «while» a b=>exact .while a b
 |EF=>exact .EF
 |EG a=>exact .EG a
 |print a=>exact .print a
 |call a b=>exact .call a b
theorem jZ.more{d:Nat}{s:cE}(h:jZ d s): ∀{ep:Nat},d<=ep->jZ ep s:=by
 induction h with
 |var a b=>intro ep _;exact .var a b
 |lets a b c=>intro ep bd;exact .lets a b (c.more bd)
 |set a b=>intro ep bd;exact .set a (b.more bd)
 |put a b c=>intro ep bd;exact .put a (b.more bd) (c.more bd)
 |ifs a _ _ ih1 ih2=>intro ep bd;obtain⟨k,rfl⟩: ∃k,ep=k+1:=⟨ep-1,Z⟩;exact .ifs (a.more bd) (λs aM=>ih1 s aM Z) (λs aM=>ih2 s aM Z)
 | «while» a _ ih1=>intro ep bd;obtain⟨k,rfl⟩: ∃k,ep=k+1:=⟨ep-1,Z⟩;exact .while (a.more bd) (λs aM=>ih1 s aM Z)
 |EF=>intro ep _;exact .EF
 |EG a=>intro ep bd;exact .EG (a.more bd)
 |print a=>intro ep bd;exact .print (a.more bd)
 |call a b=>intro ep bd;exact .call a (b.more bd)
mutual
def pt:cE->Nat
 | .mk a es b c=>400+a.name.length+a.eV.length+kV es+mB b+mB c
def mB:List cE->Nat
 |[]=>0
 |e::r=>pt e+mB r
end
theorem Tz: ∀(l:List cE) (e:cE),mB (l++[e])=mB l+pt e
 |[],e=>by simp[mB]
 |x::l,e=>by rw[List.cons_append,mB,Tz l e,mB];omega
theorem al7(s:cE)(p:Int):pt (s.at p)=pt s:=by cases s;rfl
theorem XH{a:dH}(aU:a.name.length+a.eV.length<=16):(pt (.mk a [] [] []):Int)<=416:=by simp[pt,kV,mB];omega
theorem EO{a:dH}{e:bp}(aU:a.name.length+a.eV.length<=16):(pt (.mk a [e] [] []):Int)<=416+l_ e:=by simp[pt,kV,mB];omega
theorem al8{a:dH}{e f:bp}(aU:a.name.length+a.eV.length<=16):(pt (.mk a [e,f] [] []):Int)<=416+l_ e+l_ f:=by simp[pt,kV,mB];omega
theorem Mz{a:dH}{e:bp}{b c:List cE}(aU:a.name.length+a.eV.length<=16):(pt (.mk a [e] b c):Int)<=416+l_ e+mB b+mB c:=by simp[pt,kV];omega
section
variable {T:List Tok}{E:Int}{s s' s2:aA}
theorem fp.to{y:aA}{k:Int}(be:hI E s)(h:y.aC=0->fp E s y k)(ah:0<=k):hI E y:=λcV=>(h cV).in (be (h cV).f) ah
def H6(T:List Tok):Prop:= ∀s,∃p,jF T 800000000 0 s=some p
theorem yL(aH:Good T E)(hS:H6 T)(be:hI E s)(h:(dE T s).2.aC=0):fp E s (dE T s).2 1/\mD s.bR s.at_ 0 (dE T s).1 (dE T s).2.at_:=by
 obtain⟨p,bw⟩:=hS s;unfold dE at h ⊢;rw[bw] at h ⊢;obtain⟨U,aa⟩:=(Vk aH 800000000).expr 0 s p Z be bw h;exact⟨U,aa.low Z⟩
theorem Sg(aH:Good T E)(be:hI E s)(h:(gh T s).2.aC=0):iG (gh T s).1.1=true/\zR (gh T s).1.2.1 (gh T s).1.2.2/\fp E s (gh T s).2 3:=by
 have U:=λbi=>BI aH be bi
 have aa:=λbi=>mc aH (s:=(dk T s).2) (x:=[58]) (fp.to be (λcV=>(U cV).2) Z) bi
 have ae:=Ej aH (s:=cr T [58] (dk T s).2) (fp.to be (λcV=>(U (aa cV).2.2.f).2.trans (aa cV).2.2) Z) h;have dh:=aa ae.2.f;have cG:=U dh.2.2.f;exact⟨cG.1,ae.1,((cG.2.trans dh.2.2).trans ae.2).less Z⟩
structure aj2(T:List Tok)(E:Int)(n:Nat):Prop where
 block: ∀s p,hI E s->lE T n s=some p->p.2.aC=0->fp E s p.2 2/\(mB p.1:Int)<=400*(p.2.at_-s.at_-2)/\ ∃d:Nat,s.bR+(d+1)<=50/\ ∀x∈p.1,jZ d x
 loop: ∀l a0 s p,hI E s->(s.aC=0->(mB l:Int)<=400*(s.at_-a0)/\ ∃d:Nat,s.bR+d<=50/\ ∀x∈l,jZ d x)->pS T n l s=some p->p.2.aC=0->fp E s p.2 0/\(mB p.1:Int)<=400*(p.2.at_-a0)/\ ∃d:Nat,s.bR+d<=50/\ ∀x∈p.1,jZ d x
 stmt: ∀s p,hI E s->xG T n s=some p->p.2.aC=0->fp E s p.2 2/\(pt p.1:Int)<=400*(p.2.at_-s.at_)/\ ∃d:Nat,s.bR+d<=50/\jZ d p.1
theorem afi(aH:Good T E)(hS:H6 T)(be:hI E s)(h:(qG T s).2.aC=0):fp E s (qG T s).2 2/\(pt (qG T s).1:Int)<=400*((qG T s).2.at_-s.at_)/\ ∃d:Nat,s.bR+d<=50/\jZ d (qG T s).1:=by
 have U:=λbi=>yL aH hS be bi
 have i1:hI E (dE T s).2:=fp.to be (λcV=>(U cV).1) Z;unfold qG at h ⊢;cases ag:cd T (dE T s).2 [61] with
 |true=>
  rw[ag,bC] at h;rw[bC];have al:=(iq ag).1;obtain⟨eP,lw,d,ku,hs⟩:=U al;have bZ:(cr T [59] (dE T (oA T (dE T s).1 (dE T s).2)).2).aC=0:=h;have aI:=λbi=>mc aH (s:=bif jH (dE T s).1 then cS T 2 (dE T s).2 else(dE T s).2) (x:=[61]) (λax=>by
   cases ah:jH (dE T s).1 with
   |true=>rw[ah,bC] at ax;exact absurd ax (iZ cm)
   |false=>rw[bj];exact i1 al) bi
  have tq:(oA T (dE T s).1 (dE T s).2).aC=0->jH (dE T s).1=false/\fp E (dE T s).2 (oA T (dE T s).1 (dE T s).2) 1:=λbi=>by
   have bc:=(aI bi).2.2;cases ah:jH (dE T s).1 with
   |true=>
    have:=bc.f;rw[ah,bC] at this;exact absurd this (iZ cm)
   |false=>
    rw[ah,bj] at bc;unfold oA;rw[ah,bj];exact⟨rfl,bc⟩
  have i2:hI E (oA T (dE T s).1 (dE T s).2):=λbi=>(tq bi).2.in (i1 al) Z
  have aa:=λbi=>yL aH hS i2 bi
  have i3:hI E (dE T (oA T (dE T s).1 (dE T s).2)).2:=fp.to i2 (λcV=>(aa cV).1) Z;obtain⟨-,-,t3⟩:=mc aH i3 bZ;obtain⟨cG,dh,ep,dL,gf⟩:=aa t3.f;obtain⟨cD,cu⟩:=tq cG.f;have A4:=eP.a;have Dj:=eP.o;have arf:=cu.a;have arh:=cu.o;have ara:=cG.a;have N9:=t3.a;have fx:fp E s (cr T [59] (dE T (oA T (dE T s).1 (dE T s).2)).2) 2:=(((eP.trans cu).trans cG).trans t3).less Z;simp only[Ht];refine⟨fx,?_⟩;cases am:(dE T s).1.kind==4 with
  |true=>
   rw[bC];have ll:(dE T s).1.kind=4:=by simpa using am
   have Ij:iG (dE T s).1.name=true:=by
    generalize (dE T s).1=e at hs ll;cases hs with
    |par _ h _=>omega
    |var _ h=>exact h
    |bin aY U aa _ _=>simp only[bp.kind] at ll;omega
    |sign _ U _=>simp only[bp.kind] at ll;omega
    |_=>simp[bp.kind] at ll
   have:=EO (a:={kind:=3,name:=(dE T s).1.name}) (e:=(dE T (oA T (dE T s).1 (dE T s).2)).1) (by have:=wO Ij;simp;omega);exact⟨Z,ep,Z,.set Ij gf⟩
  |false=>
   rw[bj];have ll:(dE T s).1.kind≠4:=by simpa using am
   have ah:(dE T s).1.kind=5\/(dE T s).1.kind=6:=by
    unfold jH at cD;simp only[Bool.and_eq_false_iff,bne_eq_false_iff_eq] at cD;rcases cD with q|q|q
    ·exact absurd q ll
    ·exact .inl q
    ·exact .inr q
   have:=al8 (a:={kind:=4}) (e:=(dE T s).1) (f:=(dE T (oA T (dE T s).1 (dE T s).2)).1) (by simp);exact⟨Z,max d ep,DK ku Z,.put ah (hs.more Z) (gf.more Z)⟩
 |false=>
  rw[ag,bj] at h;rw[bj];have bZ:(cr T [59] (bif cd T (dE T s).2 [59]&&(dE T s).1.kind != 7 then cS T 2 (dE T s).2 else(dE T s).2)).aC=0:=h;cases ax:cd T (dE T s).2 [59]&&(dE T s).1.kind != 7 with
  |true=>
   rw[ax,bC] at bZ;unfold cr at bZ;rw[hv (iZ cm),bj,iP (iZ cm)] at bZ;exact absurd bZ (iZ cm)
  |false=>
   rw[ax,bj] at bZ;obtain⟨t1,t2,t3⟩:=mc aH i1 bZ;obtain⟨eP,lw,d,ku,hs⟩:=U t3.f;rw[t1,Bool.true_and] at ax;have aP:(dE T s).1.kind=7:=by simpa using ax
   have A4:=eP.a;have Dj:=eP.o;have N9:=t3.a;have:=EO (a:={kind:=9}) (e:=(dE T s).1) (by simp);simp only[bj];exact⟨(eP.trans t3).less Z,Z,d,ku,.call aP hs⟩
theorem Lo(aH:Good T E)(hS:H6 T): ∀n,aj2 T E n
 |0=>by
  constructor<;>intros<;>rename_i h _<;>first|cases h|skip
 |n+1=>by
  have aT:=Lo aH hS n;refine⟨?_,?_,?_⟩
  ·intro s p be h bw;rw[lE] at h;obtain⟨q,g1,g2⟩:=nw h;cases g2;have bi:q.2.aC=0:=by
    have bZ:(cr T [125] q.2).aC=0:=bw;unfold cr at bZ;cases cn:cd T q.2 [125] with
    |true=>exact(iq cn).1
    |false=>rw[cn,bj] at bZ;exact absurd bZ (iZ cm)
   obtain⟨eP,lw,d,ku,hs⟩:=aT.loop [] (eT T [123] s).at_ _ q (λal=>(qv aH be al).2.2.2.2.1) (λal=>⟨by simp[mB],0,by have:=(qv aH be al).2.2.2.2.1.d;simpa using this,λx ag=>by cases ag⟩) g1 bi;obtain⟨cR,dd,dG,eM,iN,wB⟩:=qv aH be eP.f;have aS:=DD aH (k:=0) Z dG.symm eM.symm dd iN eP bw;have Ja:q.2.at_+1<=(gp T [125] q.2).at_:=by
    have bZ:(cr T [125] q.2).aC=0:=bw;exact(mc aH (λ_=>eP.in iN Z) bZ).2.2.a
   exact⟨aS.less Z,by(try simp only);omega,d,Z,hs⟩
  ·intro l a0 s p be he h bw;rw[pS] at h;cases aS:(s.aC==0&& !cd T s [125]) with
   |false=>
    rw[aS,bj] at h;cases h;exact⟨.refl (be bw) bw,he bw⟩
   |true=>
    rw[aS,bC] at h;simp only[Bool.and_eq_true,beq_iff_eq] at aS;obtain⟨q,g1,g2⟩:=nw h;have U:=λbi=>aT.stmt s q be g1 bi
    obtain⟨i2,ep,i3,i4⟩:=he aS.1;obtain⟨cG,dh,d2,dL,gf⟩:=aT.loop (l++[q.1]) a0 q.2 p (fp.to be (λcV=>(U cV).1) Z) (λbi=>by
     obtain⟨eP,lw,d,ku,hs⟩:=U bi;refine⟨by rw[Tz];omega,max d ep,by rw[eP.o];exact DK ku i3,λx ag=> ?_⟩;rcases List.mem_append.1 ag with ag|ag
     ·exact(i4 x ag).more Z
     ·simp only[List.mem_cons,List.not_mem_nil,or_false] at ag;subst ag;exact hs.more Z) g2 bw
    have eP:=(U cG.f).1;exact⟨(eP.trans cG).less Z,dh,d2,by rw[<-eP.o];exact dL,gf⟩
  ·intro s p be h bw;rw[xG] at h;obtain⟨q,g1,g2⟩:=nw h;cases g2;have key:fp E s q.2 2/\(pt q.1:Int)<=400*(q.2.at_-s.at_)/\ ∃d:Nat,s.bR+d<=50/\jZ d q.1:=by
    have bi:q.2.aC=0:=bw;clear bw;cases bM:(cd T s [118,97,114]||cd T s [108,101,116]) with
    |true=>
     rw[bM,bC] at g1;have aZ:fp E s (aF s) 1:=by
      rcases Bool.or_eq_true_iff.1 bM with ag|ag<;>exact mJ aH (be (iq ag).1) ag
     have jd:=aZ.pd be Z;have e7:=aZ.a;have go:=aZ.o;have t1:=λbi=>Sg aH jd bi
     have it:hI E (gh T (aF s)).2:=fp.to jd (λcV=>(t1 cV).2.2) Z;cases c2:(ar T s.at_).text==[108,101,116] with
     |true=>
      rw[c2,bC] at g1;cases g1;have aI:=λbi=>mc aH (x:=[61]) it bi
      have yA:hI E (cr T [61] (gh T (aF s)).2):=fp.to it (λcV=>(aI cV).2.2) Z;have ai:=λbi=>yL aH hS yA bi
      have l9:hI E (dE T (cr T [61] (gh T (aF s)).2)).2:=fp.to yA (λcV=>(ai cV).1) Z;obtain⟨-,-,ly⟩:=mc aH (x:=[59]) l9 bi;obtain⟨eP,lw,d,ku,hs⟩:=ai ly.f;obtain⟨-,-,yC⟩:=aI eP.f;obtain⟨fB,n2,jC⟩:=t1 yC.f;have Jh:=ly.a;have A4:=eP.a;have ari:=yC.a;have pv:=yC.o;have F0:=jC.a;have no:=jC.o;have:=EO (a:={kind:=2,name:=(gh T (aF s)).1.1,eV:=(gh T (aF s)).1.2.1,fT:=(gh T (aF s)).1.2.2}) (e:=(dE T (cr T [61] (gh T (aF s)).2)).1) (by have:=wO fB;have:=GX n2;simp;omega);simp only[Ci];exact⟨((((aZ.trans jC).trans yC).trans eP).trans ly).less Z,Z,d,Z,.lets fB n2 hs⟩
     |false=>
      rw[c2,bj] at g1;cases g1;obtain⟨-,-,ly⟩:=mc aH (x:=[59]) it bi;obtain⟨fB,n2,jC⟩:=t1 ly.f;have Jh:=ly.a;have F0:=jC.a;have bd:=(be aZ.f).d;have:=XH (a:={kind:=1,name:=(gh T (aF s)).1.1,eV:=(gh T (aF s)).1.2.1,fT:=(gh T (aF s)).1.2.2}) (by have:=wO fB;have:=GX n2;simp;omega);simp only[Cc];exact⟨((aZ.trans jC).trans ly).less Z,Z,0,by simpa using bd,.var fB n2⟩
    |false=>
     rw[bM,bj] at g1;cases c2:cd T s [105,102] with
     |true=>
      rw[c2,bC] at g1;have aZ:=mJ aH (be (iq c2).1) c2;have jd:=aZ.pd be Z;have e7:=aZ.a;have go:=aZ.o;have ai:=λbi=>yL aH hS jd bi
      have l9:hI E (dE T (aF s)).2:=fp.to jd (λcV=>(ai cV).1) Z;obtain⟨b,g3,g4⟩:=nw g1;have df:=λbi=>aT.block _ b l9 g3 bi
      cases c3:cd T b.2 [101,108,115,101] with
      |true=>
       rw[c3,bC] at g4;obtain⟨c,g5,g6⟩:=nw g4;cases g6;have ax:=df (iq c3).1;have Zq:hI E b.2:=ax.1.pd l9 Z;have sb:=mJ aH (Zq (iq c3).1) c3;obtain⟨m1,m2,d2,m3,m4⟩:=aT.block _ c (sb.pd Zq Z) g5 bi;obtain⟨eG,fA,d1,gS,h7⟩:=ax;obtain⟨eP,lw,d,ku,hs⟩:=ai eG.f;have:=Mz (a:={kind:=5}) (e:=(dE T (aF s)).1) (b:=b.1) (c:=c.1) (by simp);have bf:=eP.a;have a2:=eG.a;have a3:=sb.a;have a4:=m1.a;have cR:=eP.o;have dd:=eG.o;have dG:=sb.o;refine⟨((((aZ.trans eP).trans eG).trans sb).trans m1).less Z,by(try simp only);omega,max (d-1) (max d1 d2)+1,Z,.ifs (hs.more Z) (λx ag=>(h7 x ag).more Z) (λx ag=>(m4 x ag).more Z)⟩
      |false=>
       rw[c3,bj] at g4;cases g4;obtain⟨eG,fA,d1,gS,h7⟩:=df bi;obtain⟨eP,lw,d,ku,hs⟩:=ai eG.f;have:=Mz (a:={kind:=5}) (e:=(dE T (aF s)).1) (b:=b.1) (c:=[]) (by simp);have bf:=eP.a;have a2:=eG.a;have cR:=eP.o;have nR:mB []=0:=rfl;refine⟨((aZ.trans eP).trans eG).less Z,by(try simp only);omega,max (d-1) d1+1,Z,.ifs (hs.more Z) (λx ag=>(h7 x ag).more Z) (λx ag=>by cases ag)⟩
     |false=>
      rw[c2,bj] at g1;cases c3:cd T s [119,104,105,108,101] with
      |true=>
       rw[c3,bC] at g1;have aZ:=mJ aH (be (iq c3).1) c3;have jd:=aZ.pd be Z;have e7:=aZ.a;have go:=aZ.o;have ai:=λbi=>yL aH hS jd bi
       have l9:hI E (dE T (aF s)).2:=fp.to jd (λcV=>(ai cV).1) Z;obtain⟨b,g3,g4⟩:=nw g1;cases g4;obtain⟨eG,fA,d1,gS,h7⟩:=aT.block _ b l9 g3 bi;obtain⟨eP,lw,d,ku,hs⟩:=ai eG.f;have:=Mz (a:={kind:=6}) (e:=(dE T (aF s)).1) (b:=b.1) (c:=[]) (by simp);have bf:=eP.a;have a2:=eG.a;have cR:=eP.o;have nR:mB []=0:=rfl;refine⟨((aZ.trans eP).trans eG).less Z,by(try simp only);omega,max (d-1) d1+1,Z,.while (hs.more Z) (λx ag=>(h7 x ag).more Z)⟩
      |false=>
       rw[c3,bj] at g1;cases c4:cd T s [114,101,116,117,114,110] with
       |true=>
        rw[c4,bC] at g1;have aZ:=mJ aH (be (iq c4).1) c4;have jd:=aZ.pd be Z;have e7:=aZ.a;have go:=aZ.o;have bd:=(be aZ.f).d;cases g1;unfold Ek at bi ⊢;cases c5:cd T (aF s) [59] with
        |true=>
         rw[c5,bC] at bi;rw[bC];obtain⟨-,-,ly⟩:=mc aH (x:=[59]) jd bi;have Jh:=ly.a;have:=XH (a:={kind:=7}) (by simp);exact⟨(aZ.trans ly).less Z,by(try simp only);omega,0,by simpa using bd,.EF⟩
        |false=>
         rw[c5,bj] at bi;rw[bj];have ai:=λbi=>yL aH hS jd bi
         have l9:hI E (dE T (aF s)).2:=fp.to jd (λcV=>(ai cV).1) Z;obtain⟨-,-,ly⟩:=mc aH (x:=[59]) l9 bi;obtain⟨eP,lw,d,ku,hs⟩:=ai ly.f;have Jh:=ly.a;have A4:=eP.a;have:=EO (a:={kind:=7}) (e:=(dE T (aF s)).1) (by simp);exact⟨((aZ.trans eP).trans ly).less Z,by(try simp only);omega,d,Z,.EG hs⟩
       |false=>
        rw[c4,bj] at g1;cases c5:cd T s [112,114,105,110,116] with
        |true=>
         rw[c5,bC] at g1;have aZ:=mJ aH (be (iq c5).1) c5;have jd:=aZ.pd be Z;have e7:=aZ.a;have go:=aZ.o;cases g1;unfold GY at bi ⊢;have ai:=λbi=>yL aH hS jd bi
         have l9:hI E (dE T (aF s)).2:=fp.to jd (λcV=>(ai cV).1) Z;obtain⟨-,-,ly⟩:=mc aH (x:=[59]) l9 bi;obtain⟨eP,lw,d,ku,hs⟩:=ai ly.f;have Jh:=ly.a;have A4:=eP.a;have:=EO (a:={kind:=8}) (e:=(dE T (aF s)).1) (by simp);exact⟨((aZ.trans eP).trans ly).less Z,by(try simp only);omega,d,Z,.print hs⟩
        |false=>
         rw[c5,bj] at g1;cases g1;exact afi aH hS be bi
   obtain⟨cG,dh,d,dL,gf⟩:=key;exact⟨cG,by rw[al7];exact dh,d,dL,gf.at _⟩
end
end
section
def e5{α:Type}(F:aA->R α):Prop:= ∀s x,F s=some x->x.2.aC=0->s.aC=0/\(0<=s.bR->x.2.bR=s.bR/\x.2.cv=s.cv)
def gv(f:aA->aA):Prop:= ∀s,(f s).aC=0->s.aC=0/\(f s).bR=s.bR/\(f s).cv=s.cv
theorem e5.bind{α β:Type}{F:aA->R α}{G:α->aA->R β}(h:e5 F)(aZ: ∀x,e5 (G x)):e5 λs=>(F s).bind λp=>G p.1 p.2:=by
 intro s x ag al;obtain⟨p,U,aa⟩:=hX ag;obtain⟨g1,g2⟩:=aZ p.1 p.2 x aa al;obtain⟨f1,f2⟩:=h s p U g1;refine⟨f1,λbt=> ?_⟩;obtain⟨aI,bc⟩:=f2 bt;obtain⟨dq,eZ⟩:=g2 (by rw[aI];exact bt);exact⟨dq.trans aI,eZ.trans bc⟩
theorem e5.none{α:Type}{F:aA->R α}(h: ∀s,F s=none):e5 F:=λs x ag=>by rw[h] at ag;cases ag
theorem e5.YX{α:Type}{f:aA->α×aA}(h:gv λs=>(f s).2):e5 λs=>some (f s):=λs x ag al=>by
 cases ag;obtain⟨U,aa⟩:=h s al;exact⟨U,λ_=>aa⟩
theorem gv.comp{f g:aA->aA}(h:gv f)(k:gv g):gv λs=>g (f s):=λs aM=>by
 obtain⟨bf,a2,a3⟩:=k _ aM;obtain⟨df,cU,b3⟩:=h _ bf;exact⟨df,a2.trans cU,a3.trans b3⟩
theorem e5.pre{α:Type}{F:aA->R α}{f:aA->aA}(h:gv f)(k:e5 F):e5 λs=>F (f s):=λs x ag al=>by
 obtain⟨bf,a2⟩:=k _ x ag al;obtain⟨df,cU,b3⟩:=h s bf;refine⟨df,λbt=> ?_⟩;obtain⟨bM,c2⟩:=a2 (by rw[cU];exact bt);exact⟨bM.trans cU,c2.trans b3⟩
theorem gv.go:gv aF:=λs h=>⟨h,rfl,rfl⟩
theorem gv.id:gv λs=>s:=λs h=>⟨h,rfl,rfl⟩
variable {T:List Tok}
theorem px{s:aA}{e:Int}(he:e≠0)(h:(cS T e s).aC=0):False:=by
 unfold cS at h;split at h
 ·exact he h
 ·rename_i aM;exact aM h
theorem gv.sS(x:bl):gv λs=>(cZ T x s).2:=λs h=>by
 have h:(cZ T x s).2.aC=0:=h;show s.aC=0/\(cZ T x s).2.bR=s.bR/\(cZ T x s).2.cv=s.cv;cases ax:b7 T s 4 x with
 |true=>
  have e:(cZ T x s).2=aF s:=by simp[cZ,ax]
  rw[e] at h ⊢;exact⟨h,rfl,rfl⟩
 |false=>
  have e:(cZ T x s).2=cS T 2 s:=by simp[cZ,ax]
  rw[e] at h;exact(px cm h).elim
theorem gv.ov(x:bl): ∀n:Nat,gv (ov T x n)
 |0=>gv.id
 |n+1=>gv.comp (f:=λs=>(cZ T x s).2) (g:=YtghmbpmaafnodaaGreatDoor.ov T x n) (gv.sS x) (gv.ov x n)
theorem Ve: ∀(n:Nat) (d:Int) (s:aA),(∀ep s',jx T n d s= .inl (ep,s')->s'.aC=0->s.aC=0/\s'.bR=s.bR/\s'.cv=s.cv)/\ ∀s',jx T n d s= .inr s'->s'.aC≠0
 |0,d,s=>by
  simp only[jx];cases b7 T s 4 [91] with
  |true=>exact⟨λ_ _ h=>(by cases h),λs' h aY=>by cases h;exact px cm aY⟩
  |false=>exact⟨λ_ _ h al=>(by cases h;exact⟨al,rfl,rfl⟩),λ_ h=>(by cases h)⟩
 |n+1,d,s=>by
  simp only[jx];cases b7 T s 4 [91] with
  |true=>exact Ve n (d+1) (aF s)
  |false=>exact⟨λ_ _ h al=>(by cases h;exact⟨al,rfl,rfl⟩),λ_ h=>(by cases h)⟩
theorem gv.of:gv λs=>(eL T s).2:=λs h=>by
 obtain⟨i1,i2⟩:=Ve (T:=T) 3 0 s;have bZ:(eL T s).2.aC=0:=h;show s.aC=0/\(eL T s).2.bR=s.bR/\(eL T s).2.cv=s.cv;unfold eL at bZ ⊢;cases az:jx T 3 0 s with
 |inr s'=>rw[az] at bZ;exact absurd bZ (i2 s' az)
 |inl p=>
  obtain⟨d,s1⟩:=p;rw[az] at bZ;simp only at bZ ⊢;cases aS:((ar T s1.at_).kind != 1&&(!b7 T s1 3 [105,110,116]&& !b7 T s1 3 [98,111,111,108])) with
  |true=>
   simp only[jw,aS,bC] at bZ;exact(px cm bZ).elim
  |false=>
   simp only[jw,aS,bj] at bZ ⊢;obtain⟨bf,a2,a3⟩:=gv.comp gv.go (gv.ov [93] d.toNat) s1 bZ;obtain⟨df,cU,b3⟩:=i1 d s1 az bf;exact⟨df,a2.trans cU,a3.trans b3⟩
theorem Th{s:aA}{x:bl}(h:(eI T x s).1=true):s.aC=0/\s.bR<50/\(eI T x s).2={s with at_:=hP (s.at_+1),bR:=hP (s.bR+1)}:=by
 unfold eI at h ⊢;cases ax:b7 T s 4 x with
 |false=>rw[ax] at h;cases h
 |true=>
  rw[ax] at h;simp only[bC] at h ⊢;split at h
  ·cases h
  ·rename_i bt;rw[if_neg bt];exact⟨(sA ax).1,Z,rfl⟩
theorem QN{s:aA}{x:bl}(h:(eI T x s).1=false):(eI T x s).2.aC≠0:=by
 unfold eI at h ⊢;cases ax:b7 T s 4 x with
 |false=>exact λaY=>px cm aY
 |true=>
  rw[ax] at h;simp only[bC] at h ⊢;split at h
  ·rename_i bt;rw[if_pos bt];exact λaY=>px cm aY
  ·cases h
theorem G9{o:Int}(aY:0<=o)(U:o<50):hP (o+1)=o+1/\hP (o+1-1)=o:=⟨wrap_i64 Z Z,by rw[show o+1-1=o by omega];exact wrap_i64 Z Z⟩
theorem e5.within{α β:Type}{F:aA->R α}{g:aA->α->β}{v:β}{w:aA->aA}{x:bl}(h:e5 F)(hw: ∀s,(w s).aC=0->s.aC=0/\(w s).bR=hP (s.bR-1)/\(w s).cv=s.cv):
  e5 λs=>bif (eI T x s).1 then(F (eI T x s).2).bind λp=>some (g s p.1,w p.2) else some (v,(eI T x s).2):=by
 intro s y cV al;cases bt:(eI T x s).1 with
 |false=>
  simp only[bt,bj,bF] at cV;subst cV;exact absurd al (QN bt)
 |true=>
  obtain⟨cR,dd,dG⟩:=Th bt;simp only[bt,bC] at cV;obtain⟨p,U,aa⟩:=hX cV;simp only[bF] at aa;subst aa;obtain⟨bf,a2,a3⟩:=hw p.2 al;obtain⟨df,cU⟩:=h _ p U bf;refine⟨cR,λaY=> ?_⟩;obtain⟨bM,c2⟩:=G9 aY dd;rw[dG] at cU;obtain⟨d1,d2⟩:=cU (by simp only;rw[bM];omega);refine⟨?_,a3.trans d2⟩;show(w p.2).bR=s.bR;rw[a2,d1];simp only
  rw[bM,c2]
theorem Gq(y:bl)(s:aA)(h:(j1 T y s).2.aC=0):s.aC=0/\(j1 T y s).2.bR=hP (s.bR-1)/\(j1 T y s).2.cv=s.cv:=by
 obtain⟨bf,a2,a3⟩:=gv.sS (T:=T) y (ga s) h;exact⟨bf,a2,a3⟩
structure aj0(T:List Tok)(n:Nat):Prop where
 row: ∀lev,e5 (i_ T n lev)
 lM: ∀lev e,e5 (lM T n lev e)
 unary:e5 (pL T n)
 sign: ∀x q,e5 (rS T n x q)
 chain:e5 (rB T n)
 jl: ∀e,e5 (jl T n e)
 single: ∀x y,e5 (ki T n x y)
 first:e5 (og T n)
 name:e5 (ul T n)
 fresh:e5 (sH T n)
 list:e5 (rQ T n)
 mm: ∀l s x,mm T n l s=some x->x.2.aC=0->s.aC=0/\(1<=s.bR/\s.bR<=50->x.2.bR=s.bR-1/\x.2.cv=s.cv)
theorem e5.ite{α:Type}{F G:aA->R α}(c:aA->Bool)(h:e5 F)(k:e5 G):e5 λs=>bif c s then F s else G s:=λs x ag=>by
 cases aS:c s with
 |true=>simp only[aS,bC] at ag;exact h s x ag
 |false=>simp only[aS,bj] at ag;exact k s x ag
theorem e5.bad{α:Type}{v:α}:e5 λs=>some (v,cS T 2 s):=λs x ag al=>by
 cases ag;exact(px cm al).elim
theorem e5.eq{α:Type}{F G:aA->R α}(h:e5 F)(e: ∀s,G s=F s):e5 G:=λs x ag=>h s x (by rw[<-e];exact ag)
theorem V8(T:List Tok): ∀n,aj0 T n
 |0=>by
  refine⟨?_,?_,?_,?_,?_,?_,?_,?_,?_,?_,?_,?_⟩
  all_goals intros
  all_goals first|exact e5.none λ_=>rfl|(rename_i h _;cases h)
 |n+1=>by
  have aT:=V8 T n;refine⟨λlev=> ?_,λlev e=> ?_,?_,λx q=> ?_,?_,λe=> ?_,λx y=> ?_,?_,?_,?_,?_,λl=> ?_⟩
  ·by_cases aB:lev=5
   ·exact aT.unary.eq λs=>by rw[i_,if_pos aB]
   ·exact(e5.bind (aT.row (lev+1)) λe=>aT.lM lev e).eq λs=>by rw[i_,if_neg aB]
  ·intro s x ag al;rw[lM] at ag;by_cases ah:ml T lev s=0
   ·rw[if_pos ah] at ag;cases ag;exact⟨al,λ_=>⟨rfl,rfl⟩⟩
   ·rw[if_neg ah] at ag;exact e5.pre gv.go (e5.bind (aT.row (lev+1)) λb=>aT.lM lev (.mk {kind:=ml T lev s,pos:=(ar T s.at_).pos} [e,b])) s x ag al
  ·exact(e5.ite (λs=>b7 T s 4 [45]) (aT.sign [45] 12) (e5.ite (λs=>b7 T s 4 [33]) (aT.sign [33] 13) aT.chain)).eq λs=>by rw[pL]
  ·exact(e5.within (T:=T) (x:=x) (g:=λs a=> .mk {kind:=q,pos:=(ar T s.at_).pos} [a]) (v:=bp.zero) (w:=ga) aT.unary λs h=>⟨h,rfl,rfl⟩).eq λs=>by rw[rS]
  ·exact(e5.bind aT.first λe=>aT.jl e).eq λs=>by rw[rB]
  ·intro s x ag al;rw[jl] at ag;cases aS:(s.aC==0&&(ar T s.at_).kind==4) with
   |false=>simp only[aS,bj,bF] at ag;subst ag;exact⟨al,λ_=>⟨rfl,rfl⟩⟩
   |true=>
    simp only[aS,bC] at ag;cases bd:(ar T s.at_).text==[46] with
    |true=>
     simp only[bd,bC] at ag;obtain⟨bf,a2⟩:=aT.jl _ _ x ag al;have Au:(kI T e s).2.aC=0->s.aC=0/\(kI T e s).2.bR=s.bR/\(kI T e s).2.cv=s.cv:=by
      unfold kI;cases ah:((ar T (aF s).at_).kind != 1) with
      |true=>exact λh=>(px (T:=T) (s:=aF s) (e:=2) cm h).elim
      |false=>exact λh=>⟨h,rfl,rfl⟩
     obtain⟨df,cU,b3⟩:=Au bf;refine⟨df,λbt=> ?_⟩;obtain⟨bM,c2⟩:=a2 (by rw[cU];exact bt);exact⟨bM.trans cU,c2.trans b3⟩
    |false=>
     simp only[bd,bj] at ag;cases mW:(ar T s.at_).text==[91] with
     |true=>
      simp only[mW,bC] at ag;exact e5.bind (aT.single [91] [93]) (λb=>aT.jl (.mk {kind:=6,pos:=(ar T s.at_).pos} [e,b])) s x ag al
     |false=>simp only[mW,bj,bF] at ag;subst ag;exact⟨al,λ_=>⟨rfl,rfl⟩⟩
  ·exact(e5.within (T:=T) (x:=x) (g:=λ_ a=>a) (v:=bp.zero) (w:=λs=>(j1 T y s).2) (aT.row 0) (Gq y)).eq λs=>by rw[ki]
  ·intro s x ag al;rw[og] at ag;by_cases j7:s.aC=0
   ·rw[if_neg (by simp[j7])] at ag;by_cases dh:(ar T s.at_).kind=2
    ·rw[if_pos dh] at ag;cases ag;exact⟨al,λ_=>⟨rfl,rfl⟩⟩
    ·rw[if_neg dh] at ag;by_cases cG:(ar T s.at_).kind=1
     ·rw[if_pos cG] at ag;exact aT.name s x ag al
     ·rw[if_neg cG] at ag;by_cases YM:(ar T s.at_).kind=3\/(ar T s.at_).kind=4
      ·rw[if_pos YM] at ag;have ahu:e5 λs=>some (vH T s):=e5.YX λs h=>⟨h,rfl,rfl⟩
       have aki:e5 λs=>some (Cl T s):=e5.YX (gv.comp gv.go (gv.of (T:=T)))
       have akk:e5 λs=>some (pU T s):=by
        refine e5.eq (F:=λs=>(λs=>bif (eI T [40] s).1 then(some ((),(eI T [40] s).2)).bind λp=>some ((),(j1 T [41] p.2).2) else some ((),(eI T [40] s).2)) (aF s)|>.bind λp=>some (.mk {kind:=11,pos:=(ar T s.at_).pos} [],p.2)) ?_ λs=> ?_
        ·intro s y cV Np;obtain⟨p,aV,aJ⟩:=hX cV;cases aJ;exact e5.pre gv.go (e5.within (T:=T) (x:=[40]) (F:=λs=>some ((),s)) (g:=λ_ _=>()) (v:=()) (w:=λs=>(j1 T [41] s).2) (λs z cn aoK=>by cases cn;exact⟨aoK,λ_=>⟨rfl,rfl⟩⟩) (Gq [41])) s p aV Np
        ·simp only[pU];cases(eI T [40] (aF s)).1<;>rfl
       have hlen:e5 λs=>(ki T n [40] [41] (aF s)).bind λp=>some (bp.mk {kind:=10,pos:=(ar T s.at_).pos} [p.1],p.2):=by
        intro s y cV Np;obtain⟨p,aV,aJ⟩:=hX cV;cases aJ;exact e5.pre gv.go (aT.single [40] [41]) s p aV Np
       exact e5.ite (λs=>(ar T s.at_).kind==4) (e5.ite (λs=>(ar T s.at_).text==[40]) (aT.single [40] [41]) e5.bad)
        (e5.ite (λs=>(ar T s.at_).text==[116,114,117,101]||(ar T s.at_).text==[102,97,108,115,101]) ahu (e5.ite (λs=>(ar T s.at_).text==[110,117,108,108]) aki
         (e5.ite (λs=>(ar T s.at_).text==[110,101,119]) aT.fresh (e5.ite (λs=>(ar T s.at_).text==[108,101,110]) hlen (e5.ite (λs=>(ar T s.at_).text==[114,101,97,100]) akk e5.bad))))) s x ag al
      ·rw[if_neg YM] at ag;exact e5.bad s x ag al
   ·rw[if_pos (by simpa using j7)] at ag;cases ag;exact absurd al j7
  ·intro s x ag al;rw[ul] at ag;cases ax:b7 T (aF s) 4 [40] with
   |true=>
    simp only[ax,bC] at ag;obtain⟨p,aV,aJ⟩:=hX ag;cases aJ;exact e5.pre gv.go aT.list s p aV al
   |false=>simp only[ax,bj,bF] at ag;subst ag;exact gv.go s al|>.imp id λh _=>h
  ·intro s x ag al;rw[sH] at ag;cases ax:b7 T (aF s) 4 [91] with
   |true=>
    simp only[ax,bC] at ag;obtain⟨p,aV,aJ⟩:=hX ag;cases aJ;exact e5.pre (gv.comp (gv.comp (gv.comp gv.go gv.go) (gv.of (T:=T))) (gv.sS (T:=T) [93])) (aT.single [40] [41]) s p aV al
   |false=>
    simp only[ax,bj,bF] at ag;subst ag;cases ah:((ar T (aF s).at_).kind != 1) with
    |true=>
     simp only[ah,bC] at al;exact(px (T:=T) (s:=aF s) (e:=2) cm al).elim
    |false=>simp only[ah,bj] at al ⊢;exact⟨al,λ_=>⟨rfl,rfl⟩⟩
  ·intro s x ag al;rw[rQ] at ag;cases bt:(eI T [40] s).1 with
   |false=>simp only[bt,bj,bF] at ag;subst ag;exact absurd al (QN bt)
   |true=>
    obtain⟨cR,dd,dG⟩:=Th bt;simp only[bt,bC] at ag;cases ax:b7 T (eI T [40] s).2 4 [41] with
    |true=>
     simp only[ax,bC,bF] at ag;subst ag;obtain⟨bf,a2,a3⟩:=Gq [41] _ al;refine⟨cR,λaY=> ?_⟩;obtain⟨bM,c2⟩:=G9 aY dd;rw[dG] at a2 a3;simp only[bM] at a2 a3;rw[c2] at a2;rw[dG];simp only[bM];exact⟨a2,a3⟩
    |false=>
     simp only[ax,bj] at ag;obtain⟨p,aV,aJ⟩:=hX ag;obtain⟨bf,a2⟩:=aT.mm [p.1] p.2 x aJ al;obtain⟨df,cU⟩:=aT.row 0 _ p aV bf;refine⟨cR,λaY=> ?_⟩;obtain⟨bM,c2⟩:=G9 aY dd;rw[dG] at cU;simp only[bM] at cU;obtain⟨d1,d2⟩:=cU Z;obtain⟨aI,bc⟩:=a2 (by rw[d1];omega);exact⟨by rw[aI,d1];omega,bc.trans d2⟩
  ·intro s x ag al;rw[mm] at ag;cases bz:(fj T 4 [44] s).1 with
   |false=>
    simp only[bz,bj,bF] at ag;subst ag;have Ni:(fj T 4 [44] s).2=s:=by
     unfold fj at bz ⊢;cases ax:b7 T s 4 [44] with
     |true=>rw[ax] at bz;cases bz
     |false=>rfl
    simp only[Ni] at al ⊢;obtain⟨bf,a2,a3⟩:=Gq [41] s al;exact⟨bf,λh=>⟨by rw[a2];exact wrap_i64 Z Z,a3⟩⟩
   |true=>
    simp only[bz,bC] at ag;obtain⟨p,aV,aJ⟩:=hX ag;have Ni:(fj T 4 [44] s).2=aF s:=by
     unfold fj at bz ⊢;cases ax:b7 T s 4 [44] with
     |true=>rfl
     |false=>rw[ax] at bz;cases bz
    rw[Ni] at aV;obtain⟨bf,a2⟩:=aT.mm _ p.2 x aJ al;obtain⟨df,cU⟩:=aT.row 0 _ p aV bf;refine⟨df,λh=> ?_⟩;obtain⟨d1,d2⟩:=cU (by show(0:Int)<=s.bR;omega);have X0:p.2.bR=s.bR:=d1;obtain⟨aI,bc⟩:=a2 (by rw[X0];exact h);exact⟨by rw[aI,X0],bc.trans d2⟩
end
section
def iQ(l:List cE)(s:aA):List cE×Int×Int×Int:=if s.aC=0 then(l,s.at_,0,0) else([],0,s.aC,s.cv)
end
section
def nE(T:List Tok)(s x y:aA):Prop:=ho x y/\(x.aC=0->x.bR=s.bR/\x.cv=s.cv/\left T x<=left T s)
def kT{α:Type}(T:List Tok)(s:aA)(x y:α×aA):Prop:=e8 x y/\(x.2.aC=0->x.2.bR=s.bR/\x.2.cv=s.cv/\left T x.2<=left T s)
theorem e8.eq{α:Type}{p q:α×aA}(h:e8 p q)(al:p.2.aC=0):q=p:=by
 rcases h with h|h
 ·exact h.2
 ·exact absurd al h.1
theorem e8.mA{α:Type}{p q:α×aA}(h:e8 p q):ho p.2 q.2:=by
 rcases h with⟨h,rfl⟩|⟨U,aa,ae⟩
 ·exact .inl ⟨h,rfl⟩
 ·exact .inr ⟨U,aa,ae⟩
theorem e8.na{α:Type}{p q:α×aA}(h:ho p.2 q.2)(bA:p.2.aC=0->q.1=p.1):e8 p q:=by
 rcases h with⟨h,e⟩|⟨U,aa,ae⟩
 ·exact .inl ⟨h,Prod.ext (bA h) e⟩
 ·exact .inr ⟨U,aa,ae⟩
theorem kT.st{α:Type}{T:List Tok}{s:aA}{x y:α×aA}(h:kT T s x y):nE T s x.2 y.2:=⟨h.1.mA,h.2⟩
theorem ho.eq{x y:aA}(h:ho x y)(al:x.aC=0):y=x:=by
 rcases h with h|h
 ·exact h.2
 ·exact absurd al h.1
theorem ho.ne{x y:aA}(h:ho x y)(al:x.aC≠0):y.aC≠0:=by
 rcases h with h|h
 ·exact absurd h.1 al
 ·rw[h.2.1];exact al
section
variable {T:List Tok}(aH:T.length<=20000000)
include aH
theorem Gy{s x y:aA}(h:nE T s x y){z:bl}(cn:kw z=4):nE T s (cZ T z x).2 (cr T z y):=by
 refine⟨Bt h.1 cn,λal=> ?_⟩;obtain⟨bf,a2,a3⟩:=gv.sS z x al;obtain⟨df,cU,b3⟩:=h.2 bf;exact⟨a2.trans df,a3.trans cU,Nat.le_trans (Bq Z x z) b3⟩
theorem aao{x:aA}{z:bl}(al:(cZ T z x).2.aC=0):left T (cZ T z x).2+1<=left T x:=by
 cases ax:b7 T x 4 z with
 |true=>
  have:(cZ T z x).2=aF x:=by simp[cZ,ax]
  rw[this];exact rp Z cm ax
 |false=>
  have:(cZ T z x).2=cS T 2 x:=by simp[cZ,ax]
  rw[this] at al;exact(px cm al).elim
theorem wQ{α:Type}{s x y:aA}(h:nE T s x y){v dr:α}(bA:x.aC=0->dr=v):kT T s (v,(cZ T [59] x).2) (dr,cr T [59] y)/\((cZ T [59] x).2.aC=0->left T (cZ T [59] x).2+1<=left T s):=by
 have hw:=Gy aH h (z:=[59]) cm;refine⟨⟨e8.na hw.1 λal=>bA (gv.sS [59] x al).1,hw.2⟩,λal=> ?_⟩;have:=aao aH al;have:=(h.2 (gv.sS [59] x al).1).2.2;omega
omit aH in
theorem Pv{x:aA}(aY:x.aC=0)(U:x.cv=0)(aa:0<=x.bR):lI x.at_ x.bR=x:=by
 cases x;simp only at aY U aa;subst aY U;simp only[lI];rw[if_neg Z]
theorem yS{s x y:aA}(h:nE T s x y)(bV:s.cv=0)(bt:0<=s.bR):kT T s (eU T x) (dE T y):=by
 by_cases al:x.aC=0
 ·obtain rfl:=h.1.eq al;obtain⟨df,cU,b3⟩:=h.2 al;obtain⟨p,q,U,aa,ae,am⟩:=Gv (T:=T) Z T.length y (DR _ _) 0 800000000 800000000 Z Z Z;have bi:dE T y=q:=by simp only[dE,aa]
  rw[bi];have aM:=Pv al (cU.trans bV) (by rw[df];exact bt);by_cases bw:p.2.aC=0
  ·obtain⟨-,e⟩:=(V8 T 800000000).row 0 y p U bw;obtain⟨aI,bc⟩:=e (by rw[df];exact bt);have Nc:eU T y=p:=by
    unfold eU;rw[if_neg (by simp[al]),aM,U];simp only[bw,if_true];refine Prod.ext rfl ?_;rw[show p.2=⟨p.2.at_,p.2.bR,p.2.aC,p.2.cv⟩ from rfl,aI,bc,bw,<-al]
   rw[Nc];exact⟨ae,λ_=>⟨aI.trans df,bc.trans cU,Nat.le_trans am b3⟩⟩
  ·have Nc:eU T y=(.zero,{y with aC:=p.2.aC,cv:=p.2.cv}):=by
    unfold eU;rw[if_neg (by simp[al]),aM,U];simp only[bw,if_false]
   rw[Nc];rcases ae with ae|⟨aB,aG,aP⟩
   ·exact absurd ae.1 bw
   ·exact⟨.inr ⟨aB,aG,aP⟩,λh=>absurd h bw⟩
 ·have cV:=h.1.ne al;have bw:eU T x=(.zero,x):=by simp[eU,al]
  have bi:dE T y=(xw T y,y):=by simp only[dE,Be cV 800000000 0 Z Z]
  rw[bw,bi];refine⟨e8.na h.1 λaY=>absurd aY al,λaY=>absurd aY al⟩
omit aH in
theorem Q5(x:bl)(o:Int): ∀(n:Nat) (s:aA),ov T x n {s with bR:=o}={ov T x n s with bR:=o}
 |0,s=>rfl
 |n+1,s=>by
  have:(cZ T x {s with bR:=o}).2={(cZ T x s).2 with bR:=o}:=by
   have ax:b7 T {s with bR:=o} 4 x=b7 T s 4 x:=rfl;simp only[cZ,ax];cases b7 T s 4 x with
   |true=>rfl
   |false=>
    simp only[bj,cS];split<;>rfl
  simp only[YtghmbpmaafnodaaGreatDoor.ov,this];exact Q5 x o n _
omit aH in
theorem Tj(o:Int): ∀(n:Nat) (d:Int) (s:aA),jx T n d {s with bR:=o}=match jx T n d s with
  | .inl p=> .inl (p.1,{p.2 with bR:=o})
  | .inr s'=> .inr {s' with bR:=o}
 |0,d,s=>by
  have ax:b7 T {s with bR:=o} 4 [91]=b7 T s 4 [91]:=rfl;simp only[jx,ax];cases b7 T s 4 [91] with
  |true=>simp only[bC,cS];split<;>rfl
  |false=>rfl
 |n+1,d,s=>by
  have ax:b7 T {s with bR:=o} 4 [91]=b7 T s 4 [91]:=rfl;simp only[jx,ax];cases b7 T s 4 [91] with
  |true=>exact Tj o n (d+1) (aF s)
  |false=>rfl
omit aH in
theorem ahD(o:Int)(s:aA):eL T {s with bR:=o}=((eL T s).1,{(eL T s).2 with bR:=o}):=by
 unfold eL;rw[Tj];cases jx T 3 0 s with
 |inr s'=>rfl
 |inl p=>
  have ax: ∀x,b7 T {p.2 with bR:=o} 3 x=b7 T p.2 3 x:=λ_=>rfl
  simp only[jw,ax];cases((ar T p.2.at_).kind != 1&&(!b7 T p.2 3 [105,110,116]&& !b7 T p.2 3 [98,111,111,108])) with
  |true=>simp only[bC,cS];split<;>rfl
  |false=>
   simp only[bj];exact Prod.ext rfl (Q5 [93] o p.1.toNat (aF p.2))
omit aH in
theorem DB{y:aA}(h:y.aC≠0):fm T y=(([],0),y):=by
 simp only[fm,lL,hv h,bj,km,Bool.or_self,F5 h];rfl
theorem Ha{s x:aA}(al:x.aC=0)(h:x.bR=s.bR/\x.cv=s.cv/\left T x<=left T s)(bV:s.cv=0):kT T s (my T x) (fm T x):=by
 obtain⟨df,cU,b3⟩:=h;have ag:x={(⟨x.at_,0,0,0⟩:aA) with bR:=x.bR}:=by
  cases x;simp only at al cU ⊢;rw[al,cU,bV]
 have bt:=ahD (T:=T) x.bR ⟨x.at_,0,0,0⟩;rw[<-ag] at bt;have aM:=of_same T x;rw[bt] at aM;unfold my;by_cases bi:(eL T ⟨x.at_,0,0,0⟩).2.aC=0
 ·obtain⟨-,bM,c2⟩:=gv.of (T:=T) ⟨x.at_,0,0,0⟩ bi;rw[if_pos bi];have e:({x with at_:=(eL T ⟨x.at_,0,0,0⟩).2.at_}:aA)={(eL T ⟨x.at_,0,0,0⟩).2 with bR:=x.bR}:=by
   have anz:(eL T ⟨x.at_,0,0,0⟩).2.cv=0:=c2;show _=(⟨(eL T ⟨x.at_,0,0,0⟩).2.at_,x.bR,(eL T ⟨x.at_,0,0,0⟩).2.aC,(eL T ⟨x.at_,0,0,0⟩).2.cv⟩:aA);rw[al,bi,anz,cU,bV]
  rw[e];have az:=KQ (T:=T) Z ⟨x.at_,0,0,0⟩;refine⟨aM,λ_=>⟨df,?_,?_⟩⟩
  ·show(eL T ⟨x.at_,0,0,0⟩).2.cv=s.cv;rw[bV];exact c2
  ·refine Nat.le_trans (Nat.le_trans az ?_) b3;unfold left;simp[al]
 ·rw[if_neg bi];rcases aM with aM|⟨g1,g2,g3⟩
  ·exact absurd aM.1 bi
  ·exact⟨.inr ⟨g1,g2,g3⟩,λh=>absurd h bi⟩
theorem Ks{s x:aA}(al:x.aC=0)(h:x.bR=s.bR/\x.cv=s.cv/\left T x<=left T s)(bV:s.cv=0):kT T s (jE T x) (gh T x):=by
 have qa:(x.aC==0)=true:=by simp[al]
 have base:nE T s (aF (bif (ar T x.at_).kind != 1 then cS T 2 x else x)) (dk T x).2/\((aF (bif (ar T x.at_).kind != 1 then cS T 2 x else x)).aC=0->(dk T x).1=(ar T x.at_).text):=by
  by_cases ah:(ar T x.at_).kind=1
  ·have U:((ar T x.at_).kind != 1)=false:=by simp[ah]
   have aa:((ar T x.at_).kind==1)=true:=by simp[ah]
   simp only[U,bj,dk,qa,aa,Bool.and_self,bC];have az:=rn (T:=T) Z al (by rw[ah];decide);exact⟨⟨ho.refl _,λ_=>⟨h.1,h.2.1,Z⟩⟩,λ_=>trivial⟩
  ·have U:((ar T x.at_).kind != 1)=true:=by simpa using ah
   have aa:((ar T x.at_).kind==1)=false:=by simpa using ah
   simp only[U,bC,dk,aa,Bool.and_false,bj];have cn:(cS T 2 x).aC≠0:=λaY=>px cm aY
   exact⟨⟨.inr ⟨cn,rfl,rfl⟩,λaY=>absurd aY cn⟩,λaY=>absurd aY cn⟩
 have aS:nE T s (colonS T x) (cr T [58] (dk T x).2):=Gy aH base.1 (z:=[58]) cm;unfold jE gh;by_cases cn:(colonS T x).aC=0
 ·rw[if_neg (by simp[cn])];have aU:=base.2 (gv.sS [58] _ cn).1;rw[aS.1.eq cn,aU];have bt:=Ha aH cn (aS.2 cn) bV;exact⟨e8.na bt.1.mA λaY=>by rw[bt.1.eq aY],bt.2⟩
 ·rw[if_pos cn];have cV:=aS.1.ne cn;rw[DB cV];exact⟨e8.na aS.1 λaY=>absurd aY cn,λaY=>absurd aY cn⟩
def zc{α:Type}(T:List Tok)(s:aA)(p:α×aA):Prop:=p.2.aC=0->left T p.2+1<=left T s
theorem afE{s x:aA}(al:x.aC=0)(h:x.bR=s.bR/\x.cv=s.cv/\left T x<=left T s)(bV:s.cv=0):kT T s (Cd T x) (Cc T x):=by
 have bz:=Ks aH al h bV;exact(wQ aH bz.st λaY=>by rw[bz.1.eq aY]).1
theorem afF{s x:aA}(al:x.aC=0)(h:x.bR=s.bR/\x.cv=s.cv/\left T x<=left T s)(bV:s.cv=0)(bt:0<=s.bR):kT T s (Cj T x) (Ci T x):=by
 have bz:=Ks aH al h bV;have he:=yS aH (Gy aH bz.st (z:=[61]) cm) bV bt;refine(wQ aH he.st λaY=> ?_).1;have U:(cZ T [61] (jE T x).2).2.aC=0:=by
  by_cases cn:(cZ T [61] (jE T x).2).2.aC=0
  ·exact cn
  ·rw[show eU T (cZ T [61] (jE T x).2).2=(.zero,(cZ T [61] (jE T x).2).2) by simp[eU,cn]] at aY;exact absurd aY cn
 have aa:=(gv.sS [61] _ U).1;rw[he.1.eq aY,bz.1.eq aa]
theorem aeN{s x:aA}(h:nE T s x x)(bV:s.cv=0)(bt:0<=s.bR):kT T s (BV T x) (GY T x):=by
 have he:=yS aH h bV bt;exact(wQ aH he.st λaY=>by rw[he.1.eq aY]).1
omit aH in
theorem xS(s:aA)(x:bl)(h:kw x=4):cd T s x=b7 T s 4 x:=by rw[cd,h]
theorem afH{s x:aA}(h:nE T s x x)(bV:s.cv=0)(bt:0<=s.bR):kT T s (xC T x) (Ek T x):=by
 unfold xC Ek;rw[xS x [59] cm];cases b7 T x 4 [59] with
 |true=>exact(wQ aH h λ_=>rfl).1
 |false=>
  have he:=yS aH h bV bt;exact(wQ aH he.st λaY=>by rw[he.1.eq aY]).1
theorem afI{s x:aA}(h:nE T s x x)(e:bp)(bV:s.cv=0)(bt:0<=s.bR):kT T s (xE T e x) (Ht T e x)/\zc T s (xE T e x):=by
 have ax:nE T s (bif jH e then cS T 2 x else x) (bif jH e then cS T 2 x else x):=by
  cases jH e with
  |false=>exact h
  |true=>exact⟨ho.refl _,λaY=>(px (T:=T) (s:=x) (e:=2) cm aY).elim⟩
 have he:=yS aH (Gy aH ax (z:=[61]) cm) bV bt;exact wQ aH he.st λaY=>by rw[show dE T (oA T e x)=eU T (qX T e x) from he.1.eq aY]
theorem aeM{s x:aA}(h:nE T s x x)(bV:s.cv=0)(bt:0<=s.bR):kT T s (qH T x) (qG T x)/\zc T s (qH T x):=by
 have he:=yS aH h bV bt;unfold qH qG;rw[xS _ [61] cm,xS _ [59] cm];by_cases al:(eU T x).2.aC=0
 ·rw[he.1.eq al];have ag:nE T s (eU T x).2 (eU T x).2:=⟨ho.refl _,he.2⟩;cases b7 T (eU T x).2 4 [61] with
  |true=>exact afI aH ag _ bV bt
  |false=>
   refine wQ aH ?_ λ_=>rfl
   cases(b7 T (eU T x).2 4 [59]&&(eU T x).1.kind != 7) with
   |false=>exact ag
   |true=>exact⟨ho.refl _,λaY=>(px (T:=T) (s:=(eU T x).2) (e:=2) cm aY).elim⟩
 ·have cV:=he.1.mA.ne al;simp only[ma al,ma cV,bj,Bool.false_and];exact wQ aH he.st λaY=>absurd aY al
end
end
section
set_option linter.unusedSectionVars false
def G_(T:List Tok)(k:Nat):Prop:= ∀s:aA,s.aC=0->s.cv=0->0<=s.bR->left T s<=k-> ∀n cg,10*k+10<=n->10*k+10<=cg-> ∃p q,xF T n s=some p/\xG T cg s=some q/\kT T s p q/\zc T s p
def K5(T:List Tok)(k:Nat):Prop:= ∀s x y:aA,nE T s x y->s.cv=0->0<=s.bR->left T x<=k-> ∀n cg,10*k+5<=n->10*k+5<=cg-> ∃p q,oN T n x=some p/\lE T cg y=some q/\kT T s p q/\zc T x p
section
variable {T:List Tok}(aH:T.length<=20000000)
theorem F7{x:aA}(h:x.aC≠0)(n:Nat)(l:List cE):pM T (n+1) l x=some (l,x):=by
 have ax:(x.aC==0)=false:=by simpa using h
 simp[pM,ax]
theorem Dr{x:aA}(h:x.aC≠0)(n:Nat)(l:List cE):pS T (n+1) l x=some (l,x):=by
 have ax:(x.aC==0)=false:=by simpa using h
 simp[pS,ax]
include aH
theorem afG{K:Nat}(aT: ∀j,j<=K->G_ T j): ∀(c:Nat),c<=K-> ∀(s x y:aA),nE T s x y->s.cv=0->0<=s.bR->left T x<=c-> ∀n cg,10*c+12<=n->10*c+12<=cg-> ∀l l',(x.aC=0->l'=l)->
  ∃p q,pM T n l x=some p/\pS T cg l' y=some q/\kT T s p q:=by
 intro c
 induction c with
 |zero=>
  intro aS s x y h bV bt az n cg aU hz l l' he;obtain⟨n,rfl⟩: ∃m,n=m+2:=⟨n-2,Z⟩;obtain⟨cg,rfl⟩: ∃m,cg=m+2:=⟨cg-2,Z⟩;by_cases al:x.aC=0
  ·obtain rfl:=h.1.eq al;rw[he al];obtain⟨df,cU,b3⟩:=h.2 al;have ax:(y.aC==0)=true:=by simp[al]
   simp only[pM,pS,ax,xS y [125] cm,Bool.true_and];cases b7 T y 4 [125] with
   |true=>exact⟨_,_,rfl,rfl,.inl ⟨al,rfl⟩,h.2⟩
   |false=>
    simp only[Bool.not_false,bC];obtain⟨p,q,U,aa,ae,am⟩:=aT 0 Z y al (cU.trans bV) (by rw[df];exact bt) az (n+1) (cg+1) Z Z;rw[U,aa];simp only[Option.bind_some];have bw:p.2.aC≠0:=λaY=>by have:=am aY;omega
    have bi:=ae.1.mA.ne bw;have Ob:=F7 (T:=T) bw n (l++[p.1]);have Jf:=Dr (T:=T) bi cg (l++[q.1]);simp only[pM] at Ob;simp only[pS] at Jf;rw[Ob,Jf];exact⟨_,_,rfl,rfl,e8.na ae.1.mA λaY=>absurd aY bw,λaY=>absurd aY bw⟩
  ·exact⟨_,_,F7 al _ _,Dr (h.1.ne al) _ _,e8.na h.1 λaY=>absurd aY al,λaY=>absurd aY al⟩
 |succ c AF=>
  intro aS s x y h bV bt az n cg aU hz l l' he;obtain⟨n,rfl⟩: ∃m,n=m+2:=⟨n-2,Z⟩;obtain⟨cg,rfl⟩: ∃m,cg=m+2:=⟨cg-2,Z⟩;by_cases al:x.aC=0
  ·obtain rfl:=h.1.eq al;rw[he al];obtain⟨df,cU,b3⟩:=h.2 al;have ax:(y.aC==0)=true:=by simp[al]
   rw[pM,pS];simp only[ax,xS y [125] cm,Bool.true_and];cases b7 T y 4 [125] with
   |true=>exact⟨_,_,rfl,rfl,.inl ⟨al,rfl⟩,h.2⟩
   |false=>
    simp only[Bool.not_false,bC];obtain⟨p,q,U,aa,ae,am⟩:=aT (c+1) aS y al (cU.trans bV) (by rw[df];exact bt) az (n+1) (cg+1) Z Z;rw[U,aa];simp only[Option.bind_some];by_cases bw:p.2.aC=0
    ·have bi:=ae.1.eq bw;have et:=am bw;obtain⟨d1,d2,d3⟩:=ae.2 bw;rw[bi];exact AF Z s p.2 p.2 ⟨ho.refl _,λ_=>⟨d1.trans df,d2.trans cU,Nat.le_trans d3 b3⟩⟩ bV bt Z (n+1) (cg+1) Z Z _ _ λ_=>rfl
    ·have bi:=ae.1.mA.ne bw;exact⟨_,_,F7 bw _ _,Dr bi _ _,e8.na ae.1.mA λaY=>absurd aY bw,λaY=>absurd aY bw⟩
  ·exact⟨_,_,F7 al _ _,Dr (h.1.ne al) _ _,e8.na h.1 λaY=>absurd aY al,λaY=>absurd aY al⟩
theorem JX{s x y:aA}{e:Int}(he:e≠0)(cg:Nat)(I8:ho (cS T e x) (eT T [123] y))(aU:2<=cg):
  ∃p q,some (([]:List cE),cS T e x)=some p/\lE T cg y=some q/\kT T s p q/\zc T x p:=by
 obtain⟨cg,rfl⟩: ∃m,cg=m+2:=⟨cg-2,Z⟩;have U:(cS T e x).aC≠0:=λaY=>px he aY
 have aa:=I8.ne U;rw[lE,Dr aa,Option.bind_some];have ae:gp T [125] (eT T [123] y)=ga (eT T [123] y):=by
  simp only[gp,cr,hv aa,bj,iP aa]
 refine⟨_,_,rfl,rfl,⟨?_,λaY=>absurd aY U⟩,λaY=>absurd aY U⟩;simp only[ae];rcases I8 with I8|⟨g1,g2,g3⟩
 ·exact absurd I8.1 U
 ·exact .inr ⟨g1,g2,g3⟩
theorem Ra{k:Nat}(aT: ∀j,j<k->G_ T j):K5 T k:=by
 intro s x y h bV bt az n cg aU hz;obtain⟨n,rfl⟩: ∃m,n=m+1:=⟨n-1,Z⟩;rw[oN];by_cases al:x.aC=0
 ·obtain rfl:=h.1.eq al;obtain⟨df,cU,b3⟩:=h.2 al;cases be:b7 T y 4 [123] with
  |false=>
   refine JX aH cm cg ?_ Z;have:eT T [123] y=iK (cS T 2 y):=by simp[eT,cr,xS y [123] cm,be]
   rw[this];exact .inr ⟨λaY=>px cm aY,rfl,rfl⟩
  |true=>
   simp only[bC];by_cases aB:50<=y.bR
   ·rw[if_pos aB];refine JX aH cm cg ?_ Z;have:eT T [123] y=cS T 4 y:=by simp[eT,xS y [123] cm,be,aB]
    rw[this];exact .refl _
   ·rw[if_neg aB];have aoq:eT T [123] y={y with at_:=hP (y.at_+1),bR:=hP (y.bR+1)}:=by
     simp only[eT,cr,xS y [123] cm,be,aB,decide_false,Bool.and_false,bj,bC];rfl
    have ah:1<=k:=by
     have:=rp (T:=T) Z (s:=y) cm be;omega
    have Av:=rp (T:=T) Z (s:=y) cm be;obtain⟨cg,rfl⟩: ∃m,cg=m+1:=⟨cg-1,Z⟩;rw[lE,aoq];obtain⟨bM,c2⟩:=G9 (o:=y.bR) (by rw[df];exact bt) Z;have E9:left T {y with at_:=hP (y.at_+1),bR:=hP (y.bR+1)}+1<=left T y:=Av;obtain⟨p,q,U,aa,ae⟩:=afG aH (K:=k-1) (λj bH=>aT j Z) (k-1) (bN _) {y with at_:=hP (y.at_+1),bR:=hP (y.bR+1)} _ _ ⟨ho.refl _,λ_=>⟨rfl,rfl,bN _⟩⟩ (cU.trans bV) (by show(0:Int)<=hP (y.bR+1);rw[bM,df];omega) Z n cg Z Z [] [] λ_=>rfl
    rw[U,aa];simp only[Option.bind_some];have CU:=u1 (T:=T) ae.1.mA (x:=[125]) cm;have ams:ho (cZ T [125] (ga p.2)).2 (gp T [125] q.2):=CU;refine⟨_,_,rfl,rfl,⟨e8.na ams λaY=> ?_,λaY=> ?_⟩,λaY=> ?_⟩
    ·have:=(gv.sS [125] _ aY).1;rw[ae.1.eq this]
    ·obtain⟨d1,d2,d3⟩:=gv.sS [125] _ aY;obtain⟨aI,bc,dq⟩:=ae.2 d1;refine⟨?_,d3.trans (bc.trans cU),?_⟩
     ·rw[d2];show hP (p.2.bR-1)=s.bR;rw[aI];show hP (hP (y.bR+1)-1)=s.bR;rw[bM,c2,df]
     ·have hw:=Bq (T:=T) Z (ga p.2) [125];rw[Ky] at hw;have aM:left T (cZ T [125] (ga p.2)).2<=left T s:=Z;exact aM
    ·obtain⟨d1,d2,d3⟩:=gv.sS [125] _ aY;obtain⟨aI,bc,dq⟩:=ae.2 d1;have hw:=Bq (T:=T) Z (ga p.2) [125];rw[Ky] at hw;have aM:left T (cZ T [125] (ga p.2)).2+1<=left T y:=Z;exact aM
 ·rw[ma al,bj];refine JX aH cm cg ?_ Z;have cV:=h.1.ne al;have:eT T [123] y=iK y:=by simp[eT,cr,hv cV,iP cV]
  rw[this,iP al];rcases h.1 with U|⟨g1,g2,g3⟩
  ·exact absurd U.1 al
  ·exact .inr ⟨g1,g2,g3⟩
omit aH in
theorem zL{s:aA}(al:s.aC=0){x:bl}(ag:kw x=3):cd T s x=((ar T s.at_).kind==3&&(ar T s.at_).text==x):=by
 simp[cd,ag,b7,al]
theorem VC{s:aA}{p q:cE×aA}(pos:Int)(h:kT T s p q):kT T s (p.1.at pos,p.2) (q.1.at pos,q.2):=⟨e8.na h.1.mA λaY=>by rw[h.1.eq aY],h.2⟩
theorem afJ{k:Nat}(Fq: ∀j,j<k->K5 T j):G_ T k:=by
 intro s al bV bt az n cg aU hz;obtain⟨n,rfl⟩: ∃m,n=m+2:=⟨n-2,Z⟩;obtain⟨cg,rfl⟩: ∃m,cg=m+2:=⟨cg-2,Z⟩;have self:nE T s s s:=⟨ho.refl _,λ_=>⟨rfl,rfl,bN _⟩⟩;rw[xF,xG];simp only[zL al (x:=[118,97,114]) cm,zL al (x:=[108,101,116]) cm,zL al (x:=[105,102]) cm,zL al (x:=[119,104,105,108,101]) cm,zL al (x:=[114,101,116,117,114,110]) cm,zL al (x:=[112,114,105,110,116]) cm];have plain: ∃p q,(some (qH T s)).bind (λp=>some (p.1.at (ar T s.at_).pos,p.2))=some p/\(some (qG T s)).bind (λp=>some (p.1.at (ar T s.at_).pos,p.2))=some q/\kT T s p q/\zc T s p:=by
  obtain⟨U,aa⟩:=aeM aH self bV bt;exact⟨_,_,rfl,rfl,VC aH _ U,aa⟩
 cases ah:(ar T s.at_).kind==3 with
 |false=>
  simp only[bj,Bool.false_and,Bool.or_self];exact plain
 |true=>
  simp only[bC,Bool.true_and];have E8:(ar T s.at_).kind=3:=by simpa using ah
  have aZ:=rn (T:=T) Z al (by rw[E8];decide);have gs:nE T (aF s) (aF s) (aF s):=⟨ho.refl _,λ_=>⟨rfl,rfl,bN _⟩⟩;have up: ∀{p q:cE×aA},kT T (aF s) p q-> ∃qn Jc,(some p).bind (λp=>some (p.1.at (ar T s.at_).pos,p.2))=some qn/\(some q).bind (λp=>some (p.1.at (ar T s.at_).pos,p.2))=some Jc/\kT T s qn Jc/\zc T s qn:=λ{p q} h=>by
   refine⟨_,_,rfl,rfl,VC aH _ ⟨h.1,λaY=> ?_⟩,λaY=> ?_⟩
   ·obtain⟨aI,bc,dq⟩:=h.2 aY;exact⟨aI,bc,Z⟩
   ·obtain⟨aI,bc,dq⟩:=h.2 aY;show left T p.2+1<=left T s;omega
  have X9:=gs.2 al;cases t1:(ar T s.at_).text==[118,97,114] with
  |true=>
   have t2:((ar T s.at_).text==[108,101,116])=false:=by
    have:(ar T s.at_).text=[118,97,114]:=by simpa using t1
    rw[this];rfl
   simp only[bC,Bool.true_or,t2,bj];exact up (afE aH al X9 bV)
  |false=>
   simp only[bj,Bool.false_or];cases t2:(ar T s.at_).text==[108,101,116] with
   |true=>
    simp only[bC];exact up (afF aH al X9 bV bt)
   |false=>
    simp only[bj];cases t3:(ar T s.at_).text==[105,102] with
    |true=>
     simp only[bC];have he:=yS aH gs bV bt;rw[wR];have hle:left T (eU T (aF s)).2<=k-1:=by
      by_cases aY:(eU T (aF s)).2.aC=0
      ·have:=(he.2 aY).2.2;omega
      ·rw[rf aY];omega
     obtain⟨p,q,U,aa,ae,am⟩:=Fq (k-1) Z (aF s) _ _ he.st bV bt hle n (cg+1) Z Z;rw[U,aa];simp only[Option.bind_some];by_cases bw:p.2.aC=0
     ·have bi:=ae.1.eq bw;have sg:=am bw;have E5:(eU T (aF s)).2.aC=0:=by
       by_cases aY:(eU T (aF s)).2.aC=0
       ·exact aY
       ·rw[rf aY] at sg;omega
      rw[bi,he.1.eq E5,zL bw (x:=[101,108,115,101]) cm];have ln:b7 T p.2 3 [101,108,115,101]=((ar T p.2.at_).kind==3&&(ar T p.2.at_).text==[101,108,115,101]):=by simp[b7,bw]
      rw[<-ln];cases kN:b7 T p.2 3 [101,108,115,101] with
      |false=>
       simp only[bj];exact up ⟨.inl ⟨bw,rfl⟩,ae.2⟩
      |true=>
       simp only[bC];have sb:=rp (T:=T) Z (s:=p.2) cm kN;obtain⟨f1,f2,f3⟩:=ae.2 bw;obtain⟨aJ,cu,g1,g2,g3,g4⟩:=Fq (k-1) Z (aF s) (aF p.2) (aF p.2) ⟨ho.refl _,λ_=>⟨f1,f2,Z⟩⟩ bV bt Z n (cg+1) Z Z;rw[g1,g2];simp only[Option.bind_some];refine up (p:=(cE.mk {kind:=5} [(eU T (aF s)).1] p.1 aJ.1,aJ.2)) (q:=(cE.mk {kind:=5} [(eU T (aF s)).1] p.1 cu.1,cu.2)) ?_;exact⟨e8.na g3.1.mA λaY=>by simp only[g3.1.eq aY],g3.2⟩
     ·have bi:=ae.1.mA.ne bw;rw[ma bw,hv bi];simp only[bj];exact up ⟨e8.na ae.1.mA λaY=>absurd aY bw,λaY=>absurd aY bw⟩
    |false=>
     simp only[bj];cases t4:(ar T s.at_).text==[119,104,105,108,101] with
     |true=>
      simp only[bC];have he:=yS aH gs bV bt;rw[wW];have hle:left T (eU T (aF s)).2<=k-1:=by
       by_cases aY:(eU T (aF s)).2.aC=0
       ·have:=(he.2 aY).2.2;omega
       ·rw[rf aY];omega
      obtain⟨p,q,U,aa,ae,am⟩:=Fq (k-1) Z (aF s) _ _ he.st bV bt hle n (cg+1) Z Z;rw[U,aa];simp only[Option.bind_some];refine up (p:=(cE.mk {kind:=6} [(eU T (aF s)).1] p.1 [],p.2)) (q:=(cE.mk {kind:=6} [(dE T (aF s)).1] q.1 [],q.2)) ?_;refine⟨e8.na ae.1.mA λaY=> ?_,ae.2⟩;have sg:=am aY;have E5:(eU T (aF s)).2.aC=0:=by
       by_cases bJ:(eU T (aF s)).2.aC=0
       ·exact bJ
       ·rw[rf bJ] at sg;omega
      simp only[ae.1.eq aY,he.1.eq E5]
     |false=>
      simp only[bj];cases t5:(ar T s.at_).text==[114,101,116,117,114,110] with
      |true=>
       simp only[bC];exact up (afH aH gs bV bt)
      |false=>
       simp only[bj];cases t6:(ar T s.at_).text==[112,114,105,110,116] with
       |true=>
        simp only[bC];exact up (aeN aH gs bV bt)
       |false=>
        simp only[bj];exact plain
theorem al6: ∀k,G_ T k:=by
 intro k
 induction k using Nat.strongRecOn with
 |_ k aT=>exact afJ aH λj bH=>Ra aH λi be=>aT i Z
theorem ahk(k:Nat):K5 T k:=Ra aH λj _=>al6 aH j
theorem PL(at_ bR:Int): ∃p q,oN T 800000000 (lI at_ bR)=some p/\lE T 800000000 (lI at_ bR)=some q/\iQ q.1 q.2=iQ p.1 p.2/\kT T (lI at_ bR) p q:=by
 have bt:(0:Int)<=(lI at_ bR).bR:=by
  show(0:Int)<=if bR<0 then 0 else bR
  split<;>omega
 obtain⟨p,q,U,aa,ae,-⟩:=ahk aH T.length (lI at_ bR) _ _ ⟨ho.refl _,λ_=>⟨rfl,rfl,bN _⟩⟩ rfl bt (DR _ _) 800000000 800000000 Z Z;refine⟨p,q,U,aa,?_,ae⟩;rcases ae.1 with⟨h,rfl⟩|⟨h,bV,ax⟩
 ·rfl
 ·have bZ: ¬q.2.aC=0:=by rw[bV];exact h
  simp only[iQ,if_neg h,if_neg bZ,bV,ax]
end
end
end Go.Proofs.YtghmbpmaafnodaaGreatDoor
