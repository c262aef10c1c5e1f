/-
  Texts of one proof, laid together: Qe Qf Qg Qh ShA L1.
-/
import Derived.Test.YtghmbpmaafnodaaGreatDoorMN
import Derived.Test.YtghmbpmaafnodaaGreatDoorMD
import Derived.Test.YtghmbpmaafnodaaGreatDoorMG
import Derived.Test.YtghmbpmaafnodaaGreatDoorML
set_option linter.unusedVariables false
set_option linter.unusedSimpArgs false
namespace Go.Proofs.YtghmbpmaafnodaaGreatDoor
open Go.f7
open Nat (reduceAdd reduceLeDiff)
section
def gQ:pt iG:=⟨3,λH ok x cs=> ∃v,cs=[.str x.name,v,.int .i64 x.pos]/\eR ga H ok x.fields v,λ⟨v,h,k⟩=>by rw[h];exact⟨rfl,by simp only[List.all_cons,List.all_nil,jJ,iy,k.one,Bool.and_self]⟩,λp ⟨v,h,k⟩=>⟨v,h,k.bo p⟩⟩
def gN:pt Fn:=⟨7,λH ok x cs=> ∃v w,cs=[.str x.name,v,.bool x.has,.str x.fC,.int .i64 x.rd,w,.int .i64 x.pos]/\eR ga H ok x.params v/\eC H ok x.body w,λ⟨v,w,h,k,q⟩=>by rw[h];exact⟨rfl,by simp only[List.all_cons,List.all_nil,jJ,iy,yN,k.one,q.gq,Bool.and_self]⟩,λp ⟨v,w,h,k,q⟩=>⟨v,w,h,k.bo p,q.bo p.s⟩⟩
theorem Hw:v6 22 41 3:=⟨ad,MI,⟨_,(by kernel_rfl:rA P 41=some 48),cl⟩,⟨_,(by kernel_rfl:jZ P 41=some (.agg [.str [],.an,.int .i64 0])),rfl,rfl⟩,cl⟩
theorem Hv:v6 24 46 7:=⟨ad,MJ,⟨_,(by kernel_rfl:rA P 46=some 104),cl⟩,⟨_,(by kernel_rfl:jZ P 46=some (.agg [.str [],.an,.bool false,.str [],.int .i64 0,.an,.int .i64 0])),rfl,rfl⟩,cl⟩
section
variable {H H' H1:J}{r:Nat}{T:List Tok}{aj ch cf ci:I}{s s':aw}
theorem fF.vE{ok:Nat->Prop}{l:List iG}{v:I}(h:fF gQ ok H l v)(H':J):dC P H' .len [22] [v]=some (.int .i64 l.length):=by
 rcases h with⟨rfl,rfl⟩|⟨L,els,rfl,_⟩
 ·exact Hs
 ·exact EG
theorem fF.vF{ok:Nat->Prop}{l:List Fn}{v:I}(h:fF gN ok H l v)(H':J):dC P H' .len [24] [v]=some (.int .i64 l.length):=by
 rcases h with⟨rfl,rfl⟩|⟨L,els,rfl,_⟩
 ·exact Hu
 ·exact EI
theorem grow{α:Type}{K:pt α}{t e:Nat}(y:v6 t e K.esz){cS:Nat->Prop}{l:List α}{v:I}(ay:fF K cS H1 l v)(m:nR r H1.next H1 H)(a7: ∀k,cS k->r<k)(arJ:r<H1.next){a:α}{cs:List I}{n2:Nat}(he:K.V H (bG n2) a cs)(jO:H1.next<=n2)(ax:l.length<=1000000000):
  ∃dr H',fM P (H.push (.row false K.esz [cs])) [t,t] v (.aM H.next 0 1 K.esz (some 1))=some (dr,H')/\dr.one=true/\(∀b,fF K (λk=>cS k\/H1.next<=k) (H'.set r b) (l++[a]) dr)/\H.next+1<=H'.next/\H'.get r=H.get r/\
   (∀k x,¬cS k->k<H1.next->k≠r->H1.get k=some x-> ∀b,(H'.set r b).get k=some x)/\ ∀b,dE (λk=>r<=k) H1 (H'.set r b):=by
 have hm:=m.1;have iS:d_ H1 cS H cS:=λk x ah g=>by
  have:=J.aW g;have:=a7 k ah;exact⟨ah,m.get g Z⟩
 have hZ:=ay.bo iS;have gA: ∀L n c,v= .aM L 0 n K.esz c->cS L/\L<H1.next:=by
  intro L n c bw;rcases ay with⟨rfl,_⟩|⟨L',els,rfl,cE,cx,_⟩
  ·cases bw
  ·cases bw;exact⟨cE,J.aW cx⟩
 obtain⟨dr,H',bd,a2,a3,a4⟩:=hZ.app y (ok':=λk=>cS k\/H1.next<=k) he (λk x ah g=>⟨.inr (by unfold bG at ah;omega),λL bw=>by have:=(gA L _ _ bw).2;unfold bG at ah;omega⟩) (λk x ah _=> .inl ah) (.inr Z) ax;refine⟨dr,H',bd,a2.one,λb=>a2.bo λk x ah g=>⟨ah,?_⟩,a3,a4 r Z (λL bw=>by have:=a7 L (gA L _ _ bw).1;omega),λk x ah eo dK g b=> ?_,λb=>⟨by simp only[J.e9];omega,λk ah aO=> ?_⟩⟩
 ·rw[J.get_set_other]
  ·exact g
  ·rintro rfl;rcases ah with ah|ah
   ·have:=a7 _ ah;omega
   ·omega
 ·rw[J.get_set_other (Ne.symm dK),a4 k Z (λL bw e=>ah (e▸(gA L _ _ bw).1))];exact m.get g Z
 ·have eZ:k<r:=by simpa using aO
  rw[J.get_set_other Z,a4 k Z (λL bw e=>by have:=a7 L (gA L _ _ bw).1;omega)];exact m.2 k ah Z
def nS(H:J)(r:Nat)(T:List Tok)(aj:I)(g:eb)(s:aw):Prop:= ∃ch cf ci,∃cS dq dP:Nat->Prop,fJ H r T aj ch cf ci s/\(∀l i n e c,aj= .aM l i n e c->l<r)/\fF gQ cS H g.ey ch/\fF ga dq H g.globals cf/\fF gN dP H g.funcs ci/\(∀k,cS k->r<k/\ ¬dq k/\ ¬dP k)/\(∀k,dq k->r<k/\ ¬dP k)/\ ∀k,dP k->r<k
abbrev tl(r:Nat):J->J->Prop:=dE λk=>r<=k
theorem fJ.Mj{N5 M6 MX:I}(h:fJ H r T aj ch cf ci s)(bC: ∀l i n e c,aj= .aM l i n e c->l<r)(m:tl r H H')(aX:H'.get r=some (iw aj N5 M6 MX s'))(a0:0<=s'.at_)(bd:s'.at_<T.length)(z:s'.aA=0->s'.cw=0)(o:s'.bN=0)(one:N5.one=true/\M6.one=true/\MX.one=true):fJ H' r T aj N5 M6 MX s':=by
 refine⟨aX,?_,a0,bd,h.n,z,o,one⟩;rcases h.b9 with bW|⟨l,i,cap,rfl,bW⟩
 ·exact .inl bW
 ·refine .inr ⟨l,i,cap,rfl,bW.imp id λ⟨ro,els,cE,cx⟩=>⟨ro,els,m.get cE ?_,cx⟩⟩;have:=bC _ _ _ _ _ rfl;omega
theorem nS.mut{g:eb}{ch cf ci:I}{cS dq dP:Nat->Prop}(bC: ∀l i n e c,aj= .aM l i n e c->l<r)(c_:fF gQ cS H g.ey ch)(cD:fF ga dq H g.globals cf)(b3:fF gN dP H g.funcs ci)(bJ: ∀k,cS k->r<k/\ ¬dq k/\ ¬dP k)(c2: ∀k,dq k->r<k/\ ¬dP k)(c3: ∀k,dP k->r<k)(m:cB r H H')(dj:fJ H' r T aj ch cf ci s'):nS H' r T aj g s':=
 ⟨ch,cf,ci,cS,dq,dP,dj,bC,c_.bo (d_.mut m λk ah=>by have:=(bJ k ah).1;omega),cD.bo (d_.mut m λk ah=>by have:=(c2 k ah).1;omega),b3.bo (d_.mut m λk ah=>by have:=c3 k ah;omega),bJ,c2,c3⟩
theorem cB.sn(m:cB r H H'):tl r H H':=⟨m.1,λl ax aO=>m.2 l ax λe=>aO Z⟩
theorem nR.sn{n:Nat}(m:nR r n H H')(h:r<n):tl r H H':=⟨m.1,λl ax aO=>m.2 l ax λe=>aO Z⟩
def wU(T:List Tok)(n:Nat)(g:eb)(s:aw):R eb:=
 (tE T n [] (cY T [123] (hQ T (aE (gP T true g.ey.length 12 s))).2).2).bind λp=>
  some ({g with ey:=g.ey++[⟨(hQ T (aE (gP T true g.ey.length 12 s))).1.text,p.1,(hQ T (aE (gP T true g.ey.length 12 s))).1.pos⟩]},(cY T [125] p.2).2)
def k6(T:List Tok)(g:eb)(s:aw):eb×aw:=
 ({g with globals:=g.globals++[(iW T (aE (gP T true g.globals.length 8 s))).1]},(cY T [59] (iW T (aE (gP T true g.globals.length 8 s))).2).2)
theorem K6{b:Bool}{x y:Int}:(gP T b x y s).at_=s.at_:=by
 unfold gP;cases b&&decide (y<=x)
 ·rfl
 ·rw[bx];unfold cL;split<;>rfl
theorem LJ(aH:hq T)(h:fJ H r T aj ch cf ci s)(ah:(aq T s.at_).kind≠0):cB r H (H.set r (.row false 7 [[aj,.int .i64 (IntKind.i64.wrap (s.at_+1)),ch,cf,ci,.int .i64 s.aA,.int .i64 s.cw]]))/\fJ (H.set r (.row false 7 [[aj,.int .i64 (IntKind.i64.wrap (s.at_+1)),ch,cf,ci,.int .i64 s.aA,.int .i64 s.cw]])) r T aj ch cf ci (aE s):=by
 obtain⟨-,g0,g1⟩:=L9 aH h ah;exact h.set (aE s) g0 g1 h.z h.o
theorem aaW(aH:hq T){g:eb}{n:Nat}(aV:n<=900000000)(h:nS H r T aj g s)(ax:g.ey.length<=900000000)(ah:(aq T s.at_).kind≠0){g':eb}(ak:wU T n g s=some (g',s')):W (au P ao 20 [.ptr r 0 0] H) λ_ H'=>tl r H H'/\nS H' r T aj g' s':=by
 refine cU (λ_=>alQ (n+1)) ?_;obtain⟨ch,cf,ci,cS,dq,dP,dj,bC,c_,cD,b3,bJ,c2,c3⟩:=h;have lW:=dj.rd;unfold iw at lW;have i_:=λH'=>c_.vE H'
 have h0:=dj.lt;simp-implicitDefEqProofs(disch:=try exact ag) only[IK,reduceAdd,reduceLeDiff,reduceIte,az,lW,i_];refine aY (DH dj true _ _) ?_;rintro _ bl ⟨rfl,m2,e3⟩;refine⟨m2.1,?_⟩;unfold wU at ak;have qn:(aq T (gP T true (g.ey.length:Int) 12 s).at_).kind≠0:=by rw[K6];exact ah
 generalize gP T true (g.ey.length:Int) 12 s=s2 at e3 ak qn;have cJ:=e3.rd;unfold iw at cJ;have df:=e3.b9.one;obtain⟨dk,dJ,eL⟩:=e3.one;have lV:=e3.lt;obtain⟨m3,gk⟩:=LJ aH e3 qn;simp-implicitDefEqProofs(disch:=try exact ag) only[reduceAdd,reduceLeDiff,reduceIte,az,cJ,df,dk,dJ,eL];generalize aE s2=jH at gk ak;generalize bl.set r (.row false 7 [[aj,.int .i64 (IntKind.i64.wrap (s2.at_+1)),ch,cf,ci,.int .i64 s2.aA,.int .i64 s2.cw]])=cQ at m3 gk ⊢;refine aY (Ke aH gk) ?_;rintro _ cu ⟨rfl,m4,nh⟩;refine⟨m4.1,?_⟩;generalize hQ T jH=q at nh ak ⊢;obtain⟨⟨k,x,z,p⟩,qA⟩:=q;simp only at nh ak;have eN:=aR.push cu (.row false 4 [[.int .i64 k,.str x,.int .i64 z,.int .i64 p]])
 have jD:=J.ca cu (.row false 4 [[.int .i64 k,.str x,.int .i64 z,.int .i64 p]]);simp-implicitDefEqProofs(disch:=try exact ag) only[bj,bO,am,dy,aQ,dy,Nat.reduceAdd,Nat.reduceLeDiff,reduceIte,I.cells,eu,fl,dD,fE,fE,J.h8,Tok.v];have xQ:=(m2.trans m3).trans m4;have Fm:=xQ.1;have iv:=nh.aK eN;have nV:(cu.push (.row false 4 [[.int .i64 k,.str x,.int .i64 z,.int .i64 p]])).next=cu.next+1:=by simp only[J.b6]
 generalize cu.push (.row false 4 [[.int .i64 k,.str x,.int .i64 z,.int .i64 p]])=dc at eN jD iv nV ⊢;have gC:=aR.push dc (.row false 3 [[.str x,.an,.int .i64 p]]);have Y6:=eN.1;have F8:jv H (dc.push (.row false 3 [[.str x,.an,.int .i64 p]])) r (cu.next+1) (cu.next+2) 3 T aj ch cf ci (.str x) [.int .i64 p] [] .an qA:=
  ⟨iv.aK gC,by rw[<-nV];exact J.ca _ _,fF.nil,cB.A2 (xQ.trans ((eN.trans gC).mut _)),h0,Z,Z,by simp only[J.b6];omega⟩
 refine aY (yD aH F8.dj [123]) ?_;rintro _ fY ⟨rfl,m7,ID⟩;refine⟨m7.1,?_⟩;have C8:=F8.mut m7 ID;obtain⟨⟨l',pA⟩,g1,g2⟩:=hL ak;simp only[bD,dz] at g2;obtain⟨rfl,rfl⟩:=g2;refine Pw aH dj (λjG v FE=> ?_) n (n+1) fY _ [] .an Z (by simp;omega) C8 g1;rw[zg];refine aY (yD aH FE.dj [125]) ?_;rintro _ gK ⟨rfl,m9,ni⟩;refine⟨m9.1,?_⟩;have C9:=FE.mut m9 ni;generalize (cY T [125] pA).2=jI at ni C9 ⊢;have CS:=C9.cell;have mW:=ni.rd;unfold iw at mW;have Fw:=C9.ho.one;have ash:=C9.eL;have Fi:=ni.lt;obtain⟨dr,H',gU,ii,f1,f2,f3,f4,f5⟩:=grow (r:=r) (K:=gQ) Hw c_ C9.m (λk ah=>(bJ k ah).1) h0 (a:=⟨x,l',p⟩) (cs:=[.str x,v,.int .i64 p]) (n2:=cu.next+2) ⟨v,rfl,C9.ho.aM⟩ Z Z
 have fe:=ue Hw gK.next (cs:=[.str x,v,.int .i64 p]) rfl (by simp only[List.all_cons,List.all_nil,jJ,iy,Fw,Bool.and_self])
 have h6:gQ.esz=3:=rfl;rw[h6] at gU;have dS:cd (some ch) ch=true:=c_.rd;have hc:=j_ ii;simp only[I.cells] at hc;have iQ:H'.get r=some (.row false 7 [[aj,.int .i64 jI.at_,ch,cf,ci,.int .i64 jI.aA,.int .i64 jI.cw]]):=by rw[f3];exact mW
 have EC:=J.aW iQ;have uA:(gK.push (.row false 3 [[.str x,v,.int .i64 p]])).next<=H'.next:=by simp only[J.b6];exact f2
 simp-implicitDefEqProofs(disch:=try exact ag) only[bj,bO,am,dy,aQ,dy,Nat.reduceAdd,Nat.reduceLeDiff,reduceIte,I.cells,eu,fl,dD,fE,CS,mW,fe,gU,ks,dS,hc,iQ,ii,df,dk,dJ,eL,Fw];have sn:=f5 (.row false 7 [[aj,.int .i64 jI.at_,dr,cf,ci,.int .i64 jI.aA,.int .i64 jI.cw]]);refine a8.2 ⟨sn,dr,cf,ci,_,(λk=>dq k/\k<H.next),(λk=>dP k/\k<H.next),?_,bC,f1 _,?_,?_,?_,?_,?_⟩
 ·exact dj.Mj bC sn (J.get_set_same EC) ni.a0 ni.bd ni.z ni.o ⟨ii,dJ,eL⟩
 ·exact cD.bo λk b ah g=>by
   have:=J.aW g;have:=(c2 k ah).1;exact⟨⟨ah,Z⟩,f4 k b (λh=>(bJ k h).2.1 ah) Z Z g _⟩
 ·exact b3.bo λk b ah g=>by
   have:=J.aW g;have:=c3 k ah;exact⟨⟨ah,Z⟩,f4 k b (λh=>(bJ k h).2.2 ah) Z Z g _⟩
 ·rintro k (ah|ah)
  ·exact⟨(bJ k ah).1,λh=>(bJ k ah).2.1 h.1,λh=>(bJ k ah).2.2 h.1⟩
  ·exact⟨Z,λh=>Z,λh=>Z⟩
 ·exact λk ah=>⟨(c2 k ah.1).1,λh=>(c2 k ah.1).2 h.1⟩
 ·exact λk ah=>c3 k ah.1
end
end
section
section
variable {H H' H1:J}{r:Nat}{T:List Tok}{aj ch cf ci:I}{s s':aw}
theorem aaV(aH:hq T){g:eb}(h:nS H r T aj g s)(ax:g.globals.length<=900000000)(ah:(aq T s.at_).kind≠0):W (au P ao 21 [.ptr r 0 0] H) λ_ H'=>tl r H H'/\nS H' r T aj (k6 T g s).1 (k6 T g s).2:=by
 refine cU (λ_=>alR 0) ?_;obtain⟨ch,cf,ci,cS,dq,dP,dj,bC,c_,cD,b3,bJ,c2,c3⟩:=h;have lW:=dj.rd;unfold iw at lW;have i_:=λH'=>cD.rQ H'
 have h0:=dj.lt;simp-implicitDefEqProofs(disch:=try exact ag) only[IL,reduceAdd,reduceLeDiff,reduceIte,az,lW,i_];refine aY (DH dj true _ _) ?_;rintro _ bl ⟨rfl,m2,e3⟩;refine⟨m2.1,?_⟩;unfold k6;have qn:(aq T (gP T true (g.globals.length:Int) 8 s).at_).kind≠0:=by rw[K6];exact ah
 generalize gP T true (g.globals.length:Int) 8 s=s2 at e3 qn;have cJ:=e3.rd;unfold iw at cJ;have df:=e3.b9.one;obtain⟨dk,dJ,eL⟩:=e3.one;have lV:=e3.lt;obtain⟨m3,gk⟩:=LJ aH e3 qn;simp-implicitDefEqProofs(disch:=try exact ag) only[reduceAdd,reduceLeDiff,reduceIte,az,cJ,df,dk,dJ,eL];generalize aE s2=jH at gk ⊢;generalize bl.set r (.row false 7 [[aj,.int .i64 (IntKind.i64.wrap (s2.at_+1)),ch,cf,ci,.int .i64 s2.aA,.int .i64 s2.cw]])=cQ at m3 gk ⊢;refine aY (JX aH gk) ?_;rintro _ cu ⟨rfl,m4,nh⟩;refine⟨m4.1,?_⟩;generalize iW T jH=q at nh ⊢;obtain⟨p,qA⟩:=q;simp only at nh ⊢;have eN:=aR.push cu (.row false 4 [p.cells])
 have jD:=J.ca cu (.row false 4 [p.cells]);have xQ:=(m2.trans m3).trans m4;have Fm:=xQ.1;have iv:=nh.aK eN;have nV:(cu.push (.row false 4 [p.cells])).next=cu.next+1:=by simp only[J.b6]
 simp only[dW.cells] at eN jD iv nV ⊢;simp-implicitDefEqProofs(disch:=try exact ag) only[bj,bO,am,dy,aQ,dy,Nat.reduceAdd,Nat.reduceLeDiff,reduceIte,I.cells,eu,fl,dD,fE,J.h8];generalize cu.push (.row false 4 [[.str p.name,.str p.eQ,.int .i64 p.fS,.int .i64 p.pos]])=dc at eN jD iv nV ⊢;refine aY (yD aH iv [59]) ?_;rintro _ gK ⟨rfl,m9,ni⟩;refine⟨m9.1,?_⟩;generalize (cY T [59] qA).2=jI at ni ⊢;have apl:=m9.1;have CS:=m9.get jD Z;have mW:=ni.rd;unfold iw at mW;have Fi:=ni.lt;have aqn:cB r H gK:=(xQ.trans (eN.mut _)).trans m9;obtain⟨dr,H',gU,ii,f1,f2,f3,f4,f5⟩:=grow (r:=r) (K:=ga) vG cD aqn.A2 (λk ah=>(c2 k ah).1) h0 (a:=p) (cs:=p.cells) (n2:=H.next) rfl (bL _) Z
 have fe:=ue vG gK.next (cs:=p.cells) rfl rfl
 have h6:ga.esz=4:=rfl;rw[h6] at gU;have dS:cd (some cf) cf=true:=cD.rd;have hc:=j_ ii;simp only[I.cells] at hc;have iQ:H'.get r=some (.row false 7 [[aj,.int .i64 jI.at_,ch,cf,ci,.int .i64 jI.aA,.int .i64 jI.cw]]):=by rw[f3];exact mW
 have EC:=J.aW iQ;have uA:(gK.push (.row false 4 [p.cells])).next<=H'.next:=by simp only[J.b6];exact f2
 simp only[dW.cells] at fe gU uA;simp-implicitDefEqProofs(disch:=try exact ag) only[bj,bO,am,dy,aQ,dy,Nat.reduceAdd,Nat.reduceLeDiff,reduceIte,I.cells,eu,fl,dD,fE,CS,mW,fe,gU,ks,dS,hc,iQ,ii,df,dk,dJ,eL];have sn:=f5 (.row false 7 [[aj,.int .i64 jI.at_,ch,dr,ci,.int .i64 jI.aA,.int .i64 jI.cw]]);refine a8.2 ⟨sn,ch,dr,ci,(λk=>cS k/\k<H.next),_,(λk=>dP k/\k<H.next),?_,bC,?_,f1 _,?_,?_,?_,?_⟩
 ·exact dj.Mj bC sn (J.get_set_same EC) ni.a0 ni.bd ni.z ni.o ⟨dk,ii,eL⟩
 ·exact c_.bo λk b ah g=>by
   have:=J.aW g;have:=(bJ k ah).1;exact⟨⟨ah,Z⟩,f4 k b (λh=>(bJ k ah).2.1 h) Z Z g _⟩
 ·exact b3.bo λk b ah g=>by
   have:=J.aW g;have:=c3 k ah;exact⟨⟨ah,Z⟩,f4 k b (λh=>(c2 k h).2 ah) Z Z g _⟩
 ·exact λk ah=>⟨(bJ k ah.1).1,λh=>h.elim (bJ k ah.1).2.1 (λh=>by have:=ah.2;omega),λh=>(bJ k ah.1).2.2 h.1⟩
 ·rintro k (ah|ah)
  ·exact⟨(c2 k ah).1,λh=>(c2 k ah).2 h.1⟩
  ·exact⟨Z,λh=>Z⟩
 ·exact λk ah=>c3 k ah.1
def l6(T:List Tok)(l:List dW)(s:aw):List dW×aw:=(l++[(iW T (gP T ((aq T s.at_).kind==1) l.length 6 s)).1],(iW T (gP T ((aq T s.at_).kind==1) l.length 6 s)).2)
theorem PG(aH:hq T){c n2:Nat}{x:I}{rest:List I}(hlen:rest.length=5){s0:aw}(U:fJ H1 r T aj ch cf ci s0){l:List dW}{v:I}(h:jv H1 H r c n2 7 T aj ch cf ci x rest l v s)(ax:l.length<=900000000):
  W (au P ao 52 [.ptr r 0 0,.ptr c 0 0] H) λ_ H'=>H.next<=H'.next/\ ∃dr,jv H1 H' r c n2 7 T aj ch cf ci x rest (l6 T l s).1 dr (l6 T l s).2:=by
 refine cU (λ_=>amg 0) ?_;rw[IV];refine aY (Bv h.dj) ?_;rintro _ cu ⟨rfl,bK⟩;refine⟨bK.1,?_⟩;have al:=h.mut (bK.mut _) (h.dj.aK bK);have i_:=λH'=>al.ho.rQ H'
 have cp:=al.ho.rd;have iD:=al.cell;have mj:=h.cell;simp-implicitDefEqProofs(disch:=try exact ag) only[reduceAdd,reduceLeDiff,reduceIte,az,Tok.v,iD,i_];refine aY (DH al.dj _ _ _) ?_;rintro _ dc ⟨rfl,m5,iv⟩;refine⟨m5.1,?_⟩;have aB:=al.mut m5 iv;have jD:=aB.cell;unfold l6;generalize gP T ((aq T s.at_).kind==1) l.length 6 s=j9 at aB ⊢;refine zz (Bs ad ?_) ?_
 ·have key: ∀nQ:J,nQ.get c=some (.row false 7 [x::v::rest])->cd (am P nQ 23 (.ptr c 0 1)) v=true:=λnQ bW=>by
   simp-implicitDefEqProofs(disch:=try exact ag) only[am,dy,Nat.reduceAdd,Nat.reduceLeDiff,reduceIte,I.cells,eu,fl,bW,cp]
  simp only[uq,ug,Dv,Dw,DE,List.forall_mem_cons];refine⟨(λv bw=>by cases bw),(λv bw=>by cases bw),(λv bw=>by cases bw),(λv bw=>by cases bw),(λv bw=>by cases bw),(λv bw=>by cases bw),(λv bw=>by cases bw),(λv bw=>by cases bw),(λv bw=> .inr ?_),(λv bw=>by cases bw),(λv bw=>by cases bw),trivial⟩;cases bw;simp[key _ mj,key _ iD,key _ jD]
 ·refine aY (JX aH aB.dj) ?_;rintro _ fX ⟨rfl,m6,wC⟩;refine⟨m6.1,?_⟩;have aG:=aB.mut m6 wC;have r8:=aG.cell;have zU:=aG.ho.rd;generalize iW T j9=q at aG ⊢;obtain⟨p,A7⟩:=q;obtain⟨dr,fY,gU,pw,ii,aI,bc,aP⟩:=aG.add U Z p;have fe:=ue vG fX.next (cs:=p.cells) rfl rfl
  have uA:(fX.push (.row false 4 [p.cells])).next<=fY.next:=by simp only[J.b6];exact pw
  have hc:=j_ ii;simp only[I.cells] at hc;simp-implicitDefEqProofs(disch:=try exact ag) only[bj,bO,am,dy,aQ,dy,Nat.reduceAdd,Nat.reduceLeDiff,reduceIte,I.cells,eu,fl,dD,fE,hc,r8,fe,gU,ks,aI,bc,ii,zU,jD];refine a8.2 ⟨?_,dr,aP⟩;have bd:=bK.1;have a2:=m5.1;have a3:=m6.1;simp only[J.e9];omega
end
end
section
def pH(T:List Tok):Nat->List dW->aw->R (List dW)
 |0,_,_=>none
 |n+1,l,s=>bif (fg T 4 [44] s).1 then pH T n (l6 T l (fg T 4 [44] s).2).1 (l6 T l (fg T 4 [44] s).2).2 else some (l,(fg T 4 [44] s).2)
def oV(T:List Tok)(s:aw):List cy×aw:=match oU T 800000000 (lE s.at_ 0) with
 |some p=>((iL p.1 p.2).1,oz (iL p.1 p.2).2.1 (iL p.1 p.2).2.2.1 (iL p.1 p.2).2.2.2 s)
 |none=>([],s)
def oy(T:List Tok)(g:eb)(nm:bk)(et:Int)(l:List dW)(q:Bool×bk×Int)(s:aw):eb×aw:=if s.aA≠0 then(g,s) else({g with funcs:=g.funcs++[⟨nm,l,q.1,q.2.1,q.2.2,(oV T s).1,et⟩]},(oV T s).2)
def j0(T:List Tok)(s:aw):(Bool×bk×Int)×aw:=bif (fg T 4 [58] (cY T [41] s).2).1 then((true,(nB T (fg T 4 [58] (cY T [41] s).2).2).1),(nB T (fg T 4 [58] (cY T [41] s).2).2).2) else((false,[],0),(fg T 4 [58] (cY T [41] s).2).2)
def yJ(T:List Tok)(n:Nat)(s:aw):R (List dW):=bif b4 T s 4 [41] then some ([],s) else pH T n (l6 T [] s).1 (l6 T [] s).2
def wN(T:List Tok)(n:Nat)(g:eb)(s:aw):R eb:=
 (yJ T n (cY T [40] (hQ T (aE (gP T true g.funcs.length 16 s))).2).2).bind λp=>
  some (oy T g (hQ T (aE (gP T true g.funcs.length 16 s))).1.text (hQ T (aE (gP T true g.funcs.length 16 s))).1.pos p.1 (j0 T p.2).1 (j0 T p.2).2)
section
variable {H H' H1:J}{r:Nat}{T:List Tok}{aj ch cf ci:I}{s s':aw}
theorem Ym(aH:T.length<=20000000):Ib T:=λs=>by
 obtain⟨p,q,-,aa,-,-⟩:=GC (T:=T) Z T.length s (DW _ _) 0 800000000 800000000 Z Z Z;exact⟨q,aa⟩
theorem afy(aH:hq T){at_:Int}(a6:0<=at_)(U:at_<T.length): ∃p,oU T 800000000 (lE at_ 0)=some p/\(p.2.aA=0->0<=p.2.at_/\p.2.at_<T.length):=by
 obtain⟨p,q,aI,bc,-,na⟩:=P9 aH.n at_ 0;refine⟨p,aI,λak=> ?_⟩;have eq:=na.1.eq ak;have e:lE at_ 0=⟨at_,0,0,0⟩:=rfl;obtain⟨f_,-,-⟩:=(LC aH.g (Ym aH.n) 800000000).block _ q (λ_=>⟨a6,by rw[e];simp only;omega,by rw[e];exact Int.le_refl 0,by rw[e];exact(by decide:(0:Int)<=50)⟩) bc (by rw[eq];exact ak);rw[eq,e] at f_;have a:=f_.a;have b:=f_.b;simp only at a;exact⟨Z,Z⟩
theorem jv.rest{c n2 esz:Nat}{x:I}{rest rest':List I}{l:List dW}{v:I}{s0:aw}(U:fJ H1 r T aj ch cf ci s0)(h:jv H1 H r c n2 esz T aj ch cf ci x rest l v s):jv H1 (H.set c (.row false esz [x::v::rest'])) r c n2 esz T aj ch cf ci x rest' l v s:=by
 have cZ:=h.cZ;have dk:=h.dk;have dJ:=h.dJ;have eL:=h.eL;have fG:nR r H1.next H1 (H.set c (.row false esz [x::v::rest'])):=h.m.de (.inl (.inr dk)) _
 exact⟨U.zO fG (by rw[J.get_set_other Z];exact h.dj.rd) h.dj.a0 h.dj.bd h.dj.z h.dj.o,J.get_set_same Z,h.ho.bo λk x ah g=>⟨ah,by unfold bG at ah;rw[J.get_set_other Z];exact g⟩,fG,cZ,dk,dJ,by simp;omega⟩
theorem Wf{N:Nat}(aH:hq T){g:eb}{cS dq dP:Nat->Prop}{s0:aw}(dj:fJ H1 r T aj ch cf ci s0)(bC: ∀l i n e c,aj= .aM l i n e c->l<r)(c_:fF gQ cS H1 g.ey ch)(cD:fF ga dq H1 g.globals cf)(b3:fF gN dP H1 g.funcs ci)(bJ: ∀k,cS k->r<k/\ ¬dq k/\ ¬dP k)(c2: ∀k,dq k->r<k/\ ¬dP k)(c3: ∀k,dP k->r<k)(ax:g.funcs.length<=900000000)
  {c n2:Nat} {nm fC:bk} {et rd:Int} {aO:Bool} {l:List dW} {v:I} (h:jv H1 H r c n2 7 T aj ch cf ci (.str nm) [.bool aO,.str fC,.int .i64 rd,.an,.int .i64 et] l v s):
  W (zi (au P ao) N (.ptr r 0 0) (.ptr c 0 0) H) λ_ H'=>tl r H1 H'/\nS H' r T aj (oy T g nm et l (aO,fC,rd) s).1 (oy T g nm et l (aO,fC,rd) s).2:=by
 rw[zi];have h0:=h.cZ;have dk:=h.dk;have dJ:=h.dJ;have eL:=h.eL;refine aY (yC h.dj) ?_;rintro _ bl ⟨rfl,rfl⟩;refine⟨bL _,?_⟩;by_cases a6:s.aA=0
 ·have mi:(s.aA != 0)=false:=by simpa using a6
  have yc:=h.dj.b9.rd;have lW:=h.dj.rd;unfold iw at lW;rw[show oy T g nm et l (aO,fC,rd) s=({g with funcs:=g.funcs++[⟨nm,l,aO,fC,rd,(oV T s).1,et⟩]},(oV T s).2) from if_neg (λh=>h a6)];obtain⟨⟨ho,jd⟩,aI,rg⟩:=afy aH h.dj.a0 h.dj.bd;have spec:=abn (n:=800000000) cl aH.n h.dj.b9 s.at_ 0 aI;simp-implicitDefEqProofs(disch:=try exact ag) only[bj,bO,am,dy,Nat.reduceAdd,Nat.reduceLeDiff,reduceIte,I.cells,eu,fl,fE,mi,lW];refine aY spec ?_;rintro _ cQ ⟨bv,rfl,uC,bz⟩;refine⟨bz.1,?_⟩;have AY:oV T s=((iL ho jd).1,oz (iL ho jd).2.1 (iL ho jd).2.2.1 (iL ho jd).2.2.2 s):=by simp only[oV,aI]
  have N3:(iL ho jd).2.2.1=0->0<=(iL ho jd).2.1/\(iL ho jd).2.1<T.length:=λct=>by
   unfold iL at ct ⊢;by_cases ak:jd.aA=0
   ·rw[if_pos ak];exact rg ak
   ·rw[if_neg ak] at ct;exact absurd ct ak
  rw[AY];generalize iL ho jd=Jk at uC N3 ⊢;obtain⟨kq,at_,e,a⟩:=Jk;simp only at uC N3 ⊢;have bK:=bz.bV (.row false 2 [[.int .i64 e,.int .i64 a]]);have al:=h.mut (bK.mut _) (h.dj.aK bK);simp-implicitDefEqProofs(disch:=try exact ag) only[bj,bO,am,dy,aQ,dy,Nat.reduceAdd,Nat.reduceLeDiff,reduceIte,I.cells,eu,fl,dD,fE,J.h8,lW,yc];refine aY (Qr al.dj at_ e a N3) ?_;rintro _ dc ⟨rfl,m5,iv⟩;refine⟨m5.1,?_⟩;have aB:=al.mut m5 iv;have gu:eC dc (bG n2) kq bv:=(uC.bo (fD.aK (aR.push cQ _) λl ax=>(by unfold bG at*;omega:bG n2 l))).bo (fD.mut m5 (by unfold bG;omega) λ_ h=>h);generalize oz at_ e a s=jI at iv aB ⊢
  have jD:=aB.cell;have nI:=iv.rd;unfold iw at nI;have aG:=aB.rest dj (rest':=[.bool aO,.str fC,.int .i64 rd,bv,.int .i64 et]);have qk:eC (dc.set c (.row false 7 [.str nm::v::[.bool aO,.str fC,.int .i64 rd,bv,.int .i64 et]])) (bG n2) kq bv:=gu.bo (fD.set _ (by unfold bG;omega) λ_ h=>h);have Ng:=qk.gq;have YP:=j_ Ng;simp only[I.cells] at YP;have tr:=J.aW jD;simp-implicitDefEqProofs(disch:=try exact ag) only[bj,bO,am,dy,aQ,dy,Nat.reduceAdd,Nat.reduceLeDiff,reduceIte,I.cells,eu,fl,dD,fE,jD,YP,Ng];have CS:=aG.cell;have mW:=aG.dj.rd;unfold iw at mW;generalize dc.set c (.row false 7 [.str nm::v::[.bool aO,.str fC,.int .i64 rd,bv,.int .i64 et]])=gK at aG qk CS mW ⊢
  have Fw:=aG.ho.one;have df:=dj.b9.one;obtain⟨cx,eM,eB⟩:=dj.one;have Fi:=aG.dj.lt;obtain⟨dr,H',gU,ii,f1,f2,f3,f4,f5⟩:=grow (r:=r) (K:=gN) Hv b3 aG.m c3 h0 (a:=⟨nm,l,aO,fC,rd,kq,et⟩) (cs:=[.str nm,v,.bool aO,.str fC,.int .i64 rd,bv,.int .i64 et]) (n2:=n2) ⟨v,bv,rfl,aG.ho.aM,qk⟩ Z Z;have fe:=ue Hv gK.next (cs:=[.str nm,v,.bool aO,.str fC,.int .i64 rd,bv,.int .i64 et]) rfl (by simp only[List.all_cons,List.all_nil,jJ,iy,yN,Fw,Ng,Bool.and_self])
  have h6:gN.esz=7:=rfl;rw[h6] at gU;have dS:cd (some ci) ci=true:=b3.rd;have hc:=j_ ii;simp only[I.cells] at hc;have iQ:H'.get r=some (.row false 7 [[aj,.int .i64 jI.at_,ch,cf,ci,.int .i64 jI.aA,.int .i64 jI.cw]]):=by rw[f3];exact mW
  have EC:=J.aW iQ;have uA:(gK.push (.row false 7 [[.str nm,v,.bool aO,.str fC,.int .i64 rd,bv,.int .i64 et]])).next<=H'.next:=by simp only[J.b6];exact f2
  simp-implicitDefEqProofs(disch:=try exact ag) only[bj,bO,am,dy,aQ,dy,Nat.reduceAdd,Nat.reduceLeDiff,reduceIte,I.cells,eu,fl,dD,fE,nI,CS,mW,fe,gU,ks,dS,hc,iQ,ii,df,cx,eM,eB,Fw];have sn:=f5 (.row false 7 [[aj,.int .i64 jI.at_,ch,cf,dr,.int .i64 jI.aA,.int .i64 jI.cw]]);refine a8.2 ⟨sn,ch,cf,dr,(λk=>cS k/\k<H1.next),(λk=>dq k/\k<H1.next),_,?_,bC,?_,?_,f1 _,?_,?_,?_⟩
  ·exact dj.Mj bC sn (J.get_set_same EC) iv.a0 iv.bd iv.z iv.o ⟨cx,eM,ii⟩
  ·exact c_.bo λk b ah g=>by
    have:=J.aW g;have:=(bJ k ah).1;exact⟨⟨ah,Z⟩,f4 k b (λh=>(bJ k ah).2.2 h) Z Z g _⟩
  ·exact cD.bo λk b ah g=>by
    have:=J.aW g;have:=(c2 k ah).1;exact⟨⟨ah,Z⟩,f4 k b (λh=>(c2 k ah).2 h) Z Z g _⟩
  ·exact λk ah=>⟨(bJ k ah.1).1,λh=>(bJ k ah.1).2.1 h.1,λh=>h.elim (bJ k ah.1).2.2 (λh=>by have:=ah.2;omega)⟩
  ·exact λk ah=>⟨(c2 k ah.1).1,λh=>h.elim (c2 k ah.1).2 (λh=>by have:=ah.2;omega)⟩
  ·rintro k (ah|ah)
   ·exact c3 k ah
   ·omega
 ·have mi:(s.aA != 0)=true:=by simpa using a6
  rw[show oy T g nm et l (aO,fC,rd) s=(g,s) from if_pos a6];simp-implicitDefEqProofs(disch:=try exact ag) only[bj,bO,mi];have iS: ∀ok:Nat->Prop,(∀k,ok k->r<k)->d_ H1 ok bl (λk=>ok k):=λok ah k x bs g=>by
   have:=J.aW g;have:=ah k bs;exact⟨bs,h.m.get g Z⟩
  refine a8.2 ?_;refine⟨nR.sn h.m h0,ch,cf,ci,cS,dq,dP,h.dj,bC,c_.bo (iS cS λk ah=>(bJ k ah).1),cD.bo (iS dq λk ah=>(c2 k ah).1),b3.bo (iS dP c3),bJ,c2,c3⟩
end
end
section
section
variable {H H' H1:J}{r:Nat}{T:List Tok}{aj ch cf ci:I}{s s':aw}
structure Oa(H1:J)(r:Nat)(T:List Tok)(aj ch cf ci:I)(g:eb)(cS dq dP:Nat->Prop)(s0:aw):Prop where
 dj:fJ H1 r T aj ch cf ci s0
 bC: ∀l i n e c,aj= .aM l i n e c->l<r
 c_:fF gQ cS H1 g.ey ch
 cD:fF ga dq H1 g.globals cf
 b3:fF gN dP H1 g.funcs ci
 bJ: ∀k,cS k->r<k/\ ¬dq k/\ ¬dP k
 c2: ∀k,dq k->r<k/\ ¬dP k
 c3: ∀k,dP k->r<k
 ax:g.funcs.length<=900000000
theorem We{N:Nat}(aH:hq T){g:eb}{cS dq dP:Nat->Prop}{s0:aw}(B:Oa H1 r T aj ch cf ci g cS dq dP s0){c n2:Nat}{nm:bk}{et:Int}{l:List dW}{v:I}(h:jv H1 H r c n2 7 T aj ch cf ci (.str nm) [.bool false,.str [],.int .i64 0,.an,.int .i64 et] l v s):
  W (vj (au P ao) N (.ptr r 0 0) (.ptr c 0 0) H) λ_ H'=>tl r H1 H'/\nS H' r T aj (oy T g nm et l (j0 T s).1 (j0 T s).2).1 (oy T g nm et l (j0 T s).1 (j0 T s).2).2:=by
 rw[vj];refine aY (yD aH h.dj [41]) ?_;rintro _ bl ⟨rfl,m2,e3⟩;refine⟨m2.1,?_⟩;have aa:=h.mut m2 e3;unfold j0;generalize (cY T [41] s).2=s2 at aa e3 ⊢;refine aY (JW aH e3 (k:=4) cl [58]) ?_;rintro _ cQ ⟨rfl,m3,gk⟩;refine⟨m3.1,?_⟩;have ae:=aa.mut m3 gk;generalize fg T 4 [58] s2=q at ae gk ⊢;obtain⟨b,jH⟩:=q;simp only at ae gk ⊢;cases b with
 |false=>
  simp-implicitDefEqProofs(disch:=try exact ag) only[bj,bO];exact Wf aH B.dj B.bC B.c_ B.cD B.b3 B.bJ B.c2 B.c3 B.ax ae
 |true=>
  simp-implicitDefEqProofs(disch:=try exact ag) only[bj,bO];refine aY (Sl aH gk) ?_;rintro _ cu ⟨rfl,m4,nh⟩;refine⟨m4.1,?_⟩;have al:=ae.mut m4 nh;generalize nB T jH=o at al nh ⊢;obtain⟨⟨x,d⟩,qA⟩:=o;simp only at al nh ⊢;have iD:=al.cell;have hO:=J.aW iD;have aG:=al.rest B.dj (rest':=[.bool true,.str x,.int .i64 d,.an,.int .i64 et]);simp-implicitDefEqProofs(disch:=try exact ag) only[bj,bO,am,dy,aQ,dy,Nat.reduceAdd,Nat.reduceLeDiff,reduceIte,I.cells,eu,fl,dD,fE,iD];exact Wf aH B.dj B.bC B.c_ B.cD B.b3 B.bJ B.c2 B.c3 B.ax aG
theorem Tw{N:Nat}(aH:hq T){g:eb}{cS dq dP:Nat->Prop}{s0:aw}(B:Oa H1 r T aj ch cf ci g cS dq dP s0){c n2:Nat}{nm:bk}{et:Int}{l':List dW}:
  ∀(n m:Nat) (H:J) (s:aw) (l:List dW) (v:I),n<m->l.length+n<=900000000->jv H1 H r c n2 7 T aj ch cf ci (.str nm) [.bool false,.str [],.int .i64 0,.an,.int .i64 et] l v s->pH T n l s=some (l',s')->
   W (zj (au P ao) N m (.ptr r 0 0) (.ptr c 0 0) H) λ_ H'=>tl r H1 H'/\nS H' r T aj (oy T g nm et l' (j0 T s').1 (j0 T s').2).1 (oy T g nm et l' (j0 T s').1 (j0 T s').2).2
 |_,0,_,_,_,_,aV,_,_,_=>Z
 |0,m+1,_,_,_,_,_,_,_,ak=>by cases ak
 |n+1,m+1,H,s,l,v,aV,ay,h,ak=>by
  rw[pH] at ak;rw[zj];unfold Ha;refine aY (JW aH h.dj (k:=4) cl [44]) ?_;rintro _ cQ ⟨rfl,m3,gk⟩;refine⟨m3.1,?_⟩;have ae:=h.mut m3 gk;generalize fg T 4 [44] s=q at ae gk ak ⊢;obtain⟨b,jH⟩:=q;simp only at ae gk ak ⊢;cases b with
  |false=>
   rw[bi] at ak;cases ak;simp-implicitDefEqProofs(disch:=try exact ag) only[bj,bO];exact We aH B ae
  |true=>
   rw[bx] at ak;simp-implicitDefEqProofs(disch:=try exact ag) only[bj,bO];refine aY (PG aH (by rfl) B.dj ae Z) ?_;rintro _ cu ⟨hm,dr,al⟩;exact⟨hm,Tw aH B n m cu _ _ dr Z (by simp only[l6,List.length_append,List.length_cons,List.length_nil];omega) al ak⟩
theorem aao(aH:hq T){g:eb}{n:Nat}(aV:n<=800000000)(h:nS H r T aj g s)(ax:g.funcs.length<=900000000)(ah:(aq T s.at_).kind≠0){g':eb}(ak:wN T n g s=some (g',s')):W (au P ao 22 [.ptr r 0 0] H) λ_ H'=>tl r H H'/\nS H' r T aj g' s':=by
 refine cU (λ_=>alS (n+1)) ?_;obtain⟨ch,cf,ci,cS,dq,dP,dj,bC,c_,cD,b3,bJ,c2,c3⟩:=h;have B:Oa H r T aj ch cf ci g cS dq dP s:=⟨dj,bC,c_,cD,b3,bJ,c2,c3,ax⟩;have lW:=dj.rd;unfold iw at lW;have i_:=λH'=>b3.vF H'
 have h0:=dj.lt;simp-implicitDefEqProofs(disch:=try exact ag) only[IM,reduceAdd,reduceLeDiff,reduceIte,az,lW,i_];refine aY (DH dj true _ _) ?_;rintro _ bl ⟨rfl,m2,e3⟩;refine⟨m2.1,?_⟩;unfold wN at ak;have qn:(aq T (gP T true (g.funcs.length:Int) 16 s).at_).kind≠0:=by rw[K6];exact ah
 generalize gP T true (g.funcs.length:Int) 16 s=s2 at e3 ak qn;have cJ:=e3.rd;unfold iw at cJ;have df:=e3.b9.one;obtain⟨dk,dJ,eL⟩:=e3.one;have lV:=e3.lt;obtain⟨m3,gk⟩:=LJ aH e3 qn;simp-implicitDefEqProofs(disch:=try exact ag) only[reduceAdd,reduceLeDiff,reduceIte,az,cJ,df,dk,dJ,eL];generalize aE s2=jH at gk ak;generalize bl.set r (.row false 7 [[aj,.int .i64 (IntKind.i64.wrap (s2.at_+1)),ch,cf,ci,.int .i64 s2.aA,.int .i64 s2.cw]])=cQ at m3 gk ⊢;refine aY (Ke aH gk) ?_;rintro _ cu ⟨rfl,m4,nh⟩;refine⟨m4.1,?_⟩;generalize hQ T jH=q at nh ak ⊢;obtain⟨⟨k,x,z,p⟩,qA⟩:=q;simp only at nh ak;have eN:=aR.push cu (.row false 4 [[.int .i64 k,.str x,.int .i64 z,.int .i64 p]])
 have jD:=J.ca cu (.row false 4 [[.int .i64 k,.str x,.int .i64 z,.int .i64 p]]);simp-implicitDefEqProofs(disch:=try exact ag) only[bj,bO,am,dy,aQ,dy,Nat.reduceAdd,Nat.reduceLeDiff,reduceIte,I.cells,eu,fl,dD,fE,fE,J.h8,Tok.v];have xQ:=(m2.trans m3).trans m4;have Fm:=xQ.1;have iv:=nh.aK eN;have nV:(cu.push (.row false 4 [[.int .i64 k,.str x,.int .i64 z,.int .i64 p]])).next=cu.next+1:=by simp only[J.b6]
 generalize cu.push (.row false 4 [[.int .i64 k,.str x,.int .i64 z,.int .i64 p]])=dc at eN jD iv nV ⊢;have gC:=aR.push dc (.row false 7 [[.str x,.an,.bool false,.str [],.int .i64 0,.an,.int .i64 p]]);have Y6:=eN.1;have F8:jv H (dc.push (.row false 7 [[.str x,.an,.bool false,.str [],.int .i64 0,.an,.int .i64 p]])) r (cu.next+1) (cu.next+2) 7 T aj ch cf ci (.str x) [.bool false,.str [],.int .i64 0,.an,.int .i64 p] [] .an qA:=
  ⟨iv.aK gC,by rw[<-nV];exact J.ca _ _,fF.nil,cB.A2 (xQ.trans ((eN.trans gC).mut _)),h0,Z,Z,by simp only[J.b6];omega⟩
 refine aY (yD aH F8.dj [40]) ?_;rintro _ fY ⟨rfl,m7,ID⟩;refine⟨m7.1,?_⟩;have C8:=F8.mut m7 ID;obtain⟨⟨l',pA⟩,g1,g2⟩:=hL ak;simp only[bD] at g2;have fv:g'=(oy T g x p l' (j0 T pA).1 (j0 T pA).2).1:=by rw[g2]
 have hF:s'=(oy T g x p l' (j0 T pA).1 (j0 T pA).2).2:=by rw[g2]
 rw[fv,hF];generalize (cY T [40] qA).2=j9 at C8 ID g1;refine aY (BI C8.dj 4 [41]) ?_;rintro _ jG ⟨rfl,je⟩;refine⟨je.1,?_⟩;have FE:=C8.mut (je.mut _) (C8.dj.aK je);unfold yJ at g1;cases ay:b4 T j9 4 [41] with
 |true=>
  rw[ay,bx] at g1;cases g1;simp-implicitDefEqProofs(disch:=try exact ag) only[bj,bO,Bool.not_true];exact We aH B FE
 |false=>
  rw[ay,bi] at g1;simp-implicitDefEqProofs(disch:=try exact ag) only[bj,bO,Bool.not_false];refine aY (PG aH (by rfl) B.dj FE (by simp)) ?_;rintro _ gK ⟨hm,dr,bH⟩;exact⟨hm,Tw aH B n (n+1) gK _ _ dr Z (by simp only[l6,List.length_append,List.length_cons,List.length_nil];omega) bH g1⟩
end
end
section
set_option maxRecDepth 100000
noncomputable section
def rH(G:av)(N:Nat)(Y aC a_:I)(H:J):O:=
 bj P .len [9] [Y] H λft=>
 ab (cM P 57 [(0,(.int .i64 0)),(3,ft)]) λe7=>
 dA H (dH P (H).next 50 1 [(0,e7)]) λfy U=>
 aL U (fM P U [50,50] a_ fy) λfW aa=>
 a1 aa (aQ P aa 29 aC (.agg [(.int .i64 0),(.int .i64 0)])) λae=>
 ab (am P ae 29 aC) λr=>
 some (.tuple [fW,r],ae)
theorem aei(G:av)(N:Nat): ∀R H,cA P G N (Code.snd (Code.snd (Code.snd (Code.snd (Code.snd (di Tryz.f24)))))) (b_ Tryz.f24) [] (b_ Tryz.f24) R H=rH G N (R 0) (R 3) (R 4) H:=by
 refine ds (aN _) λR H=> ?_
 delta rH;kernel_rfl
def tR(bE:I->I->I->I->J->O)(Y aC:I)(ep ej:I)(aG:J):O:=
 bE Y aC ep ej aG
def vk(G:av)(N:Nat)(bE:I->I->I->I->J->O)(Y aC:I)(a_ bf:I)(H:J):O:=
 bj P .len [9] [Y] H λbI=>
 ab (aZ P .lss 3 false bf bI) λcc=>
 bQ (some cc) (aL H (G 58 [Y,bf] H) λcz U=>
 ab (gf cz 0) λc7=>
 ab (gf cz 1) λcI=>
 cv U [(.int .i64 0),(.str []),(.int .i64 0),(.int .i64 0)] λbB aa=>
 a1 aa (aQ P aa 57 bB c7) λae=>
 ab (aZ P .eql 3 true cI (.int .i64 0)) λdn=>
 bQ (some dn) (ab (cM P 29 [(0,(.int .i64 1)),(1,bf)]) λdh=>
 a1 ae (aQ P ae 29 aC dh) λal=>
 ab (am P al 29 aC) λr=>
 some (.tuple [I.an,r],al)) (ab (am P ae 57 bB) λdI=>
 dA ae (dH P (ae).next 50 1 [(0,dI)]) λcH al=>
 aL al (fM P al [50,50] a_ cH) λep aB=>
 ab (aZ P .add 3 false bf cI) λeg=>
 aL aB (G 57 [Y,eg] aB) (tR bE Y aC ep))) (rH G N Y aC a_ H)
def xg(G:av)(N:Nat):Nat->I->I->I->I->J->O
 |0,_,_,_,_,_=>none
 |n+1,Y,aC,a_,bf,H=>vk G N (xg G N n) Y aC a_ bf H
theorem aeh(G:av)(N:Nat)(bE:I->I->I->I->J->O): ∀R H,cA P G N (Code.fst (Code.fst (Code.fst (Code.snd (Code.snd (Code.snd (Code.snd (di Tryz.f24)))))))) (λR H=>bE (R 0) (R 3) (R 4) (R 5) H) [(0,(λR H=>rH G N (R 0) (R 3) (R 4) H))] (b_ Tryz.f24) R H=vk G N bE (R 0) (R 3) (R 4) (R 5) H:=by
 refine ds (aN _) λR H=> ?_
 delta vk tR;generalize rH G N=ba;revert ba;refine id ?_;intro ba;kernel_rfl
def tS(G:av)(N:Nat)(Y aC b0:I)(aa:J):O:=
 xg G N N Y aC I.an b0 aa
def uK(G:av)(N:Nat)(Y:I)(H:J):O:=
 cv H [(.int .i64 0),(.int .i64 0)] λaC U=>
 bj P .len [9] [Y] U λbF=>
 ab (aZ P .gtr 3 true bF (.int .i64 6000)) λcr=>
 bQ (some cr) (a1 U (aQ P U 29 aC (.agg [(.int .i64 4),(.int .i64 0)])) λaa=>
 ab (am P aa 29 aC) λr=>
 some (.tuple [I.an,r],aa)) (aL U (G 57 [Y,(.int .i64 0)] U) (tS G N Y aC))
theorem ajT(G:av)(N:Nat)(Y:I)(H:J):bp Tryz.f24 G N (cF [Y]) H=uK G N Y H:=by
 refine cP (A:=bp Tryz.f24 G N) ((br ad ((br ad ((br ad ((br ad ((br ad (aei G N) ((fL ad ((gD (k:=λm R H=>xg G N m (R 0) (R 3) (R 4) (R 5) H) ad (λR H=>ad) (λm=>aeh G N (xg G N m)))))))) (aN _))) (aN _))) (aN _))) (aN _))) ?_;delta uK tS;generalize xg G N N=ba;revert ba;refine id ?_;intro ba;kernel_rfl
theorem alU(N:Nat){Y:I}{H:J}{r:I×J}(h:uK (au P ao) N Y H=some r):au P ao 24 [Y] H=some r:=
 cV ad Tryz.func24 ad ad ad ((ajT (au P ao) N Y H).trans h)
def ns(G:av)(N:Nat)(ai:I)(H:J):O:=
 some (ai,H)
theorem aeF(G:av)(N:Nat): ∀R H,cA P G N (Code.snd (Code.snd (di Tryz.f57))) (b_ Tryz.f57) [] (b_ Tryz.f57) R H=ns G N (R 1) H:=by
 refine ds (aN _) λR H=> ?_
 delta ns;kernel_rfl
def B5(G:av)(N:Nat)(bE:I->I->J->O)(h2:I->I->J->O)(Y ai:I)(H:J):O:=
 bj P .len [9] [Y] H λhV=>
 ab (aZ P .lss 3 false ai hV) λgx=>
 aD gx true H (dw Y) λjQ U=>
 aD gx true U (dw ai) λiR aa=>
 aD gx true aa (bm (hP P 9 jQ iR)) λnL ae=>
 aD gx true ae (bm (aZ P .neq 5 true nL (.int .u8 10))) λwx al=>
 ab (cW gx (some wx) (some (.bool false))) λkR=>
 bQ (some kR) (ab (aZ P .add 3 true ai (.int .i64 1)) λjF=>
 h2 Y jF al) (bE Y ai al)
def vr(G:av)(N:Nat)(bE:I->I->J->O):Nat->I->I->J->O
 |0,_,_,_=>none
 |n+1,Y,ai,H=>B5 G N bE (vr G N bE n) Y ai H
theorem aeE(G:av)(N:Nat)(bE:I->I->J->O)(h2:I->I->J->O): ∀R H,cA P G N (Code.fst (Code.fst (Code.fst (Code.snd (Code.snd (Code.snd (Code.fst (Code.fst (Code.snd (Code.fst (Code.fst (Code.fst (Code.snd (di Tryz.f57)))))))))))))) (λR H=>h2 (R 0) (R 1) H) [(3,(λR H=>bE (R 0) (R 1) H)),(2,(λR H=>bE (R 0) (R 1) H)),(1,(λR H=>bE (R 0) (R 1) H)),(0,(λR H=>ns G N (R 1) H))] (b_ Tryz.f57) R H=B5 G N bE h2 (R 0) (R 1) H:=by
 refine ds (aN _) λR H=> ?_
 delta B5;generalize bE=ba;revert ba;refine id ?_;intro ba;kernel_rfl
def sJ(G:av)(N:Nat)(bE:I->I->J->O)(Y ai:I)(H:J):O:=
 bj P .len [9] [Y] H λbu=>
 ab (aZ P .lss 3 false ai bu) λbS=>
 bQ (some bS) (ab (hP P 9 Y ai) λb0=>
 ab (aZ P .eql 5 true b0 (.int .u8 32)) λbT=>
 aD bT false H (dw Y) λbI U=>
 aD bT false U (dw ai) λcc aa=>
 aD bT false aa (bm (hP P 9 bI cc)) λcG ae=>
 aD bT false ae (bm (aZ P .eql 5 true cG (.int .u8 9))) λc6 al=>
 ab (cW bT (some (.bool true)) (some c6)) λcN=>
 aD cN false al (dw Y) λc7 aB=>
 aD cN false aB (dw ai) λcI aG=>
 aD cN false aG (bm (hP P 9 c7 cI)) λdb aP=>
 aD cN false aP (bm (aZ P .eql 5 true db (.int .u8 10))) λdn bn=>
 ab (cW cN (some (.bool true)) (some dn)) λdu=>
 aD du false bn (dw Y) λdT bH=>
 aD du false bH (dw ai) λdI co=>
 aD du false co (bm (hP P 9 dT dI)) λcH dp=>
 aD du false dp (bm (aZ P .eql 5 true cH (.int .u8 13))) λep dR=>
 ab (cW du (some (.bool true)) (some ep)) λdV=>
 bQ (some dV) (ab (aZ P .add 3 true ai (.int .i64 1)) λe6=>
 bE Y e6 dR) (bj P .len [9] [Y] dR λed=>
 ab (aZ P .sub 3 false ed ai) λft=>
 ab (aZ P .geq 3 true ft (.int .i64 2)) λe7=>
 aD e7 true dR (dw Y) λfW eF=>
 aD e7 true eF (dw ai) λgv fs=>
 aD e7 true fs (dw ai) λeU fP=>
 aD e7 true fP (bm (aZ P .add 3 true eU (.int .i64 2))) λgw gG=>
 aD e7 true gG (bm (kh P 9 fW (some gv) (some gw) none)) λgb hM=>
 aD e7 true hM (bm (aZ P .eql 9 true gb (.str [47,47]))) λgS ht=>
 ab (cW e7 (some gS) (some (.bool false))) λju=>
 bQ (some ju) (vr G N bE N Y ai ht) (some (ai,ht)))) (ns G N ai H)
def ou(G:av)(N:Nat):Nat->I->I->J->O
 |0,_,_,_=>none
 |n+1,Y,ai,H=>sJ G N (ou G N n) Y ai H
theorem aeD(G:av)(N:Nat)(bE:I->I->J->O): ∀R H,cA P G N (Code.fst (Code.fst (Code.fst (Code.snd (di Tryz.f57))))) (λR H=>bE (R 0) (R 1) H) [(0,(λR H=>ns G N (R 1) H))] (b_ Tryz.f57) R H=sJ G N bE (R 0) (R 1) H:=by
 refine ds ((br ad ((fL ad ((fL ad ((br ad ((qF ad (aN _) ((br ad ((qF ad ((fL ad ((gD (k:=λm R H=>vr G N bE m (R 0) (R 1) H) ad (λR H=>ad) (λm=>aeE G N bE (vr G N bE m)))))) (aN _))) (aN _))))) (aN _))))))) (aN _))) λR H=> ?_
 delta sJ;generalize ns G N=ba;generalize vr G N bE N=lZ;revert ba lZ;refine id ?_;intro ba lZ;kernel_rfl
def po(G:av)(N:Nat)(Y ai:I)(H:J):O:=
 ou G N N Y ai H
theorem akk(G:av)(N:Nat)(Y:I)(ai:I)(H:J):bp Tryz.f57 G N (cF [Y,ai]) H=po G N Y ai H:=by
 refine cP (A:=bp Tryz.f57 G N) ((br ad ((br ad (aeF G N) ((fL ad ((gD (k:=λm R H=>ou G N m (R 0) (R 1) H) ad (λR H=>ad) (λm=>aeD G N (ou G N m)))))))) (aN _))) ?_;delta po;generalize ou G N N=ba;revert ba;refine id ?_;intro ba;kernel_rfl
theorem aml(N:Nat){Y ai:I}{H:J}{r:I×J}(h:po (au P ao) N Y ai H=some r):au P ao 57 [Y,ai] H=some r:=
 cV ad Tryz.func57 ad ad ad ((akk (au P ao) N Y ai H).trans h)
def jE(G:av)(Y ai:I)(H:J):O:=
 cv H [(.int .i64 0),(.str []),(.int .i64 0),(.int .i64 0)] λa_ U=>
 ab (hP P 9 Y ai) λbX=>
 aL U (G 76 [bX] U) λbI aa=>
 bQ (some bI) (aL aa (G 77 [Y,ai,(.bool false)] aa) λc6 ae=>
 ab (aZ P .add 3 false ai c6) λdb=>
 ab (kh P 9 Y (some ai) (some db) none) λdn=>
 aL ae (G 78 [dn] ae) λdh al=>
 bQ (some dh) (ab (cM P 57 [(0,(.int .i64 3)),(1,dn),(3,ai)]) λcH=>
 a1 al (aQ P al 57 a_ cH) λaB=>
 ab (am P aB 57 a_) λr=>
 some (.tuple [r,c6],aB)) (aL al (G 79 [dn] al) λef aB=>
 bQ (some ef) (ab (cM P 57 [(0,(.int .i64 1)),(1,dn),(3,ai)]) λej=>
 a1 aB (aQ P aB 57 a_ ej) λaG=>
 ab (am P aG 57 a_) λr=>
 some (.tuple [r,c6],aG)) (a1 aB (aQ P aB 57 a_ (.agg [(.int .i64 0),(.str []),(.int .i64 0),(.int .i64 0)])) λaG=>
 ab (am P aG 57 a_) λr=>
 some (.tuple [r,(.int .i64 0)],aG)))) (ab (hP P 9 Y ai) λfW=>
 aL aa (G 80 [fW] aa) λgv ae=>
 bQ (some gv) (aL ae (G 77 [Y,ai,(.bool true)] ae) λgb al=>
 ab (aZ P .add 3 false ai gb) λgx=>
 ab (kh P 9 Y (some ai) (some gx) none) λkm=>
 aL al (G 81 [km] al) λjQ aB=>
 ab (gf jQ 0) λiR=>
 ab (gf jQ 1) λnL=>
 ab (fh .not nL) λkR=>
 aD kR false aB (dw gb) λjF aG=>
 aD kR false aG (bm (aZ P .gtr 3 true jF (.int .i64 1))) λrc aP=>
 aD kR false aP (dw rc) λjR bn=>
 aD jR true bn (dw Y) λlq bH=>
 aD jR true bH (dw ai) λnN co=>
 aD jR true co (bm (hP P 9 lq nN)) λmw dp=>
 aD jR true dp (bm (aZ P .eql 5 true mw (.int .u8 48))) λoN dR=>
 aD kR false dR (bm (cW jR (some oN) (some (.bool false)))) λpq eF=>
 ab (cW kR (some (.bool true)) (some pq)) λhn=>
 aD hn false eF (dw ai) λAN fs=>
 aD hn false fs (dw gb) λnO fP=>
 aD hn false fP (bm (aZ P .add 3 false AN nO)) λpr gG=>
 aD hn false gG (dw Y) λmY hM=>
 aD hn false hM (λq=>ia (dC P .empty .len [9] [mY]) (dC P hM .len [9] [mY]) q) λnP ht=>
 aD hn false ht (bm (aZ P .lss 3 false pr nP)) λwy kL=>
 aD hn false kL (dw wy) λqq iC=>
 aD qq true iC (dw Y) λuP hU=>
 aD qq true hU (dw ai) λAO kM=>
 aD qq true kM (dw gb) λuQ hB=>
 aD qq true hB (bm (aZ P .add 3 false AO uQ)) λqs pd=>
 aD qq true pd (bm (hP P 9 uP qs)) λre lR=>
 aD qq true lR (λq=>fo lR (G 76 [re] lR) q) λrf mP=>
 aD hn false mP (bm (cW qq (some rf) (some (.bool false)))) λAP qh=>
 ab (cW hn (some (.bool true)) (some AP)) λrh=>
 bQ (some rh) (a1 qh (aQ P qh 57 a_ (.agg [(.int .i64 0),(.str []),(.int .i64 0),(.int .i64 0)])) λlS=>
 ab (am P lS 57 a_) λr=>
 some (.tuple [r,(.int .i64 0)],lS)) (ab (cM P 57 [(0,(.int .i64 2)),(2,iR),(3,ai)]) λwz=>
 a1 qh (aQ P qh 57 a_ wz) λlS=>
 ab (am P lS 57 a_) λr=>
 some (.tuple [r,gb],lS))) (aL ae (G 82 [Y,ai] ae) λAQ al=>
 ab (aZ P .eql 9 true AQ (.str [])) λFT=>
 bQ (some FT) (a1 al (aQ P al 57 a_ (.agg [(.int .i64 0),(.str []),(.int .i64 0),(.int .i64 0)])) λaB=>
 ab (am P aB 57 a_) λr=>
 some (.tuple [r,(.int .i64 0)],aB)) (ab (cM P 57 [(0,(.int .i64 4)),(1,AQ),(3,ai)]) λqu=>
 bj P .len [9] [AQ] al λvV=>
 a1 al (aQ P al 57 a_ qu) λaB=>
 ab (am P aB 57 a_) λr=>
 some (.tuple [r,vV],aB))))
theorem akl(G:av)(N:Nat)(Y:I)(ai:I)(H:J):bp Tryz.f58 G N (cF [Y,ai]) H=jE G Y ai H:=by
 refine cP (A:=bp Tryz.f58 G N) (aN _) ?_;delta jE;kernel_rfl
theorem amm(N:Nat){Y ai:I}{H:J}{r:I×J}(h:jE (au P ao) Y ai H=some r):au P ao 58 [Y,ai] H=some r:=
 cV ad Tryz.func58 ad ad ad ((akl (au P ao) N Y ai H).trans h)
def I6(G:av)(Y:I)(H:J):O:=
 ab (aZ P .geq 5 true Y (.int .u8 97)) λa_=>
 aD a_ true H (dw Y) λbB U=>
 aD a_ true U (bm (aZ P .leq 5 true bB (.int .u8 122))) λbu aa=>
 ab (cW a_ (some bu) (some (.bool false))) λbS=>
 aD bS false aa (dw Y) λcr ae=>
 aD bS false ae (bm (aZ P .geq 5 true cr (.int .u8 65))) λb8 al=>
 aD bS false al (dw b8) λcb aB=>
 aD cb true aB (dw Y) λb0 aG=>
 aD cb true aG (bm (aZ P .leq 5 true b0 (.int .u8 90))) λbT aP=>
 aD bS false aP (bm (cW cb (some bT) (some (.bool false)))) λbX bn=>
 ab (cW bS (some (.bool true)) (some bX)) λbI=>
 some (bI,bn)
theorem akB(G:av)(N:Nat)(Y:I)(H:J):bp Tryz.f76 G N (cF [Y]) H=I6 G Y H:=by
 refine cP (A:=bp Tryz.f76 G N) (aN _) ?_;delta I6;kernel_rfl
theorem amC(N:Nat){Y:I}{H:J}{r:I×J}(h:I6 (au P ao) Y H=some r):au P ao 76 [Y] H=some r:=
 cV ad Tryz.func76 ad ad ad ((akB (au P ao) N Y H).trans h)
def rI(G:av)(N:Nat)(bu:I)(H:J):O:=
 some (bu,H)
theorem aeR(G:av)(N:Nat): ∀R H,cA P G N (Code.snd (Code.snd (Code.snd (di Tryz.f77)))) (b_ Tryz.f77) [] (b_ Tryz.f77) R H=rI G N (R 7) H:=by
 refine ds (aN _) λR H=> ?_
 delta rI;kernel_rfl
def t_(G:av)(N:Nat)(bE:I->I->I->I->J->O)(Y ai:I)(ap bu:I)(H:J):O:=
 ab (aZ P .add 3 false ai bu) λcr=>
 bj P .len [9] [Y] H λcb=>
 ab (aZ P .lss 3 false cr cb) λb0=>
 aD b0 true H (dw Y) λbX U=>
 aD b0 true U (dw ai) λbI aa=>
 aD b0 true aa (dw bu) λcc ae=>
 aD b0 true ae (bm (aZ P .add 3 false bI cc)) λcG al=>
 aD b0 true al (bm (hP P 9 bX cG)) λc6 aB=>
 aD b0 true aB (λq=>fo aB (G 80 [c6] aB) q) λcN aG=>
 aD b0 true aG (dw cN) λcz aP=>
 aD cz false aP (dw ap) λc7 bn=>
 aD cz false bn (bm (fh .not c7)) λcI bH=>
 aD cz false bH (dw cI) λdb co=>
 aD db true co (dw Y) λdn dp=>
 aD db true dp (dw ai) λdu dR=>
 aD db true dR (dw bu) λdh eF=>
 aD db true eF (bm (aZ P .add 3 false du dh)) λdT fs=>
 aD db true fs (bm (hP P 9 dn dT)) λdI fP=>
 aD db true fP (λq=>fo fP (G 76 [dI] fP) q) λcH gG=>
 aD cz false gG (bm (cW db (some cH) (some (.bool false)))) λep hM=>
 aD b0 true hM (bm (cW cz (some (.bool true)) (some ep))) λdV ht=>
 ab (cW b0 (some dV) (some (.bool false))) λef=>
 bQ (some ef) (ab (aZ P .add 3 true bu (.int .i64 1)) λeg=>
 bE Y ai ap eg ht) (rI G N bu ht)
def vt(G:av)(N:Nat):Nat->I->I->I->I->J->O
 |0,_,_,_,_,_=>none
 |n+1,Y,ai,ap,bu,H=>t_ G N (vt G N n) Y ai ap bu H
theorem aeQ(G:av)(N:Nat)(bE:I->I->I->I->J->O): ∀R H,cA P G N (Code.fst (Code.fst (Code.fst (Code.snd (Code.snd (di Tryz.f77)))))) (λR H=>bE (R 0) (R 1) (R 2) (R 7) H) [(0,(λR H=>rI G N (R 7) H))] (b_ Tryz.f77) R H=t_ G N bE (R 0) (R 1) (R 2) (R 7) H:=by
 refine ds (aN _) λR H=> ?_
 delta t_;generalize rI G N=ba;revert ba;refine id ?_;intro ba;kernel_rfl
def ti(G:av)(N:Nat)(Y ai ap:I)(H:J):O:=
 vt G N N Y ai ap (.int .i64 0) H
theorem akC(G:av)(N:Nat)(Y:I)(ai:I)(ap:I)(H:J):bp Tryz.f77 G N (cF [Y,ai,ap]) H=ti G N Y ai ap H:=by
 refine cP (A:=bp Tryz.f77 G N) ((br ad ((br ad ((br ad (aeR G N) ((fL ad ((gD (k:=λm R H=>vt G N m (R 0) (R 1) (R 2) (R 7) H) ad (λR H=>ad) (λm=>aeQ G N (vt G N m)))))))) (aN _))) (aN _))) ?_;delta ti;generalize vt G N N=ba;revert ba;refine id ?_;intro ba;kernel_rfl
theorem amD(N:Nat){Y ai ap:I}{H:J}{r:I×J}(h:ti (au P ao) N Y ai ap H=some r):au P ao 77 [Y,ai,ap] H=some r:=
 cV ad Tryz.func77 ad ad ad ((akC (au P ao) N Y ai ap H).trans h)
def vu(G:av)(N:Nat)(H:J):O:=
 some ((.bool false),H)
theorem aeT(G:av)(N:Nat): ∀R H,cA P G N (Code.snd (Code.snd (Code.snd (di Tryz.f78)))) (b_ Tryz.f78) [] (b_ Tryz.f78) R H=vu G N H:=by
 refine ds (aN _) λR H=> ?_
 delta vu;kernel_rfl
def zw(G:av)(N:Nat)(bE:I->I->I->J->O)(Y aC a_:I)(H:J):O:=
 bj P .len [48] [aC] H λbS=>
 ab (aZ P .lss 3 false a_ bS) λbF=>
 bQ (some bF) (ab (en P 48 aC a_) λbT=>
 ab (am P H 9 bT) λbX=>
 ab (aZ P .eql 9 false bX Y) λcc=>
 bQ (some cc) (some ((.bool true),H)) (ab (aZ P .add 3 true a_ (.int .i64 1)) λb8=>
 bE Y aC b8 H)) (vu G N H)
def xn(G:av)(N:Nat):Nat->I->I->I->J->O
 |0,_,_,_,_=>none
 |n+1,Y,aC,a_,H=>zw G N (xn G N n) Y aC a_ H
theorem aeS(G:av)(N:Nat)(bE:I->I->I->J->O): ∀R H,cA P G N (Code.fst (Code.fst (Code.snd (Code.fst (Code.snd (Code.snd (di Tryz.f78))))))) (λR H=>bE (R 0) (R 3) (R 4) H) [(0,(λR H=>vu G N H))] (b_ Tryz.f78) R H=zw G N bE (R 0) (R 3) (R 4) H:=by
 refine ds (aN _) λR H=> ?_
 delta zw;generalize vu G N=ba;revert ba;refine id ?_;intro ba;kernel_rfl
def zv(G:av)(N:Nat)(Y bf:I)(U:J):O:=
 xn G N N Y bf (.int .i64 0) U
def yp(G:av)(N:Nat)(Y:I)(H:J):O:=
 aL H (G 108 [] H) (zv G N Y)
theorem akD(G:av)(N:Nat)(Y:I)(H:J):bp Tryz.f78 G N (cF [Y]) H=yp G N Y H:=by
 refine cP (A:=bp Tryz.f78 G N) ((br ad ((br ad ((br ad (aeT G N) ((br ad ((fL ad ((gD (k:=λm R H=>xn G N m (R 0) (R 3) (R 4) H) ad (λR H=>ad) (λm=>aeS G N (xn G N m)))))) (aN _))))) (aN _))) (aN _))) ?_;delta yp zv;generalize xn G N N=ba;revert ba;refine id ?_;intro ba;kernel_rfl
theorem amE(N:Nat){Y:I}{H:J}{r:I×J}(h:yp (au P ao) N Y H=some r):au P ao 78 [Y] H=some r:=
 cV ad Tryz.func78 ad ad ad ((akD (au P ao) N Y H).trans h)
def mG(G:av)(N:Nat)(H:J):O:=
 some ((.bool true),H)
theorem aeV(G:av)(N:Nat): ∀R H,cA P G N (Code.snd (Code.snd (Code.snd (di Tryz.f79)))) (b_ Tryz.f79) [] (b_ Tryz.f79) R H=mG G N H:=by
 refine ds (aN _) λR H=> ?_
 delta mG;kernel_rfl
def oY(G:av)(N:Nat)(bE:I->I->J->O)(Y aC:I)(H:J):O:=
 bj P .len [9] [Y] H λdb=>
 ab (aZ P .lss 3 false aC db) λdn=>
 bQ (some dn) (ab (hP P 9 Y aC) λcH=>
 aL H (G 76 [cH] H) λep U=>
 ab (fh .not ep) λdV=>
 aD dV true U (dw Y) λe6 aa=>
 aD dV true aa (dw aC) λeg ae=>
 aD dV true ae (bm (hP P 9 e6 eg)) λej al=>
 aD dV true al (λq=>fo al (G 80 [ej] al) q) λed aB=>
 aD dV true aB (bm (fh .not ed)) λfj aG=>
 ab (cW dV (some fj) (some (.bool false))) λft=>
 bQ (some ft) (some ((.bool false),aG)) (ab (aZ P .add 3 true aC (.int .i64 1)) λdh=>
 bE Y dh aG)) (mG G N H)
def xo(G:av)(N:Nat):Nat->I->I->J->O
 |0,_,_,_=>none
 |n+1,Y,aC,H=>oY G N (xo G N n) Y aC H
theorem aeU(G:av)(N:Nat)(bE:I->I->J->O): ∀R H,cA P G N (Code.fst (Code.fst (Code.snd (Code.fst (Code.snd (Code.snd (di Tryz.f79))))))) (λR H=>bE (R 0) (R 3) H) [(0,(λR H=>mG G N H))] (b_ Tryz.f79) R H=oY G N bE (R 0) (R 3) H:=by
 refine ds (aN _) λR H=> ?_
 delta oY;generalize mG G N=ba;revert ba;refine id ?_;intro ba;kernel_rfl
def oM(G:av)(N:Nat)(Y:I)(H:J):O:=
 bj P .len [9] [Y] H λbf=>
 ab (aZ P .lss 3 true bf (.int .i64 1)) λbB=>
 aD bB false H (dw Y) λbS U=>
 aD bB false U (λq=>ia (dC P .empty .len [9] [bS]) (dC P U .len [9] [bS]) q) λbF aa=>
 aD bB false aa (bm (aZ P .gtr 3 true bF (.int .i64 8))) λcr ae=>
 ab (cW bB (some (.bool true)) (some cr)) λb8=>
 aD b8 false ae (dw Y) λb0 al=>
 aD b8 false al (bm (hP P 9 b0 (.int .i64 0))) λbT aB=>
 aD b8 false aB (λq=>fo aB (G 76 [bT] aB) q) λbX aG=>
 aD b8 false aG (bm (fh .not bX)) λbI aP=>
 ab (cW b8 (some (.bool true)) (some bI)) λcc=>
 aD cc false aP (dw Y) λc6 bn=>
 aD cc false bn (λq=>fo bn (G 78 [c6] bn) q) λcN bH=>
 ab (cW cc (some (.bool true)) (some cN)) λcz=>
 bQ (some cz) (some ((.bool false),bH)) (xo G N N Y (.int .i64 0) bH)
theorem akE(G:av)(N:Nat)(Y:I)(H:J):bp Tryz.f79 G N (cF [Y]) H=oM G N Y H:=by
 refine cP (A:=bp Tryz.f79 G N) ((br ad ((br ad ((br ad (aeV G N) ((br ad ((fL ad ((gD (k:=λm R H=>xo G N m (R 0) (R 3) H) ad (λR H=>ad) (λm=>aeU G N (xo G N m)))))) (aN _))))) (aN _))) (aN _))) ?_;delta oM;generalize xo G N N=ba;revert ba;refine id ?_;intro ba;kernel_rfl
theorem amF(N:Nat){Y:I}{H:J}{r:I×J}(h:oM (au P ao) N Y H=some r):au P ao 79 [Y] H=some r:=
 cV ad Tryz.func79 ad ad ad ((akE (au P ao) N Y H).trans h)
def I7(G:av)(Y:I)(H:J):O:=
 ab (aZ P .geq 5 true Y (.int .u8 48)) λa_=>
 aD a_ true H (dw Y) λbB U=>
 aD a_ true U (bm (aZ P .leq 5 true bB (.int .u8 57))) λbu aa=>
 ab (cW a_ (some bu) (some (.bool false))) λbS=>
 some (bS,aa)
theorem akF(G:av)(N:Nat)(Y:I)(H:J):bp Tryz.f80 G N (cF [Y]) H=I7 G Y H:=by
 refine cP (A:=bp Tryz.f80 G N) (aN _) ?_;delta I7;kernel_rfl
theorem amG(N:Nat){Y:I}{H:J}{r:I×J}(h:I7 (au P ao) Y H=some r):au P ao 80 [Y] H=some r:=
 cV ad Tryz.func80 ad ad ad ((akF (au P ao) N Y H).trans h)
def xp(G:av)(N:Nat)(a_:I)(H:J):O:=
 some (.tuple [a_,(.bool true)],H)
theorem aeX(G:av)(N:Nat): ∀R H,cA P G N (Code.snd (Code.snd (Code.snd (di Tryz.f81)))) (b_ Tryz.f81) [] (b_ Tryz.f81) R H=xp G N (R 4) H:=by
 refine ds (aN _) λR H=> ?_
 delta xp;kernel_rfl
def B7(G:av)(N:Nat)(bE:I->I->I->J->O)(Y a_ bf:I)(H:J):O:=
 bj P .len [9] [Y] H λbF=>
 ab (aZ P .lss 3 false bf bF) λcr=>
 bQ (some cr) (ab (hP P 9 Y bf) λbX=>
 ab (aZ P .sub 5 true bX (.int .u8 48)) λbI=>
 Me P 5 3 bI H λcc=>
 ab (aZ P .sub 3 true (.int .i64 9223372036854775807) cc) λcN=>
 ab (aZ P .quo 3 true cN (.int .i64 10)) λcz=>
 ab (aZ P .gtr 3 false a_ cz) λc7=>
 bQ (some c7) (some (.tuple [(.int .i64 0),(.bool false)],H)) (ab (aZ P .mul 3 true (.int .i64 10) a_) λdb=>
 ab (aZ P .add 3 false db cc) λdu=>
 ab (aZ P .add 3 true bf (.int .i64 1)) λcb=>
 bE Y du cb H)) (xp G N a_ H)
def vv(G:av)(N:Nat):Nat->I->I->I->J->O
 |0,_,_,_,_=>none
 |n+1,Y,a_,bf,H=>B7 G N (vv G N n) Y a_ bf H
theorem aeW(G:av)(N:Nat)(bE:I->I->I->J->O): ∀R H,cA P G N (Code.fst (Code.fst (Code.snd (Code.fst (Code.snd (Code.snd (di Tryz.f81))))))) (λR H=>bE (R 0) (R 4) (R 5) H) [(0,(λR H=>xp G N (R 4) H))] (b_ Tryz.f81) R H=B7 G N bE (R 0) (R 4) (R 5) H:=by
 refine ds (aN _) λR H=> ?_
 delta B7;generalize xp G N=ba;revert ba;refine id ?_;intro ba;kernel_rfl
def AL(G:av)(N:Nat)(Y:I)(H:J):O:=
 vv G N N Y (.int .i64 0) (.int .i64 0) H
theorem akG(G:av)(N:Nat)(Y:I)(H:J):bp Tryz.f81 G N (cF [Y]) H=AL G N Y H:=by
 refine cP (A:=bp Tryz.f81 G N) ((br ad ((br ad ((br ad (aeX G N) ((br ad ((fL ad ((gD (k:=λm R H=>vv G N m (R 0) (R 4) (R 5) H) ad (λR H=>ad) (λm=>aeW G N (vv G N m)))))) (aN _))))) (aN _))) (aN _))) ?_;delta AL;generalize vv G N N=ba;revert ba;refine id ?_;intro ba;kernel_rfl
theorem amH(N:Nat){Y:I}{H:J}{r:I×J}(h:AL (au P ao) N Y H=some r):au P ao 81 [Y] H=some r:=
 cV ad Tryz.func81 ad ad ad ((akG (au P ao) N Y H).trans h)
def rJ(G:av)(N:Nat)(H:J):O:=
 some ((.str []),H)
theorem ae1(G:av)(N:Nat): ∀R H,cA P G N (Code.snd (Code.snd (Code.snd (Code.snd (Code.snd (di Tryz.f82)))))) (b_ Tryz.f82) [] (b_ Tryz.f82) R H=rJ G N H:=by
 refine ds (aN _) λR H=> ?_
 delta rJ;kernel_rfl
def B8(G:av)(N:Nat)(h2:I->I->I->I->J->O)(Y ai:I)(bu bS:I)(H:J):O:=
 bj P .len [9] [bu] H λft=>
 ab (aZ P .lss 3 false bS ft) λe7=>
 bQ (some e7) (ab (hP P 9 Y ai) λgw=>
 ab (hP P 9 bu bS) λju=>
 ab (aZ P .eql 5 false gw ju) λhv=>
 bQ (some hv) (ab (aZ P .add 3 true bS (.int .i64 1)) λkm=>
 ab (kh P 9 bu (some bS) (some km) none) λjQ=>
 some (jQ,H)) (ab (aZ P .add 3 true bS (.int .i64 1)) λfW=>
 h2 Y ai bu fW H)) (rJ G N H)
def vw(G:av)(N:Nat):Nat->I->I->I->I->J->O
 |0,_,_,_,_,_=>none
 |n+1,Y,ai,bu,bS,H=>B8 G N (vw G N n) Y ai bu bS H
theorem aeY(G:av)(N:Nat)(h2:I->I->I->I->J->O): ∀R H,cA P G N (Code.fst (Code.fst (Code.snd (Code.fst (Code.snd (Code.snd (Code.snd (Code.snd (di Tryz.f82))))))))) (λR H=>h2 (R 0) (R 1) (R 7) (R 8) H) [(2,(λR H=>rJ G N H))] (b_ Tryz.f82) R H=B8 G N h2 (R 0) (R 1) (R 7) (R 8) H:=by
 refine ds (aN _) λR H=> ?_
 delta B8;generalize rJ G N=ba;revert ba;refine id ?_;intro ba;kernel_rfl
def uc(G:av)(N:Nat)(Y ai:I)(H:J):O:=
 vw G N N Y ai (.str [123,125,40,41,91,93,59,58,44,46,61,43,45,42,47,37,60,33]) (.int .i64 0) H
theorem ae0(G:av)(N:Nat): ∀R H,cA P G N (Code.snd (Code.snd (Code.snd (di Tryz.f82)))) (b_ Tryz.f82) [] (b_ Tryz.f82) R H=uc G N (R 0) (R 1) H:=by
 refine ds ((br ad ((br ad (ae1 G N) ((br ad ((fL ad ((gD (k:=λm R H=>vw G N m (R 0) (R 1) (R 7) (R 8) H) ad (λR H=>ad) (λm=>aeY G N (vw G N m)))))) (aN _))))) (aN _))) λR H=> ?_
 delta uc;generalize vw G N N=ba;revert ba;refine id ?_;intro ba;kernel_rfl
def ub(G:av)(N:Nat)(lr:I->I->I->I->J->O)(Y ai:I)(bf bB:I)(H:J):O:=
 bj P .len [48] [bf] H λcb=>
 ab (aZ P .lss 3 false bB cb) λb0=>
 bQ (some b0) (bj P .len [9] [Y] H λcc=>
 ab (aZ P .sub 3 false cc ai) λc6=>
 ab (aZ P .geq 3 true c6 (.int .i64 2)) λcN=>
 aD cN true H (dw Y) λc7 U=>
 aD cN true U (dw ai) λcI aa=>
 aD cN true aa (dw ai) λdb ae=>
 aD cN true ae (bm (aZ P .add 3 true db (.int .i64 2))) λdn al=>
 aD cN true al (bm (kh P 9 c7 (some cI) (some dn) none)) λdu aB=>
 aD cN true aB (dw bf) λdh aG=>
 aD cN true aG (dw bB) λdT aP=>
 aD cN true aP (bm (en P 48 dh dT)) λdI bn=>
 aD cN true bn (qr (am P bn 9 dI)) λcH bH=>
 aD cN true bH (bm (aZ P .eql 9 false du cH)) λep co=>
 ab (cW cN (some ep) (some (.bool false))) λdV=>
 bQ (some dV) (ab (en P 48 bf bB) λeg=>
 ab (am P co 9 eg) λej=>
 some (ej,co)) (ab (aZ P .add 3 true bB (.int .i64 1)) λbX=>
 lr Y ai bf bX co)) (uc G N Y ai H)
def ud(G:av)(N:Nat):Nat->I->I->I->I->J->O
 |0,_,_,_,_,_=>none
 |n+1,Y,ai,bf,bB,H=>ub G N (ud G N n) Y ai bf bB H
theorem aeZ(G:av)(N:Nat)(lr:I->I->I->I->J->O): ∀R H,cA P G N (Code.fst (Code.fst (Code.snd (Code.fst (Code.snd (Code.snd (di Tryz.f82))))))) (λR H=>lr (R 0) (R 1) (R 5) (R 6) H) [(0,(λR H=>uc G N (R 0) (R 1) H))] (b_ Tryz.f82) R H=ub G N lr (R 0) (R 1) (R 5) (R 6) H:=by
 refine ds (aN _) λR H=> ?_
 delta ub;generalize uc G N=ba;revert ba;refine id ?_;intro ba;kernel_rfl
def ua(G:av)(N:Nat)(Y ai bF:I)(U:J):O:=
 ud G N N Y ai bF (.int .i64 0) U
def tj(G:av)(N:Nat)(Y ai:I)(H:J):O:=
 dA H (some (.aM (H).next 0 5 1 (some 5),.row false 1 [[(.str [60,61])],[(.str [61,61])],[(.str [33,61])],[(.str [38,38])],[(.str [124,124])]])) (ua G N Y ai)
theorem akH(G:av)(N:Nat)(Y:I)(ai:I)(H:J):bp Tryz.f82 G N (cF [Y,ai]) H=tj G N Y ai H:=by
 refine cP (A:=bp Tryz.f82 G N) ((br ad ((br ad ((br ad (ae0 G N) ((br ad ((fL ad ((gD (k:=λm R H=>ud G N m (R 0) (R 1) (R 5) (R 6) H) ad (λR H=>ad) (λm=>aeZ G N (ud G N m)))))) (aN _))))) (aN _))) (aN _))) ?_;delta tj ua;generalize ud G N N=ba;revert ba;refine id ?_;intro ba;kernel_rfl
theorem amI(N:Nat){Y ai:I}{H:J}{r:I×J}(h:tj (au P ao) N Y ai H=some r):au P ao 82 [Y,ai] H=some r:=
 cV ad Tryz.func82 ad ad ad ((akH (au P ao) N Y ai H).trans h)
def LD(ai:I)(U:J):O:=
 some (ai,U)
def HV(G:av)(H:J):O:=
 dA H (some (.aM (H).next 0 18 1 (some 18),.row false 1 [[(.str [114,101,99,111,114,100])],[(.str [103,108,111,98,97,108])],[(.str [102,117,110,99])],[(.str [118,97,114])],[(.str [108,101,116])],[(.str [105,102])],[(.str [101,108,115,101])],[(.str [119,104,105,108,101])],[(.str [114,101,116,117,114,110])],[(.str [112,114,105,110,116])],[(.str [110,117,108,108])],[(.str [110,101,119])],[(.str [108,101,110])],[(.str [114,101,97,100])],[(.str [116,114,117,101])],[(.str [102,97,108,115,101])],[(.str [105,110,116])],[(.str [98,111,111,108])]])) (LD)
theorem ahd(G:av)(N:Nat)(H:J):bp Tryz.f108 G N (cF []) H=HV G H:=by
 refine cP (A:=bp Tryz.f108 G N) (aN _) ?_;delta HV LD;kernel_rfl
theorem aiP(N:Nat){H:J}{r:I×J}(h:HV (au P ao) H=some r):au P ao 108 [] H=some r:=
 cV ad Tryz.func108 ad ad ad ((ahd (au P ao) N H).trans h)
end
end
section
theorem an7(s:List UInt8)(k:Int):hP P 9 (.str s) (.int .i64 k)=if 0<=k then(match s[k.toNat]? with|some b=>some (.int .u8 b.toNat)|none=>none) else none:=ad
theorem pk{s:List UInt8}{k:Nat}{b:UInt8}(h:s[k]? =some b):hP P 9 (.str s) (.int .i64 (k:Int))=some (.int .u8 b.toNat):=by
 rw[an7,if_pos Z];simp[h]
theorem Hp{s:List UInt8}{b:UInt8}(h:s[0]? =some b):hP P 9 (.str s) (.int .i64 0)=some (.int .u8 b.toNat):=pk (k:=0) h
theorem sh(a b:Nat)(h:a+b<=4000000000000000000):IntKind.i64.wrap ((a:Int)+(b:Int))=((a+b:Nat):Int):=by rw[wrap_i64 Z Z];omega
theorem mv(a:Nat)(h:a<=4000000000000000000):IntKind.i64.wrap ((a:Int)+1)=((a+1:Nat):Int):=by rw[wrap_i64 Z Z];omega
theorem Ja(a:Nat)(h:a<=4000000000000000000):IntKind.i64.wrap ((a:Int)+2)=((a+2:Nat):Int):=by rw[wrap_i64 Z Z];omega
theorem ZO(a b:Nat)(h:a<=4000000000000000000)(ay:b<=a):IntKind.i64.wrap ((a:Int)-(b:Int))=((a-b:Nat):Int):=by rw[wrap_i64 Z Z];omega
theorem Bj{H:J}(c:Int):W (au P ao 76 [.int .u8 c] H) λv H'=>v= .bool (lg c)/\H'=H:=by
 refine cU (λ_=>amC 0) ?_;unfold lg;cases U:decide (97<=c)<;>cases aa:decide (c<=122)<;>cases ae:decide (65<=c)<;>cases al:decide (c<=90)<;>
  (simp-implicitDefEqProofs(disch:=try exact ag) only[I6,bj,bO,ei,U,aa,ae,al];exact a8.2 ⟨rfl,rfl⟩)
theorem J7{H:J}(c:Int):W (au P ao 80 [.int .u8 c] H) λv H'=>v= .bool (ox c)/\H'=H:=by
 refine cU (λ_=>amG 0) ?_;unfold ox;cases U:decide (48<=c)<;>cases aa:decide (c<=57)<;>
  (simp-implicitDefEqProofs(disch:=try exact ag) only[I7,bj,bO,ei,U,aa];exact a8.2 ⟨rfl,rfl⟩)
theorem drop_cons{s:bk}{k:Nat}{c:UInt8}{r:bk}(h:s.drop k=c::r):s[k]? =some c/\s.drop (k+1)=r/\k<s.length/\s.length=k+1+r.length:=by
 have U:s[k]? =some c:=by
  have:=List.getElem?_drop (xs:=s) (i:=k) (j:=0);rw[h] at this;simpa using this.symm
 have aa:s.drop (k+1)=r:=by
  have:(s.drop k).drop 1=r:=by rw[h];rfl
  rwa[List.drop_drop] at this
 have ae:k<s.length:=(List.getElem?_eq_some_iff.1 U).1;have al:=congrArg List.length h;simp at al;exact⟨U,aa,ae,Z⟩
theorem drop_nil{s:bk}{k:Nat}(h:s.drop k=[]):s.length<=k:=List.drop_eq_nil_iff.1 h
theorem Sy{H:J}{s:bk}(aO:s.length<=1000000000000000000)(at_:Nat)(d:Bool)(N:Nat): ∀(rest:bk) (n m:Nat),s.drop (at_+n)=rest->at_+n<=s.length->rest.length<m->
  W (vt (au P ao) N m (.str s) (.int .i64 at_) (.bool d) (.int .i64 n) H) λv H'=>v= .int .i64 ((n+runN d rest:Nat):Int)/\H'=H
 |_,_,0,_,_,hm=>Z
 |[],n,m+1,h,aV,hm=>by
  have:=drop_nil h;have U: ¬(((at_+n:Nat):Int)<(s.length:Int)):=Z;simp-implicitDefEqProofs(disch:=try exact ag) only[vt,rI,t_,ti,reduceAdd,reduceLeDiff,reduceIte,az,sh,U,decide_false];exact a8.2 ⟨by simp[runN],rfl⟩
 |c::r,n,m+1,h,aV,hm=>by
  obtain⟨aI,bc,dm,eS⟩:=drop_cons h;have U:(((at_+n:Nat):Int)<(s.length:Int)):=Z;have aT:=Sy (H:=H) aO at_ d N r (n+1) m (by rw[<-Nat.add_assoc];exact bc) Z (by simp at hm;omega);have ha:=pk aI;simp-implicitDefEqProofs(disch:=try exact ag) only[vt,rI,t_,ti,reduceAdd,reduceLeDiff,reduceIte,az,sh,U,decide_true,ha];refine rC (J7 _) ?_;have fin: ∀b,(gF c||(!d&&gR c))=b->(b=true->W (vt (au P ao) N m (.str s) (.int .i64 at_) (.bool d) (.int .i64 ((n+1:Nat):Int)) H) λv H'=>v= .int .i64 ((n+runN d (c::r):Nat):Int)/\H'=H)/\(b=false->n+runN d (c::r)=n):=by
   intro b ay;refine⟨λh=> ?_,λh=> ?_⟩
   ·refine aT.mono ?_;rintro v H' ⟨rfl,rfl⟩;subst h;have e:runN d (c::r)=runN d r+1:=by rw[runN,ay];rfl
    have cC:n+1+runN d r=n+runN d (c::r):=by rw[e];omega
    exact⟨by rw[cC],rfl⟩
   ·subst h;rw[runN,ay];rfl
  cases bb:ox (c.toNat:Int) with
  |true=>
   simp-implicitDefEqProofs(disch:=try exact ag) only[rI,t_,ti,bj,bO,ei,mv];exact(fin true (by simp[gF,bb])).1 rfl
  |false=>
   cases d with
   |true=>
    simp-implicitDefEqProofs(disch:=try exact ag) only[rI,t_,ti,bj,bO,Bool.not_true];exact a8.2 ⟨by rw[(fin false (by simp[gF,bb])).2 rfl],rfl⟩
   |false=>
    simp-implicitDefEqProofs(disch:=try exact ag) only[rI,t_,ti,reduceAdd,reduceLeDiff,reduceIte,az,Bool.not_false,sh,ha];refine rC (Bj _) ?_;cases ax:lg (c.toNat:Int) with
    |true=>
     simp-implicitDefEqProofs(disch:=try exact ag) only[rI,t_,ti,bj,bO,ei,mv];exact(fin true (by simp[gF,gR,bb,ax])).1 rfl
    |false=>
     simp-implicitDefEqProofs(disch:=try exact ag) only[rI,t_,ti,bj,bO];exact a8.2 ⟨by rw[(fin false (by simp[gF,gR,bb,ax])).2 rfl],rfl⟩
theorem Sz{H:J}{s:bk}(aO:s.length<=1000000000000000000)(at_:Nat)(b1:at_<=s.length)(d:Bool):W (au P ao 77 [.str s,.int .i64 at_,.bool d] H) λv H'=>v= .int .i64 (runN d (s.drop at_):Nat)/\H'=H:=by
 refine cU (λ_=>amD (s.length+1)) ?_;rw[ti];have:=Sy (H:=H) aO at_ d (s.length+1) (s.drop at_) 0 (s.length+1) rfl Z (by simp;omega);simpa using this
theorem QK{H:J}{x:bk}{l:Nat}(N:Nat)(all:List bk)(hG:all.length<=1000)(aX:H.get l=some (.row false 1 (all.map λy=>[I.str y]))): ∀(rest pre:List bk),all=pre++rest-> ∀(m:Nat),rest.length<m->
  W (xn (au P ao) N m (.str x) (.aM l 0 all.length 1 (some all.length)) (.int .i64 pre.length) H) λv H'=>v= .bool (lj x rest)/\H'=H
 |_,_,_,0,hm=>Z
 |[],pre,bA,m+1,hm=>by
  have U: ¬((pre.length:Int)<(all.length:Int)):=by rw[bA];simp
  simp-implicitDefEqProofs(disch:=try exact ag) only[xn,vu,zw,zv,yp,reduceAdd,reduceLeDiff,reduceIte,az,U,decide_false];exact a8.2 ⟨rfl,rfl⟩
 |y::dQ,pre,bA,m+1,hm=>by
  have U:((pre.length:Int)<(all.length:Int)):=by rw[bA];simp;omega
  have a6:(0:Int)<=(pre.length:Int):=Z;have aI:((pre.length:Int)).toNat=pre.length:=Z;have hle:pre.length<all.length:=Z;have he:(all.map λy=>[I.str y])[pre.length]? =some [I.str y]:=by rw[bA];simp
  have hw:((pre++[y]).length:Int)=((pre.length+1:Nat):Int):=by simp
  simp-implicitDefEqProofs(disch:=try exact ag) only[xn,vu,zw,zv,yp,reduceAdd,reduceLeDiff,reduceIte,az,U,decide_true,aX,aI,he];cases aS:y==x with
  |true=>
   simp-implicitDefEqProofs(disch:=try exact ag) only[vu,zw,zv,yp,bj,bO];exact a8.2 ⟨by simp[lj,aS],rfl⟩
  |false=>
   have aT:=QK (H:=H) (x:=x) N all hG aX dQ (pre++[y]) (by simp[bA]) m (by simp at hm;omega);rw[hw] at aT;simp-implicitDefEqProofs(disch:=try exact ag) only[vu,zw,zv,yp,bj,bO,ei,mv];refine aT.mono ?_;rintro v H' ⟨rfl,rfl⟩;exact⟨by simp[lj,aS],rfl⟩
theorem QL{H:J}(x:bk):W (au P ao 78 [.str x] H) λv H'=>v= .bool (rW x)/\aR H H':=by
 refine cU (λ_=>amE 19) ?_;rw[yp];have hw:W (au P ao 108 [] H) λv H'=>v= .aM H.next 0 sK.length 1 (some sK.length)/\H'=H.push (.row false 1 (sK.map λy=>[I.str y])):=by
  refine cU (λ_=>aiP 0) ?_;rw[HV];simp only[yF,LD];exact a8.2 ⟨rfl,rfl⟩
 refine aY hw ?_;rintro _ _ ⟨rfl,rfl⟩;refine⟨(aR.push _ _).1,?_⟩;rw[zv];refine(QK (x:=x) 19 sK cl (J.ca _ _) sK [] rfl 19 cl).mono ?_;rintro v H' ⟨rfl,rfl⟩;exact⟨rfl,aR.push _ _⟩
end
end Go.Proofs.YtghmbpmaafnodaaGreatDoor
