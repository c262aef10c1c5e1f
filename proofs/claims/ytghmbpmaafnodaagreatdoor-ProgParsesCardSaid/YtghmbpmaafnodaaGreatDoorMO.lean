/-
  Texts of one proof, laid together: Qe Qf Qg Qh ShA L1.
-/
import Derived.Test.YtghmbpmaafnodaaGreatDoorMN
import Derived.Test.YtghmbpmaafnodaaGreatDoorMD
import Derived.Test.YtghmbpmaafnodaaGreatDoorMG
import Derived.Test.YtghmbpmaafnodaaGreatDoorML
set_option linter.unusedVariables false
set_option linter.unusedSimpArgs false
namespace Go.Proofs.YtghmbpmaafnodaaGreatDoor
open Go.gd
open Nat (reduceAdd reduceLeDiff)
section
def gA:tl jY:=⟨3,λH ok x cs=> ∃v,cs=[.str x.name,v,.int .i64 x.pos]/\eJ fz H ok x.fields v,λ⟨v,h,k⟩=>by rw[h];exact⟨rfl,by simp only[List.all_cons,List.all_nil,jO,iF,k.one,Bool.and_self]⟩,λp ⟨v,h,k⟩=>⟨v,h,k.bo p⟩⟩
def gw:tl Fn:=⟨7,λH ok x cs=> ∃v w,cs=[.str x.name,v,.bool x.has,.str x.fL,.int .i64 x.rd,w,.int .i64 x.pos]/\eJ fz H ok x.params v/\ez H ok x.body w,λ⟨v,w,h,k,q⟩=>by rw[h];exact⟨rfl,by simp only[List.all_cons,List.all_nil,jO,iF,yQ,k.one,q.gi,Bool.and_self]⟩,λp ⟨v,w,h,k,q⟩=>⟨v,w,h,k.bo p,q.bo p.s⟩⟩
theorem Ho:v7 22 41 3:=⟨ad,Mv,⟨_,(by kernel_rfl:rv P 41=some 48),cm⟩,⟨_,(by kernel_rfl:j2 P 41=some (.agg [.str [],.ap,.int .i64 0])),rfl,rfl⟩,cm⟩
theorem Hn:v7 24 46 7:=⟨ad,Mw,⟨_,(by kernel_rfl:rv P 46=some 104),cm⟩,⟨_,(by kernel_rfl:j2 P 46=some (.agg [.str [],.ap,.bool false,.str [],.int .i64 0,.ap,.int .i64 0])),rfl,rfl⟩,cm⟩
section
variable {H H' H1:J}{r:Nat}{T:List Tok}{ak b9 b8 b_:I}{s s':aA}
theorem fJ.uj{ok:Nat->Prop}{l:List jY}{v:I}(h:fJ gA ok H l v)(H':J):dF P H' .len [22] [v]=some (.int .i64 l.length):=by
 rcases h with⟨rfl,rfl⟩|⟨L,els,rfl,_⟩
 ·exact Hk
 ·exact Ez
theorem fJ.uk{ok:Nat->Prop}{l:List Fn}{v:I}(h:fJ gw ok H l v)(H':J):dF P H' .len [24] [v]=some (.int .i64 l.length):=by
 rcases h with⟨rfl,rfl⟩|⟨L,els,rfl,_⟩
 ·exact Hm
 ·exact EB
theorem grow{α:Type}{K:tl α}{t e:Nat}(y:v7 t e K.esz){cG:Nat->Prop}{l:List α}{v:I}(ax:fJ K cG H1 l v)(m:nP r H1.next H1 H)(a8: ∀k,cG k->r<k)(aqF:r<H1.next){a:α}{cs:List I}{n2:Nat}(he:K.V H (bI n2) a cs)(jT:H1.next<=n2)(az:l.length<=1000000000):
  ∃dr H',fQ P (H.push (.row false K.esz [cs])) [t,t] v (.aN H.next 0 1 K.esz (some 1))=some (dr,H')/\dr.one=true/\(∀b,fJ K (λk=>cG k\/H1.next<=k) (H'.set r b) (l++[a]) dr)/\H.next+1<=H'.next/\H'.get r=H.get r/\
   (∀k x,¬cG k->k<H1.next->k≠r->H1.get k=some x-> ∀b,(H'.set r b).get k=some x)/\ ∀b,dC (λk=>r<=k) H1 (H'.set r b):=by
 have hm:=m.1;have iW:eb H1 cG H cG:=λk x ah g=>by
  have:=J.aX g;have:=a8 k ah;exact⟨ah,m.get g Z⟩
 have ia:=ax.bo iW;have gH: ∀L n c,v= .aN L 0 n K.esz c->cG L/\L<H1.next:=by
  intro L n c bA;rcases ax with⟨rfl,_⟩|⟨L',els,rfl,cD,cu,_⟩
  ·cases bA
  ·cases bA;exact⟨cD,J.aX cu⟩
 obtain⟨dr,H',bf,a2,a3,a4⟩:=ia.app y (ok':=λk=>cG k\/H1.next<=k) he (λk x ah g=>⟨.inr (by unfold bI at ah;omega),λL bA=>by have:=(gH L _ _ bA).2;unfold bI at ah;omega⟩) (λk x ah _=> .inl ah) (.inr Z) az;refine⟨dr,H',bf,a2.one,λb=>a2.bo λk x ah g=>⟨ah,?_⟩,a3,a4 r Z (λL bA=>by have:=a8 L (gH L _ _ bA).1;omega),λk x ah et dM g b=> ?_,λb=>⟨by simp only[J.e9];omega,λk ah aM=> ?_⟩⟩
 ·rw[J.get_set_other]
  ·exact g
  ·rintro rfl;rcases ah with ah|ah
   ·have:=a8 _ ah;omega
   ·omega
 ·rw[J.get_set_other (Ne.symm dM),a4 k Z (λL bA e=>ah (e▸(gH L _ _ bA).1))];exact m.get g Z
 ·have e3:k<r:=by simpa using aM
  rw[J.get_set_other Z,a4 k Z (λL bA e=>by have:=a8 L (gH L _ _ bA).1;omega)];exact m.2 k ah Z
def nQ(H:J)(r:Nat)(T:List Tok)(ak:I)(g:eA)(s:aA):Prop:= ∃b9 b8 b_,∃cG dh dL:Nat->Prop,fP H r T ak b9 b8 b_ s/\(∀l i n e c,ak= .aN l i n e c->l<r)/\fJ gA cG H g.el b9/\fJ fz dh H g.globals b8/\fJ gw dL H g.funcs b_/\(∀k,cG k->r<k/\ ¬dh k/\ ¬dL k)/\(∀k,dh k->r<k/\ ¬dL k)/\ ∀k,dL k->r<k
abbrev tm(r:Nat):J->J->Prop:=dC λk=>r<=k
theorem fP.L6{NI MQ ML:I}(h:fP H r T ak b9 b8 b_ s)(bz: ∀l i n e c,ak= .aN l i n e c->l<r)(m:tm r H H')(aZ:H'.get r=some (iD ak NI MQ ML s'))(a0:0<=s'.at_)(bf:s'.at_<T.length)(z:s'.aC=0->s'.cv=0)(o:s'.bR=0)(one:NI.one=true/\MQ.one=true/\ML.one=true):fP H' r T ak NI MQ ML s':=by
 refine⟨aZ,?_,a0,bf,h.n,z,o,one⟩;rcases h.cf with b0|⟨l,i,cap,rfl,b0⟩
 ·exact .inl b0
 ·refine .inr ⟨l,i,cap,rfl,b0.imp id λ⟨ro,els,cD,cu⟩=>⟨ro,els,m.get cD ?_,cu⟩⟩;have:=bz _ _ _ _ _ rfl;omega
theorem nQ.mut{g:eA}{b9 b8 b_:I}{cG dh dL:Nat->Prop}(bz: ∀l i n e c,ak= .aN l i n e c->l<r)(df:fJ gA cG H g.el b9)(cU:fJ fz dh H g.globals b8)(b3:fJ gw dL H g.funcs b_)(bM: ∀k,cG k->r<k/\ ¬dh k/\ ¬dL k)(c2: ∀k,dh k->r<k/\ ¬dL k)(c3: ∀k,dL k->r<k)(m:cC r H H')(dm:fP H' r T ak b9 b8 b_ s'):nQ H' r T ak g s':=
 ⟨b9,b8,b_,cG,dh,dL,dm,bz,df.bo (eb.mut m λk ah=>by have:=(bM k ah).1;omega),cU.bo (eb.mut m λk ah=>by have:=(c2 k ah).1;omega),b3.bo (eb.mut m λk ah=>by have:=c3 k ah;omega),bM,c2,c3⟩
theorem cC.so(m:cC r H H'):tm r H H':=⟨m.1,λl az aM=>m.2 l az λe=>aM Z⟩
theorem nP.so{n:Nat}(m:nP r n H H')(h:r<n):tm r H H':=⟨m.1,λl az aM=>m.2 l az λe=>aM Z⟩
def wV(T:List Tok)(n:Nat)(g:eA)(s:aA):R eA:=
 (tE T n [] (cZ T [123] (h2 T (aF (gY T true g.el.length 12 s))).2).2).bind λp=>
  some ({g with el:=g.el++[⟨(h2 T (aF (gY T true g.el.length 12 s))).1.text,p.1,(h2 T (aF (gY T true g.el.length 12 s))).1.pos⟩]},(cZ T [125] p.2).2)
def k8(T:List Tok)(g:eA)(s:aA):eA×aA:=
 ({g with globals:=g.globals++[(i6 T (aF (gY T true g.globals.length 8 s))).1]},(cZ T [59] (i6 T (aF (gY T true g.globals.length 8 s))).2).2)
theorem KR{b:Bool}{x y:Int}:(gY T b x y s).at_=s.at_:=by
 unfold gY;cases b&&decide (y<=x)
 ·rfl
 ·rw[bC];unfold cS;split<;>rfl
theorem Lu(aH:hG T)(h:fP H r T ak b9 b8 b_ s)(ah:(ar T s.at_).kind≠0):cC r H (H.set r (.row false 7 [[ak,.int .i64 (IntKind.i64.wrap (s.at_+1)),b9,b8,b_,.int .i64 s.aC,.int .i64 s.cv]]))/\fP (H.set r (.row false 7 [[ak,.int .i64 (IntKind.i64.wrap (s.at_+1)),b9,b8,b_,.int .i64 s.aC,.int .i64 s.cv]])) r T ak b9 b8 b_ (aF s):=by
 obtain⟨-,g0,g1⟩:=LV aH h ah;exact h.set (aF s) g0 g1 h.z h.o
theorem aaj(aH:hG T){g:eA}{n:Nat}(aU:n<=900000000)(h:nQ H r T ak g s)(az:g.el.length<=900000000)(ah:(ar T s.at_).kind≠0){g':eA}(al:wV T n g s=some (g',s')):W (aq P ao 20 [.ptr r 0 0] H) λ_ H'=>tm r H H'/\nQ H' r T ak g' s':=by
 refine cP (λ_=>akS (n+1)) ?_;obtain⟨b9,b8,b_,cG,dh,dL,dm,bz,df,cU,b3,bM,c2,c3⟩:=h;have l2:=dm.rd;unfold iD at l2;have je:=λH'=>df.uj H'
 have ib:=dm.lt;simp-implicitDefEqProofs(disch:=try exact af) only[IA,reduceAdd,reduceLeDiff,reduceIte,aw,l2,je];refine a6 (DC dm true _ _) ?_;rintro _ bm ⟨rfl,m2,e0⟩;refine⟨m2.1,?_⟩;unfold wV at al;have qc:(ar T (gY T true (g.el.length:Int) 12 s).at_).kind≠0:=by rw[KR];exact ah
 generalize gY T true (g.el.length:Int) 12 s=s2 at e0 al qc;have cI:=e0.rd;unfold iD at cI;have de:=e0.cf.one;obtain⟨dd,dG,eM⟩:=e0.one;have l1:=e0.lt;obtain⟨m3,gC⟩:=Lu aH e0 qc;simp-implicitDefEqProofs(disch:=try exact af) only[reduceAdd,reduceLeDiff,reduceIte,aw,cI,de,dd,dG,eM];generalize aF s2=iO at gC al;generalize bm.set r (.row false 7 [[ak,.int .i64 (IntKind.i64.wrap (s2.at_+1)),b9,b8,b_,.int .i64 s2.aC,.int .i64 s2.cv]])=cT at m3 gC ⊢;refine a6 (J7 aH gC) ?_;rintro _ ct ⟨rfl,m4,nk⟩;refine⟨m4.1,?_⟩;generalize h2 T iO=q at nk al ⊢;obtain⟨⟨k,x,z,p⟩,qp⟩:=q;simp only at nk al;have eR:=aR.push ct (.row false 4 [[.int .i64 k,.str x,.int .i64 z,.int .i64 p]])
 have jJ:=J.ca ct (.row false 4 [[.int .i64 k,.str x,.int .i64 z,.int .i64 p]]);simp-implicitDefEqProofs(disch:=try exact af) only[bg,bL,aj,dx,aQ,dx,Nat.reduceAdd,Nat.reduceLeDiff,reduceIte,I.cells,eF,fu,dB,fH,fH,J.io,Tok.v];have xU:=(m2.trans m3).trans m4;have Fe:=xU.1;have iC:=nk.aK eR;have nS:(ct.push (.row false 4 [[.int .i64 k,.str x,.int .i64 z,.int .i64 p]])).next=ct.next+1:=by simp only[J.b2]
 generalize ct.push (.row false 4 [[.int .i64 k,.str x,.int .i64 z,.int .i64 p]])=dp at eR jJ iC nS ⊢;have gI:=aR.push dp (.row false 3 [[.str x,.ap,.int .i64 p]]);have Yz:=eR.1;have FZ:jz H (dp.push (.row false 3 [[.str x,.ap,.int .i64 p]])) r (ct.next+1) (ct.next+2) 3 T ak b9 b8 b_ (.str x) [.int .i64 p] [] .ap qp:=
  ⟨iC.aK gI,by rw[<-nS];exact J.ca _ _,fJ.nil,cC.A7 (xU.trans ((eR.trans gI).mut _)),ib,Z,Z,by simp only[J.b2];omega⟩
 refine a6 (yG aH FZ.dm [123]) ?_;rintro _ fX ⟨rfl,m7,Is⟩;refine⟨m7.1,?_⟩;have C8:=FZ.mut m7 Is;obtain⟨⟨l',pr⟩,g1,g2⟩:=hX al;simp only[bF,dw] at g2;obtain⟨rfl,rfl⟩:=g2;refine O8 aH dm (λjX v Fv=> ?_) n (n+1) fX _ [] .ap Z (by simp;omega) C8 g1;rw[zk];refine a6 (yG aH Fv.dm [125]) ?_;rintro _ gV ⟨rfl,m9,nl⟩;refine⟨m9.1,?_⟩;have C9:=Fv.mut m9 nl;generalize (cZ T [125] pr).2=jN at nl C9 ⊢;have CT:=C9.cell;have m_:=nl.rd;unfold iD at m_;have Fl:=C9.hD.one;have ard:=C9.eM;have E_:=nl.lt;obtain⟨dr,H',hg,im,f1,f2,f3,f4,f5⟩:=grow (r:=r) (K:=gA) Ho df C9.m (λk ah=>(bM k ah).1) ib (a:=⟨x,l',p⟩) (cs:=[.str x,v,.int .i64 p]) (n2:=ct.next+2) ⟨v,rfl,C9.hD.aN⟩ Z Z
 have ff:=uc Ho gV.next (cs:=[.str x,v,.int .i64 p]) rfl (by simp only[List.all_cons,List.all_nil,jO,iF,Fl,Bool.and_self])
 have ht:gA.esz=3:=rfl;rw[ht] at hg;have dQ:cj (some b9) b9=true:=df.rd;have hr:=kb im;simp only[I.cells] at hr;have iU:H'.get r=some (.row false 7 [[ak,.int .i64 jN.at_,b9,b8,b_,.int .i64 jN.aC,.int .i64 jN.cv]]):=by rw[f3];exact m_
 have Ew:=J.aX iU;have uB:(gV.push (.row false 3 [[.str x,v,.int .i64 p]])).next<=H'.next:=by simp only[J.b2];exact f2
 simp-implicitDefEqProofs(disch:=try exact af) only[bg,bL,aj,dx,aQ,dx,Nat.reduceAdd,Nat.reduceLeDiff,reduceIte,I.cells,eF,fu,dB,fH,CT,m_,ff,hg,kx,dQ,hr,iU,im,de,dd,dG,eM,Fl];have so:=f5 (.row false 7 [[ak,.int .i64 jN.at_,dr,b8,b_,.int .i64 jN.aC,.int .i64 jN.cv]]);refine a_.2 ⟨so,dr,b8,b_,_,(λk=>dh k/\k<H.next),(λk=>dL k/\k<H.next),?_,bz,f1 _,?_,?_,?_,?_,?_⟩
 ·exact dm.L6 bz so (J.get_set_same Ew) nl.a0 nl.bf nl.z nl.o ⟨im,dG,eM⟩
 ·exact cU.bo λk b ah g=>by
   have:=J.aX g;have:=(c2 k ah).1;exact⟨⟨ah,Z⟩,f4 k b (λh=>(bM k h).2.1 ah) Z Z g _⟩
 ·exact b3.bo λk b ah g=>by
   have:=J.aX g;have:=c3 k ah;exact⟨⟨ah,Z⟩,f4 k b (λh=>(bM k h).2.2 ah) Z Z g _⟩
 ·rintro k (ah|ah)
  ·exact⟨(bM k ah).1,λh=>(bM k ah).2.1 h.1,λh=>(bM k ah).2.2 h.1⟩
  ·exact⟨Z,λh=>Z,λh=>Z⟩
 ·exact λk ah=>⟨(c2 k ah.1).1,λh=>(c2 k ah.1).2 h.1⟩
 ·exact λk ah=>c3 k ah.1
end
end
section
section
variable {H H' H1:J}{r:Nat}{T:List Tok}{ak b9 b8 b_:I}{s s':aA}
theorem aai(aH:hG T){g:eA}(h:nQ H r T ak g s)(az:g.globals.length<=900000000)(ah:(ar T s.at_).kind≠0):W (aq P ao 21 [.ptr r 0 0] H) λ_ H'=>tm r H H'/\nQ H' r T ak (k8 T g s).1 (k8 T g s).2:=by
 refine cP (λ_=>akT 0) ?_;obtain⟨b9,b8,b_,cG,dh,dL,dm,bz,df,cU,b3,bM,c2,c3⟩:=h;have l2:=dm.rd;unfold iD at l2;have je:=λH'=>cU.qN H'
 have ib:=dm.lt;simp-implicitDefEqProofs(disch:=try exact af) only[IB,reduceAdd,reduceLeDiff,reduceIte,aw,l2,je];refine a6 (DC dm true _ _) ?_;rintro _ bm ⟨rfl,m2,e0⟩;refine⟨m2.1,?_⟩;unfold k8;have qc:(ar T (gY T true (g.globals.length:Int) 8 s).at_).kind≠0:=by rw[KR];exact ah
 generalize gY T true (g.globals.length:Int) 8 s=s2 at e0 qc;have cI:=e0.rd;unfold iD at cI;have de:=e0.cf.one;obtain⟨dd,dG,eM⟩:=e0.one;have l1:=e0.lt;obtain⟨m3,gC⟩:=Lu aH e0 qc;simp-implicitDefEqProofs(disch:=try exact af) only[reduceAdd,reduceLeDiff,reduceIte,aw,cI,de,dd,dG,eM];generalize aF s2=iO at gC ⊢;generalize bm.set r (.row false 7 [[ak,.int .i64 (IntKind.i64.wrap (s2.at_+1)),b9,b8,b_,.int .i64 s2.aC,.int .i64 s2.cv]])=cT at m3 gC ⊢;refine a6 (JQ aH gC) ?_;rintro _ ct ⟨rfl,m4,nk⟩;refine⟨m4.1,?_⟩;generalize i6 T iO=q at nk ⊢;obtain⟨p,qp⟩:=q;simp only at nk ⊢;have eR:=aR.push ct (.row false 4 [p.cells])
 have jJ:=J.ca ct (.row false 4 [p.cells]);have xU:=(m2.trans m3).trans m4;have Fe:=xU.1;have iC:=nk.aK eR;have nS:(ct.push (.row false 4 [p.cells])).next=ct.next+1:=by simp only[J.b2]
 simp only[ec.cells] at eR jJ iC nS ⊢;simp-implicitDefEqProofs(disch:=try exact af) only[bg,bL,aj,dx,aQ,dx,Nat.reduceAdd,Nat.reduceLeDiff,reduceIte,I.cells,eF,fu,dB,fH,J.io];generalize ct.push (.row false 4 [[.str p.name,.str p.eV,.int .i64 p.fT,.int .i64 p.pos]])=dp at eR jJ iC nS ⊢;refine a6 (yG aH iC [59]) ?_;rintro _ gV ⟨rfl,m9,nl⟩;refine⟨m9.1,?_⟩;generalize (cZ T [59] qp).2=jN at nl ⊢;have aol:=m9.1;have CT:=m9.get jJ Z;have m_:=nl.rd;unfold iD at m_;have E_:=nl.lt;have apl:cC r H gV:=(xU.trans (eR.mut _)).trans m9;obtain⟨dr,H',hg,im,f1,f2,f3,f4,f5⟩:=grow (r:=r) (K:=fz) vJ cU apl.A7 (λk ah=>(c2 k ah).1) ib (a:=p) (cs:=p.cells) (n2:=H.next) rfl (bN _) Z
 have ff:=uc vJ gV.next (cs:=p.cells) rfl rfl
 have ht:fz.esz=4:=rfl;rw[ht] at hg;have dQ:cj (some b8) b8=true:=cU.rd;have hr:=kb im;simp only[I.cells] at hr;have iU:H'.get r=some (.row false 7 [[ak,.int .i64 jN.at_,b9,b8,b_,.int .i64 jN.aC,.int .i64 jN.cv]]):=by rw[f3];exact m_
 have Ew:=J.aX iU;have uB:(gV.push (.row false 4 [p.cells])).next<=H'.next:=by simp only[J.b2];exact f2
 simp only[ec.cells] at ff hg uB;simp-implicitDefEqProofs(disch:=try exact af) only[bg,bL,aj,dx,aQ,dx,Nat.reduceAdd,Nat.reduceLeDiff,reduceIte,I.cells,eF,fu,dB,fH,CT,m_,ff,hg,kx,dQ,hr,iU,im,de,dd,dG,eM];have so:=f5 (.row false 7 [[ak,.int .i64 jN.at_,b9,dr,b_,.int .i64 jN.aC,.int .i64 jN.cv]]);refine a_.2 ⟨so,b9,dr,b_,(λk=>cG k/\k<H.next),_,(λk=>dL k/\k<H.next),?_,bz,?_,f1 _,?_,?_,?_,?_⟩
 ·exact dm.L6 bz so (J.get_set_same Ew) nl.a0 nl.bf nl.z nl.o ⟨dd,im,eM⟩
 ·exact df.bo λk b ah g=>by
   have:=J.aX g;have:=(bM k ah).1;exact⟨⟨ah,Z⟩,f4 k b (λh=>(bM k ah).2.1 h) Z Z g _⟩
 ·exact b3.bo λk b ah g=>by
   have:=J.aX g;have:=c3 k ah;exact⟨⟨ah,Z⟩,f4 k b (λh=>(c2 k h).2 ah) Z Z g _⟩
 ·exact λk ah=>⟨(bM k ah.1).1,λh=>h.elim (bM k ah.1).2.1 (λh=>by have:=ah.2;omega),λh=>(bM k ah.1).2.2 h.1⟩
 ·rintro k (ah|ah)
  ·exact⟨(c2 k ah).1,λh=>(c2 k ah).2 h.1⟩
  ·exact⟨Z,λh=>Z⟩
 ·exact λk ah=>c3 k ah.1
def me(T:List Tok)(l:List ec)(s:aA):List ec×aA:=(l++[(i6 T (gY T ((ar T s.at_).kind==1) l.length 6 s)).1],(i6 T (gY T ((ar T s.at_).kind==1) l.length 6 s)).2)
theorem Ph(aH:hG T){c n2:Nat}{x:I}{rest:List I}(hlen:rest.length=5){s0:aA}(U:fP H1 r T ak b9 b8 b_ s0){l:List ec}{v:I}(h:jz H1 H r c n2 7 T ak b9 b8 b_ x rest l v s)(az:l.length<=900000000):
  W (aq P ao 52 [.ptr r 0 0,.ptr c 0 0] H) λ_ H'=>H.next<=H'.next/\ ∃dr,jz H1 H' r c n2 7 T ak b9 b8 b_ x rest (me T l s).1 dr (me T l s).2:=by
 refine cP (λ_=>alk 0) ?_;rw[IM];refine a6 (Bw h.dm) ?_;rintro _ ct ⟨rfl,bK⟩;refine⟨bK.1,?_⟩;have am:=h.mut (bK.mut _) (h.dm.aK bK);have je:=λH'=>am.hD.qN H'
 have cp:=am.hD.rd;have iI:=am.cell;have mw:=h.cell;simp-implicitDefEqProofs(disch:=try exact af) only[reduceAdd,reduceLeDiff,reduceIte,aw,Tok.v,iI,je];refine a6 (DC am.dm _ _ _) ?_;rintro _ dp ⟨rfl,m5,iC⟩;refine⟨m5.1,?_⟩;have aB:=am.mut m5 iC;have jJ:=aB.cell;unfold me;generalize gY T ((ar T s.at_).kind==1) l.length 6 s=mG at aB ⊢;refine vI (wL ad ?_) ?_
 ·have key: ∀wy:J,wy.get c=some (.row false 7 [x::v::rest])->cj (aj P wy 23 (.ptr c 0 1)) v=true:=λwy b0=>by
   simp-implicitDefEqProofs(disch:=try exact af) only[aj,dx,Nat.reduceAdd,Nat.reduceLeDiff,reduceIte,I.cells,eF,fu,b0,cp]
  simp only[rU,vG,F8,F9,Gb,List.forall_mem_cons];refine⟨(λv bA=>by cases bA),(λv bA=>by cases bA),(λv bA=>by cases bA),(λv bA=>by cases bA),(λv bA=>by cases bA),(λv bA=>by cases bA),(λv bA=>by cases bA),(λv bA=>by cases bA),(λv bA=> .inr ?_),(λv bA=>by cases bA),(λv bA=>by cases bA),trivial⟩;cases bA;simp[key _ mw,key _ iI,key _ jJ]
 ·refine a6 (JQ aH aB.dm) ?_;rintro _ fW ⟨rfl,m6,wC⟩;refine⟨m6.1,?_⟩;have aG:=aB.mut m6 wC;have r_:=aG.cell;have z1:=aG.hD.rd;generalize i6 T mG=q at aG ⊢;obtain⟨p,Bb⟩:=q;obtain⟨dr,fX,hg,pk,im,aI,bc,aP⟩:=aG.add U Z p;have ff:=uc vJ fW.next (cs:=p.cells) rfl rfl
  have uB:(fW.push (.row false 4 [p.cells])).next<=fX.next:=by simp only[J.b2];exact pk
  have hr:=kb im;simp only[I.cells] at hr;simp-implicitDefEqProofs(disch:=try exact af) only[bg,bL,aj,dx,aQ,dx,Nat.reduceAdd,Nat.reduceLeDiff,reduceIte,I.cells,eF,fu,dB,fH,hr,r_,ff,hg,kx,aI,bc,im,z1,jJ];refine a_.2 ⟨?_,dr,aP⟩;have bf:=bK.1;have a2:=m5.1;have a3:=m6.1;simp only[J.e9];omega
end
end
section
def pz(T:List Tok):Nat->List ec->aA->R (List ec)
 |0,_,_=>none
 |n+1,l,s=>bif (fj T 4 [44] s).1 then pz T n (me T l (fj T 4 [44] s).2).1 (me T l (fj T 4 [44] s).2).2 else some (l,(fj T 4 [44] s).2)
def oO(T:List Tok)(s:aA):List cE×aA:=match oN T 800000000 (lI s.at_ 0) with
 |some p=>((iQ p.1 p.2).1,ot (iQ p.1 p.2).2.1 (iQ p.1 p.2).2.2.1 (iQ p.1 p.2).2.2.2 s)
 |none=>([],s)
def oq(T:List Tok)(g:eA)(nm:bl)(ew:Int)(l:List ec)(q:Bool×bl×Int)(s:aA):eA×aA:=if s.aC≠0 then(g,s) else({g with funcs:=g.funcs++[⟨nm,l,q.1,q.2.1,q.2.2,(oO T s).1,ew⟩]},(oO T s).2)
def j3(T:List Tok)(s:aA):(Bool×bl×Int)×aA:=bif (fj T 4 [58] (cZ T [41] s).2).1 then((true,(nD T (fj T 4 [58] (cZ T [41] s).2).2).1),(nD T (fj T 4 [58] (cZ T [41] s).2).2).2) else((false,[],0),(fj T 4 [58] (cZ T [41] s).2).2)
def yN(T:List Tok)(n:Nat)(s:aA):R (List ec):=bif b7 T s 4 [41] then some ([],s) else pz T n (me T [] s).1 (me T [] s).2
def wN(T:List Tok)(n:Nat)(g:eA)(s:aA):R eA:=
 (yN T n (cZ T [40] (h2 T (aF (gY T true g.funcs.length 16 s))).2).2).bind λp=>
  some (oq T g (h2 T (aF (gY T true g.funcs.length 16 s))).1.text (h2 T (aF (gY T true g.funcs.length 16 s))).1.pos p.1 (j3 T p.2).1 (j3 T p.2).2)
section
variable {H H' H1:J}{r:Nat}{T:List Tok}{ak b9 b8 b_:I}{s s':aA}
theorem XW(aH:T.length<=20000000):H6 T:=λs=>by
 obtain⟨p,q,-,aa,-,-⟩:=Gv (T:=T) Z T.length s (DR _ _) 0 800000000 800000000 Z Z Z;exact⟨q,aa⟩
theorem aeW(aH:hG T){at_:Int}(aY:0<=at_)(U:at_<T.length): ∃p,oN T 800000000 (lI at_ 0)=some p/\(p.2.aC=0->0<=p.2.at_/\p.2.at_<T.length):=by
 obtain⟨p,q,aI,bc,-,ng⟩:=PL aH.n at_ 0;refine⟨p,aI,λal=> ?_⟩;have eq:=ng.1.eq al;have e:lI at_ 0=⟨at_,0,0,0⟩:=rfl;obtain⟨fx,-,-⟩:=(Lo aH.g (XW aH.n) 800000000).block _ q (λ_=>⟨aY,by rw[e];simp only;omega,by rw[e];exact Int.le_refl 0,by rw[e];exact(by decide:(0:Int)<=50)⟩) bc (by rw[eq];exact al);rw[eq,e] at fx;have a:=fx.a;have b:=fx.b;simp only at a;exact⟨Z,Z⟩
theorem jz.rest{c n2 esz:Nat}{x:I}{rest rest':List I}{l:List ec}{v:I}{s0:aA}(U:fP H1 r T ak b9 b8 b_ s0)(h:jz H1 H r c n2 esz T ak b9 b8 b_ x rest l v s):jz H1 (H.set c (.row false esz [x::v::rest'])) r c n2 esz T ak b9 b8 b_ x rest' l v s:=by
 have cR:=h.cR;have dd:=h.dd;have dG:=h.dG;have eM:=h.eM;have fK:nP r H1.next H1 (H.set c (.row false esz [x::v::rest'])):=h.m.db (.inl (.inr dd)) _
 exact⟨U.zU fK (by rw[J.get_set_other Z];exact h.dm.rd) h.dm.a0 h.dm.bf h.dm.z h.dm.o,J.get_set_same Z,h.hD.bo λk x ah g=>⟨ah,by unfold bI at ah;rw[J.get_set_other Z];exact g⟩,fK,cR,dd,dG,by simp;omega⟩
theorem VR{N:Nat}(aH:hG T){g:eA}{cG dh dL:Nat->Prop}{s0:aA}(dm:fP H1 r T ak b9 b8 b_ s0)(bz: ∀l i n e c,ak= .aN l i n e c->l<r)(df:fJ gA cG H1 g.el b9)(cU:fJ fz dh H1 g.globals b8)(b3:fJ gw dL H1 g.funcs b_)(bM: ∀k,cG k->r<k/\ ¬dh k/\ ¬dL k)(c2: ∀k,dh k->r<k/\ ¬dL k)(c3: ∀k,dL k->r<k)(az:g.funcs.length<=900000000)
  {c n2:Nat} {nm fL:bl} {ew rd:Int} {aM:Bool} {l:List ec} {v:I} (h:jz H1 H r c n2 7 T ak b9 b8 b_ (.str nm) [.bool aM,.str fL,.int .i64 rd,.ap,.int .i64 ew] l v s):
  W (zm (aq P ao) N (.ptr r 0 0) (.ptr c 0 0) H) λ_ H'=>tm r H1 H'/\nQ H' r T ak (oq T g nm ew l (aM,fL,rd) s).1 (oq T g nm ew l (aM,fL,rd) s).2:=by
 rw[zm];have ib:=h.cR;have dd:=h.dd;have dG:=h.dG;have eM:=h.eM;refine a6 (yF h.dm) ?_;rintro _ bm ⟨rfl,rfl⟩;refine⟨bN _,?_⟩;by_cases aY:s.aC=0
 ·have mu:(s.aC != 0)=false:=by simpa using aY
  have yg:=h.dm.cf.rd;have l2:=h.dm.rd;unfold iD at l2;rw[show oq T g nm ew l (aM,fL,rd) s=({g with funcs:=g.funcs++[⟨nm,l,aM,fL,rd,(oO T s).1,ew⟩]},(oO T s).2) from if_neg (λh=>h aY)];obtain⟨⟨hD,ji⟩,aI,rg⟩:=aeW aH h.dm.a0 h.dm.bf;have spec:=aaK (n:=800000000) cm aH.n h.dm.cf s.at_ 0 aI;simp-implicitDefEqProofs(disch:=try exact af) only[bg,bL,aj,dx,Nat.reduceAdd,Nat.reduceLeDiff,reduceIte,I.cells,eF,fu,fH,mu,l2];refine a6 spec ?_;rintro _ cT ⟨bv,rfl,uE,bB⟩;refine⟨bB.1,?_⟩;have A3:oO T s=((iQ hD ji).1,ot (iQ hD ji).2.1 (iQ hD ji).2.2.1 (iQ hD ji).2.2.2 s):=by simp only[oO,aI]
  have NG:(iQ hD ji).2.2.1=0->0<=(iQ hD ji).2.1/\(iQ hD ji).2.1<T.length:=λcn=>by
   unfold iQ at cn ⊢;by_cases al:ji.aC=0
   ·rw[if_pos al];exact rg al
   ·rw[if_neg al] at cn;exact absurd cn al
  rw[A3];generalize iQ hD ji=N6 at uE NG ⊢;obtain⟨kt,at_,e,a⟩:=N6;simp only at uE NG ⊢;have bK:=bB.bX (.row false 2 [[.int .i64 e,.int .i64 a]]);have am:=h.mut (bK.mut _) (h.dm.aK bK);simp-implicitDefEqProofs(disch:=try exact af) only[bg,bL,aj,dx,aQ,dx,Nat.reduceAdd,Nat.reduceLeDiff,reduceIte,I.cells,eF,fu,dB,fH,J.io,l2,yg];refine a6 (P2 am.dm at_ e a NG) ?_;rintro _ dp ⟨rfl,m5,iC⟩;refine⟨m5.1,?_⟩;have aB:=am.mut m5 iC;have gz:ez dp (bI n2) kt bv:=(uE.bo (fG.aK (aR.push cT _) λl az=>(by unfold bI at*;omega:bI n2 l))).bo (fG.mut m5 (by unfold bI;omega) λ_ h=>h);generalize ot at_ e a s=jN at iC aB ⊢
  have jJ:=aB.cell;have nJ:=iC.rd;unfold iD at nJ;have aG:=aB.rest dm (rest':=[.bool aM,.str fL,.int .i64 rd,bv,.int .i64 ew]);have p_:ez (dp.set c (.row false 7 [.str nm::v::[.bool aM,.str fL,.int .i64 rd,bv,.int .i64 ew]])) (bI n2) kt bv:=gz.bo (fG.set _ (by unfold bI;omega) λ_ h=>h);have M0:=p_.gi;have Yi:=kb M0;simp only[I.cells] at Yi;have tu:=J.aX jJ;simp-implicitDefEqProofs(disch:=try exact af) only[bg,bL,aj,dx,aQ,dx,Nat.reduceAdd,Nat.reduceLeDiff,reduceIte,I.cells,eF,fu,dB,fH,jJ,Yi,M0];have CT:=aG.cell;have m_:=aG.dm.rd;unfold iD at m_;generalize dp.set c (.row false 7 [.str nm::v::[.bool aM,.str fL,.int .i64 rd,bv,.int .i64 ew]])=gV at aG p_ CT m_ ⊢
  have Fl:=aG.hD.one;have de:=dm.cf.one;obtain⟨cu,eH,eE⟩:=dm.one;have E_:=aG.dm.lt;obtain⟨dr,H',hg,im,f1,f2,f3,f4,f5⟩:=grow (r:=r) (K:=gw) Hn b3 aG.m c3 ib (a:=⟨nm,l,aM,fL,rd,kt,ew⟩) (cs:=[.str nm,v,.bool aM,.str fL,.int .i64 rd,bv,.int .i64 ew]) (n2:=n2) ⟨v,bv,rfl,aG.hD.aN,p_⟩ Z Z;have ff:=uc Hn gV.next (cs:=[.str nm,v,.bool aM,.str fL,.int .i64 rd,bv,.int .i64 ew]) rfl (by simp only[List.all_cons,List.all_nil,jO,iF,yQ,Fl,M0,Bool.and_self])
  have ht:gw.esz=7:=rfl;rw[ht] at hg;have dQ:cj (some b_) b_=true:=b3.rd;have hr:=kb im;simp only[I.cells] at hr;have iU:H'.get r=some (.row false 7 [[ak,.int .i64 jN.at_,b9,b8,b_,.int .i64 jN.aC,.int .i64 jN.cv]]):=by rw[f3];exact m_
  have Ew:=J.aX iU;have uB:(gV.push (.row false 7 [[.str nm,v,.bool aM,.str fL,.int .i64 rd,bv,.int .i64 ew]])).next<=H'.next:=by simp only[J.b2];exact f2
  simp-implicitDefEqProofs(disch:=try exact af) only[bg,bL,aj,dx,aQ,dx,Nat.reduceAdd,Nat.reduceLeDiff,reduceIte,I.cells,eF,fu,dB,fH,nJ,CT,m_,ff,hg,kx,dQ,hr,iU,im,de,cu,eH,eE,Fl];have so:=f5 (.row false 7 [[ak,.int .i64 jN.at_,b9,b8,dr,.int .i64 jN.aC,.int .i64 jN.cv]]);refine a_.2 ⟨so,b9,b8,dr,(λk=>cG k/\k<H1.next),(λk=>dh k/\k<H1.next),_,?_,bz,?_,?_,f1 _,?_,?_,?_⟩
  ·exact dm.L6 bz so (J.get_set_same Ew) iC.a0 iC.bf iC.z iC.o ⟨cu,eH,im⟩
  ·exact df.bo λk b ah g=>by
    have:=J.aX g;have:=(bM k ah).1;exact⟨⟨ah,Z⟩,f4 k b (λh=>(bM k ah).2.2 h) Z Z g _⟩
  ·exact cU.bo λk b ah g=>by
    have:=J.aX g;have:=(c2 k ah).1;exact⟨⟨ah,Z⟩,f4 k b (λh=>(c2 k ah).2 h) Z Z g _⟩
  ·exact λk ah=>⟨(bM k ah.1).1,λh=>(bM k ah.1).2.1 h.1,λh=>h.elim (bM k ah.1).2.2 (λh=>by have:=ah.2;omega)⟩
  ·exact λk ah=>⟨(c2 k ah.1).1,λh=>h.elim (c2 k ah.1).2 (λh=>by have:=ah.2;omega)⟩
  ·rintro k (ah|ah)
   ·exact c3 k ah
   ·omega
 ·have mu:(s.aC != 0)=true:=by simpa using aY
  rw[show oq T g nm ew l (aM,fL,rd) s=(g,s) from if_pos aY];simp-implicitDefEqProofs(disch:=try exact af) only[bg,bL,mu];have iW: ∀ok:Nat->Prop,(∀k,ok k->r<k)->eb H1 ok bm (λk=>ok k):=λok ah k x bt g=>by
   have:=J.aX g;have:=ah k bt;exact⟨bt,h.m.get g Z⟩
  refine a_.2 ?_;refine⟨nP.so h.m ib,b9,b8,b_,cG,dh,dL,h.dm,bz,df.bo (iW cG λk ah=>(bM k ah).1),cU.bo (iW dh λk ah=>(c2 k ah).1),b3.bo (iW dL c3),bM,c2,c3⟩
end
end
section
section
variable {H H' H1:J}{r:Nat}{T:List Tok}{ak b9 b8 b_:I}{s s':aA}
structure NO(H1:J)(r:Nat)(T:List Tok)(ak b9 b8 b_:I)(g:eA)(cG dh dL:Nat->Prop)(s0:aA):Prop where
 dm:fP H1 r T ak b9 b8 b_ s0
 bz: ∀l i n e c,ak= .aN l i n e c->l<r
 df:fJ gA cG H1 g.el b9
 cU:fJ fz dh H1 g.globals b8
 b3:fJ gw dL H1 g.funcs b_
 bM: ∀k,cG k->r<k/\ ¬dh k/\ ¬dL k
 c2: ∀k,dh k->r<k/\ ¬dL k
 c3: ∀k,dL k->r<k
 az:g.funcs.length<=900000000
theorem VQ{N:Nat}(aH:hG T){g:eA}{cG dh dL:Nat->Prop}{s0:aA}(B:NO H1 r T ak b9 b8 b_ g cG dh dL s0){c n2:Nat}{nm:bl}{ew:Int}{l:List ec}{v:I}(h:jz H1 H r c n2 7 T ak b9 b8 b_ (.str nm) [.bool false,.str [],.int .i64 0,.ap,.int .i64 ew] l v s):
  W (vk (aq P ao) N (.ptr r 0 0) (.ptr c 0 0) H) λ_ H'=>tm r H1 H'/\nQ H' r T ak (oq T g nm ew l (j3 T s).1 (j3 T s).2).1 (oq T g nm ew l (j3 T s).1 (j3 T s).2).2:=by
 rw[vk];refine a6 (yG aH h.dm [41]) ?_;rintro _ bm ⟨rfl,m2,e0⟩;refine⟨m2.1,?_⟩;have aa:=h.mut m2 e0;unfold j3;generalize (cZ T [41] s).2=s2 at aa e0 ⊢;refine a6 (JP aH e0 (k:=4) cm [58]) ?_;rintro _ cT ⟨rfl,m3,gC⟩;refine⟨m3.1,?_⟩;have ae:=aa.mut m3 gC;generalize fj T 4 [58] s2=q at ae gC ⊢;obtain⟨b,iO⟩:=q;simp only at ae gC ⊢;cases b with
 |false=>
  simp-implicitDefEqProofs(disch:=try exact af) only[bg,bL];exact VR aH B.dm B.bz B.df B.cU B.b3 B.bM B.c2 B.c3 B.az ae
 |true=>
  simp-implicitDefEqProofs(disch:=try exact af) only[bg,bL];refine a6 (RZ aH gC) ?_;rintro _ ct ⟨rfl,m4,nk⟩;refine⟨m4.1,?_⟩;have am:=ae.mut m4 nk;generalize nD T iO=o at am nk ⊢;obtain⟨⟨x,d⟩,qp⟩:=o;simp only at am nk ⊢;have iI:=am.cell;have h7:=J.aX iI;have aG:=am.rest B.dm (rest':=[.bool true,.str x,.int .i64 d,.ap,.int .i64 ew]);simp-implicitDefEqProofs(disch:=try exact af) only[bg,bL,aj,dx,aQ,dx,Nat.reduceAdd,Nat.reduceLeDiff,reduceIte,I.cells,eF,fu,dB,fH,iI];exact VR aH B.dm B.bz B.df B.cU B.b3 B.bM B.c2 B.c3 B.az aG
theorem S9{N:Nat}(aH:hG T){g:eA}{cG dh dL:Nat->Prop}{s0:aA}(B:NO H1 r T ak b9 b8 b_ g cG dh dL s0){c n2:Nat}{nm:bl}{ew:Int}{l':List ec}:
  ∀(n m:Nat) (H:J) (s:aA) (l:List ec) (v:I),n<m->l.length+n<=900000000->jz H1 H r c n2 7 T ak b9 b8 b_ (.str nm) [.bool false,.str [],.int .i64 0,.ap,.int .i64 ew] l v s->pz T n l s=some (l',s')->
   W (zn (aq P ao) N m (.ptr r 0 0) (.ptr c 0 0) H) λ_ H'=>tm r H1 H'/\nQ H' r T ak (oq T g nm ew l' (j3 T s').1 (j3 T s').2).1 (oq T g nm ew l' (j3 T s').1 (j3 T s').2).2
 |_,0,_,_,_,_,aU,_,_,_=>Z
 |0,m+1,_,_,_,_,_,_,_,al=>by cases al
 |n+1,m+1,H,s,l,v,aU,ax,h,al=>by
  rw[pz] at al;rw[zn];unfold G2;refine a6 (JP aH h.dm (k:=4) cm [44]) ?_;rintro _ cT ⟨rfl,m3,gC⟩;refine⟨m3.1,?_⟩;have ae:=h.mut m3 gC;generalize fj T 4 [44] s=q at ae gC al ⊢;obtain⟨b,iO⟩:=q;simp only at ae gC al ⊢;cases b with
  |false=>
   rw[bj] at al;cases al;simp-implicitDefEqProofs(disch:=try exact af) only[bg,bL];exact VQ aH B ae
  |true=>
   rw[bC] at al;simp-implicitDefEqProofs(disch:=try exact af) only[bg,bL];refine a6 (Ph aH (by rfl) B.dm ae Z) ?_;rintro _ ct ⟨hm,dr,am⟩;exact⟨hm,S9 aH B n m ct _ _ dr Z (by simp only[me,List.length_append,List.length_cons,List.length_nil];omega) am al⟩
theorem ZO(aH:hG T){g:eA}{n:Nat}(aU:n<=800000000)(h:nQ H r T ak g s)(az:g.funcs.length<=900000000)(ah:(ar T s.at_).kind≠0){g':eA}(al:wN T n g s=some (g',s')):W (aq P ao 22 [.ptr r 0 0] H) λ_ H'=>tm r H H'/\nQ H' r T ak g' s':=by
 refine cP (λ_=>akU (n+1)) ?_;obtain⟨b9,b8,b_,cG,dh,dL,dm,bz,df,cU,b3,bM,c2,c3⟩:=h;have B:NO H r T ak b9 b8 b_ g cG dh dL s:=⟨dm,bz,df,cU,b3,bM,c2,c3,az⟩;have l2:=dm.rd;unfold iD at l2;have je:=λH'=>b3.uk H'
 have ib:=dm.lt;simp-implicitDefEqProofs(disch:=try exact af) only[IC,reduceAdd,reduceLeDiff,reduceIte,aw,l2,je];refine a6 (DC dm true _ _) ?_;rintro _ bm ⟨rfl,m2,e0⟩;refine⟨m2.1,?_⟩;unfold wN at al;have qc:(ar T (gY T true (g.funcs.length:Int) 16 s).at_).kind≠0:=by rw[KR];exact ah
 generalize gY T true (g.funcs.length:Int) 16 s=s2 at e0 al qc;have cI:=e0.rd;unfold iD at cI;have de:=e0.cf.one;obtain⟨dd,dG,eM⟩:=e0.one;have l1:=e0.lt;obtain⟨m3,gC⟩:=Lu aH e0 qc;simp-implicitDefEqProofs(disch:=try exact af) only[reduceAdd,reduceLeDiff,reduceIte,aw,cI,de,dd,dG,eM];generalize aF s2=iO at gC al;generalize bm.set r (.row false 7 [[ak,.int .i64 (IntKind.i64.wrap (s2.at_+1)),b9,b8,b_,.int .i64 s2.aC,.int .i64 s2.cv]])=cT at m3 gC ⊢;refine a6 (J7 aH gC) ?_;rintro _ ct ⟨rfl,m4,nk⟩;refine⟨m4.1,?_⟩;generalize h2 T iO=q at nk al ⊢;obtain⟨⟨k,x,z,p⟩,qp⟩:=q;simp only at nk al;have eR:=aR.push ct (.row false 4 [[.int .i64 k,.str x,.int .i64 z,.int .i64 p]])
 have jJ:=J.ca ct (.row false 4 [[.int .i64 k,.str x,.int .i64 z,.int .i64 p]]);simp-implicitDefEqProofs(disch:=try exact af) only[bg,bL,aj,dx,aQ,dx,Nat.reduceAdd,Nat.reduceLeDiff,reduceIte,I.cells,eF,fu,dB,fH,fH,J.io,Tok.v];have xU:=(m2.trans m3).trans m4;have Fe:=xU.1;have iC:=nk.aK eR;have nS:(ct.push (.row false 4 [[.int .i64 k,.str x,.int .i64 z,.int .i64 p]])).next=ct.next+1:=by simp only[J.b2]
 generalize ct.push (.row false 4 [[.int .i64 k,.str x,.int .i64 z,.int .i64 p]])=dp at eR jJ iC nS ⊢;have gI:=aR.push dp (.row false 7 [[.str x,.ap,.bool false,.str [],.int .i64 0,.ap,.int .i64 p]]);have Yz:=eR.1;have FZ:jz H (dp.push (.row false 7 [[.str x,.ap,.bool false,.str [],.int .i64 0,.ap,.int .i64 p]])) r (ct.next+1) (ct.next+2) 7 T ak b9 b8 b_ (.str x) [.bool false,.str [],.int .i64 0,.ap,.int .i64 p] [] .ap qp:=
  ⟨iC.aK gI,by rw[<-nS];exact J.ca _ _,fJ.nil,cC.A7 (xU.trans ((eR.trans gI).mut _)),ib,Z,Z,by simp only[J.b2];omega⟩
 refine a6 (yG aH FZ.dm [40]) ?_;rintro _ fX ⟨rfl,m7,Is⟩;refine⟨m7.1,?_⟩;have C8:=FZ.mut m7 Is;obtain⟨⟨l',pr⟩,g1,g2⟩:=hX al;simp only[bF] at g2;have e7:g'=(oq T g x p l' (j3 T pr).1 (j3 T pr).2).1:=by rw[g2]
 have gG:s'=(oq T g x p l' (j3 T pr).1 (j3 T pr).2).2:=by rw[g2]
 rw[e7,gG];generalize (cZ T [40] qp).2=mG at C8 Is g1;refine a6 (BD C8.dm 4 [41]) ?_;rintro _ jX ⟨rfl,kU⟩;refine⟨kU.1,?_⟩;have Fv:=C8.mut (kU.mut _) (C8.dm.aK kU);unfold yN at g1;cases ax:b7 T mG 4 [41] with
 |true=>
  rw[ax,bC] at g1;cases g1;simp-implicitDefEqProofs(disch:=try exact af) only[bg,bL,Bool.not_true];exact VQ aH B Fv
 |false=>
  rw[ax,bj] at g1;simp-implicitDefEqProofs(disch:=try exact af) only[bg,bL,Bool.not_false];refine a6 (Ph aH (by rfl) B.dm Fv (by simp)) ?_;rintro _ gV ⟨hm,dr,bJ⟩;exact⟨hm,S9 aH B n (n+1) gV _ _ dr Z (by simp only[me,List.length_append,List.length_cons,List.length_nil];omega) bJ g1⟩
end
end
section
set_option maxRecDepth 100000
noncomputable section
def rG(G:av)(N:Nat)(Y ay ba:I)(H:J):O:=
 bg P .len [9] [Y] H λfv=>
 ab (cO P 57 [(0,(.int .i64 0)),(3,fv)]) λfi=>
 dv H (dK P (H).next 50 1 [(0,fi)]) λfU U=>
 aO U (fQ P U [50,50] ba fU) λgb aa=>
 a7 aa (aQ P aa 29 ay (.agg [(.int .i64 0),(.int .i64 0)])) λae=>
 ab (aj P ae 29 ay) λr=>
 some (.tuple [gb,r],ae)
theorem adG(G:av)(N:Nat): ∀R H,cw P G N (Code.snd (Code.snd (Code.snd (Code.snd (Code.snd (c6 Tryz.f24)))))) (bY Tryz.f24) [] (bY Tryz.f24) R H=rG G N (R 0) (R 3) (R 4) H:=by
 refine dj (aL _) λR H=> ?_
 delta rG;kernel_rfl
def tP(bD:I->I->I->I->J->O)(Y ay:I)(eC dW:I)(aG:J):O:=
 bD Y ay eC dW aG
def vl(G:av)(N:Nat)(bD:I->I->I->I->J->O)(Y ay:I)(ba bb:I)(H:J):O:=
 bg P .len [9] [Y] H λbG=>
 ab (aW P .lss 3 false bb bG) λcc=>
 bO (some cc) (aO H (G 58 [Y,bb] H) λcx U=>
 ab (gT cx 0) λcz=>
 ab (gT cx 1) λcH=>
 cy U [(.int .i64 0),(.str []),(.int .i64 0),(.int .i64 0)] λbu aa=>
 a7 aa (aQ P aa 57 bu cz) λae=>
 ab (aW P .eql 3 true cH (.int .i64 0)) λdn=>
 bO (some dn) (ab (cO P 29 [(0,(.int .i64 1)),(1,bb)]) λdc=>
 a7 ae (aQ P ae 29 ay dc) λam=>
 ab (aj P am 29 ay) λr=>
 some (.tuple [I.ap,r],am)) (ab (aj P ae 57 bu) λdJ=>
 dv ae (dK P (ae).next 50 1 [(0,dJ)]) λcF am=>
 aO am (fQ P am [50,50] ba cF) λeC aB=>
 ab (aW P .add 3 false bb cH) λej=>
 aO aB (G 57 [Y,ej] aB) (tP bD Y ay eC))) (rG G N Y ay ba H)
def xh(G:av)(N:Nat):Nat->I->I->I->I->J->O
 |0,_,_,_,_,_=>none
 |n+1,Y,ay,ba,bb,H=>vl G N (xh G N n) Y ay ba bb H
theorem adF(G:av)(N:Nat)(bD:I->I->I->I->J->O): ∀R H,cw P G N (Code.fst (Code.fst (Code.fst (Code.snd (Code.snd (Code.snd (Code.snd (c6 Tryz.f24)))))))) (λR H=>bD (R 0) (R 3) (R 4) (R 5) H) [(0,(λR H=>rG G N (R 0) (R 3) (R 4) H))] (bY Tryz.f24) R H=vl G N bD (R 0) (R 3) (R 4) (R 5) H:=by
 refine dj (aL _) λR H=> ?_
 delta vl tP;generalize rG G N=a1;revert a1;refine id ?_;intro a1;kernel_rfl
def tQ(G:av)(N:Nat)(Y ay b6:I)(aa:J):O:=
 xh G N N Y ay I.ap b6 aa
def uM(G:av)(N:Nat)(Y:I)(H:J):O:=
 cy H [(.int .i64 0),(.int .i64 0)] λay U=>
 bg P .len [9] [Y] U λbE=>
 ab (aW P .gtr 3 true bE (.int .i64 6000)) λcq=>
 bO (some cq) (a7 U (aQ P U 29 ay (.agg [(.int .i64 4),(.int .i64 0)])) λaa=>
 ab (aj P aa 29 ay) λr=>
 some (.tuple [I.ap,r],aa)) (aO U (G 57 [Y,(.int .i64 0)] U) (tQ G N Y ay))
theorem aiT(G:av)(N:Nat)(Y:I)(H:J):bn Tryz.f24 G N (cB [Y]) H=uM G N Y H:=by
 refine cL (A:=bn Tryz.f24 G N) ((bk ad ((bk ad ((bk ad ((bk ad ((bk ad (adG G N) ((fy ad ((gg (k:=λm R H=>xh G N m (R 0) (R 3) (R 4) (R 5) H) ad (λR H=>ad) (λm=>adF G N (xh G N m)))))))) (aL _))) (aL _))) (aL _))) (aL _))) ?_;delta uM tQ;generalize xh G N N=a1;revert a1;refine id ?_;intro a1;kernel_rfl
theorem akW(N:Nat){Y:I}{H:J}{r:I×J}(h:uM (aq P ao) N Y H=some r):aq P ao 24 [Y] H=some r:=
 cQ ad Tryz.func24 ad ad ad ((aiT (aq P ao) N Y H).trans h)
def nt(G:av)(N:Nat)(ai:I)(H:J):O:=
 some (ai,H)
theorem ad7(G:av)(N:Nat): ∀R H,cw P G N (Code.snd (Code.snd (c6 Tryz.f57))) (bY Tryz.f57) [] (bY Tryz.f57) R H=nt G N (R 1) H:=by
 refine dj (aL _) λR H=> ?_
 delta nt;kernel_rfl
def B3(G:av)(N:Nat)(bD:I->I->J->O)(hC:I->I->J->O)(Y ai:I)(H:J):O:=
 bg P .len [9] [Y] H λhQ=>
 ab (aW P .lss 3 false ai hQ) λgk=>
 aD gk true H (di Y) λjV U=>
 aD gk true U (di ai) λj_ aa=>
 aD gk true aa (bh (h1 P 9 jV j_)) λlr ae=>
 aD gk true ae (bh (aW P .neq 5 true lr (.int .u8 10))) λsj am=>
 ab (cX gk (some sj) (some (.bool false))) λkR=>
 bO (some kR) (ab (aW P .add 3 true ai (.int .i64 1)) λjW=>
 hC Y jW am) (bD Y ai am)
def vu(G:av)(N:Nat)(bD:I->I->J->O):Nat->I->I->J->O
 |0,_,_,_=>none
 |n+1,Y,ai,H=>B3 G N bD (vu G N bD n) Y ai H
theorem ad6(G:av)(N:Nat)(bD:I->I->J->O)(hC:I->I->J->O): ∀R H,cw P G N (Code.fst (Code.fst (Code.fst (Code.snd (Code.snd (Code.snd (Code.fst (Code.fst (Code.snd (Code.fst (Code.fst (Code.fst (Code.snd (c6 Tryz.f57)))))))))))))) (λR H=>hC (R 0) (R 1) H) [(3,(λR H=>bD (R 0) (R 1) H)),(2,(λR H=>bD (R 0) (R 1) H)),(1,(λR H=>bD (R 0) (R 1) H)),(0,(λR H=>nt G N (R 1) H))] (bY Tryz.f57) R H=B3 G N bD hC (R 0) (R 1) H:=by
 refine dj (aL _) λR H=> ?_
 delta B3;generalize bD=a1;revert a1;refine id ?_;intro a1;kernel_rfl
def sK(G:av)(N:Nat)(bD:I->I->J->O)(Y ai:I)(H:J):O:=
 bg P .len [9] [Y] H λbx=>
 ab (aW P .lss 3 false ai bx) λbS=>
 bO (some bS) (ab (h1 P 9 Y ai) λb6=>
 ab (aW P .eql 5 true b6 (.int .u8 32)) λbT=>
 aD bT false H (di Y) λbG U=>
 aD bT false U (di ai) λcc aa=>
 aD bT false aa (bh (h1 P 9 bG cc)) λcK ae=>
 aD bT false ae (bh (aW P .eql 5 true cK (.int .u8 9))) λcM am=>
 ab (cX bT (some (.bool true)) (some cM)) λcA=>
 aD cA false am (di Y) λcz aB=>
 aD cA false aB (di ai) λcH aG=>
 aD cA false aG (bh (h1 P 9 cz cH)) λc1 aP=>
 aD cA false aP (bh (aW P .eql 5 true c1 (.int .u8 10))) λdn bq=>
 ab (cX cA (some (.bool true)) (some dn)) λdt=>
 aD dt false bq (di Y) λdT bJ=>
 aD dt false bJ (di ai) λdJ co=>
 aD dt false co (bh (h1 P 9 dT dJ)) λcF ds=>
 aD dt false ds (bh (aW P .eql 5 true cF (.int .u8 13))) λeC dV=>
 ab (cX dt (some (.bool true)) (some eC)) λdy=>
 bO (some dy) (ab (aW P .add 3 true ai (.int .i64 1)) λfh=>
 bD Y fh dV) (bg P .len [9] [Y] dV λef=>
 ab (aW P .sub 3 false ef ai) λfv=>
 ab (aW P .geq 3 true fv (.int .i64 2)) λfi=>
 aD fi true dV (di Y) λgb eN=>
 aD fi true eN (di ai) λgM fI=>
 aD fi true fI (di ai) λe4 f0=>
 aD fi true f0 (bh (aW P .add 3 true e4 (.int .i64 2))) λgR hk=>
 aD fi true hk (bh (kj P 9 gb (some gM) (some gR) none)) λgB iv=>
 aD fi true iv (bh (aW P .eql 9 true gB (.str [47,47]))) λhB hZ=>
 ab (cX fi (some hB) (some (.bool false))) λjy=>
 bO (some jy) (vu G N bD N Y ai hZ) (some (ai,hZ)))) (nt G N ai H)
def oj(G:av)(N:Nat):Nat->I->I->J->O
 |0,_,_,_=>none
 |n+1,Y,ai,H=>sK G N (oj G N n) Y ai H
theorem ad5(G:av)(N:Nat)(bD:I->I->J->O): ∀R H,cw P G N (Code.fst (Code.fst (Code.fst (Code.snd (c6 Tryz.f57))))) (λR H=>bD (R 0) (R 1) H) [(0,(λR H=>nt G N (R 1) H))] (bY Tryz.f57) R H=sK G N bD (R 0) (R 1) H:=by
 refine dj ((bk ad ((fy ad ((fy ad ((bk ad ((qw ad (aL _) ((bk ad ((qw ad ((fy ad ((gg (k:=λm R H=>vu G N bD m (R 0) (R 1) H) ad (λR H=>ad) (λm=>ad6 G N bD (vu G N bD m)))))) (aL _))) (aL _))))) (aL _))))))) (aL _))) λR H=> ?_
 delta sK;generalize nt G N=a1;generalize vu G N bD N=l8;revert a1 l8;refine id ?_;intro a1 l8;kernel_rfl
def pg(G:av)(N:Nat)(Y ai:I)(H:J):O:=
 oj G N N Y ai H
theorem ajm(G:av)(N:Nat)(Y:I)(ai:I)(H:J):bn Tryz.f57 G N (cB [Y,ai]) H=pg G N Y ai H:=by
 refine cL (A:=bn Tryz.f57 G N) ((bk ad ((bk ad (ad7 G N) ((fy ad ((gg (k:=λm R H=>oj G N m (R 0) (R 1) H) ad (λR H=>ad) (λm=>ad5 G N (oj G N m)))))))) (aL _))) ?_;delta pg;generalize oj G N N=a1;revert a1;refine id ?_;intro a1;kernel_rfl
theorem alq(N:Nat){Y ai:I}{H:J}{r:I×J}(h:pg (aq P ao) N Y ai H=some r):aq P ao 57 [Y,ai] H=some r:=
 cQ ad Tryz.func57 ad ad ad ((ajm (aq P ao) N Y ai H).trans h)
def jL(G:av)(Y ai:I)(H:J):O:=
 cy H [(.int .i64 0),(.str []),(.int .i64 0),(.int .i64 0)] λba U=>
 ab (h1 P 9 Y ai) λbW=>
 aO U (G 76 [bW] U) λbG aa=>
 bO (some bG) (aO aa (G 77 [Y,ai,(.bool false)] aa) λcM ae=>
 ab (aW P .add 3 false ai cM) λc1=>
 ab (kj P 9 Y (some ai) (some c1) none) λdn=>
 aO ae (G 78 [dn] ae) λdc am=>
 bO (some dc) (ab (cO P 57 [(0,(.int .i64 3)),(1,dn),(3,ai)]) λcF=>
 a7 am (aQ P am 57 ba cF) λaB=>
 ab (aj P aB 57 ba) λr=>
 some (.tuple [r,cM],aB)) (aO am (G 79 [dn] am) λei aB=>
 bO (some ei) (ab (cO P 57 [(0,(.int .i64 1)),(1,dn),(3,ai)]) λdW=>
 a7 aB (aQ P aB 57 ba dW) λaG=>
 ab (aj P aG 57 ba) λr=>
 some (.tuple [r,cM],aG)) (a7 aB (aQ P aB 57 ba (.agg [(.int .i64 0),(.str []),(.int .i64 0),(.int .i64 0)])) λaG=>
 ab (aj P aG 57 ba) λr=>
 some (.tuple [r,(.int .i64 0)],aG)))) (ab (h1 P 9 Y ai) λgb=>
 aO aa (G 80 [gb] aa) λgM ae=>
 bO (some gM) (aO ae (G 77 [Y,ai,(.bool true)] ae) λgB am=>
 ab (aW P .add 3 false ai gB) λgk=>
 ab (kj P 9 Y (some ai) (some gk) none) λjU=>
 aO am (G 81 [jU] am) λjV aB=>
 ab (gT jV 0) λj_=>
 ab (gT jV 1) λlr=>
 ab (eY .not lr) λkR=>
 aD kR false aB (di gB) λjW aG=>
 aD kR false aG (bh (aW P .gtr 3 true jW (.int .i64 1))) λoH aP=>
 aD kR false aP (di oH) λiV bq=>
 aD iV true bq (di Y) λl6 bJ=>
 aD iV true bJ (di ai) λnM co=>
 aD iV true co (bh (h1 P 9 l6 nM)) λkS ds=>
 aD iV true ds (bh (aW P .eql 5 true kS (.int .u8 48))) λl7 dV=>
 aD kR false dV (bh (cX iV (some l7) (some (.bool false)))) λnb eN=>
 ab (cX kR (some (.bool true)) (some nb)) λfD=>
 aD fD false eN (di ai) λAT fI=>
 aD fD false fI (di gB) λnN f0=>
 aD fD false f0 (bh (aW P .add 3 false AT nN)) λph hk=>
 aD fD false hk (di Y) λnc iv=>
 aD fD false iv (λq=>iu (dF P .empty .len [9] [nc]) (dF P iv .len [9] [nc]) q) λnO hZ=>
 aD fD false hZ (bh (aW P .lss 3 false ph nO)) λww mv=>
 aD fD false mv (di ww) λqf jq=>
 aD qf true jq (di Y) λuR ja=>
 aD qf true ja (di ai) λAU oB=>
 aD qf true oB (di gB) λuS jI=>
 aD qf true jI (bh (aW P .add 3 false AU uS)) λqg o8=>
 aD qf true o8 (bh (h1 P 9 uR qg)) λq8 lX=>
 aD qf true lX (λq=>fk lX (G 76 [q8] lX) q) λq9 mT=>
 aD fD false mT (bh (cX qf (some q9) (some (.bool false)))) λAV p7=>
 ab (cX fD (some (.bool true)) (some AV)) λiy=>
 bO (some iy) (a7 p7 (aQ P p7 57 ba (.agg [(.int .i64 0),(.str []),(.int .i64 0),(.int .i64 0)])) λlY=>
 ab (aj P lY 57 ba) λr=>
 some (.tuple [r,(.int .i64 0)],lY)) (ab (cO P 57 [(0,(.int .i64 2)),(2,j_),(3,ai)]) λwx=>
 a7 p7 (aQ P p7 57 ba wx) λlY=>
 ab (aj P lY 57 ba) λr=>
 some (.tuple [r,gB],lY))) (aO ae (G 82 [Y,ai] ae) λAW am=>
 ab (aW P .eql 9 true AW (.str [])) λFL=>
 bO (some FL) (a7 am (aQ P am 57 ba (.agg [(.int .i64 0),(.str []),(.int .i64 0),(.int .i64 0)])) λaB=>
 ab (aj P aB 57 ba) λr=>
 some (.tuple [r,(.int .i64 0)],aB)) (ab (cO P 57 [(0,(.int .i64 4)),(1,AW),(3,ai)]) λqi=>
 bg P .len [9] [AW] am λr4=>
 a7 am (aQ P am 57 ba qi) λaB=>
 ab (aj P aB 57 ba) λr=>
 some (.tuple [r,r4],aB))))
theorem ajn(G:av)(N:Nat)(Y:I)(ai:I)(H:J):bn Tryz.f58 G N (cB [Y,ai]) H=jL G Y ai H:=by
 refine cL (A:=bn Tryz.f58 G N) (aL _) ?_;delta jL;kernel_rfl
theorem alr(N:Nat){Y ai:I}{H:J}{r:I×J}(h:jL (aq P ao) Y ai H=some r):aq P ao 58 [Y,ai] H=some r:=
 cQ ad Tryz.func58 ad ad ad ((ajn (aq P ao) N Y ai H).trans h)
def IY(G:av)(Y:I)(H:J):O:=
 ab (aW P .geq 5 true Y (.int .u8 97)) λba=>
 aD ba true H (di Y) λbu U=>
 aD ba true U (bh (aW P .leq 5 true bu (.int .u8 122))) λbx aa=>
 ab (cX ba (some bx) (some (.bool false))) λbS=>
 aD bS false aa (di Y) λcq ae=>
 aD bS false ae (bh (aW P .geq 5 true cq (.int .u8 65))) λb1 am=>
 aD bS false am (di b1) λcb aB=>
 aD cb true aB (di Y) λb6 aG=>
 aD cb true aG (bh (aW P .leq 5 true b6 (.int .u8 90))) λbT aP=>
 aD bS false aP (bh (cX cb (some bT) (some (.bool false)))) λbW bq=>
 ab (cX bS (some (.bool true)) (some bW)) λbG=>
 some (bG,bq)
theorem ajD(G:av)(N:Nat)(Y:I)(H:J):bn Tryz.f76 G N (cB [Y]) H=IY G Y H:=by
 refine cL (A:=bn Tryz.f76 G N) (aL _) ?_;delta IY;kernel_rfl
theorem alH(N:Nat){Y:I}{H:J}{r:I×J}(h:IY (aq P ao) Y H=some r):aq P ao 76 [Y] H=some r:=
 cQ ad Tryz.func76 ad ad ad ((ajD (aq P ao) N Y H).trans h)
def rH(G:av)(N:Nat)(bx:I)(H:J):O:=
 some (bx,H)
theorem aei(G:av)(N:Nat): ∀R H,cw P G N (Code.snd (Code.snd (Code.snd (c6 Tryz.f77)))) (bY Tryz.f77) [] (bY Tryz.f77) R H=rH G N (R 7) H:=by
 refine dj (aL _) λR H=> ?_
 delta rH;kernel_rfl
def tZ(G:av)(N:Nat)(bD:I->I->I->I->J->O)(Y ai:I)(an bx:I)(H:J):O:=
 ab (aW P .add 3 false ai bx) λcq=>
 bg P .len [9] [Y] H λcb=>
 ab (aW P .lss 3 false cq cb) λb6=>
 aD b6 true H (di Y) λbW U=>
 aD b6 true U (di ai) λbG aa=>
 aD b6 true aa (di bx) λcc ae=>
 aD b6 true ae (bh (aW P .add 3 false bG cc)) λcK am=>
 aD b6 true am (bh (h1 P 9 bW cK)) λcM aB=>
 aD b6 true aB (λq=>fk aB (G 80 [cM] aB) q) λcA aG=>
 aD b6 true aG (di cA) λcx aP=>
 aD cx false aP (di an) λcz bq=>
 aD cx false bq (bh (eY .not cz)) λcH bJ=>
 aD cx false bJ (di cH) λc1 co=>
 aD c1 true co (di Y) λdn ds=>
 aD c1 true ds (di ai) λdt dV=>
 aD c1 true dV (di bx) λdc eN=>
 aD c1 true eN (bh (aW P .add 3 false dt dc)) λdT fI=>
 aD c1 true fI (bh (h1 P 9 dn dT)) λdJ f0=>
 aD c1 true f0 (λq=>fk f0 (G 76 [dJ] f0) q) λcF hk=>
 aD cx false hk (bh (cX c1 (some cF) (some (.bool false)))) λeC iv=>
 aD b6 true iv (bh (cX cx (some (.bool true)) (some eC))) λdy hZ=>
 ab (cX b6 (some dy) (some (.bool false))) λei=>
 bO (some ei) (ab (aW P .add 3 true bx (.int .i64 1)) λej=>
 bD Y ai an ej hZ) (rH G N bx hZ)
def vw(G:av)(N:Nat):Nat->I->I->I->I->J->O
 |0,_,_,_,_,_=>none
 |n+1,Y,ai,an,bx,H=>tZ G N (vw G N n) Y ai an bx H
theorem aeh(G:av)(N:Nat)(bD:I->I->I->I->J->O): ∀R H,cw P G N (Code.fst (Code.fst (Code.fst (Code.snd (Code.snd (c6 Tryz.f77)))))) (λR H=>bD (R 0) (R 1) (R 2) (R 7) H) [(0,(λR H=>rH G N (R 7) H))] (bY Tryz.f77) R H=tZ G N bD (R 0) (R 1) (R 2) (R 7) H:=by
 refine dj (aL _) λR H=> ?_
 delta tZ;generalize rH G N=a1;revert a1;refine id ?_;intro a1;kernel_rfl
def ti(G:av)(N:Nat)(Y ai an:I)(H:J):O:=
 vw G N N Y ai an (.int .i64 0) H
theorem ajE(G:av)(N:Nat)(Y:I)(ai:I)(an:I)(H:J):bn Tryz.f77 G N (cB [Y,ai,an]) H=ti G N Y ai an H:=by
 refine cL (A:=bn Tryz.f77 G N) ((bk ad ((bk ad ((bk ad (aei G N) ((fy ad ((gg (k:=λm R H=>vw G N m (R 0) (R 1) (R 2) (R 7) H) ad (λR H=>ad) (λm=>aeh G N (vw G N m)))))))) (aL _))) (aL _))) ?_;delta ti;generalize vw G N N=a1;revert a1;refine id ?_;intro a1;kernel_rfl
theorem alI(N:Nat){Y ai an:I}{H:J}{r:I×J}(h:ti (aq P ao) N Y ai an H=some r):aq P ao 77 [Y,ai,an] H=some r:=
 cQ ad Tryz.func77 ad ad ad ((ajE (aq P ao) N Y ai an H).trans h)
def vx(G:av)(N:Nat)(H:J):O:=
 some ((.bool false),H)
theorem aek(G:av)(N:Nat): ∀R H,cw P G N (Code.snd (Code.snd (Code.snd (c6 Tryz.f78)))) (bY Tryz.f78) [] (bY Tryz.f78) R H=vx G N H:=by
 refine dj (aL _) λR H=> ?_
 delta vx;kernel_rfl
def zC(G:av)(N:Nat)(bD:I->I->I->J->O)(Y ay ba:I)(H:J):O:=
 bg P .len [48] [ay] H λbS=>
 ab (aW P .lss 3 false ba bS) λbE=>
 bO (some bE) (ab (dS P 48 ay ba) λbT=>
 ab (aj P H 9 bT) λbW=>
 ab (aW P .eql 9 false bW Y) λcc=>
 bO (some cc) (some ((.bool true),H)) (ab (aW P .add 3 true ba (.int .i64 1)) λb1=>
 bD Y ay b1 H)) (vx G N H)
def xo(G:av)(N:Nat):Nat->I->I->I->J->O
 |0,_,_,_,_=>none
 |n+1,Y,ay,ba,H=>zC G N (xo G N n) Y ay ba H
theorem aej(G:av)(N:Nat)(bD:I->I->I->J->O): ∀R H,cw P G N (Code.fst (Code.fst (Code.snd (Code.fst (Code.snd (Code.snd (c6 Tryz.f78))))))) (λR H=>bD (R 0) (R 3) (R 4) H) [(0,(λR H=>vx G N H))] (bY Tryz.f78) R H=zC G N bD (R 0) (R 3) (R 4) H:=by
 refine dj (aL _) λR H=> ?_
 delta zC;generalize vx G N=a1;revert a1;refine id ?_;intro a1;kernel_rfl
def zB(G:av)(N:Nat)(Y bb:I)(U:J):O:=
 xo G N N Y bb (.int .i64 0) U
def yt(G:av)(N:Nat)(Y:I)(H:J):O:=
 aO H (G 108 [] H) (zB G N Y)
theorem ajF(G:av)(N:Nat)(Y:I)(H:J):bn Tryz.f78 G N (cB [Y]) H=yt G N Y H:=by
 refine cL (A:=bn Tryz.f78 G N) ((bk ad ((bk ad ((bk ad (aek G N) ((bk ad ((fy ad ((gg (k:=λm R H=>xo G N m (R 0) (R 3) (R 4) H) ad (λR H=>ad) (λm=>aej G N (xo G N m)))))) (aL _))))) (aL _))) (aL _))) ?_;delta yt zB;generalize xo G N N=a1;revert a1;refine id ?_;intro a1;kernel_rfl
theorem alJ(N:Nat){Y:I}{H:J}{r:I×J}(h:yt (aq P ao) N Y H=some r):aq P ao 78 [Y] H=some r:=
 cQ ad Tryz.func78 ad ad ad ((ajF (aq P ao) N Y H).trans h)
def mL(G:av)(N:Nat)(H:J):O:=
 some ((.bool true),H)
theorem aem(G:av)(N:Nat): ∀R H,cw P G N (Code.snd (Code.snd (Code.snd (c6 Tryz.f79)))) (bY Tryz.f79) [] (bY Tryz.f79) R H=mL G N H:=by
 refine dj (aL _) λR H=> ?_
 delta mL;kernel_rfl
def oS(G:av)(N:Nat)(bD:I->I->J->O)(Y ay:I)(H:J):O:=
 bg P .len [9] [Y] H λc1=>
 ab (aW P .lss 3 false ay c1) λdn=>
 bO (some dn) (ab (h1 P 9 Y ay) λcF=>
 aO H (G 76 [cF] H) λeC U=>
 ab (eY .not eC) λdy=>
 aD dy true U (di Y) λfh aa=>
 aD dy true aa (di ay) λej ae=>
 aD dy true ae (bh (h1 P 9 fh ej)) λdW am=>
 aD dy true am (λq=>fk am (G 80 [dW] am) q) λef aB=>
 aD dy true aB (bh (eY .not ef)) λfo aG=>
 ab (cX dy (some fo) (some (.bool false))) λfv=>
 bO (some fv) (some ((.bool false),aG)) (ab (aW P .add 3 true ay (.int .i64 1)) λdc=>
 bD Y dc aG)) (mL G N H)
def xp(G:av)(N:Nat):Nat->I->I->J->O
 |0,_,_,_=>none
 |n+1,Y,ay,H=>oS G N (xp G N n) Y ay H
theorem ael(G:av)(N:Nat)(bD:I->I->J->O): ∀R H,cw P G N (Code.fst (Code.fst (Code.snd (Code.fst (Code.snd (Code.snd (c6 Tryz.f79))))))) (λR H=>bD (R 0) (R 3) H) [(0,(λR H=>mL G N H))] (bY Tryz.f79) R H=oS G N bD (R 0) (R 3) H:=by
 refine dj (aL _) λR H=> ?_
 delta oS;generalize mL G N=a1;revert a1;refine id ?_;intro a1;kernel_rfl
def oG(G:av)(N:Nat)(Y:I)(H:J):O:=
 bg P .len [9] [Y] H λbb=>
 ab (aW P .lss 3 true bb (.int .i64 1)) λbu=>
 aD bu false H (di Y) λbS U=>
 aD bu false U (λq=>iu (dF P .empty .len [9] [bS]) (dF P U .len [9] [bS]) q) λbE aa=>
 aD bu false aa (bh (aW P .gtr 3 true bE (.int .i64 8))) λcq ae=>
 ab (cX bu (some (.bool true)) (some cq)) λb1=>
 aD b1 false ae (di Y) λb6 am=>
 aD b1 false am (bh (h1 P 9 b6 (.int .i64 0))) λbT aB=>
 aD b1 false aB (λq=>fk aB (G 76 [bT] aB) q) λbW aG=>
 aD b1 false aG (bh (eY .not bW)) λbG aP=>
 ab (cX b1 (some (.bool true)) (some bG)) λcc=>
 aD cc false aP (di Y) λcM bq=>
 aD cc false bq (λq=>fk bq (G 78 [cM] bq) q) λcA bJ=>
 ab (cX cc (some (.bool true)) (some cA)) λcx=>
 bO (some cx) (some ((.bool false),bJ)) (xp G N N Y (.int .i64 0) bJ)
theorem ajG(G:av)(N:Nat)(Y:I)(H:J):bn Tryz.f79 G N (cB [Y]) H=oG G N Y H:=by
 refine cL (A:=bn Tryz.f79 G N) ((bk ad ((bk ad ((bk ad (aem G N) ((bk ad ((fy ad ((gg (k:=λm R H=>xp G N m (R 0) (R 3) H) ad (λR H=>ad) (λm=>ael G N (xp G N m)))))) (aL _))))) (aL _))) (aL _))) ?_;delta oG;generalize xp G N N=a1;revert a1;refine id ?_;intro a1;kernel_rfl
theorem alK(N:Nat){Y:I}{H:J}{r:I×J}(h:oG (aq P ao) N Y H=some r):aq P ao 79 [Y] H=some r:=
 cQ ad Tryz.func79 ad ad ad ((ajG (aq P ao) N Y H).trans h)
def IZ(G:av)(Y:I)(H:J):O:=
 ab (aW P .geq 5 true Y (.int .u8 48)) λba=>
 aD ba true H (di Y) λbu U=>
 aD ba true U (bh (aW P .leq 5 true bu (.int .u8 57))) λbx aa=>
 ab (cX ba (some bx) (some (.bool false))) λbS=>
 some (bS,aa)
theorem ajH(G:av)(N:Nat)(Y:I)(H:J):bn Tryz.f80 G N (cB [Y]) H=IZ G Y H:=by
 refine cL (A:=bn Tryz.f80 G N) (aL _) ?_;delta IZ;kernel_rfl
theorem alL(N:Nat){Y:I}{H:J}{r:I×J}(h:IZ (aq P ao) Y H=some r):aq P ao 80 [Y] H=some r:=
 cQ ad Tryz.func80 ad ad ad ((ajH (aq P ao) N Y H).trans h)
def xq(G:av)(N:Nat)(ba:I)(H:J):O:=
 some (.tuple [ba,(.bool true)],H)
theorem aeo(G:av)(N:Nat): ∀R H,cw P G N (Code.snd (Code.snd (Code.snd (c6 Tryz.f81)))) (bY Tryz.f81) [] (bY Tryz.f81) R H=xq G N (R 4) H:=by
 refine dj (aL _) λR H=> ?_
 delta xq;kernel_rfl
def B5(G:av)(N:Nat)(bD:I->I->I->J->O)(Y ba bb:I)(H:J):O:=
 bg P .len [9] [Y] H λbE=>
 ab (aW P .lss 3 false bb bE) λcq=>
 bO (some cq) (ab (h1 P 9 Y bb) λbW=>
 ab (aW P .sub 5 true bW (.int .u8 48)) λbG=>
 L1 P 5 3 bG H λcc=>
 ab (aW P .sub 3 true (.int .i64 9223372036854775807) cc) λcA=>
 ab (aW P .quo 3 true cA (.int .i64 10)) λcx=>
 ab (aW P .gtr 3 false ba cx) λcz=>
 bO (some cz) (some (.tuple [(.int .i64 0),(.bool false)],H)) (ab (aW P .mul 3 true (.int .i64 10) ba) λc1=>
 ab (aW P .add 3 false c1 cc) λdt=>
 ab (aW P .add 3 true bb (.int .i64 1)) λcb=>
 bD Y dt cb H)) (xq G N ba H)
def vy(G:av)(N:Nat):Nat->I->I->I->J->O
 |0,_,_,_,_=>none
 |n+1,Y,ba,bb,H=>B5 G N (vy G N n) Y ba bb H
theorem aen(G:av)(N:Nat)(bD:I->I->I->J->O): ∀R H,cw P G N (Code.fst (Code.fst (Code.snd (Code.fst (Code.snd (Code.snd (c6 Tryz.f81))))))) (λR H=>bD (R 0) (R 4) (R 5) H) [(0,(λR H=>xq G N (R 4) H))] (bY Tryz.f81) R H=B5 G N bD (R 0) (R 4) (R 5) H:=by
 refine dj (aL _) λR H=> ?_
 delta B5;generalize xq G N=a1;revert a1;refine id ?_;intro a1;kernel_rfl
def AR(G:av)(N:Nat)(Y:I)(H:J):O:=
 vy G N N Y (.int .i64 0) (.int .i64 0) H
theorem ajI(G:av)(N:Nat)(Y:I)(H:J):bn Tryz.f81 G N (cB [Y]) H=AR G N Y H:=by
 refine cL (A:=bn Tryz.f81 G N) ((bk ad ((bk ad ((bk ad (aeo G N) ((bk ad ((fy ad ((gg (k:=λm R H=>vy G N m (R 0) (R 4) (R 5) H) ad (λR H=>ad) (λm=>aen G N (vy G N m)))))) (aL _))))) (aL _))) (aL _))) ?_;delta AR;generalize vy G N N=a1;revert a1;refine id ?_;intro a1;kernel_rfl
theorem alM(N:Nat){Y:I}{H:J}{r:I×J}(h:AR (aq P ao) N Y H=some r):aq P ao 81 [Y] H=some r:=
 cQ ad Tryz.func81 ad ad ad ((ajI (aq P ao) N Y H).trans h)
def rI(G:av)(N:Nat)(H:J):O:=
 some ((.str []),H)
theorem aes(G:av)(N:Nat): ∀R H,cw P G N (Code.snd (Code.snd (Code.snd (Code.snd (Code.snd (c6 Tryz.f82)))))) (bY Tryz.f82) [] (bY Tryz.f82) R H=rI G N H:=by
 refine dj (aL _) λR H=> ?_
 delta rI;kernel_rfl
def B6(G:av)(N:Nat)(hC:I->I->I->I->J->O)(Y ai:I)(bx bS:I)(H:J):O:=
 bg P .len [9] [bx] H λfv=>
 ab (aW P .lss 3 false bS fv) λfi=>
 bO (some fi) (ab (h1 P 9 Y ai) λgR=>
 ab (h1 P 9 bx bS) λjy=>
 ab (aW P .eql 5 false gR jy) λh6=>
 bO (some h6) (ab (aW P .add 3 true bS (.int .i64 1)) λjU=>
 ab (kj P 9 bx (some bS) (some jU) none) λjV=>
 some (jV,H)) (ab (aW P .add 3 true bS (.int .i64 1)) λgb=>
 hC Y ai bx gb H)) (rI G N H)
def vz(G:av)(N:Nat):Nat->I->I->I->I->J->O
 |0,_,_,_,_,_=>none
 |n+1,Y,ai,bx,bS,H=>B6 G N (vz G N n) Y ai bx bS H
theorem aep(G:av)(N:Nat)(hC:I->I->I->I->J->O): ∀R H,cw P G N (Code.fst (Code.fst (Code.snd (Code.fst (Code.snd (Code.snd (Code.snd (Code.snd (c6 Tryz.f82))))))))) (λR H=>hC (R 0) (R 1) (R 7) (R 8) H) [(2,(λR H=>rI G N H))] (bY Tryz.f82) R H=B6 G N hC (R 0) (R 1) (R 7) (R 8) H:=by
 refine dj (aL _) λR H=> ?_
 delta B6;generalize rI G N=a1;revert a1;refine id ?_;intro a1;kernel_rfl
def ua(G:av)(N:Nat)(Y ai:I)(H:J):O:=
 vz G N N Y ai (.str [123,125,40,41,91,93,59,58,44,46,61,43,45,42,47,37,60,33]) (.int .i64 0) H
theorem aer(G:av)(N:Nat): ∀R H,cw P G N (Code.snd (Code.snd (Code.snd (c6 Tryz.f82)))) (bY Tryz.f82) [] (bY Tryz.f82) R H=ua G N (R 0) (R 1) H:=by
 refine dj ((bk ad ((bk ad (aes G N) ((bk ad ((fy ad ((gg (k:=λm R H=>vz G N m (R 0) (R 1) (R 7) (R 8) H) ad (λR H=>ad) (λm=>aep G N (vz G N m)))))) (aL _))))) (aL _))) λR H=> ?_
 delta ua;generalize vz G N N=a1;revert a1;refine id ?_;intro a1;kernel_rfl
def t_(G:av)(N:Nat)(jM:I->I->I->I->J->O)(Y ai:I)(bb bu:I)(H:J):O:=
 bg P .len [48] [bb] H λcb=>
 ab (aW P .lss 3 false bu cb) λb6=>
 bO (some b6) (bg P .len [9] [Y] H λcc=>
 ab (aW P .sub 3 false cc ai) λcM=>
 ab (aW P .geq 3 true cM (.int .i64 2)) λcA=>
 aD cA true H (di Y) λcz U=>
 aD cA true U (di ai) λcH aa=>
 aD cA true aa (di ai) λc1 ae=>
 aD cA true ae (bh (aW P .add 3 true c1 (.int .i64 2))) λdn am=>
 aD cA true am (bh (kj P 9 cz (some cH) (some dn) none)) λdt aB=>
 aD cA true aB (di bb) λdc aG=>
 aD cA true aG (di bu) λdT aP=>
 aD cA true aP (bh (dS P 48 dc dT)) λdJ bq=>
 aD cA true bq (qr (aj P bq 9 dJ)) λcF bJ=>
 aD cA true bJ (bh (aW P .eql 9 false dt cF)) λeC co=>
 ab (cX cA (some eC) (some (.bool false))) λdy=>
 bO (some dy) (ab (dS P 48 bb bu) λej=>
 ab (aj P co 9 ej) λdW=>
 some (dW,co)) (ab (aW P .add 3 true bu (.int .i64 1)) λbW=>
 jM Y ai bb bW co)) (ua G N Y ai H)
def ub(G:av)(N:Nat):Nat->I->I->I->I->J->O
 |0,_,_,_,_,_=>none
 |n+1,Y,ai,bb,bu,H=>t_ G N (ub G N n) Y ai bb bu H
theorem aeq(G:av)(N:Nat)(jM:I->I->I->I->J->O): ∀R H,cw P G N (Code.fst (Code.fst (Code.snd (Code.fst (Code.snd (Code.snd (c6 Tryz.f82))))))) (λR H=>jM (R 0) (R 1) (R 5) (R 6) H) [(0,(λR H=>ua G N (R 0) (R 1) H))] (bY Tryz.f82) R H=t_ G N jM (R 0) (R 1) (R 5) (R 6) H:=by
 refine dj (aL _) λR H=> ?_
 delta t_;generalize ua G N=a1;revert a1;refine id ?_;intro a1;kernel_rfl
def t8(G:av)(N:Nat)(Y ai bE:I)(U:J):O:=
 ub G N N Y ai bE (.int .i64 0) U
def tj(G:av)(N:Nat)(Y ai:I)(H:J):O:=
 dv H (some (.aN (H).next 0 5 1 (some 5),.row false 1 [[(.str [60,61])],[(.str [61,61])],[(.str [33,61])],[(.str [38,38])],[(.str [124,124])]])) (t8 G N Y ai)
theorem ajJ(G:av)(N:Nat)(Y:I)(ai:I)(H:J):bn Tryz.f82 G N (cB [Y,ai]) H=tj G N Y ai H:=by
 refine cL (A:=bn Tryz.f82 G N) ((bk ad ((bk ad ((bk ad (aer G N) ((bk ad ((fy ad ((gg (k:=λm R H=>ub G N m (R 0) (R 1) (R 5) (R 6) H) ad (λR H=>ad) (λm=>aeq G N (ub G N m)))))) (aL _))))) (aL _))) (aL _))) ?_;delta tj t8;generalize ub G N N=a1;revert a1;refine id ?_;intro a1;kernel_rfl
theorem alN(N:Nat){Y ai:I}{H:J}{r:I×J}(h:tj (aq P ao) N Y ai H=some r):aq P ao 82 [Y,ai] H=some r:=
 cQ ad Tryz.func82 ad ad ad ((ajJ (aq P ao) N Y ai H).trans h)
def Lp(ai:I)(U:J):O:=
 some (ai,U)
def HP(G:av)(H:J):O:=
 dv H (some (.aN (H).next 0 18 1 (some 18),.row false 1 [[(.str [114,101,99,111,114,100])],[(.str [103,108,111,98,97,108])],[(.str [102,117,110,99])],[(.str [118,97,114])],[(.str [108,101,116])],[(.str [105,102])],[(.str [101,108,115,101])],[(.str [119,104,105,108,101])],[(.str [114,101,116,117,114,110])],[(.str [112,114,105,110,116])],[(.str [110,117,108,108])],[(.str [110,101,119])],[(.str [108,101,110])],[(.str [114,101,97,100])],[(.str [116,114,117,101])],[(.str [102,97,108,115,101])],[(.str [105,110,116])],[(.str [98,111,111,108])]])) (Lp)
theorem agf(G:av)(N:Nat)(H:J):bn Tryz.f108 G N (cB []) H=HP G H:=by
 refine cL (A:=bn Tryz.f108 G N) (aL _) ?_;delta HP Lp;kernel_rfl
theorem ahO(N:Nat){H:J}{r:I×J}(h:HP (aq P ao) H=some r):aq P ao 108 [] H=some r:=
 cQ ad Tryz.func108 ad ad ad ((agf (aq P ao) N H).trans h)
end
end
section
theorem am8(s:List UInt8)(k:Int):h1 P 9 (.str s) (.int .i64 k)=if 0<=k then(match s[k.toNat]? with|some b=>some (.int .u8 b.toNat)|none=>none) else none:=ad
theorem pe{s:List UInt8}{k:Nat}{b:UInt8}(h:s[k]? =some b):h1 P 9 (.str s) (.int .i64 (k:Int))=some (.int .u8 b.toNat):=by
 rw[am8,if_pos Z];simp[h]
theorem Hh{s:List UInt8}{b:UInt8}(h:s[0]? =some b):h1 P 9 (.str s) (.int .i64 0)=some (.int .u8 b.toNat):=pe (k:=0) h
theorem si(a b:Nat)(h:a+b<=4000000000000000000):IntKind.i64.wrap ((a:Int)+(b:Int))=((a+b:Nat):Int):=by rw[wrap_i64 Z Z];omega
theorem mC(a:Nat)(h:a<=4000000000000000000):IntKind.i64.wrap ((a:Int)+1)=((a+1:Nat):Int):=by rw[wrap_i64 Z Z];omega
theorem I3(a:Nat)(h:a<=4000000000000000000):IntKind.i64.wrap ((a:Int)+2)=((a+2:Nat):Int):=by rw[wrap_i64 Z Z];omega
theorem Zi(a b:Nat)(h:a<=4000000000000000000)(ax:b<=a):IntKind.i64.wrap ((a:Int)-(b:Int))=((a-b:Nat):Int):=by rw[wrap_i64 Z Z];omega
theorem Bn{H:J}(c:Int):W (aq P ao 76 [.int .u8 c] H) λv H'=>v= .bool (lf c)/\H'=H:=by
 refine cP (λ_=>alH 0) ?_;unfold lf;cases U:decide (97<=c)<;>cases aa:decide (c<=122)<;>cases ae:decide (65<=c)<;>cases am:decide (c<=90)<;>
  (simp-implicitDefEqProofs(disch:=try exact af) only[IY,bg,bL,ee,U,aa,ae,am];exact a_.2 ⟨rfl,rfl⟩)
theorem J0{H:J}(c:Int):W (aq P ao 80 [.int .u8 c] H) λv H'=>v= .bool (oo c)/\H'=H:=by
 refine cP (λ_=>alL 0) ?_;unfold oo;cases U:decide (48<=c)<;>cases aa:decide (c<=57)<;>
  (simp-implicitDefEqProofs(disch:=try exact af) only[IZ,bg,bL,ee,U,aa];exact a_.2 ⟨rfl,rfl⟩)
theorem drop_cons{s:bl}{k:Nat}{c:UInt8}{r:bl}(h:s.drop k=c::r):s[k]? =some c/\s.drop (k+1)=r/\k<s.length/\s.length=k+1+r.length:=by
 have U:s[k]? =some c:=by
  have:=List.getElem?_drop (xs:=s) (i:=k) (j:=0);rw[h] at this;simpa using this.symm
 have aa:s.drop (k+1)=r:=by
  have:(s.drop k).drop 1=r:=by rw[h];rfl
  rwa[List.drop_drop] at this
 have ae:k<s.length:=(List.getElem?_eq_some_iff.1 U).1;have am:=congrArg List.length h;simp at am;exact⟨U,aa,ae,Z⟩
theorem drop_nil{s:bl}{k:Nat}(h:s.drop k=[]):s.length<=k:=List.drop_eq_nil_iff.1 h
theorem Sa{H:J}{s:bl}(aM:s.length<=1000000000000000000)(at_:Nat)(d:Bool)(N:Nat): ∀(rest:bl) (n m:Nat),s.drop (at_+n)=rest->at_+n<=s.length->rest.length<m->
  W (vw (aq P ao) N m (.str s) (.int .i64 at_) (.bool d) (.int .i64 n) H) λv H'=>v= .int .i64 ((n+runN d rest:Nat):Int)/\H'=H
 |_,_,0,_,_,hm=>Z
 |[],n,m+1,h,aU,hm=>by
  have:=drop_nil h;have U: ¬(((at_+n:Nat):Int)<(s.length:Int)):=Z;simp-implicitDefEqProofs(disch:=try exact af) only[vw,rH,tZ,ti,reduceAdd,reduceLeDiff,reduceIte,aw,si,U,decide_false];exact a_.2 ⟨by simp[runN],rfl⟩
 |c::r,n,m+1,h,aU,hm=>by
  obtain⟨aI,bc,dq,eZ⟩:=drop_cons h;have U:(((at_+n:Nat):Int)<(s.length:Int)):=Z;have aT:=Sa (H:=H) aM at_ d N r (n+1) m (by rw[<-Nat.add_assoc];exact bc) Z (by simp at hm;omega);have hp:=pe aI;simp-implicitDefEqProofs(disch:=try exact af) only[vw,rH,tZ,ti,reduceAdd,reduceLeDiff,reduceIte,aw,si,U,decide_true,hp];refine rA (J0 _) ?_;have fin: ∀b,(gK c||(!d&&hf c))=b->(b=true->W (vw (aq P ao) N m (.str s) (.int .i64 at_) (.bool d) (.int .i64 ((n+1:Nat):Int)) H) λv H'=>v= .int .i64 ((n+runN d (c::r):Nat):Int)/\H'=H)/\(b=false->n+runN d (c::r)=n):=by
   intro b ax;refine⟨λh=> ?_,λh=> ?_⟩
   ·refine aT.mono ?_;rintro v H' ⟨rfl,rfl⟩;subst h;have e:runN d (c::r)=runN d r+1:=by rw[runN,ax];rfl
    have cN:n+1+runN d r=n+runN d (c::r):=by rw[e];omega
    exact⟨by rw[cN],rfl⟩
   ·subst h;rw[runN,ax];rfl
  cases bd:oo (c.toNat:Int) with
  |true=>
   simp-implicitDefEqProofs(disch:=try exact af) only[rH,tZ,ti,bg,bL,ee,mC];exact(fin true (by simp[gK,bd])).1 rfl
  |false=>
   cases d with
   |true=>
    simp-implicitDefEqProofs(disch:=try exact af) only[rH,tZ,ti,bg,bL,Bool.not_true];exact a_.2 ⟨by rw[(fin false (by simp[gK,bd])).2 rfl],rfl⟩
   |false=>
    simp-implicitDefEqProofs(disch:=try exact af) only[rH,tZ,ti,reduceAdd,reduceLeDiff,reduceIte,aw,Bool.not_false,si,hp];refine rA (Bn _) ?_;cases az:lf (c.toNat:Int) with
    |true=>
     simp-implicitDefEqProofs(disch:=try exact af) only[rH,tZ,ti,bg,bL,ee,mC];exact(fin true (by simp[gK,hf,bd,az])).1 rfl
    |false=>
     simp-implicitDefEqProofs(disch:=try exact af) only[rH,tZ,ti,bg,bL];exact a_.2 ⟨by rw[(fin false (by simp[gK,hf,bd,az])).2 rfl],rfl⟩
theorem Sb{H:J}{s:bl}(aM:s.length<=1000000000000000000)(at_:Nat)(bV:at_<=s.length)(d:Bool):W (aq P ao 77 [.str s,.int .i64 at_,.bool d] H) λv H'=>v= .int .i64 (runN d (s.drop at_):Nat)/\H'=H:=by
 refine cP (λ_=>alI (s.length+1)) ?_;rw[ti];have:=Sa (H:=H) aM at_ d (s.length+1) (s.drop at_) 0 (s.length+1) rfl Z (by simp;omega);simpa using this
theorem Qm{H:J}{x:bl}{l:Nat}(N:Nat)(all:List bl)(hS:all.length<=1000)(aZ:H.get l=some (.row false 1 (all.map λy=>[I.str y]))): ∀(rest pre:List bl),all=pre++rest-> ∀(m:Nat),rest.length<m->
  W (xo (aq P ao) N m (.str x) (.aN l 0 all.length 1 (some all.length)) (.int .i64 pre.length) H) λv H'=>v= .bool (lh x rest)/\H'=H
 |_,_,_,0,hm=>Z
 |[],pre,bw,m+1,hm=>by
  have U: ¬((pre.length:Int)<(all.length:Int)):=by rw[bw];simp
  simp-implicitDefEqProofs(disch:=try exact af) only[xo,vx,zC,zB,yt,reduceAdd,reduceLeDiff,reduceIte,aw,U,decide_false];exact a_.2 ⟨rfl,rfl⟩
 |y::dX,pre,bw,m+1,hm=>by
  have U:((pre.length:Int)<(all.length:Int)):=by rw[bw];simp;omega
  have aY:(0:Int)<=(pre.length:Int):=Z;have aI:((pre.length:Int)).toNat=pre.length:=Z;have hle:pre.length<all.length:=Z;have he:(all.map λy=>[I.str y])[pre.length]? =some [I.str y]:=by rw[bw];simp
  have hw:((pre++[y]).length:Int)=((pre.length+1:Nat):Int):=by simp
  simp-implicitDefEqProofs(disch:=try exact af) only[xo,vx,zC,zB,yt,reduceAdd,reduceLeDiff,reduceIte,aw,U,decide_true,aZ,aI,he];cases aS:y==x with
  |true=>
   simp-implicitDefEqProofs(disch:=try exact af) only[vx,zC,zB,yt,bg,bL];exact a_.2 ⟨by simp[lh,aS],rfl⟩
  |false=>
   have aT:=Qm (H:=H) (x:=x) N all hS aZ dX (pre++[y]) (by simp[bw]) m (by simp at hm;omega);rw[hw] at aT;simp-implicitDefEqProofs(disch:=try exact af) only[vx,zC,zB,yt,bg,bL,ee,mC];refine aT.mono ?_;rintro v H' ⟨rfl,rfl⟩;exact⟨by simp[lh,aS],rfl⟩
theorem Qn{H:J}(x:bl):W (aq P ao 78 [.str x] H) λv H'=>v= .bool (rV x)/\aR H H':=by
 refine cP (λ_=>alJ 19) ?_;rw[yt];have hw:W (aq P ao 108 [] H) λv H'=>v= .aN H.next 0 sL.length 1 (some sL.length)/\H'=H.push (.row false 1 (sL.map λy=>[I.str y])):=by
  refine cP (λ_=>ahO 0) ?_;rw[HP];simp only[yI,Lp];exact a_.2 ⟨rfl,rfl⟩
 refine a6 hw ?_;rintro _ _ ⟨rfl,rfl⟩;refine⟨(aR.push _ _).1,?_⟩;rw[zB];refine(Qm (x:=x) 19 sL cm (J.ca _ _) sL [] rfl 19 cm).mono ?_;rintro v H' ⟨rfl,rfl⟩;exact⟨rfl,aR.push _ _⟩
end
end Go.Proofs.YtghmbpmaafnodaaGreatDoor
