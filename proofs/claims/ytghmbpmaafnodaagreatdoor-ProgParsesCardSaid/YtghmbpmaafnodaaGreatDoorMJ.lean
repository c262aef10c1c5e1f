/-
  Texts of one proof, laid together: Y4 Y5 Y6 Y7 Y8 ShBa ShCa.
-/
import Derived.Test.YtghmbpmaafnodaaGreatDoorMI
import Derived.Test.YtghmbpmaafnodaaGreatDoorMH
import Derived.Test.YtghmbpmaafnodaaGreatDoorMD
set_option linter.unusedVariables false
set_option linter.unusedSimpArgs false
namespace Go.Proofs.YtghmbpmaafnodaaGreatDoor
open Go.gd
open Nat (reduceAdd reduceLeDiff)
section
def ug(ok:Nat->Prop)(H:J)(r:Nat)(T:List Tok)(ak:I)(e:bp)(s':aA)(v:I)(H':J):Prop:=cC r H H'/\c_ H' r T ak s'/\ea H' ok e v
abbrev hn(H:J):=ug (bI H.next) H
theorem hn.box{H hK:J}{r:Nat}{T:List Tok}{ak:I}{s s':aA}{a:f6}{bQ:List bp}{kv:I}{b:Nat}{lo:Nat}(ag:c_ H r T ak s)(m:cC r H hK)(bd:c7 hK r ak s')(ax:H.next<=b)(ko:b<lo)(ah:dP hK (bI lo) bQ kv)(hj:dY):
  hn H r T ak (.mk a bQ) s' (.agg (a.cells kv)) (hK.set b hj):=by
 have az:=ag.rd.lt;have fr:=m.db (.inr ax) hj;refine⟨fr,ag.mut fr ?_,?_⟩
 ·unfold c7 at bd ⊢;rw[J.get_set_other Z];exact bd
 ·rw[lD];exact⟨kv,rfl,ah.bo (e_.set _ (by unfold bI;omega) λl az=>by unfold bI at*;omega)⟩
theorem ug.fin{ok:Nat->Prop}{H dR:J}{r:Nat}{T:List Tok}{ak:I}{s s':aA}{a:f6}{bQ:List bp}{kv:I}(ag:c_ H r T ak s)(m:cC r H dR)(bd:c7 dR r ak s')(ah:dP dR ok bQ kv):ug ok H r T ak (.mk a bQ) s' (.agg (a.cells kv)) dR:=
 ⟨m,ag.mut m bd,lD.2 ⟨kv,rfl,ah⟩⟩
theorem hn.ret{H bm:J}{r:Nat}{T:List Tok}{ak:I}{s s':aA}{e:bp}{v:I}{b n:Nat}(ag:c_ H r T ak s)(m:cC r H bm)(bd:c7 bm r ak s')(ax:H.next<=b)(he:ea bm (bI n) e v)(aU:b<n)(hj:dY):hn H r T ak e s' v (bm.set b hj):=by
 have az:=ag.rd.lt;have fr:=m.db (.inr ax) hj;refine⟨fr,ag.mut fr ?_,he.new (dC.db (S:=(· <n)) (dC.refl _ _) (.inl aU) _) λl h=>by unfold bI;omega⟩;unfold c7 at bd ⊢;rw[J.get_set_other Z];exact bd
def sG(n:Nat):Prop:= ∀{H:J} {r:Nat} {T:List Tok} {ak:I} {s:aA},c_ H r T ak s-> ∀(lev:Nat),lev<=5-> ∀(e:bp) (s':aA),jF T n lev s=some (e,s')->W (aq P ao 109 [.ptr r 0 0,.int .i64 lev] H) (hn H r T ak e s')
def Kr(n:Nat):Prop:= ∀{H:J} {r:Nat} {T:List Tok} {ak:I} {s:aA},c_ H r T ak s-> ∀(e:bp) (s':aA),ue T n s=some (e,s')->W (aq P ao 127 [.ptr r 0 0] H) (hn H r T ak e s')
def Kn(n:Nat):Prop:= ∀{ok:Nat->Prop} {H:J} {r:Nat} {T:List Tok} {ak:I} {s:aA} {e:bp} {v:I},c_ H r T ak s->ea H ok e v-> ¬ok r->(∀l,H.next<=l->ok l)-> ∀(cN:bp) (s':aA),lC T n e s=some (cN,s')->W (aq P ao 145 [.ptr r 0 0,v] H) (ug ok H r T ak cN s')
def yR(n:Nat):Prop:= ∀{H:J} {r:Nat} {T:List Tok} {ak:I} {s:aA},c_ H r T ak s-> ∀(e:bp) (s':aA),ns T n s=some (e,s')->W (aq P ao 157 [.ptr r 0 0] H) (hn H r T ak e s')
def Kp(n:Nat):Prop:= ∀{H:J} {r:Nat} {T:List Tok} {ak:I} {s:aA},c_ H r T ak s-> ∀(e:bp) (s':aA),oP T n s=some (e,s')->W (aq P ao 146 [.ptr r 0 0] H) (hn H r T ak e s')
def DI(n:Nat):Prop:= ∀{H:J} {r:Nat} {T:List Tok} {ak:I} {s:aA},c_ H r T ak s-> ∀(pos:Int) (e:bp) (s':aA),tN T n pos s=some (e,s')->W (aq P ao 156 [.ptr r 0 0,.int .i64 pos] H) (hn H r T ak e s')
def DY(n:Nat):Prop:= ∀{H:J} {r:Nat} {T:List Tok} {ak:I} {s:aA},c_ H r T ak s-> ∀(l:List bp) (s':aA),pP T n s=some (l,s')->W (aq P ao 158 [.ptr r 0 0] H) λv H'=>cC r H H'/\c_ H' r T ak s'/\dP H' (bI H.next) l v
structure ahi(n:Nat):Prop where
 expr:sG n
 unary:Kr n
 behind:Kn n
 inner:yR n
 first:Kp n
 fresh:DI n
 args:DY n
theorem abw{n:Nat}(aT:sG n):yR (n+1):=by
 intro H r T ak s ag e s' h;refine cP (λ_=>aij 0) ?_;have az:=ag.rd.lt;have aV:=aR.push H (.row false 11 [[.int .i64 0,.int .i64 0,.str [],.str [],.int .i64 0,.ap,.int .i64 0,.int .i64 0,.int .i64 0,.int .i64 0,.int .i64 0]]);simp only[ns,eW] at h;obtain⟨⟨aI,s1⟩,U,aa⟩:=h;simp only[bF,dw] at aa;obtain⟨rfl,rfl⟩:=aa;simp-implicitDefEqProofs(disch:=try exact af) only[Af,reduceAdd,reduceLeDiff,reduceIte,aw];refine a6 (Bo (ag.aK aV) [40] (by simp)) ?_;rintro _ bm ⟨rfl,m2,cJ⟩;refine⟨m2.1,?_⟩;have ck:=m2.get (J.ca H _) Z;have bP:=(aV.mut (· =r)).trans m2;simp-implicitDefEqProofs(disch:=try exact af) only[Af,reduceAdd,reduceLeDiff,reduceIte,aw]
 refine a6 (aT cJ 0 Z aI s1 U) ?_;rintro v cT ⟨m3,e2,mx⟩;refine⟨m3.1,?_⟩;have eO:=m3.get ck Z;have WT:=J.aX eO;obtain⟨cs,rfl,hlen,dN⟩:=mx.cells;have bz:List.take 11 cs=cs:=List.take_of_length_le Z;simp-implicitDefEqProofs(disch:=try exact af) only[Af,reduceAdd,reduceLeDiff,reduceIte,aw,hlen,dN,List.append_nil,bz];have bK:=aR.push cT (.row false 11 [cs]);refine a6 (Bg (e2.aK bK) [41] (by simp)) ?_;rintro _ dp ⟨rfl,m5,fg⟩;refine⟨m5.1,?_⟩;have gz:=m5.get (bK.get eO) Z;have amK:=J.aX gz;have jJ:=m5.get (J.ca cT (.row false 11 [cs])) Z;have hy:=m2.1;simp only[J.b2] at hy;simp-implicitDefEqProofs(disch:=try exact af) only[Af,reduceAdd,reduceLeDiff,reduceIte,aw,hlen,dN,List.append_nil,bz,gz,jJ]
 refine a_.2 (hn.ret ag (((bP.trans m3).trans (bK.mut _)).trans m5) fg.rd (bN _) (n:=bm.next) (mx.new ?_ λ_ h=>h) Z _);exact((aR.push _ _).mut _).trans ⟨m5.1,λl dD FV=>m5.2 l dD Z⟩
theorem aaH{n:Nat}(aT:yR n):DI (n+1):=by
 intro H r T ak s ag pos e s' h;refine cP (λ_=>aii 0) ?_;have az:=ag.rd.lt;have de:=ag.cf.one;have aV:=aR.push H (.row false 11 [[.int .i64 0,.int .i64 0,.str [],.str [],.int .i64 0,.ap,.int .i64 0,.int .i64 0,.int .i64 0,.int .i64 0,.int .i64 0]]);simp-implicitDefEqProofs(disch:=try exact af) only[ux,reduceAdd,reduceLeDiff,reduceIte,aw];have du:=ag.aK aV;refine a6 (gO du.rd du.cf [91] (by simp)) ?_;rintro _ bm ⟨rfl,aJ⟩;refine⟨aJ.1,?_⟩;have cJ:=du.aK aJ;have ck:=aJ.get (J.ca H (.row false 11 [[.int .i64 0,.int .i64 0,.str [],.str [],.int .i64 0,.ap,.int .i64 0,.int .i64 0,.int .i64 0,.int .i64 0,.int .i64 0]]))
 have vO:=J.aX ck;have bP:=(aV.trans aJ).mut (· =r);simp only[tN] at h;cases be:cd T s [91] with
 |true=>
  simp only[be,bC,eW] at h;obtain⟨⟨aI,s1⟩,U,aa⟩:=h;simp only[bF,dw] at aa;obtain⟨rfl,rfl⟩:=aa;have cI:=cJ.rd;have fM:=cI;unfold c7 at fM;obtain⟨m3,lp⟩:=h5 cI (aF s);simp-implicitDefEqProofs(disch:=try exact af) only[ux,reduceAdd,reduceLeDiff,reduceIte,aw,fM,de,Bool.not_true];refine a6 (DN (ag.mut (bP.trans m3) lp)) ?_;rintro _ dp ⟨rfl,m5,fg⟩;refine⟨m5.1,?_⟩;have gz:=m5.get (m3.get ck Z) Z;have C0:=J.aX gz;simp-implicitDefEqProofs(disch:=try exact af) only[ux,reduceAdd,reduceLeDiff,reduceIte,aw];have fc:=aR.push dp (.row false 2 [[.str (fm T (aF s)).1.1,.int .i64 (fm T (aF s)).1.2]]);have tb:=J.ca dp (.row false 2 [[.str (fm T (aF s)).1.1,.int .i64 (fm T (aF s)).1.2]])
  refine a6 (lA (fg.aK fc) [93] (by simp)) ?_;rintro _ jX ⟨rfl,m8,oF⟩;refine⟨m8.1,?_⟩;have uD:=m8.get (fc.get gz) Z;have sf:=m8.get tb Z;have Na:=J.aX uD;have amO:=J.aX sf;simp-implicitDefEqProofs(disch:=try exact af) only[ux,reduceAdd,reduceLeDiff,reduceIte,aw];refine a6 (aT oF aI s1 U) ?_;rintro v gV ⟨m9,qd,sa⟩;refine⟨m9.1,?_⟩;have s7:=m9.get uD Z;have td:=m9.get sf Z;have E_:=J.aX s7;have WV:=J.aX td;have Yy:=m9.1;obtain⟨cs,rfl,hlen,dN⟩:=sa.cells;have aM: ∀l,dK P l 96 1 [(0,.agg cs)]=some (.aN l 0 1 11 (some 1),.row false 11 [cs]):=λl=>jP l cs hlen dN
  replace bP:=((((bP.trans m3).trans m5).trans (fc.mut _)).trans m8).trans m9;have cI:=qd.rd;unfold c7 at cI;simp-implicitDefEqProofs(disch:=try exact af) only[ux,reduceAdd,reduceLeDiff,reduceIte,aw,aM,s7,td,sf];refine a_.2 ?_;refine ug.fin (ok:=bI H.next) (a:={kind:=9,eV:=(fm T (aF s)).1.1,fT:=(fm T (aF s)).1.2,pos:=pos}) (kv:= .aN gV.next 0 1 11 (some 1)) (s':=s1) ag ?_ ?_ (dP.qF (ro:=false) ?_ (by unfold bI;omega) (sa.new ?_ λl h=>by unfold bI;omega))
  ·(repeat (first|exact bP|refine dC.bX ?_ _|refine dC.db (S:=(· =r)) ?_ (.inl rfl) _|refine dC.db ?_ (.inr (by(first|omega|(simp only[J.b2,J.e9];omega)))) _))
  ·(unfold c7;simp-implicitDefEqProofs(disch:=try exact af) only[dB,cI,aF,ga,iK])
  ·simp-implicitDefEqProofs(disch:=try exact af) only[dB]
  ·exact dC.db (S:=λl=>l<_) ((dC.refl _ _).bX _) (.inl Z) _
 |false=>
  simp only[be,bj,bF,dw] at h;obtain⟨rfl,rfl⟩:=h;simp-implicitDefEqProofs(disch:=try exact af) only[ux,reduceAdd,reduceLeDiff,reduceIte,aw,Bool.not_false];refine a6 (wJ cJ) ?_;rintro _ dp ⟨rfl,m5,fg⟩;refine⟨m5.1,?_⟩;have gz:=m5.get ck Z;have C0:=J.aX gz;simp-implicitDefEqProofs(disch:=try exact af) only[ux,reduceAdd,reduceLeDiff,reduceIte,aw,gz];refine a_.2 ?_;exact hn.box (a:={kind:=8,eV:=(dk T s).1,pos:=pos}) (kv:= .ap) (lo:=H.next+1) ag (bP.trans m5) fg.rd (bN _) (Nat.lt_succ_self _) (dP.nil _ _) _
theorem Qo{N:Nat}(aT: ∀k,k<N->sG k){H0:J}{r:Nat}{T:List Tok}{ak:I}{s0:aA}(bs:c_ H0 r T ak s0):
  ∀(n m:Nat),n<N->n<m-> ∀(H:J) (s:aA) (l:List bp) (L:Nat) (els:List (List I)),cC r H0 H->c7 H r ak s->l.length+n<=1000000000->H.get L=some (.row false 11 els)->H0.next<=L->els.length=l.length->
   gq H (λk=>H0.next<=k/\k≠L) l els-> ∀(l':List bp) (s':aA),nr T n l s=some (l',s')->
   W (y6 (aq P ao) N m (.ptr r 0 0) (.aN L 0 l.length 11 none) H) λv H'=>cC r H0 H'/\c_ H' r T ak s'/\dP H' (bI H0.next) l' v
 |0,m,dU,hm,H,s,l,L,els,bP,cp,hlen,aZ,gH,kN,pb,l',s',h=>by simp[nr] at h
 |n+1,0,dU,hm,H,s,l,L,els,bP,cp,hlen,aZ,gH,kN,pb,l',s',h=>Z
 |n+1,m+1,dU,hm,H,s,l,L,els,bP,cp,hlen,aZ,gH,kN,pb,l',s',h=>by
  have az:=bs.rd.lt;have de:=bs.cf.one;have aoi:=J.aX aZ;have hle:=bP.1;have ag:=bs.mut bP cp;simp only[nr] at h;simp only[y6];rw[y5];refine a6 (gO cp ag.cf [44] (by simp)) ?_;rintro _ H1 ⟨rfl,aV⟩;refine⟨aV.1,?_⟩;have du:=ag.aK aV;have mX:=aV.get aZ;have amH:=J.aX mX;have Er:=pb.bo (e_.aK aV λ_ h=>h) l els;cases bz:cd T s [44] with
  |false=>
   simp only[bz,bj,bF,dw] at h;obtain⟨rfl,rfl⟩:=h;simp-implicitDefEqProofs(disch:=try exact af) only[od,y5,o4,reduceAdd,reduceLeDiff,reduceIte,aw];refine a6 (Bg du [41] (by simp)) ?_;rintro _ bm ⟨rfl,m2,cJ⟩;refine⟨m2.1,?_⟩
   try simp only[od,y5,o4]
   refine a_.2 ⟨(bP.trans (aV.mut _)).trans m2,cJ,.inr (.inl ⟨L,0,none,false,els,rfl,gH,m2.get mX Z,?_⟩)⟩;rw[List.drop_zero];exact Er.bo (e_.mut m2 Z λ_ h=>h.1) l els
  |true=>
   simp only[bz,bC,eW] at h;obtain⟨⟨aI,s1⟩,U,aa⟩:=h;have mY:=du.rd;have Cv:=mY;unfold c7 at Cv;have amP:=mY.lt;obtain⟨m2,mW⟩:=h5 mY (aF s);simp-implicitDefEqProofs(disch:=try exact af) only[od,y5,o4,reduceAdd,reduceLeDiff,reduceIte,aw,Cv,de];refine a6 (aT n Z (bs.mut ((bP.trans (aV.mut _)).trans m2) mW) 0 Z aI s1 U) ?_;rintro v cT ⟨m3,e2,mx⟩;refine⟨m3.1,?_⟩;have sb:=m3.get (m2.get mX Z) Z;have amI:=J.aX sb;have sc:=aV.1;have s8:=m3.1;simp only[J.e9] at s8 mx;have Mb:=Er.bo (e_.mut (m2.trans m3) Z λ_ h=>h) l els;obtain⟨cs,rfl,mi,dN⟩:=mx.cells;have aM: ∀l,dK P l 96 1 [(0,.agg cs)]=some (.aN l 0 1 11 (some 1),.row false 11 [cs]):=λl=>jP l cs mi dN
   simp-implicitDefEqProofs(disch:=try exact af) only[od,o4,reduceAdd,reduceLeDiff,reduceIte,aw,aM];have bB:=aR.push cT (.row false 11 [cs]);rw[Sl (J.ca cT (.row false 11 [cs])) (bB.get sb) kN Z,kx (by simp only[J.b2,J.e9];omega)];simp only[J.b2,J.e9,od,o4];have LF:l.length+1=(l++[aI]).length:=by simp
   rw[LF];have lv: ∀k,k<cT.next->k≠L->(((cT.push (.row false 11 [cs])).set L .dead).push (.row false 11 (els++[cs]))).get k=cT.get k:=λk ah e3=>by
    rw[J.gD (by simp only[J.b2,J.e9];omega),J.get_set_other Z,J.gD Z]
   have N3:cC r H0 (((cT.push (.row false 11 [cs])).set L .dead).push (.row false 11 (els++[cs]))):=((((bP.trans (aV.mut _)).trans m2).trans m3).bX _|>.db (.inr gH) _).bX _;refine Qo aT bs n m Z Z _ s1 (l++[aI]) (cT.next+1) (els++[cs]) N3 ?_ (by simp;omega) ?_ Z (by simp[kN]) ?_ l' s' aa
   ·have:=e2.rd;unfold c7 at this ⊢;rw[lv r Z Z];exact this
   ·exact J.wI (by simp only[J.b2,J.e9];omega) (by simp only[J.b2,J.e9];omega)
   ·refine gq.append l els aI cs ?_ kN ?_
    ·exact Mb.bo (λk ro es ah kO=>⟨⟨ah.1,by have:=J.aX kO;omega⟩,by rw[lv k (J.aX kO) ah.2];exact kO⟩) l els
    ·exact mx.bo (λk ro es ah kO=>by
      have ae:=J.aX kO;unfold bI at ah;exact⟨⟨Z,Z⟩,by rw[lv k ae Z];exact kO⟩) aI _
theorem acR{n:Nat}(aU:n<=900000000)(aT: ∀k,k<=n->sG k):DY (n+1):=by
 intro H r T ak s ag l s' h;refine cP (λ_=>aik (n+1)) ?_;have az:=ag.rd.lt;simp only[pP] at h;rw[o4];refine a6 (Bo ag [40] (by simp)) ?_;rintro _ H1 ⟨rfl,m1,du⟩;refine⟨m1.1,?_⟩;simp-implicitDefEqProofs(disch:=try exact af) only[od,o4,reduceAdd,reduceLeDiff,reduceIte,aw];refine a6 (gO du.rd du.cf [41] (by simp)) ?_;rintro _ bm ⟨rfl,aJ⟩;refine⟨aJ.1,?_⟩;have cJ:=du.aK aJ;have bP:=m1.trans (aJ.mut _);cases be:cd T (eT T [40] s) [41] with
 |true=>
  simp only[be,bC,bF,dw] at h;obtain⟨rfl,rfl⟩:=h;simp-implicitDefEqProofs(disch:=try exact af) only[od,o4,reduceAdd,reduceLeDiff,reduceIte,aw];refine a6 (Bg cJ [41] (by simp)) ?_;rintro _ cT ⟨rfl,m3,e2⟩;refine⟨m3.1,?_⟩
  try simp only[od,o4]
  exact a_.2 ⟨bP.trans m3,e2,dP.nil _ _⟩
 |false=>
  simp only[be,bj,eW] at h;obtain⟨⟨aI,s1⟩,U,aa⟩:=h;simp-implicitDefEqProofs(disch:=try exact af) only[od,o4,reduceAdd,reduceLeDiff,reduceIte,aw];refine a6 (aT n (bN _) cJ 0 Z aI s1 U) ?_;rintro v cT ⟨m3,e2,mx⟩;refine⟨m3.1,?_⟩;have sc:=m1.1;have hy:=aJ.1;have s8:=m3.1;obtain⟨cs,rfl,mi,dN⟩:=mx.cells;have aM: ∀l,dK P l 96 1 [(0,.agg cs)]=some (.aN l 0 1 11 (some 1),.row false 11 [cs]):=λl=>jP l cs mi dN
  simp-implicitDefEqProofs(disch:=try exact af) only[od,o4,reduceAdd,reduceLeDiff,reduceIte,aw,aM];have bK:=(aR.push cT (.row false 11 [cs])).bX (.row false 11 [cs]);rw[Rd (J.ca cT (.row false 11 [cs])),kx (by simp only[J.b2];omega)];simp only[J.b2,od,o4];refine Qo (N:=n+1) (λk ah=>aT k Z) ag n (n+1) Z Z _ s1 [aI] (cT.next+1) [cs] ((bP.trans m3).trans (bK.mut _)) (e2.rd.aK bK) (by simp;omega) ?_ Z rfl ?_ l s' aa
  ·exact J.wI (by simp only[J.b2];omega) (by simp only[J.b2];omega)
  ·rw[gq,gq];exact⟨mx.bo (λk ro es ah kO=>by
    have ae:=J.aX kO;unfold bI at ah;exact⟨⟨Z,Z⟩,bK.get kO⟩) aI _,trivial⟩
end
section
theorem JJ{N B:Nat}(aT: ∀k,k<B->sG k){ok:Nat->Prop}{H0:J}{r:Nat}{T:List Tok}{ak:I}{s0:aA}(bs:c_ H0 r T ak s0)(yf: ¬ok r)(oY: ∀l,H0.next<=l->ok l):
  ∀(n m:Nat),n<=B->n<m-> ∀(H:J) (s:aA) (e:bp) (cs gn:List I),cC r H0 H->c7 H r ak s->H.get (H0.next+1)=some (.row false 11 [gn])->gn.length=11->H.get H0.next=some (.row false 11 [cs])->
   ea H (λl=>ok l/\l≠H0.next/\l≠H0.next+1) e (.agg cs)-> ∀(cN:bp) (s':aA),lC T n e s=some (cN,s')->
   W (w6 (aq P ao) N m (.ptr r 0 0) (.ptr H0.next 0 0) (.ptr (H0.next+1) 0 0) H) (ug ok H0 r T ak cN s')
 |0,m,dU,hm,H,s,e,cs,gn,bP,cp,fV,cn,eO,he,cN,s',h=>by simp[lC] at h
 |n+1,0,dU,hm,H,s,e,cs,gn,bP,cp,fV,cn,eO,he,cN,s',h=>Z
 |n+1,m+1,dU,hm,H,s,e,cs,gn,bP,cp,fV,cn,eO,he,cN,s',h=>by
  have az:=bs.rd.lt;have de:=bs.cf.one;have ag:=bs.mut bP cp;have CZ:=J.aX eO;have yc:=J.aX fV;have hle:=bP.1;obtain⟨uA,jb,hlen,dN⟩:=he.cells;cases jb;have bz:List.take 11 cs=cs:=List.take_of_length_le Z;have an_:List.drop 11 gn=[]:=List.drop_of_length_le Z;have Yl:List.drop 11 cs=[]:=List.drop_of_length_le Z;have bi:=he.same;simp only[lC] at h;simp only[w6];rw[DW];refine a6 (gO cp ag.cf [46] (by simp)) ?_;rintro _ H1 ⟨rfl,aV⟩;refine⟨aV.1,?_⟩;have fin: ∀dR,aR H dR->(cN,s')=(e,s)->W (y3 (aq P ao) N (.ptr H0.next 0 0) (.ptr (H0.next+1) 0 0) dR) (ug ok H0 r T ak cN s'):=by
   intro dR p uF;cases uF;have WK:=p.get eO;have WM:=p.get fV;have gS:=J.aX WK;have h7:=J.aX WM;simp-implicitDefEqProofs(disch:=try exact af) only[y3,rE,tH,pC,pD,pE,sC,DW,pF,pG,o3,reduceAdd,reduceLeDiff,reduceIte,aw,WK,WM,hlen,dN,List.append_nil,bz,an_];have fr:=(bP.trans (p.mut _)).db (.inr (Nat.le_succ _)) (.row false 11 [cs]);refine a_.2 ⟨fr,bs.mut fr ?_,(he.bo (e_.aK p λ_ h=>h) e _).bo (e_.set _ Z λl h=>h.1) e _⟩;have:=cp.aK p;unfold c7 at this ⊢;rw[J.get_set_other Z];exact this
  have go: ∀(cT:J),aR H cT->(bif cd T s [46] then lC T n (.mk {kind:=5,name:=(dk T (aF s)).1,pos:=(ar T s.at_).pos} [e]) (dk T (aF s)).2 else(jF T n 0 (eT T [91] s)).bind λp=>lC T n (.mk {kind:=6,pos:=(ar T s.at_).pos} [e,p.1]) (gp T [93] p.2))=some (cN,s')->
    W (sC (aq P ao) (w6 (aq P ao) N m) cT (.ptr r 0 0) (.ptr H0.next 0 0) (.ptr (H0.next+1) 0 0)) (ug ok H0 r T ak cN s'):=by
   intro cT bB ae;simp only[sC];refine a6 (nV (cp.aK bB) (ag.cf.aK bB)) ?_;rintro _ ct ⟨rfl,bK⟩;refine⟨bK.1,?_⟩;simp-implicitDefEqProofs(disch:=try exact af) only[pE,pD,pC,reduceAdd,reduceLeDiff,reduceIte,aw,Tok.v];have c8:=(bB.trans bK).bX (.row false 4 [[.int .i64 (ar T s.at_).kind,.str (ar T s.at_).text,.int .i64 (ar T s.at_).n,.int .i64 (ar T s.at_).pos]]);have oD:=J.ca ct (.row false 4 [[.int .i64 (ar T s.at_).kind,.str (ar T s.at_).text,.int .i64 (ar T s.at_).n,.int .i64 (ar T s.at_).pos]]);refine a6 (gO (cp.aK c8) (ag.cf.aK c8) [46] (by simp)) ?_;rintro _ fX ⟨rfl,iX⟩;refine⟨iX.1,?_⟩;have kU:=c8.trans iX
   have tc:=iX.get oD;have WU:=J.aX tc;have zV:=kU.get eO;have L9:=kU.get fV;have oE:=ag.aK kU;have NA:=bP.trans (kU.mut _);have qZ:=he.bo (e_.aK kU λ_ h=>h) e _;have Fe:H.next<=ct.next:=(bB.trans bK).1
   have aqH:=J.aX zV;cases bd:cd T s [46] with
   |true=>
    simp only[bd,bC] at ae;have Nf:=oE.rd;have WY:=Nf;unfold c7 at WY;have ap8:=Nf.lt;obtain⟨m8,an7⟩:=h5 Nf (aF s);simp-implicitDefEqProofs(disch:=try exact af) only[tH,pC,pD,pE,sC,pF,pG,o3,reduceAdd,reduceLeDiff,reduceIte,aw,WY,de];refine a6 (wJ (bs.mut (NA.trans m8) an7)) ?_;rintro _ gV ⟨rfl,m9,qd⟩;refine⟨m9.1,?_⟩;have Ny:=m8.trans m9;have Hz:=m8.get zV Z;have Ep:=m9.get Hz Z;have WO:=Ny.get L9 Z;have sf:=m8.get tc Z;have td:=m9.get sf Z;have aqI:=J.aX Ep;have aqK:=J.aX WO;have aqX:=J.aX td;have aj_:(fX.set r (.row false 5 [[ak,.int .i64 (IntKind.i64.wrap (s.at_+1)),.int .i64 s.bR,.int .i64 s.aC,.int .i64 s.cv]])).get H0.next=some (.row false 11 [cs]):=Hz
    have amY:(fX.set r (.row false 5 [[ak,.int .i64 (IntKind.i64.wrap (s.at_+1)),.int .i64 s.bR,.int .i64 s.aC,.int .i64 s.cv]])).get ct.next=some (.row false 4 [[.int .i64 (ar T s.at_).kind,.str (ar T s.at_).text,.int .i64 (ar T s.at_).n,.int .i64 (ar T s.at_).pos]]):=sf
    have aM: ∀l,dK P l 96 1 [(0,.agg cs)]=some (.aN l 0 1 11 (some 1),.row false 11 [cs]):=λl=>jP l cs hlen dN
    simp-implicitDefEqProofs(disch:=try exact af) only[tH,pC,pD,pE,sC,pF,pG,o3,reduceAdd,reduceLeDiff,reduceIte,aw,Ep,aj_,td,amY,aM,bz,Yl,bi,Bool.and_true,Bool.and_self];simp only[rE];have Mo:cC r H0 ((gV.push (.row false 11 [cs])).set H0.next (.row false 11 [[.int .i64 5,.int .i64 0,.str (dk T (aF s)).1,.str [],.int .i64 0,.aN gV.next 0 1 11 (some 1),.int .i64 (ar T s.at_).pos,.int .i64 0,.int .i64 0,.int .i64 0,.int .i64 0]])):=((NA.trans Ny).bX _).db (.inr (bN _)) _;have lv: ∀k,k<gV.next->k≠H0.next->((gV.push (.row false 11 [cs])).set H0.next (.row false 11 [[.int .i64 5,.int .i64 0,.str (dk T (aF s)).1,.str [],.int .i64 0,.aN gV.next 0 1 11 (some 1),.int .i64 (ar T s.at_).pos,.int .i64 0,.int .i64 0,.int .i64 0,.int .i64 0]])).get k=gV.get k:=λk ah e3=>by
     rw[J.get_set_other Z,J.gD Z]
    refine JJ aT bs yf oY n m Z Z _ _ _ (f6.cells {kind:=5,name:=(dk T (aF s)).1,pos:=(ar T s.at_).pos} (.aN gV.next 0 1 11 (some 1))) gn Mo ?_ ?_ cn (J.get_set_same (by simp only[J.b2];omega)) ?_ cN s' ae
    ·have:=qd.rd;unfold c7 at this ⊢;rw[lv r Z Z];exact this
    ·rw[lv _ Z Z];exact WO
    ·rw[lD];have sa:=qZ.mut Ny (by rintro⟨h,_⟩;exact yf h) λ_ h=>h
     refine⟨_,rfl,dP.qF (ro:=false) ?_ ⟨oY _ Z,Z,Z⟩ (sa.bo (λl ro els dD aZ=>⟨dD,by rw[lv l (J.aX aZ) dD.2.1];exact aZ⟩) e _)⟩;rw[J.get_set_other Z];exact J.ca _ _
   |false=>
    simp only[bd,bj,eW] at ae;obtain⟨⟨aI,s1⟩,g1,g2⟩:=ae;simp-implicitDefEqProofs(disch:=try exact af) only[rE,pC,pD,pE,sC,pF,pG,o3,reduceAdd,reduceLeDiff,reduceIte,aw];refine a6 (Bo oE [91] (by simp)) ?_;rintro _ jX ⟨rfl,m8,oF⟩;refine⟨m8.1,?_⟩;simp-implicitDefEqProofs(disch:=try exact af) only[rE,pC,pD,pE,sC,pF,pG,o3,reduceAdd,reduceLeDiff,reduceIte,aw];refine a6 (aT n Z oF 0 Z aI s1 g1) ?_;rintro v gV ⟨m9,qd,sa⟩;refine⟨m9.1,?_⟩;obtain⟨bU,rfl,mi,lJ⟩:=sa.cells;have Nh:List.take 11 bU=bU:=List.take_of_length_le Z;simp-implicitDefEqProofs(disch:=try exact af) only[rE,pC,pD,pE,sC,pF,pG,o3,reduceAdd,reduceLeDiff,reduceIte,aw,mi,lJ,List.append_nil]
    have AH:=aR.push gV (.row false 11 [bU]);refine a6 (Bg (qd.aK AH) [93] (by simp)) ?_;rintro _ Ak ⟨rfl,m12,am4⟩;refine⟨m12.1,?_⟩;have EC:=((m8.trans m9).trans (AH.mut _)).trans m12;have VS:=EC.get zV Z;have VT:=EC.get L9 Z;have WX:=EC.get tc Z;have amv:=m12.get (J.ca gV (.row false 11 [bU])) (by have:=m8.1;have:=m9.1;omega);have aqa:=J.aX VS;have aqb:=J.aX VT;have aqf:=J.aX WX;have aM: ∀l,dK P l 96 2 [(0,.agg cs),(1,.agg bU)]=some (.aN l 0 2 11 (some 2),.row false 11 [cs,bU]):=λl=>B7 l cs bU hlen dN mi lJ
    simp-implicitDefEqProofs(disch:=try exact af) only[rE,pC,pD,pE,sC,pF,pG,o3,reduceAdd,reduceLeDiff,reduceIte,aw,VS,amv,WX,aM,bz,Nh,Yl];simp only[tH];have am9:cC r H0 ((Ak.push (.row false 11 [cs,bU])).set H0.next (.row false 11 [[.int .i64 6,.int .i64 0,.str [],.str [],.int .i64 0,.aN Ak.next 0 2 11 (some 2),.int .i64 (ar T s.at_).pos,.int .i64 0,.int .i64 0,.int .i64 0,.int .i64 0]])):=((NA.trans EC).bX _).db (.inr (bN _)) _;have lv: ∀k,k<Ak.next->k≠H0.next->((Ak.push (.row false 11 [cs,bU])).set H0.next (.row false 11 [[.int .i64 6,.int .i64 0,.str [],.str [],.int .i64 0,.aN Ak.next 0 2 11 (some 2),.int .i64 (ar T s.at_).pos,.int .i64 0,.int .i64 0,.int .i64 0,.int .i64 0]])).get k=Ak.get k:=λk ah e3=>by
     rw[J.get_set_other Z,J.gD Z]
    refine JJ aT bs yf oY n m Z Z _ _ _ (f6.cells {kind:=6,pos:=(ar T s.at_).pos} (.aN Ak.next 0 2 11 (some 2))) gn am9 ?_ ?_ cn (J.get_set_same (by simp only[J.b2];omega)) ?_ cN s' g2
    ·have:=am4.rd;unfold c7 at this ⊢;rw[lv r Z Z];exact this
    ·rw[lv _ Z Z];exact VT
    ·rw[lD];have amx:=qZ.mut EC (by rintro⟨h,_⟩;exact yf h) λ_ h=>h
     have aqJ:=J.aX L9;have aqB:=m8.1;have Yy:=m9.1;refine⟨_,rfl,dP.B8 (ro:=false) ?_ ⟨oY _ Z,Z,Z⟩ (amx.bo (λl ro els dD aZ=>⟨dD,by rw[lv l (J.aX aZ) dD.2.1];exact aZ⟩) e _) (sa.bo (λl ro els dD aZ=> ?_) aI _)⟩
     ·rw[J.get_set_other Z];exact J.ca _ _
     ·unfold bI at dD;have WQ:=m12.get (AH.get aZ) Z;exact⟨⟨oY _ Z,Z,Z⟩,by rw[lv l (J.aX WQ) Z];exact WQ⟩
  cases U:cd T s [46] with
  |true=>
   simp only[U,bC] at h;simp-implicitDefEqProofs(disch:=try exact af) only[rE,tH,pC,pD,pE,pF,pG,o3,reduceAdd,reduceLeDiff,reduceIte,aw];exact go H1 aV (by rw[U];exact h)
  |false=>
   simp only[U,bj] at h;simp-implicitDefEqProofs(disch:=try exact af) only[rE,tH,pC,pD,pE,pF,pG,o3,reduceAdd,reduceLeDiff,reduceIte,aw];refine gP (gO (cp.aK aV) (ag.cf.aK aV) [91] (by simp)) ?_;rintro _ bm ⟨rfl,aJ⟩;refine⟨aJ.1,?_⟩;cases aa:cd T s [91] with
   |true=>
    simp only[aa,bC] at h;simp-implicitDefEqProofs(disch:=try exact af) only[rE,tH,pC,pD,pE,pF,pG,o3,reduceAdd,reduceLeDiff,reduceIte,aw];exact go bm (aV.trans aJ) (by rw[U];exact h)
   |false=>
    simp only[aa,bj,bF] at h;simp-implicitDefEqProofs(disch:=try exact af) only[rE,tH,pC,pD,pE,pF,pG,o3,reduceAdd,reduceLeDiff,reduceIte,aw];exact fin bm (aV.trans aJ) h.symm
theorem aaA{n:Nat}(aT: ∀k,k<=n->sG k):Kn (n+1):=by
 intro ok H r T ak s e v ag he yf oY cN s' h;refine cP (λ_=>aid (n+2)) ?_;obtain⟨cs,rfl,hlen,dN⟩:=he.cells;have ij: ∀l,eK l (.agg cs)=some (.ptr l 0 0,.row false 11 [cs]):=λl=>by rw[h8 l cs dN,hlen]
 simp-implicitDefEqProofs(disch:=try exact af) only[o3,pG,pF,reduceAdd,reduceLeDiff,reduceIte,aw,ij];have aV:=(aR.push H (.row false 11 [cs])).bX (.row false 11 [[.int .i64 0,.int .i64 0,.str [],.str [],.int .i64 0,.ap,.int .i64 0,.int .i64 0,.int .i64 0,.int .i64 0,.int .i64 0]]);refine JJ (N:=n+2) (B:=n+1) (λk ah=>aT k Z) ag yf oY (n+1) (n+2) Z Z _ s e cs [.int .i64 0,.int .i64 0,.str [],.str [],.int .i64 0,.ap,.int .i64 0,.int .i64 0,.int .i64 0,.int .i64 0,.int .i64 0] (aV.mut _) (ag.rd.aK aV) ?_ rfl ?_ ?_ cN s' h
 ·simp-implicitDefEqProofs(disch:=try exact af) only[dB]
 ·simp-implicitDefEqProofs(disch:=try exact af) only[dB]
 ·exact he.bo (λl ro els dD aZ=>⟨⟨dD,by have:=J.aX aZ;omega,by have:=J.aX aZ;omega⟩,aV.get aZ⟩) e _
end
section
theorem U3{T:List Tok}{s:aA}{x:bl}(h:cd T s x=true)(ag:x≠[]):(ar T s.at_).text≠[]:=by
 simp only[cd,b7,Bool.and_eq_true,beq_iff_eq] at h;rw[h.2.2];exact ag
theorem P8{n:Nat}(aT:sG n){H0 H:J}{r:Nat}{T:List Tok}{ak:I}{s:aA}(bs:c_ H0 r T ak s)(en:aR H0 H)(ax:H.get H0.next=some (.row false 11 [[.int .i64 0,.int .i64 0,.str [],.str [],.int .i64 0,.ap,.int .i64 0,.int .i64 0,.int .i64 0,.int .i64 0,.int .i64 0]])){b:Nat}(ln:H0.next<b)(bi:H.get b=some (.row false 4 [[.int .i64 (ar T s.at_).kind,.str (ar T s.at_).text,.int .i64 (ar T s.at_).n,.int .i64 (ar T s.at_).pos]]))(dM:(ar T s.at_).text≠[]){k:Int}
  {cN:bp} {s':aA} (h:uq T (n+1) k s=some (cN,s')):W (u9 (aq P ao) (.ptr r 0 0) (.ptr H0.next 0 0) (.ptr b 0 0) (.int .i64 k) H) (hn H0 r T ak cN s'):=by
 have az:=bs.rd.lt;have de:=bs.cf.one;have ag:=bs.aK en;have hle:=en.1;have yc:=J.aX bi;have iw:=J.aX ax;simp only[uq,eW] at h;obtain⟨⟨aI,s1⟩,U,aa⟩:=h;simp only[bF,dw] at aa;obtain⟨rfl,rfl⟩:=aa;simp-implicitDefEqProofs(disch:=try exact af) only[u9,qB,pZ,reduceAdd,reduceLeDiff,reduceIte,aw,bi];refine a6 (Bo ag _ dM) ?_;rintro _ H1 ⟨rfl,m1,du⟩;refine⟨m1.1,?_⟩;simp-implicitDefEqProofs(disch:=try exact af) only[u9,qB,pZ,reduceAdd,reduceLeDiff,reduceIte,aw];refine a6 (aT du 5 Z aI s1 U) ?_;rintro v bm ⟨m2,cJ,fR⟩;refine⟨m2.1,?_⟩;have sc:=m1.1;have hy:=m2.1;have m12:=m1.trans m2;have ck:=m12.get ax Z
 have kQ:=m12.get bi Z;have l1:=J.aX ck;have amG:=J.aX kQ;obtain⟨cs,rfl,hlen,dN⟩:=fR.cells;have bz:List.take 11 cs=cs:=List.take_of_length_le Z;have aM: ∀l,dK P l 96 1 [(0,.agg cs)]=some (.aN l 0 1 11 (some 1),.row false 11 [cs]):=λl=>jP l cs hlen dN
 have cI:=cJ.rd;unfold c7 at cI;have ib:=cJ.rd.lt;have bP:=(en.mut (· =r)).trans m12;simp-implicitDefEqProofs(disch:=try exact af) only[u9,qB,pZ,reduceAdd,reduceLeDiff,reduceIte,aw,hlen,dN,List.append_nil,bz,aM,cI,de,ck,kQ];refine a_.2 ?_;refine ug.fin (ok:=bI H0.next) (a:={kind:=k,pos:=(ar T s.at_).pos}) (kv:= .aN (bm.next+1) 0 1 11 (some 1)) (s':=ga s1) bs ?_ ?_ (dP.qF (ro:=false) ?_ (by unfold bI;omega) (fR.new ?_ λl h=>by unfold bI;omega))
 ·(repeat (first|exact bP|refine dC.bX ?_ _|refine dC.db (S:=(· =r)) ?_ (.inl rfl) _|refine dC.db ?_ (.inr (by(first|omega|(simp only[J.b2,J.e9];omega)))) _))
 ·(unfold c7;simp-implicitDefEqProofs(disch:=try exact af) only[dB,cI,aF,ga,iK])
 ·simp-implicitDefEqProofs(disch:=try exact af) only[dB]
 ·exact dC.db (S:=λl=>l<_) ((dC.db (S:=λl=>l<_) ((dC.refl _ _).bX _) (.inl Z) _).bX _) (.inl Z) _
theorem aa8{n:Nat}(YJ: ∀k,k<=n->sG k)(wn:Kp n)(Fq:Kn n):Kr (n+1):=by
 intro H r T ak s ag e s' h;refine cP (λ_=>ah2 0) ?_;have az:=ag.rd.lt;simp only[ue] at h;have aV:=aR.push H (.row false 11 [[.int .i64 0,.int .i64 0,.str [],.str [],.int .i64 0,.ap,.int .i64 0,.int .i64 0,.int .i64 0,.int .i64 0,.int .i64 0]]);simp-implicitDefEqProofs(disch:=try exact af) only[pZ,qB,reduceAdd,reduceLeDiff,reduceIte,aw];refine a6 (nV (ag.rd.aK aV) (ag.cf.aK aV)) ?_;rintro _ bm ⟨rfl,aJ⟩;refine⟨aJ.1,?_⟩;have ck:=aJ.get (J.ca H _);have l1:=J.aX ck;simp-implicitDefEqProofs(disch:=try exact af) only[qB,pZ,reduceAdd,reduceLeDiff,reduceIte,aw,Tok.v];have bB:=aJ.bX (.row false 4 [[.int .i64 (ar T s.at_).kind,.str (ar T s.at_).text,.int .i64 (ar T s.at_).n,.int .i64 (ar T s.at_).pos]])
 have ta:=J.ca bm (.row false 4 [[.int .i64 (ar T s.at_).kind,.str (ar T s.at_).text,.int .i64 (ar T s.at_).n,.int .i64 (ar T s.at_).pos]]);have wq:=aV.trans bB;refine a6 (gO (ag.rd.aK wq) (ag.cf.aK wq) [45] (by simp)) ?_;rintro _ ct ⟨rfl,bK⟩;refine⟨bK.1,?_⟩;have Ip:=wq.trans bK;have se:=bK.get ta;have fV:=(bB.trans bK).get (J.ca H _);cases U:cd T s [45] with
 |true=>
  simp only[U,bC] at h;have dM:(ar T s.at_).text≠[]:=U3 U (by simp);simp-implicitDefEqProofs(disch:=try exact af) only[qB,pZ,reduceAdd,reduceLeDiff,reduceIte,aw];cases n with
  |zero=>simp[uq] at h
  |succ n=>exact P8 (YJ n Z) ag Ip fV Z se dM h
 |false=>
  simp only[U,bj] at h;simp-implicitDefEqProofs(disch:=try exact af) only[qB,pZ,reduceAdd,reduceLeDiff,reduceIte,aw];refine a6 (gO (ag.rd.aK Ip) (ag.cf.aK Ip) [33] (by simp)) ?_;rintro _ dp ⟨rfl,c8⟩;refine⟨c8.1,?_⟩;have wr:=Ip.trans c8;have oD:=c8.get se;have gz:=c8.get fV;cases aa:cd T s [33] with
  |true=>
   simp only[aa,bC] at h;have dM:(ar T s.at_).text≠[]:=U3 aa (by simp);simp-implicitDefEqProofs(disch:=try exact af) only[qB,pZ,reduceAdd,reduceLeDiff,reduceIte,aw];cases n with
   |zero=>simp[uq] at h
   |succ n=>exact P8 (YJ n Z) ag wr gz Z oD dM h
  |false=>
   simp only[aa,bj,eW] at h;obtain⟨⟨aI,s1⟩,g1,g2⟩:=h;simp-implicitDefEqProofs(disch:=try exact af) only[qB,pZ,reduceAdd,reduceLeDiff,reduceIte,aw];refine a6 (wn (ag.aK wr) aI s1 g1) ?_;rintro v fW ⟨m6,hO,aoa⟩;refine⟨m6.1,?_⟩;have Yz:=wr.1;have aok:=m6.1;have p_:=m6.get gz Z;simp-implicitDefEqProofs(disch:=try exact af) only[qB,pZ,reduceAdd,reduceLeDiff,reduceIte,aw];have C0:=J.aX gz;refine a6 (Fq (ok:=bI (H.next+1)) hO (aoa.bo (e_.aK (aR.refl _) λl dD=>by unfold bI at*;omega) aI _) (by unfold bI;omega) (λl dD=>by unfold bI;omega) e s' g2) ?_;rintro v fX ⟨m7,oE,qZ⟩;refine⟨m7.1,?_⟩;have s6:=m7.get p_ Z
   have Yv:=J.aX s6;obtain⟨cs,rfl,hlen,dN⟩:=qZ.cells;have bz:List.take 11 cs=cs:=List.take_of_length_le Z;simp-implicitDefEqProofs(disch:=try exact af) only[qB,pZ,reduceAdd,reduceLeDiff,reduceIte,aw,s6,hlen,dN,List.append_nil,bz];exact a_.2 (hn.ret ag (((wr.mut _).trans m6).trans m7) oE.rd (bN _) qZ (Nat.lt_succ_self _) _)
end
section
theorem Rz{N:Nat}{H0 H:J}{r:Nat}{T:List Tok}{ak:I}{s0 s:aA}(bs:c_ H0 r T ak s0)(bP:cC r H0 H)(cp:c7 H r ak s){b3:Nat}{cs gn:List I}{e:bp}(ck:H.get H0.next=some (.row false 11 [gn]))(cn:gn.length=11)(eO:H.get b3=some (.row false 11 [cs]))(ae:H0.next<b3)
  (he:ea H (λl=>H0.next<l/\l≠b3) e (.agg cs)):W (yW (aq P ao) N (.ptr H0.next 0 0) (.ptr b3 0 0) H) (hn H0 r T ak e s):=by
 have az:=bs.rd.lt;have l1:=J.aX ck;have CZ:=J.aX eO;obtain⟨uA,jb,hlen,dN⟩:=he.cells;cases jb;have bz:List.take 11 cs=cs:=List.take_of_length_le Z;have bd:List.drop 11 gn=[]:=List.drop_of_length_le Z;simp-implicitDefEqProofs(disch:=try exact af) only[yW,pJ,DV,oK,oL,oM,o2,reduceAdd,reduceLeDiff,reduceIte,aw,ck,eO,hlen,dN,List.append_nil,bz,bd];have fr:=bP.db (.inr (bN _)) (.row false 11 [cs]);refine a_.2 ⟨fr,bs.mut fr ?_,he.bo (e_.set _ Z λl h=>by unfold bI;omega) e _⟩;unfold c7 at cp ⊢;rw[J.get_set_other Z];exact cp
theorem Qu{N B:Nat}(aT: ∀k,k<B->sG k){H0:J}{r:Nat}{T:List Tok}{ak:I}{s0:aA}(bs:c_ H0 r T ak s0){lev:Nat}(oX:lev<5){b3:Nat}(ae:H0.next<b3):
  ∀(n m:Nat),n<=B->n<m-> ∀(H:J) (s:aA) (e:bp) (cs gn:List I),cC r H0 H->c7 H r ak s->H.get H0.next=some (.row false 11 [gn])->gn.length=11->H.get b3=some (.row false 11 [cs])->
   ea H (λl=>H0.next<l/\l≠b3) e (.agg cs)-> ∀(cN:bp) (s':aA),rD T n lev e s=some (cN,s')->
   W (yX (aq P ao) N m (.ptr r 0 0) (.int .i64 lev) (.ptr H0.next 0 0) (.ptr b3 0 0) H) (hn H0 r T ak cN s')
 |0,m,dU,hm,H,s,e,cs,gn,bP,cp,ck,cn,eO,he,cN,s',h=>by simp[rD] at h
 |n+1,0,dU,hm,H,s,e,cs,gn,bP,cp,ck,cn,eO,he,cN,s',h=>Z
 |n+1,m+1,dU,hm,H,s,e,cs,gn,bP,cp,ck,cn,eO,he,cN,s',h=>by
  have az:=bs.rd.lt;have ag:=bs.mut bP cp;have CZ:=J.aX eO;obtain⟨uA,jb,hlen,dN⟩:=he.cells;cases jb;have bz:List.take 11 cs=cs:=List.take_of_length_le Z;have bd:List.drop 11 cs=[]:=List.drop_of_length_le Z;have de:=bs.cf.one;simp only[rD] at h;simp only[yX];rw[DV];refine a6 (tB cp) ?_;rintro _ H1 ⟨rfl,rfl⟩;refine⟨bN _,?_⟩;cases j7:s.aC==0 with
  |false=>
   simp only[j7,Bool.false_and,bj,bF,dw] at h;obtain⟨rfl,rfl⟩:=h;simp-implicitDefEqProofs(disch:=try exact af) only[pJ,oK,oL,oM,o2,reduceAdd,reduceLeDiff,reduceIte,aw];exact Rz bs bP cp ck cn eO ae he
  |true=>
   simp only[j7,Bool.true_and] at h;simp-implicitDefEqProofs(disch:=try exact af) only[pJ,oK,oL,oM,o2,reduceAdd,reduceLeDiff,reduceIte,aw];refine gP (nV cp ag.cf) ?_;rintro _ H1 ⟨rfl,aV⟩;refine⟨aV.1,?_⟩;simp-implicitDefEqProofs(disch:=try exact af) only[pJ,oK,oL,oM,o2,reduceAdd,reduceLeDiff,reduceIte,aw];refine gP (PY lev oX (ar T s.at_)) ?_;rintro _ bm ⟨rfl,aJ⟩;refine⟨aJ.1,?_⟩;have bB:=aV.trans aJ;cases ah:jQ lev (ar T s.at_) != 0 with
   |false=>
    simp only[ah,bj,bF,dw] at h;obtain⟨rfl,rfl⟩:=h;simp-implicitDefEqProofs(disch:=try exact af) only[pJ,oK,oL,oM,o2,reduceAdd,reduceLeDiff,reduceIte,aw,ah];exact Rz bs (bP.trans (bB.mut _)) (cp.aK bB) (bB.get ck) cn (bB.get eO) ae (he.bo (e_.aK bB λ_ h=>h) e _)
   |true=>
    simp only[ah,bC,eW] at h;obtain⟨⟨aI,s1⟩,U,aa⟩:=h;simp-implicitDefEqProofs(disch:=try exact af) only[pJ,oK,oL,oM,o2,reduceAdd,reduceLeDiff,reduceIte,aw,ah];refine a6 (nV (cp.aK bB) (ag.cf.aK bB)) ?_;rintro _ ct ⟨rfl,bK⟩;refine⟨bK.1,?_⟩;have c8:=(bB.trans bK).bX (.row false 4 [[.int .i64 (ar T s.at_).kind,.str (ar T s.at_).text,.int .i64 (ar T s.at_).n,.int .i64 (ar T s.at_).pos]]);have oD:=J.ca ct (.row false 4 [[.int .i64 (ar T s.at_).kind,.str (ar T s.at_).text,.int .i64 (ar T s.at_).n,.int .i64 (ar T s.at_).pos]]);have zZ:=cp.aK (bB.trans bK);have am0:=cp.aK c8;have cI:=zZ;unfold c7 at cI
    have ib:=zZ.lt;obtain⟨m6,M2⟩:=h5 am0 (aF s);have hw:IntKind.i64.wrap ((lev:Int)+1)=((lev+1:Nat):Int):=by rw[wrap_i64 Z Z];simp
    simp-implicitDefEqProofs(disch:=try exact af) only[pJ,oK,oL,oM,o2,reduceAdd,reduceLeDiff,reduceIte,aw,Tok.v,cI,de,hw];have Fw:=(bP.trans (c8.mut _)).trans m6;have hO:=bs.mut Fw M2;refine a6 (aT n Z hO (lev+1) Z aI s1 U) ?_;rintro v fX ⟨m7,oE,qZ⟩;refine⟨m7.1,?_⟩;have amm:=m6.get (c8.get eO) Z;have zV:=m7.get amm Z;have ap0:=J.aX zV;have tb:=m6.get oD (by have:=J.aX zZ;omega);have tc:=m7.get tb (by have:=J.aX zZ;omega);have WU:=J.aX tc;have q0:=m7.1;have ye:=c8.1;simp only[J.e9,J.b2] at q0 ye qZ;obtain⟨bU,rfl,mi,lJ⟩:=qZ.cells;have Nh:List.take 11 bU=bU:=List.take_of_length_le Z;simp-implicitDefEqProofs(disch:=try exact af) only[pJ,oK,oL,oM,o2,reduceAdd,reduceLeDiff,reduceIte,aw,mi,lJ,List.append_nil,tc]
    have kU:=aR.push fX (.row false 11 [bU]);refine a6 (PY (H:=fX.push (.row false 11 [bU])) lev oX (ar T s.at_)) ?_;rintro _ gV ⟨rfl,qo⟩;refine⟨qo.1,?_⟩;have yk:=kU.trans qo;have Yk:=qo.get (J.ca fX (.row false 11 [bU]));have Ep:=yk.get zV;have td:=yk.get tc;have aol:=J.aX Yk;have ap1:=J.aX Ep;have WV:=J.aX td;have aM: ∀l,dK P l 96 2 [(0,.agg cs),(1,.agg bU)]=some (.aN l 0 2 11 (some 2),.row false 11 [cs,bU]):=λl=>B7 l cs bU hlen dN mi lJ
    have aou:=he.same;have amZ:=qZ.same;have aov:cj (some (.agg [.int .i64 (ar T s.at_).kind,.str (ar T s.at_).text,.int .i64 (ar T s.at_).n,.int .i64 (ar T s.at_).pos])) (.agg [.int .i64 (ar T s.at_).kind,.str (ar T s.at_).text,.int .i64 (ar T s.at_).n,.int .i64 (ar T s.at_).pos])=true:=by simp[cj,I.beq,jR.beq]
    have Hz:=kU.get zV;have sf:=kU.get tc;simp-implicitDefEqProofs(disch:=try exact af) only[oK,oL,oM,o2,reduceAdd,reduceLeDiff,reduceIte,aw,Ep,Yk,td,bz,Nh,bd,aM,aou,amZ,aov,Hz,sf,Bool.and_true,Bool.and_self];rw[pJ];have ao1:=((Fw.trans m7).trans (yk.mut _));have Mo:cC r H0 ((gV.push (.row false 11 [cs,bU])).set b3 (.row false 11 [[.int .i64 (jQ lev (ar T s.at_)),.int .i64 0,.str [],.str [],.int .i64 0,.aN gV.next 0 2 11 (some 2),.int .i64 (ar T s.at_).pos,.int .i64 0,.int .i64 0,.int .i64 0,.int .i64 0]])):=(ao1.bX _).db (.inr (Nat.le_of_lt ae)) _;have lv: ∀k,k<gV.next->k≠b3->((gV.push (.row false 11 [cs,bU])).set b3 (.row false 11 [[.int .i64 (jQ lev (ar T s.at_)),.int .i64 0,.str [],.str [],.int .i64 0,.aN gV.next 0 2 11 (some 2),.int .i64 (ar T s.at_).pos,.int .i64 0,.int .i64 0,.int .i64 0,.int .i64 0]])).get k=gV.get k:=λk ah e3=>by
     rw[J.get_set_other Z,J.gD Z]
    have WJ:=yk.get (m7.get (m6.get (c8.get ck) Z) Z);have apX:=J.aX WJ;have Mg:=oE.rd.aK yk;have ap2:=Mg.lt;have aqC:=yk.1;refine Qu aT bs oX ae n m Z Z _ s1 _ (f6.cells {kind:=jQ lev (ar T s.at_),pos:=(ar T s.at_).pos} (.aN gV.next 0 2 11 (some 2))) gn Mo ?_ ?_ cn (J.get_set_same (by simp only[J.b2];omega)) ?_ cN s' aa
    ·unfold c7 at Mg ⊢;rw[lv r Z Z];exact Mg
    ·rw[lv _ Z Z];exact WJ
    ·rw[lD];have sa:ea gV (λl=>H0.next<l/\l≠b3) e (.agg cs):=he.mut (((c8.mut _).trans m6).trans m7|>.trans (yk.mut _)) Z λ_ h=>h
     refine⟨_,rfl,dP.B8 (ro:=false) ?_ ⟨Z,Z⟩ (sa.bo (λl ro els dD aZ=>⟨dD,by rw[lv l (J.aX aZ) dD.2];exact aZ⟩) e _) (qZ.bo (λl ro els dD aZ=> ?_) aI _)⟩
     ·rw[J.get_set_other Z];exact J.ca _ _
     ·unfold bI at dD;have Yp:=yk.get aZ;exact⟨⟨Z,Z⟩,by rw[lv l (J.aX Yp) Z];exact Yp⟩
theorem acX{n:Nat}(AE: ∀k,k<=n->sG k)(C5:Kr n):sG (n+1):=by
 intro H r T ak s ag lev hle e s' h;refine cP (λ_=>ahP (n+2)) ?_;have az:=ag.rd.lt;have aV:=aR.push H (.row false 11 [[.int .i64 0,.int .i64 0,.str [],.str [],.int .i64 0,.ap,.int .i64 0,.int .i64 0,.int .i64 0,.int .i64 0,.int .i64 0]]);simp only[jF] at h;by_cases aB:lev=5
 ·rw[if_pos aB] at h;have Ar:((lev:Int)==5)=true:=by simp;omega
  simp-implicitDefEqProofs(disch:=try exact af) only[pJ,oK,oL,oM,o2,reduceAdd,reduceLeDiff,reduceIte,aw,Ar];refine a6 (C5 (ag.aK aV) e s' h) ?_;rintro v bm ⟨m2,cJ,fR⟩;refine⟨m2.1,?_⟩;have ck:=m2.get (J.ca H (.row false 11 [[.int .i64 0,.int .i64 0,.str [],.str [],.int .i64 0,.ap,.int .i64 0,.int .i64 0,.int .i64 0,.int .i64 0,.int .i64 0]])) Z;have iw:=J.aX ck;obtain⟨cs,rfl,hlen,dN⟩:=fR.cells;have bz:List.take 11 cs=cs:=List.take_of_length_le Z;simp-implicitDefEqProofs(disch:=try exact af) only[pJ,oK,oL,oM,o2,reduceAdd,reduceLeDiff,reduceIte,aw,ck,hlen,dN,List.append_nil,bz];exact a_.2 (hn.ret ag ((aV.mut _).trans m2) cJ.rd (bN _) fR (Nat.lt_succ_self _) _)
 ·rw[if_neg aB,eW] at h;obtain⟨⟨aI,s1⟩,U,aa⟩:=h;have Ar:((lev:Int)==5)=false:=by simp;omega
  have hw:IntKind.i64.wrap ((lev:Int)+1)=((lev+1:Nat):Int):=by rw[wrap_i64 Z Z];simp
  simp-implicitDefEqProofs(disch:=try exact af) only[pJ,oK,oL,oM,o2,reduceAdd,reduceLeDiff,reduceIte,aw,Ar,hw];refine a6 (AE n (bN _) (ag.aK aV) (lev+1) Z aI s1 U) ?_;rintro v bm ⟨m2,cJ,fR⟩;refine⟨m2.1,?_⟩;have ck:=m2.get (J.ca H (.row false 11 [[.int .i64 0,.int .i64 0,.str [],.str [],.int .i64 0,.ap,.int .i64 0,.int .i64 0,.int .i64 0,.int .i64 0,.int .i64 0]])) Z;have hy:=m2.1;simp only[J.b2] at hy;obtain⟨cs,rfl,hlen,dN⟩:=fR.cells;simp-implicitDefEqProofs(disch:=try exact af) only[oM,oL,oK,reduceAdd,reduceLeDiff,reduceIte,aw,hlen,dN,List.append_nil];have bB:=aR.push bm (.row false 11 [cs]);refine Qu (N:=n+2) (B:=n) (λk ah=>AE k Z) ag Z (b3:=bm.next) Z n (n+2) Z Z _ s1 aI cs _ (((aV.mut _).trans m2).trans (bB.mut _)) (cJ.rd.aK bB) (bB.get ck) rfl (J.ca _ _) ?_ e s' aa
  exact fR.bo (λl ro els dD aZ=>by
   have:=J.aX aZ;unfold bI at dD;simp only[J.b2] at dD;exact⟨⟨Z,Z⟩,bB.get aZ⟩) aI _
end
section
theorem aaE{n:Nat}(aT:DY n){H0 H:J}{r:Nat}{T:List Tok}{ak:I}{s:aA}(bs:c_ H0 r T ak s)(en:aR H0 H)(ax:H.get H0.next=some (.row false 11 [[.int .i64 0,.int .i64 0,.str [],.str [],.int .i64 0,.ap,.int .i64 0,.int .i64 0,.int .i64 0,.int .i64 0,.int .i64 0]])){b:Nat}(ln:H0.next<b)(bi:H.get b=some (.row false 4 [[.int .i64 (ar T s.at_).kind,.str (ar T s.at_).text,.int .i64 (ar T s.at_).n,.int .i64 (ar T s.at_).pos]])){cN:bp}{s':aA}(h:(bif cd T (dk T s).2 [40] then(pP T n (dk T s).2).bind λp=>some (.mk {kind:=7,name:=(dk T s).1,pos:=(ar T s.at_).pos} p.1,p.2) else some (.mk {kind:=4,name:=(dk T s).1,pos:=(ar T s.at_).pos} [],(dk T s).2))=some (cN,s')):
  W (tI (aq P ao) (.ptr r 0 0) (.ptr H0.next 0 0) (.ptr b 0 0) H) (hn H0 r T ak cN s'):=by
 have az:=bs.rd.lt;have de:=bs.cf.one;have ag:=bs.aK en;have hle:=en.1;have wi:=J.aX bi;have iw:=J.aX ax;rw[tI];refine a6 (wJ ag) ?_;rintro _ H1 ⟨rfl,m1,du⟩;refine⟨m1.1,?_⟩;have dQ:=m1.get ax Z;have q1:=m1.get bi Z;simp-implicitDefEqProofs(disch:=try exact af) only[k9,k_,la,lb,ld,kW,ky,kX,kz,kY,kA,kZ,kB,k0,kC,k1,kD,kE,k2,kF,k3,kG,kH,kd,ke,kf,kg,kh,k4,k5,k6,k7,kM,reduceAdd,reduceLeDiff,reduceIte,aw];refine a6 (gO du.rd du.cf [40] (by simp)) ?_;rintro _ bm ⟨rfl,aJ⟩;refine⟨aJ.1,?_⟩;have ck:=aJ.get dQ;have kQ:=aJ.get q1;have vO:=J.aX ck;have Md:=J.aX kQ;have cJ:=du.aK aJ;have bP:=((en.mut (· =r)).trans m1).trans (aJ.mut _)
 cases be:cd T (dk T s).2 [40] with
 |false=>
  simp only[be,bj,bF,dw] at h;obtain⟨rfl,rfl⟩:=h;simp-implicitDefEqProofs(disch:=try exact af) only[k9,k_,la,lb,ld,kW,ky,kX,kz,kY,kA,kZ,kB,k0,kC,k1,kD,kE,k2,kF,k3,kG,kH,kd,ke,kf,kg,kh,k4,k5,k6,k7,kM,reduceAdd,reduceLeDiff,reduceIte,aw,Bool.not_false,ck,kQ];exact a_.2 (hn.box (a:={kind:=4,name:=(dk T s).1,pos:=(ar T s.at_).pos}) (kv:= .ap) (lo:=H0.next+1) bs bP cJ.rd (bN _) (Nat.lt_succ_self _) (dP.nil _ _) _)
 |true=>
  simp only[be,bC,eW] at h;obtain⟨⟨eG,s1⟩,U,aa⟩:=h;simp only[bF,dw] at aa;obtain⟨rfl,rfl⟩:=aa;simp-implicitDefEqProofs(disch:=try exact af) only[k9,k_,la,lb,ld,kW,ky,kX,kz,kY,kA,kZ,kB,k0,kC,k1,kD,kE,k2,kF,k3,kG,kH,kd,ke,kf,kg,kh,k4,k5,k6,k7,kM,reduceAdd,reduceLeDiff,reduceIte,aw,Bool.not_true];refine a6 (aT cJ eG s1 U) ?_;rintro v cT ⟨m3,e2,E8⟩;refine⟨m3.1,?_⟩;have eO:=m3.get ck Z;have ta:=m3.get kQ Z;have WT:=J.aX eO;have ap5:=J.aX ta;have bA:v= .ap\/ ∃l i n cap,v= .aN l i n 11 cap:=by
   rcases E8 with⟨h,_⟩|⟨l,i,cap,ro,els,h,_⟩|⟨l,i,cap,h,_⟩
   ·exact .inl h
   ·exact .inr ⟨_,_,_,_,h⟩
   ·exact .inr ⟨_,_,_,_,h⟩
  rcases bA with rfl|⟨l,i,k,cap,rfl⟩
  ·simp-implicitDefEqProofs(disch:=try exact af) only[k9,k_,la,lb,ld,kW,ky,kX,kz,kY,kA,kZ,kB,k0,kC,k1,kD,kE,k2,kF,k3,kG,kH,kd,ke,kf,kg,kh,k4,k5,k6,k7,kM,reduceAdd,reduceLeDiff,reduceIte,aw,eO,ta,kQ];exact a_.2 (hn.box (a:={kind:=7,name:=(dk T s).1,pos:=(ar T s.at_).pos}) (kv:= .ap) (lo:=bm.next) bs (bP.trans m3) e2.rd (bN _) Z E8 _)
  ·simp-implicitDefEqProofs(disch:=try exact af) only[k9,k_,la,lb,ld,kW,ky,kX,kz,kY,kA,kZ,kB,k0,kC,k1,kD,kE,k2,kF,k3,kG,kH,kd,ke,kf,kg,kh,k4,k5,k6,k7,kM,reduceAdd,reduceLeDiff,reduceIte,aw,eO,ta,kQ];exact a_.2 (hn.box (a:={kind:=7,name:=(dk T s).1,pos:=(ar T s.at_).pos}) (kv:= .aN l i k 11 cap) (lo:=bm.next) bs (bP.trans m3) e2.rd (bN _) Z E8 _)
theorem ac1{H0 H:J}{r:Nat}{T:List Tok}{ak:I}{s:aA}(bs:c_ H0 r T ak s)(en:aR H0 H)(ax:H.get H0.next=some (.row false 11 [[.int .i64 0,.int .i64 0,.str [],.str [],.int .i64 0,.ap,.int .i64 0,.int .i64 0,.int .i64 0,.int .i64 0,.int .i64 0]])){b:Nat}(ln:H0.next<b)(bi:H.get b=some (.row false 4 [[.int .i64 (ar T s.at_).kind,.str (ar T s.at_).text,.int .i64 (ar T s.at_).n,.int .i64 (ar T s.at_).pos]])){cN:bp}{s':aA}(h:some (bp.mk {kind:=1,n:=(ar T s.at_).n,pos:=(ar T s.at_).pos} [],aF s)=some (cN,s')):
  W (k9 (.ptr r 0 0) H (.ptr b 0 0) (.ptr H0.next 0 0)) (hn H0 r T ak cN s'):=by
 have az:=bs.rd.lt;have de:=bs.cf.one;have ag:=bs.aK en;have hle:=en.1;have wi:=J.aX bi;have iw:=J.aX ax;have cI:=ag.rd;have fM:=cI;unfold c7 at fM;have ib:=cI.lt;obtain⟨m1,mV⟩:=h5 cI (aF s);have l3:=(en.mut (· =r)).trans m1;have du:=bs.mut l3 mV;have dQ:=m1.get ax Z;have q1:=m1.get bi Z;simp only[bF,dw] at h;obtain⟨rfl,rfl⟩:=h;simp-implicitDefEqProofs(disch:=try exact af) only[k9,k_,la,lb,ld,kW,ky,kX,kz,kY,kA,kZ,kB,k0,kC,k1,kD,kE,k2,kF,k3,kG,kH,kd,ke,kf,kg,kh,k4,k5,k6,k7,kM,reduceAdd,reduceLeDiff,reduceIte,aw,fM,de,ax,bi];exact a_.2 (hn.box (a:={kind:=1,n:=(ar T s.at_).n,pos:=(ar T s.at_).pos}) (kv:= .ap) (lo:=H0.next+1) bs l3 mV (bN _) (Nat.lt_succ_self _) (dP.nil _ _) _)
theorem PS{H0 H:J}{r:Nat}{T:List Tok}{ak:I}{s:aA}(bs:c_ H0 r T ak s)(en:aR H0 H)(ax:H.get H0.next=some (.row false 11 [[.int .i64 0,.int .i64 0,.str [],.str [],.int .i64 0,.ap,.int .i64 0,.int .i64 0,.int .i64 0,.int .i64 0,.int .i64 0]])){b:Nat}(ln:H0.next<b)(bi:H.get b=some (.row false 4 [[.int .i64 (ar T s.at_).kind,.str (ar T s.at_).text,.int .i64 (ar T s.at_).n,.int .i64 (ar T s.at_).pos]])){cN:bp}{s':aA}(h:some (bp.mk {kind:=2,n:=bif (ar T s.at_).text==[116,114,117,101] then 1 else 0,pos:=(ar T s.at_).pos} [],aF s)=some (cN,s')):
  W (k_ (aq P ao) (.ptr r 0 0) H (.ptr b 0 0) (.ptr H0.next 0 0)) (hn H0 r T ak cN s'):=by
 have az:=bs.rd.lt;have de:=bs.cf.one;have ag:=bs.aK en;have hle:=en.1;have wi:=J.aX bi;have iw:=J.aX ax;have cI:=ag.rd;have fM:=cI;unfold c7 at fM;have ib:=cI.lt;obtain⟨m1,mV⟩:=h5 cI (aF s);have l3:=(en.mut (· =r)).trans m1;have du:=bs.mut l3 mV;have dQ:=m1.get ax Z;have q1:=m1.get bi Z;simp only[bF,dw] at h;obtain⟨rfl,rfl⟩:=h;cases bz:(ar T s.at_).text==[116,114,117,101] with
 |true=>
  simp-implicitDefEqProofs(disch:=try exact af) only[k9,y4,k_,la,lb,ld,kW,ky,kX,kz,kY,kA,kZ,kB,k0,kC,k1,kD,kE,k2,kF,k3,kG,kH,kd,ke,kf,kg,kh,k4,k5,k6,k7,kM,reduceAdd,reduceLeDiff,reduceIte,aw,fM,de,ax,bi,bz];exact a_.2 (hn.box (a:={kind:=2,n:=1,pos:=(ar T s.at_).pos}) (kv:= .ap) (lo:=H0.next+1) bs l3 mV (bN _) (Nat.lt_succ_self _) (dP.nil _ _) _)
 |false=>
  simp-implicitDefEqProofs(disch:=try exact af) only[k9,y4,k_,la,lb,ld,kW,ky,kX,kz,kY,kA,kZ,kB,k0,kC,k1,kD,kE,k2,kF,k3,kG,kH,kd,ke,kf,kg,kh,k4,k5,k6,k7,kM,reduceAdd,reduceLeDiff,reduceIte,aw,fM,de,ax,bi,bz];exact a_.2 (hn.box (a:={kind:=2,n:=0,pos:=(ar T s.at_).pos}) (kv:= .ap) (lo:=H0.next+1) bs l3 mV (bN _) (Nat.lt_succ_self _) (dP.nil _ _) _)
theorem abp{H0 H:J}{r:Nat}{T:List Tok}{ak:I}{s:aA}(bs:c_ H0 r T ak s)(en:aR H0 H)(ax:H.get H0.next=some (.row false 11 [[.int .i64 0,.int .i64 0,.str [],.str [],.int .i64 0,.ap,.int .i64 0,.int .i64 0,.int .i64 0,.int .i64 0,.int .i64 0]])){b:Nat}(ln:H0.next<b)(bi:H.get b=some (.row false 4 [[.int .i64 (ar T s.at_).kind,.str (ar T s.at_).text,.int .i64 (ar T s.at_).n,.int .i64 (ar T s.at_).pos]])){cN:bp}{s':aA}(h:some (bp.mk {kind:=3,eV:=(fm T (aF s)).1.1,fT:=(fm T (aF s)).1.2,pos:=(ar T s.at_).pos} [],(fm T (aF s)).2)=some (cN,s')):
  W (la (aq P ao) (.ptr r 0 0) H (.ptr b 0 0) (.ptr H0.next 0 0)) (hn H0 r T ak cN s'):=by
 have az:=bs.rd.lt;have de:=bs.cf.one;have ag:=bs.aK en;have hle:=en.1;have wi:=J.aX bi;have iw:=J.aX ax;have cI:=ag.rd;have fM:=cI;unfold c7 at fM;have ib:=cI.lt;obtain⟨m1,mV⟩:=h5 cI (aF s);have l3:=(en.mut (· =r)).trans m1;have du:=bs.mut l3 mV;have dQ:=m1.get ax Z;have q1:=m1.get bi Z;simp only[bF,dw] at h;obtain⟨rfl,rfl⟩:=h;simp-implicitDefEqProofs(disch:=try exact af) only[k9,k_,la,lb,ld,kW,ky,kX,kz,kY,kA,kZ,kB,k0,kC,k1,kD,kE,k2,kF,k3,kG,kH,kd,ke,kf,kg,kh,k4,k5,k6,k7,kM,reduceAdd,reduceLeDiff,reduceIte,aw,fM,de];refine a6 (DN du) ?_;rintro _ bm ⟨rfl,m2,cJ⟩;refine⟨m2.1,?_⟩;have ck:=m2.get dQ Z
 have kQ:=m2.get q1 Z;have vO:=J.aX ck;have Md:=J.aX kQ;simp-implicitDefEqProofs(disch:=try exact af) only[k9,k_,la,lb,ld,kW,ky,kX,kz,kY,kA,kZ,kB,k0,kC,k1,kD,kE,k2,kF,k3,kG,kH,kd,ke,kf,kg,kh,k4,k5,k6,k7,kM,reduceAdd,reduceLeDiff,reduceIte,aw,ck,kQ,bi];exact a_.2 (hn.box (a:={kind:=3,eV:=(fm T (aF s)).1.1,fT:=(fm T (aF s)).1.2,pos:=(ar T s.at_).pos}) (kv:= .ap) (lo:=H0.next+1) bs (l3.trans m2) cJ.rd (bN _) (Nat.lt_succ_self _) (dP.nil _ _) _)
theorem ac0{n:Nat}(aT:DI n){H0 H:J}{r:Nat}{T:List Tok}{ak:I}{s:aA}(bs:c_ H0 r T ak s)(en:aR H0 H)(ax:H.get H0.next=some (.row false 11 [[.int .i64 0,.int .i64 0,.str [],.str [],.int .i64 0,.ap,.int .i64 0,.int .i64 0,.int .i64 0,.int .i64 0,.int .i64 0]])){b:Nat}(ln:H0.next<b)(bi:H.get b=some (.row false 4 [[.int .i64 (ar T s.at_).kind,.str (ar T s.at_).text,.int .i64 (ar T s.at_).n,.int .i64 (ar T s.at_).pos]])){cN:bp}{s':aA}(h:tN T n (ar T s.at_).pos (aF s)=some (cN,s')):
  W (lb (aq P ao) (.ptr r 0 0) H (.ptr b 0 0) (.ptr H0.next 0 0)) (hn H0 r T ak cN s'):=by
 have az:=bs.rd.lt;have de:=bs.cf.one;have ag:=bs.aK en;have hle:=en.1;have wi:=J.aX bi;have iw:=J.aX ax;have cI:=ag.rd;have fM:=cI;unfold c7 at fM;have ib:=cI.lt;obtain⟨m1,mV⟩:=h5 cI (aF s);have l3:=(en.mut (· =r)).trans m1;have du:=bs.mut l3 mV;have dQ:=m1.get ax Z;have q1:=m1.get bi Z;simp-implicitDefEqProofs(disch:=try exact af) only[k9,k_,la,lb,ld,kW,ky,kX,kz,kY,kA,kZ,kB,k0,kC,k1,kD,kE,k2,kF,k3,kG,kH,kd,ke,kf,kg,kh,k4,k5,k6,k7,kM,reduceAdd,reduceLeDiff,reduceIte,aw,fM,de,bi];refine a6 (aT du _ cN s' h) ?_;rintro v bm ⟨m2,cJ,fR⟩;refine⟨m2.1,?_⟩;have ck:=m2.get dQ Z;have vO:=J.aX ck;have sc:=m1.1
 obtain⟨cs,rfl,hlen,dN⟩:=fR.cells;have bz:List.take 11 cs=cs:=List.take_of_length_le Z;simp-implicitDefEqProofs(disch:=try exact af) only[k9,k_,la,lb,ld,kW,ky,kX,kz,kY,kA,kZ,kB,k0,kC,k1,kD,kE,k2,kF,k3,kG,kH,kd,ke,kf,kg,kh,k4,k5,k6,k7,kM,reduceAdd,reduceLeDiff,reduceIte,aw,ck,hlen,dN,List.append_nil,bz];exact a_.2 (hn.ret bs (l3.trans m2) cJ.rd (bN _) fR Z _)
theorem first_par{n:Nat}(aT:yR n){H0 H:J}{r:Nat}{T:List Tok}{ak:I}{s:aA}(bs:c_ H0 r T ak s)(en:aR H0 H)(ax:H.get H0.next=some (.row false 11 [[.int .i64 0,.int .i64 0,.str [],.str [],.int .i64 0,.ap,.int .i64 0,.int .i64 0,.int .i64 0,.int .i64 0,.int .i64 0]])){b:Nat}(ln:H0.next<b)(bi:H.get b=some (.row false 4 [[.int .i64 (ar T s.at_).kind,.str (ar T s.at_).text,.int .i64 (ar T s.at_).n,.int .i64 (ar T s.at_).pos]])){cN:bp}{s':aA}(h:ns T n s=some (cN,s')):
  W (ky (aq P ao) H (.ptr r 0 0) (.ptr H0.next 0 0)) (hn H0 r T ak cN s'):=by
 have az:=bs.rd.lt;have de:=bs.cf.one;have ag:=bs.aK en;have hle:=en.1;have wi:=J.aX bi;have iw:=J.aX ax;have l3:=en.mut (· =r);have m1:=dC.refl (· =r) H;have dQ:=ax;rw[ky];refine a6 (aT ag cN s' h) ?_;rintro v bm ⟨m2,cJ,fR⟩;refine⟨m2.1,?_⟩;have ck:=m2.get dQ Z;have vO:=J.aX ck;have sc:=m1.1;obtain⟨cs,rfl,hlen,dN⟩:=fR.cells;have bz:List.take 11 cs=cs:=List.take_of_length_le Z;simp-implicitDefEqProofs(disch:=try exact af) only[k9,k_,la,lb,ld,kW,ky,kX,kz,kY,kA,kZ,kB,k0,kC,k1,kD,kE,k2,kF,k3,kG,kH,kd,ke,kf,kg,kh,k4,k5,k6,k7,kM,reduceAdd,reduceLeDiff,reduceIte,aw,ck,hlen,dN,List.append_nil,bz];exact a_.2 (hn.ret bs (l3.trans m2) cJ.rd (bN _) fR Z _)
theorem abq{H0 H:J}{r:Nat}{T:List Tok}{ak:I}{s:aA}(bs:c_ H0 r T ak s)(en:aR H0 H)(ax:H.get H0.next=some (.row false 11 [[.int .i64 0,.int .i64 0,.str [],.str [],.int .i64 0,.ap,.int .i64 0,.int .i64 0,.int .i64 0,.int .i64 0,.int .i64 0]])){b:Nat}(ln:H0.next<b)(bi:H.get b=some (.row false 4 [[.int .i64 (ar T s.at_).kind,.str (ar T s.at_).text,.int .i64 (ar T s.at_).n,.int .i64 (ar T s.at_).pos]])){cN:bp}{s':aA}(h:some (bp.mk {kind:=11,pos:=(ar T s.at_).pos} [],gp T [41] (eT T [40] (aF s)))=some (cN,s')):
  W (kW (aq P ao) (.ptr r 0 0) H (.ptr b 0 0) (.ptr H0.next 0 0)) (hn H0 r T ak cN s'):=by
 have az:=bs.rd.lt;have de:=bs.cf.one;have ag:=bs.aK en;have hle:=en.1;have wi:=J.aX bi;have iw:=J.aX ax;have cI:=ag.rd;have fM:=cI;unfold c7 at fM;have ib:=cI.lt;obtain⟨m1,mV⟩:=h5 cI (aF s);have l3:=(en.mut (· =r)).trans m1;have du:=bs.mut l3 mV;have dQ:=m1.get ax Z;have q1:=m1.get bi Z;simp only[bF,dw] at h;obtain⟨rfl,rfl⟩:=h;simp-implicitDefEqProofs(disch:=try exact af) only[k9,k_,la,lb,ld,kW,ky,kX,kz,kY,kA,kZ,kB,k0,kC,k1,kD,kE,k2,kF,k3,kG,kH,kd,ke,kf,kg,kh,k4,k5,k6,k7,kM,reduceAdd,reduceLeDiff,reduceIte,aw,fM,de];refine a6 (Bo du [40] (by simp)) ?_;rintro _ bm ⟨rfl,m2,cJ⟩;refine⟨m2.1,?_⟩;simp-implicitDefEqProofs(disch:=try exact af) only[k9,k_,la,lb,ld,kW,ky,kX,kz,kY,kA,kZ,kB,k0,kC,k1,kD,kE,k2,kF,k3,kG,kH,kd,ke,kf,kg,kh,k4,k5,k6,k7,kM,reduceAdd,reduceLeDiff,reduceIte,aw]
 refine a6 (Bg cJ [41] (by simp)) ?_;rintro _ cT ⟨rfl,m3,e2⟩;refine⟨m3.1,?_⟩;have ck:=m3.get (m2.get dQ Z) Z;have kQ:=m3.get (m2.get q1 Z) Z;have vO:=J.aX ck;have Md:=J.aX kQ;simp-implicitDefEqProofs(disch:=try exact af) only[k9,k_,la,lb,ld,kW,ky,kX,kz,kY,kA,kZ,kB,k0,kC,k1,kD,kE,k2,kF,k3,kG,kH,kd,ke,kf,kg,kh,k4,k5,k6,k7,kM,reduceAdd,reduceLeDiff,reduceIte,aw,ck,kQ];exact a_.2 (hn.box (a:={kind:=11,pos:=(ar T s.at_).pos}) (kv:= .ap) (lo:=H0.next+1) bs ((l3.trans m2).trans m3) e2.rd (bN _) (Nat.lt_succ_self _) (dP.nil _ _) _)
theorem acZ{n:Nat}(aT:yR n){H0 H:J}{r:Nat}{T:List Tok}{ak:I}{s:aA}(bs:c_ H0 r T ak s)(en:aR H0 H)(ax:H.get H0.next=some (.row false 11 [[.int .i64 0,.int .i64 0,.str [],.str [],.int .i64 0,.ap,.int .i64 0,.int .i64 0,.int .i64 0,.int .i64 0,.int .i64 0]])){b:Nat}(ln:H0.next<b)(bi:H.get b=some (.row false 4 [[.int .i64 (ar T s.at_).kind,.str (ar T s.at_).text,.int .i64 (ar T s.at_).n,.int .i64 (ar T s.at_).pos]])){cN:bp}{s':aA}(h:((ns T n (aF s)).bind λp=>some (bp.mk {kind:=10,pos:=(ar T s.at_).pos} [p.1],p.2))=some (cN,s')):
  W (ld (aq P ao) (.ptr r 0 0) H (.ptr b 0 0) (.ptr H0.next 0 0)) (hn H0 r T ak cN s'):=by
 have az:=bs.rd.lt;have de:=bs.cf.one;have ag:=bs.aK en;have hle:=en.1;have wi:=J.aX bi;have iw:=J.aX ax;have cI:=ag.rd;have fM:=cI;unfold c7 at fM;have ib:=cI.lt;obtain⟨m1,mV⟩:=h5 cI (aF s);have l3:=(en.mut (· =r)).trans m1;have du:=bs.mut l3 mV;have dQ:=m1.get ax Z;have q1:=m1.get bi Z;simp only[eW] at h;obtain⟨⟨aI,s1⟩,U,aa⟩:=h;simp only[bF,dw] at aa;obtain⟨rfl,rfl⟩:=aa;simp-implicitDefEqProofs(disch:=try exact af) only[k9,k_,la,lb,ld,kW,ky,kX,kz,kY,kA,kZ,kB,k0,kC,k1,kD,kE,k2,kF,k3,kG,kH,kd,ke,kf,kg,kh,k4,k5,k6,k7,kM,reduceAdd,reduceLeDiff,reduceIte,aw,fM,de];refine a6 (aT du aI s1 U) ?_;rintro v bm ⟨m2,cJ,fR⟩
 refine⟨m2.1,?_⟩;have ck:=m2.get dQ Z;have kQ:=m2.get q1 Z;have vO:=J.aX ck;have Md:=J.aX kQ;have sc:=m1.1;have hy:=m2.1;obtain⟨cs,rfl,hlen,dN⟩:=fR.cells;have bz:List.take 11 cs=cs:=List.take_of_length_le Z;have aM: ∀l,dK P l 96 1 [(0,.agg cs)]=some (.aN l 0 1 11 (some 1),.row false 11 [cs]):=λl=>jP l cs hlen dN
 have bP:=l3.trans m2;have mZ:=cJ.rd;unfold c7 at mZ;have cI:=mZ;simp-implicitDefEqProofs(disch:=try exact af) only[k9,k_,la,lb,ld,kW,ky,kX,kz,kY,kA,kZ,kB,k0,kC,k1,kD,kE,k2,kF,k3,kG,kH,kd,ke,kf,kg,kh,k4,k5,k6,k7,kM,reduceAdd,reduceLeDiff,reduceIte,aw,aM,ck,kQ,bi];refine a_.2 ?_;refine ug.fin (ok:=bI H0.next) (a:={kind:=10,pos:=(ar T s.at_).pos}) (kv:= .aN bm.next 0 1 11 (some 1)) (s':=s1) bs ?_ ?_ (dP.qF (ro:=false) ?_ (by unfold bI;omega) (fR.new ?_ λl h=>by unfold bI;omega))
 ·(repeat (first|exact bP|refine dC.bX ?_ _|refine dC.db (S:=(· =r)) ?_ (.inl rfl) _|refine dC.db ?_ (.inr (by(first|omega|(simp only[J.b2,J.e9];omega)))) _))
 ·(unfold c7;simp-implicitDefEqProofs(disch:=try exact af) only[dB,cI,aF,ga,iK])
 ·simp-implicitDefEqProofs(disch:=try exact af) only[dB]
 ·exact dC.db (S:=λl=>l<_) ((dC.refl _ _).bX _) (.inl Z) _
theorem abr{n:Nat}(wn:DI n)(Ik:yR n)(Nr:DY n){H0 H:J}{r:Nat}{T:List Tok}{ak:I}{s:aA}(bs:c_ H0 r T ak s)(en:aR H0 H)(ax:H.get H0.next=some (.row false 11 [[.int .i64 0,.int .i64 0,.str [],.str [],.int .i64 0,.ap,.int .i64 0,.int .i64 0,.int .i64 0,.int .i64 0,.int .i64 0]])){b:Nat}(ln:H0.next<b)(bi:H.get b=some (.row false 4 [[.int .i64 (ar T s.at_).kind,.str (ar T s.at_).text,.int .i64 (ar T s.at_).n,.int .i64 (ar T s.at_).pos]])){cN:bp}{s':aA}(h:(bif cd T s [110,117,108,108] then some (.mk {kind:=3,eV:=(fm T (aF s)).1.1,fT:=(fm T (aF s)).1.2,pos:=(ar T s.at_).pos} [],(fm T (aF s)).2) else(bif cd T s [110,101,119] then tN T n (ar T s.at_).pos (aF s) else(bif cd T s [108,101,110] then(ns T n (aF s)).bind λp=>some (.mk {kind:=10,pos:=(ar T s.at_).pos} [p.1],p.2) else(bif cd T s [114,101,97,100] then some (.mk {kind:=11,pos:=(ar T s.at_).pos} [],gp T [41] (eT T [40] (aF s))) else(bif cd T s [40] then ns T n s else(bif cd T (dk T s).2 [40] then(pP T n (dk T s).2).bind λp=>some (.mk {kind:=7,name:=(dk T s).1,pos:=(ar T s.at_).pos} p.1,p.2) else some (.mk {kind:=4,name:=(dk T s).1,pos:=(ar T s.at_).pos} [],(dk T s).2)))))))=some (cN,s')):
  W (kE (aq P ao) H (.ptr r 0 0) (.ptr b 0 0) (.ptr H0.next 0 0)) (hn H0 r T ak cN s'):=by
 have ag:=bs.aK en;rw[kE];refine a6 (gO (bs.rd.aK en) (bs.cf.aK en) [110,117,108,108] (by simp)) ?_;rintro _ aq5 ⟨rfl,A_⟩;refine⟨A_.1,?_⟩;have aV:=en.trans A_;have dQ:=A_.get ax;have q1:=A_.get bi;cases aY:cd T s [110,117,108,108] with
 |true=>
  simp only[aY,bC] at h;simp-implicitDefEqProofs(disch:=try exact af) only[kD,iE,bC];exact abp bs aV dQ ln q1 h
 |false=>
  simp only[aY,bj] at h;simp-implicitDefEqProofs(disch:=try exact af) only[kD,iE,bj];rw[k1];refine a6 (gO (bs.rd.aK aV) (bs.cf.aK aV) [110,101,119] (by simp)) ?_;rintro _ aq6 ⟨rfl,cD⟩;refine⟨cD.1,?_⟩;have aJ:=aV.trans cD;have ck:=cD.get dQ;have kQ:=cD.get q1;cases U:cd T s [110,101,119] with
  |true=>
   simp only[U,bC] at h;simp-implicitDefEqProofs(disch:=try exact af) only[kC,iE,bC];exact ac0 wn bs aJ ck ln kQ h
  |false=>
   simp only[U,bj] at h;simp-implicitDefEqProofs(disch:=try exact af) only[kC,iE,bj];rw[k0];refine a6 (gO (bs.rd.aK aJ) (bs.cf.aK aJ) [108,101,110] (by simp)) ?_;rintro _ aq7 ⟨rfl,cu⟩;refine⟨cu.1,?_⟩;have bB:=aJ.trans cu;have eO:=cu.get ck;have ta:=cu.get kQ;cases aa:cd T s [108,101,110] with
   |true=>
    simp only[aa,bC] at h;simp-implicitDefEqProofs(disch:=try exact af) only[kB,iE,bC];exact acZ Ik bs bB eO ln ta h
   |false=>
    simp only[aa,bj] at h;simp-implicitDefEqProofs(disch:=try exact af) only[kB,iE,bj];rw[kZ];refine a6 (gO (bs.rd.aK bB) (bs.cf.aK bB) [114,101,97,100] (by simp)) ?_;rintro _ aq8 ⟨rfl,eH⟩;refine⟨eH.1,?_⟩;have bK:=bB.trans eH;have fV:=eH.get eO;have se:=eH.get ta;cases ae:cd T s [114,101,97,100] with
    |true=>
     simp only[ae,bC] at h;simp-implicitDefEqProofs(disch:=try exact af) only[kA,iE,bC];exact abq bs bK fV ln se h
    |false=>
     simp only[ae,bj] at h;simp-implicitDefEqProofs(disch:=try exact af) only[kA,iE,bj];rw[kY];refine a6 (gO (bs.rd.aK bK) (bs.cf.aK bK) [40] (by simp)) ?_;rintro _ aq9 ⟨rfl,eE⟩;refine⟨eE.1,?_⟩;have c8:=bK.trans eE;have gz:=eE.get fV;have oD:=eE.get se;cases am:cd T s [40] with
     |true=>
      simp only[am,bC] at h;simp-implicitDefEqProofs(disch:=try exact af) only[kz,iE,bC];exact first_par Ik bs c8 gz ln oD h
     |false=>
      simp only[am,bj] at h;simp-implicitDefEqProofs(disch:=try exact af) only[kz,iE,bj];rw[kX];exact aaE Nr bs c8 gz ln oD h
theorem aaF{n:Nat}(wn:DI n)(Ik:yR n)(Nr:DY n):Kp (n+1):=by
 intro H r T ak s ag e s' h;refine cP (λ_=>aie 0) ?_;have az:=ag.rd.lt;simp only[oP] at h;have aV:=aR.push H (.row false 11 [[.int .i64 0,.int .i64 0,.str [],.str [],.int .i64 0,.ap,.int .i64 0,.int .i64 0,.int .i64 0,.int .i64 0,.int .i64 0]]);simp-implicitDefEqProofs(disch:=try exact af) only[kM,k7,reduceAdd,reduceLeDiff,reduceIte,aw];refine a6 (nV (ag.rd.aK aV) (ag.cf.aK aV)) ?_;rintro _ bm ⟨rfl,aJ⟩;refine⟨aJ.1,?_⟩;have ck:=aJ.get (J.ca H _);have l1:=J.aX ck;simp-implicitDefEqProofs(disch:=try exact af) only[k6,k5,reduceAdd,reduceLeDiff,reduceIte,aw,Tok.v];have bB:=aJ.bX (.row false 4 [[.int .i64 (ar T s.at_).kind,.str (ar T s.at_).text,.int .i64 (ar T s.at_).n,.int .i64 (ar T s.at_).pos]])
 have ta:=J.ca bm (.row false 4 [[.int .i64 (ar T s.at_).kind,.str (ar T s.at_).text,.int .i64 (ar T s.at_).n,.int .i64 (ar T s.at_).pos]]);have eO:=bB.get (J.ca H _);have wq:=aV.trans bB;rw[k4];refine a6 (tB (ag.rd.aK wq)) ?_;rintro _ ct ⟨rfl,rfl⟩;refine⟨bN _,?_⟩;have rest:(s.aC==0&&(ar T s.at_).kind==2)=false->W (kH (aq P ao) (bm.push (.row false 4 [[.int .i64 (ar T s.at_).kind,.str (ar T s.at_).text,.int .i64 (ar T s.at_).n,.int .i64 (ar T s.at_).pos]])) (.ptr r 0 0) (.ptr H.next 0 0) (.ptr bm.next 0 0)) (hn H r T ak e s'):=by
  intro aU;simp only[aU,bj] at h;rw[kH];refine a6 (gO (ag.rd.aK wq) (ag.cf.aK wq) [116,114,117,101] (by simp)) ?_;rintro _ dp ⟨rfl,c8⟩;refine⟨c8.1,?_⟩;have wr:=wq.trans c8;have gz:=c8.get eO;have oD:=c8.get ta;cases U:cd T s [116,114,117,101] with
  |true=>
   simp only[U,Bool.true_or,bC] at h;simp-implicitDefEqProofs(disch:=try exact af) only[kG,k2,w7,iE,bC];exact PS ag wr gz Z oD h
  |false=>
   simp only[U,Bool.false_or] at h;simp-implicitDefEqProofs(disch:=try exact af) only[kG,k3,iE,bj];refine a6 (gO (ag.rd.aK wr) (ag.cf.aK wr) [102,97,108,115,101] (by simp)) ?_;rintro _ fW ⟨rfl,fc⟩;refine⟨fc.1,?_⟩;have YY:=wr.trans fc;have p_:=fc.get gz;have tb:=fc.get oD;cases aa:cd T s [102,97,108,115,101] with
   |true=>
    simp only[aa,bC] at h;simp-implicitDefEqProofs(disch:=try exact af) only[kF,w7,iE,bC];exact PS ag YY p_ Z tb h
   |false=>
    simp only[aa,bj] at h;simp-implicitDefEqProofs(disch:=try exact af) only[kF,w7,iE,bj];exact abr wn Ik Nr ag YY p_ Z tb h
 cases j7:s.aC==0 with
 |false=>
  simp-implicitDefEqProofs(disch:=try exact af) only[kh,kg,kf,ke,kd,reduceAdd,reduceLeDiff,reduceIte,aw];exact rest (by simp[j7])
 |true=>
  cases ah:(ar T s.at_).kind==2 with
  |true=>
   simp only[j7,ah,Bool.and_self,bC] at h;simp-implicitDefEqProofs(disch:=try exact af) only[kh,kg,kf,ke,kd,reduceAdd,reduceLeDiff,reduceIte,aw,ah];exact ac1 ag wq eO Z ta h
  |false=>
   simp-implicitDefEqProofs(disch:=try exact af) only[kh,kg,kf,ke,kd,reduceAdd,reduceLeDiff,reduceIte,aw,ah];exact rest (by simp[j7,ah])
theorem Sk: ∀n,n<=900000000-> ∀k,k<=n->ahi k
 |0,_,k,ah=>by
  have:k=0:=Z;subst this;exact⟨λ_ _ _ _ _ h=>by simp[jF] at h,λ_ _ _ h=>by simp[ue] at h,λ_ _ _ _ _ _ h=>by simp[lC] at h,λ_ _ _ h=>by simp[ns] at h,λ_ _ _ h=>by simp[oP] at h,
   λ_ _ _ _ h=>by simp[tN] at h,λ_ _ _ h=>by simp[pP] at h⟩
 |n+1,aU,k,ah=>by
  have aT:=Sk n Z;have i:=aT n (bN _);rcases Nat.lt_or_ge k (n+1) with h|h
  ·exact aT k Z
  ·have:k=n+1:=Z;subst this;exact⟨acX (λk ah=>(aT k ah).expr) i.unary,aa8 (λk ah=>(aT k ah).expr) i.first i.behind,aaA λk ah=>(aT k ah).expr,abw i.expr,aaF i.fresh i.inner i.args,aaH i.inner,acR Z λk ah=>(aT k ah).expr⟩
end
section
set_option maxRecDepth 100000
noncomputable section
def tk(G:av)(Y ai:I)(H:J):O:=
 dv H (eK (H).next Y) λan U=>
 dv U (eK (U).next ai) λay aa=>
 ab (aE P 103 an 0) λbb=>
 ab (aj P aa 3 bb) λbu=>
 ab (aE P 103 ay 0) λbx=>
 ab (aj P aa 3 bx) λbS=>
 ab (aW P .eql 3 false bu bS) λbE=>
 aD bE true aa (bh (aE P 103 an 1)) λb1 ae=>
 aD bE true ae (qr (aj P ae 3 b1)) λcb am=>
 aD bE true am (bh (aE P 103 ay 1)) λb6 aB=>
 aD bE true aB (qr (aj P aB 3 b6)) λbT aG=>
 aD bE true aG (bh (aW P .eql 3 false cb bT)) λbW aP=>
 ab (cX bE (some bW) (some (.bool false))) λbG=>
 aD bG true aP (bh (aE P 103 an 2)) λcK bq=>
 aD bG true bq (qr (aj P bq 9 cK)) λcM bJ=>
 aD bG true bJ (bh (aE P 103 ay 2)) λcA co=>
 aD bG true co (qr (aj P co 9 cA)) λcx ds=>
 aD bG true ds (bh (aW P .eql 9 false cM cx)) λcz dV=>
 ab (cX bG (some cz) (some (.bool false))) λcH=>
 aD cH true dV (bh (aE P 103 an 3)) λdn eN=>
 aD cH true eN (qr (aj P eN 43 dn)) λdt fI=>
 aD cH true fI (bh (aE P 103 ay 3)) λdc f0=>
 aD cH true f0 (qr (aj P f0 43 dc)) λdT hk=>
 aD cH true hk (bh (aW P .eql 43 false dt dT)) λdJ iv=>
 ab (cX cH (some dJ) (some (.bool false))) λcF=>
 aD cF true iv (bh (aE P 103 an 6)) λdy hZ=>
 aD cF true hZ (qr (aj P hZ 101 dy)) λei mv=>
 aD cF true mv (bh (aE P 103 ay 6)) λfh jq=>
 aD cF true jq (qr (aj P jq 101 fh)) λej ja=>
 aD cF true ja (bh (aW P .eql 101 false ei ej)) λdW oB=>
 ab (cX cF (some dW) (some (.bool false))) λef=>
 aD ef true oB (bh (aE P 103 an 7)) λfv jI=>
 aD ef true jI (qr (aj P jI 3 fv)) λfi o8=>
 aD ef true o8 (bh (aE P 103 ay 7)) λfU lX=>
 aD ef true lX (qr (aj P lX 3 fU)) λgb mT=>
 aD ef true mT (bh (aW P .eql 3 false fi gb)) λgM p7=>
 ab (cX ef (some gM) (some (.bool false))) λe4=>
 aD e4 true p7 (bh (aE P 103 an 4)) λgB lY=>
 aD e4 true lY (qr (aj P lY 96 gB)) λhB v_=>
 aD e4 true v_ (bh (aE P 103 ay 4)) λjy p8=>
 aD e4 true p8 (qr (aj P p8 96 jy)) λh6 mU=>
 aD e4 true mU (λq=>fk mU (G 91 [hB,h6,(.func (.func 92) [] [])] mU) q) λix s4=>
 ab (cX e4 (some ix) (some (.bool false))) λhQ=>
 some (hQ,s4)
theorem ajP(G:av)(N:Nat)(Y:I)(ai:I)(H:J):bn Tryz.f92 G N (cB [Y,ai]) H=tk G Y ai H:=by
 refine cL (A:=bn Tryz.f92 G N) (aL _) ?_;delta tk;kernel_rfl
theorem alT(N:Nat){Y ai:I}{H:J}{r:I×J}(h:tk (aq P ao) Y ai H=some r):aq P ao 92 [Y,ai] H=some r:=
 cQ ad Tryz.func92 ad ad ad ((ajP (aq P ao) N Y ai H).trans h)
def rK(G:av)(N:Nat)(H:J):O:=
 some ((.bool true),H)
theorem aeA(G:av)(N:Nat): ∀R H,cw P G N (Code.snd (Code.snd (Code.snd (c6 Tryz.f91)))) (bY Tryz.f91) [] (bY Tryz.f91) R H=rK G N H:=by
 refine dj (aL _) λR H=> ?_
 delta rK;kernel_rfl
def vD(G:av)(N:Nat)(bD:I->I->I->I->I->J->O)(ai an:I)(bW bG cc:I)(H:J):O:=
 ab (aW P .lss 3 false cc bG) λcK=>
 bO (some cK) (ab (dS P 96 bW cc) λcA=>
 ab (aj P H 103 cA) λcx=>
 cy H [(.int .i64 0),(.int .i64 0),(.str []),(.str []),(.int .i64 0),I.ap,(.int .i64 0),(.int .i64 0),(.int .i64 0),(.int .i64 0),(.int .i64 0)] λbS U=>
 a7 U (aQ P U 103 bS cx) λaa=>
 ab (dS P 96 ai cc) λc1=>
 ab (aj P aa 103 c1) λdn=>
 cy aa [(.int .i64 0),(.int .i64 0),(.str []),(.str []),(.int .i64 0),I.ap,(.int .i64 0),(.int .i64 0),(.int .i64 0),(.int .i64 0),(.int .i64 0)] λbE ae=>
 a7 ae (aQ P ae 103 bE dn) λam=>
 ab (aj P am 103 bS) λdc=>
 ab (aj P am 103 bE) λdT=>
 qJ G am an [dc,dT] λdJ aB=>
 ab (eY .not dJ) λcF=>
 bO (some cF) (some ((.bool false),aB)) (ab (aW P .add 3 true cc (.int .i64 1)) λeC=>
 bD ai an bW bG eC aB)) (rK G N H)
def vE(G:av)(N:Nat):Nat->I->I->I->I->I->J->O
 |0,_,_,_,_,_,_=>none
 |n+1,ai,an,bW,bG,cc,H=>vD G N (vE G N n) ai an bW bG cc H
theorem aez(G:av)(N:Nat)(bD:I->I->I->I->I->J->O): ∀R H,cw P G N (Code.fst (Code.fst (Code.snd (Code.fst (Code.snd (Code.snd (c6 Tryz.f91))))))) (λR H=>bD (R 1) (R 2) (R 15) (R 16) (R 17) H) [(0,(λR H=>rK G N H))] (bY Tryz.f91) R H=vD G N bD (R 1) (R 2) (R 15) (R 16) (R 17) H:=by
 refine dj (aL _) λR H=> ?_
 delta vD;generalize rK G N=a1;revert a1;refine id ?_;intro a1;kernel_rfl
def uP(G:av)(N:Nat)(Y ai an:I)(H:J):O:=
 bg P .len [96] [Y] H λb1=>
 bg P .len [96] [ai] H λb6=>
 ab (aW P .neq 3 false b1 b6) λbT=>
 bO (some bT) (some ((.bool false),H)) (bg P .len [96] [Y] H λbG=>
 vE G N N ai an Y bG (.int .i64 0) H)
theorem ajO(G:av)(N:Nat)(Y:I)(ai:I)(an:I)(H:J):bn Tryz.f91 G N (cB [Y,ai,an]) H=uP G N Y ai an H:=by
 refine cL (A:=bn Tryz.f91 G N) ((bk ad ((bk ad ((bk ad (aeA G N) ((bk ad ((fy ad ((gg (k:=λm R H=>vE G N m (R 1) (R 2) (R 15) (R 16) (R 17) H) ad (λR H=>ad) (λm=>aez G N (vE G N m)))))) (aL _))))) (aL _))) (aL _))) ?_;delta uP;generalize vE G N N=a1;revert a1;refine id ?_;intro a1;kernel_rfl
theorem alS(N:Nat){Y ai an:I}{H:J}{r:I×J}(h:uP (aq P ao) N Y ai an H=some r):aq P ao 91 [Y,ai,an] H=some r:=
 cQ ad Tryz.func91 ad ad ad ((ajO (aq P ao) N Y ai an H).trans h)
end
end
section
set_option maxRecDepth 100000
noncomputable section
def sW(G:av)(Y ai:I)(H:J):O:=
 dv H (eK (H).next Y) λan U=>
 dv U (eK (U).next ai) λay aa=>
 ab (aE P 103 an 0) λbb=>
 ab (aj P aa 3 bb) λbu=>
 ab (aE P 103 ay 0) λbx=>
 ab (aj P aa 3 bx) λbS=>
 ab (aW P .eql 3 false bu bS) λbE=>
 aD bE true aa (bh (aE P 103 an 1)) λb1 ae=>
 aD bE true ae (qr (aj P ae 3 b1)) λcb am=>
 aD bE true am (bh (aE P 103 ay 1)) λb6 aB=>
 aD bE true aB (qr (aj P aB 3 b6)) λbT aG=>
 aD bE true aG (bh (aW P .eql 3 false cb bT)) λbW aP=>
 ab (cX bE (some bW) (some (.bool false))) λbG=>
 aD bG true aP (bh (aE P 103 an 2)) λcK bq=>
 aD bG true bq (qr (aj P bq 9 cK)) λcM bJ=>
 aD bG true bJ (bh (aE P 103 ay 2)) λcA co=>
 aD bG true co (qr (aj P co 9 cA)) λcx ds=>
 aD bG true ds (bh (aW P .eql 9 false cM cx)) λcz dV=>
 ab (cX bG (some cz) (some (.bool false))) λcH=>
 aD cH true dV (bh (aE P 103 an 3)) λdn eN=>
 aD cH true eN (qr (aj P eN 43 dn)) λdt fI=>
 aD cH true fI (bh (aE P 103 ay 3)) λdc f0=>
 aD cH true f0 (qr (aj P f0 43 dc)) λdT hk=>
 aD cH true hk (bh (aW P .eql 43 false dt dT)) λdJ iv=>
 ab (cX cH (some dJ) (some (.bool false))) λcF=>
 aD cF true iv (bh (aE P 103 an 6)) λdy hZ=>
 aD cF true hZ (qr (aj P hZ 101 dy)) λei mv=>
 aD cF true mv (bh (aE P 103 ay 6)) λfh jq=>
 aD cF true jq (qr (aj P jq 101 fh)) λej ja=>
 aD cF true ja (bh (aW P .eql 101 false ei ej)) λdW oB=>
 ab (cX cF (some dW) (some (.bool false))) λef=>
 aD ef true oB (bh (aE P 103 an 7)) λfv jI=>
 aD ef true jI (qr (aj P jI 3 fv)) λfi o8=>
 aD ef true o8 (bh (aE P 103 ay 7)) λfU lX=>
 aD ef true lX (qr (aj P lX 3 fU)) λgb mT=>
 aD ef true mT (bh (aW P .eql 3 false fi gb)) λgM p7=>
 ab (cX ef (some gM) (some (.bool false))) λe4=>
 aD e4 true p7 (bh (aE P 103 an 4)) λgB lY=>
 aD e4 true lY (qr (aj P lY 96 gB)) λhB v_=>
 aD e4 true v_ (bh (aE P 103 ay 4)) λjy p8=>
 aD e4 true p8 (qr (aj P p8 96 jy)) λh6 mU=>
 aD e4 true mU (λq=>fk mU (G 86 [hB,h6] mU) q) λix s4=>
 ab (cX e4 (some ix) (some (.bool false))) λhQ=>
 some (hQ,s4)
theorem agj(G:av)(N:Nat)(Y:I)(ai:I)(H:J):bn Tryz.f111 G N (cB [Y,ai]) H=sW G Y ai H:=by
 refine cL (A:=bn Tryz.f111 G N) (aL _) ?_;delta sW;kernel_rfl
theorem ahR(N:Nat){Y ai:I}{H:J}{r:I×J}(h:sW (aq P ao) Y ai H=some r):aq P ao 111 [Y,ai] H=some r:=
 cQ ad Tryz.func111 ad ad ad ((agj (aq P ao) N Y ai H).trans h)
def rJ(G:av)(N:Nat)(H:J):O:=
 some ((.bool true),H)
theorem aey(G:av)(N:Nat): ∀R H,cw P G N (Code.snd (Code.snd (Code.snd (c6 Tryz.f86)))) (bY Tryz.f86) [] (bY Tryz.f86) R H=rJ G N H:=by
 refine dj (aL _) λR H=> ?_
 delta rJ;kernel_rfl
def vB(G:av)(N:Nat)(bD:I->I->I->J->O)(Y ai bb:I)(H:J):O:=
 bg P .len [96] [Y] H λb6=>
 ab (aW P .lss 3 false bb b6) λbT=>
 bO (some bT) (ab (dS P 96 Y bb) λcM=>
 ab (aj P H 103 cM) λcA=>
 ab (dS P 96 ai bb) λcH=>
 ab (aj P H 103 cH) λc1=>
 aO H (G 111 [cA,c1] H) λdn U=>
 ab (eY .not dn) λdt=>
 bO (some dt) (some ((.bool false),U)) (ab (aW P .add 3 true bb (.int .i64 1)) λbG=>
 bD Y ai bG U)) (rJ G N H)
def vC(G:av)(N:Nat):Nat->I->I->I->J->O
 |0,_,_,_,_=>none
 |n+1,Y,ai,bb,H=>vB G N (vC G N n) Y ai bb H
theorem aex(G:av)(N:Nat)(bD:I->I->I->J->O): ∀R H,cw P G N (Code.fst (Code.fst (Code.snd (Code.fst (Code.snd (Code.snd (c6 Tryz.f86))))))) (λR H=>bD (R 0) (R 1) (R 5) H) [(0,(λR H=>rJ G N H))] (bY Tryz.f86) R H=vB G N bD (R 0) (R 1) (R 5) H:=by
 refine dj (aL _) λR H=> ?_
 delta vB;generalize rJ G N=a1;revert a1;refine id ?_;intro a1;kernel_rfl
def uO(G:av)(N:Nat)(Y ai:I)(H:J):O:=
 bg P .len [96] [Y] H λbx=>
 bg P .len [96] [ai] H λbE=>
 ab (aW P .neq 3 false bx bE) λcq=>
 bO (some cq) (some ((.bool false),H)) (vC G N N Y ai (.int .i64 0) H)
theorem ajN(G:av)(N:Nat)(Y:I)(ai:I)(H:J):bn Tryz.f86 G N (cB [Y,ai]) H=uO G N Y ai H:=by
 refine cL (A:=bn Tryz.f86 G N) ((bk ad ((bk ad ((bk ad (aey G N) ((bk ad ((fy ad ((gg (k:=λm R H=>vC G N m (R 0) (R 1) (R 5) H) ad (λR H=>ad) (λm=>aex G N (vC G N m)))))) (aL _))))) (aL _))) (aL _))) ?_;delta uO;generalize vC G N N=a1;revert a1;refine id ?_;intro a1;kernel_rfl
theorem alR(N:Nat){Y ai:I}{H:J}{r:I×J}(h:uO (aq P ao) N Y ai H=some r):aq P ao 86 [Y,ai] H=some r:=
 cQ ad Tryz.func86 ad ad ad ((ajN (aq P ao) N Y ai H).trans h)
end
end
end Go.Proofs.YtghmbpmaafnodaaGreatDoor
