/-
  Texts of one proof, laid together: Y4 Y5 Y6 Y7 Y8 ShBa ShCa.
-/
import Derived.Test.YtghmbpmaafnodaaGreatDoorMI
import Derived.Test.YtghmbpmaafnodaaGreatDoorMH
import Derived.Test.YtghmbpmaafnodaaGreatDoorMD
set_option linter.unusedVariables false
set_option linter.unusedSimpArgs false
namespace Go.Proofs.YtghmbpmaafnodaaGreatDoor
open Go.f7
open Nat (reduceAdd reduceLeDiff)
section
def ui(ok:Nat->Prop)(H:J)(r:Nat)(T:List Tok)(aj:I)(e:bh)(s':aw)(v:I)(H':J):Prop:=cB r H H'/\c8 H' r T aj s'/\ec H' ok e v
abbrev g7(H:J):=ui (bG H.next) H
theorem g7.box{H hy:J}{r:Nat}{T:List Tok}{aj:I}{s s':aw}{a:fm}{bR:List bh}{kv:I}{b:Nat}{lo:Nat}(af:c8 H r T aj s)(m:cB r H hy)(bb:c1 hy r aj s')(ay:H.next<=b)(kl:b<lo)(ah:dO hy (bG lo) bR kv)(gW:dZ):
  g7 H r T aj (.mk a bR) s' (.agg (a.cells kv)) (hy.set b gW):=by
 have ax:=af.rd.lt;have fp:=m.de (.inr ay) gW;refine⟨fp,af.mut fp ?_,?_⟩
 ·unfold c1 at bb ⊢;rw[J.get_set_other Z];exact bb
 ·rw[lA];exact⟨kv,rfl,ah.bo (e_.set _ (by unfold bG;omega) λl ax=>by unfold bG at*;omega)⟩
theorem ui.fin{ok:Nat->Prop}{H dU:J}{r:Nat}{T:List Tok}{aj:I}{s s':aw}{a:fm}{bR:List bh}{kv:I}(af:c8 H r T aj s)(m:cB r H dU)(bb:c1 dU r aj s')(ah:dO dU ok bR kv):ui ok H r T aj (.mk a bR) s' (.agg (a.cells kv)) dU:=
 ⟨m,af.mut m bb,lA.2 ⟨kv,rfl,ah⟩⟩
theorem g7.ret{H bl:J}{r:Nat}{T:List Tok}{aj:I}{s s':aw}{e:bh}{v:I}{b n:Nat}(af:c8 H r T aj s)(m:cB r H bl)(bb:c1 bl r aj s')(ay:H.next<=b)(he:ec bl (bG n) e v)(aV:b<n)(gW:dZ):g7 H r T aj e s' v (bl.set b gW):=by
 have ax:=af.rd.lt;have fp:=m.de (.inr ay) gW;refine⟨fp,af.mut fp ?_,he.new (dE.de (S:=(· <n)) (dE.refl _ _) (.inl aV) _) λl h=>by unfold bG;omega⟩;unfold c1 at bb ⊢;rw[J.get_set_other Z];exact bb
def sF(n:Nat):Prop:= ∀{H:J} {r:Nat} {T:List Tok} {aj:I} {s:aw},c8 H r T aj s-> ∀(lev:Nat),lev<=5-> ∀(e:bh) (s':aw),im T n lev s=some (e,s')->W (au P ao 109 [.ptr r 0 0,.int .i64 lev] H) (g7 H r T aj e s')
def KC(n:Nat):Prop:= ∀{H:J} {r:Nat} {T:List Tok} {aj:I} {s:aw},c8 H r T aj s-> ∀(e:bh) (s':aw),pU T n s=some (e,s')->W (au P ao 127 [.ptr r 0 0] H) (g7 H r T aj e s')
def Ky(n:Nat):Prop:= ∀{ok:Nat->Prop} {H:J} {r:Nat} {T:List Tok} {aj:I} {s:aw} {e:bh} {v:I},c8 H r T aj s->ec H ok e v-> ¬ok r->(∀l,H.next<=l->ok l)-> ∀(cC:bh) (s':aw),jV T n e s=some (cC,s')->W (au P ao 145 [.ptr r 0 0,v] H) (ui ok H r T aj cC s')
def yO(n:Nat):Prop:= ∀{H:J} {r:Nat} {T:List Tok} {aj:I} {s:aw},c8 H r T aj s-> ∀(e:bh) (s':aw),ld T n s=some (e,s')->W (au P ao 157 [.ptr r 0 0] H) (g7 H r T aj e s')
def KA(n:Nat):Prop:= ∀{H:J} {r:Nat} {T:List Tok} {aj:I} {s:aw},c8 H r T aj s-> ∀(e:bh) (s':aw),l5 T n s=some (e,s')->W (au P ao 146 [.ptr r 0 0] H) (g7 H r T aj e s')
def DN(n:Nat):Prop:= ∀{H:J} {r:Nat} {T:List Tok} {aj:I} {s:aw},c8 H r T aj s-> ∀(pos:Int) (e:bh) (s':aw),pP T n pos s=some (e,s')->W (au P ao 156 [.ptr r 0 0,.int .i64 pos] H) (g7 H r T aj e s')
def D3(n:Nat):Prop:= ∀{H:J} {r:Nat} {T:List Tok} {aj:I} {s:aw},c8 H r T aj s-> ∀(l:List bh) (s':aw),mJ T n s=some (l,s')->W (au P ao 158 [.ptr r 0 0] H) λv H'=>cB r H H'/\c8 H' r T aj s'/\dO H' (bG H.next) l v
structure aif(n:Nat):Prop where
 expr:sF n
 unary:KC n
 behind:Ky n
 inner:yO n
 first:KA n
 fresh:DN n
 args:D3 n
theorem aca{n:Nat}(aT:sF n):yO (n+1):=by
 intro H r T aj s af e s' h;refine cU (λ_=>ajk 0) ?_;have ax:=af.rd.lt;have aU:=aR.push H (.row false 11 [[.int .i64 0,.int .i64 0,.str [],.str [],.int .i64 0,.an,.int .i64 0,.int .i64 0,.int .i64 0,.int .i64 0,.int .i64 0]]);simp only[ld,eT] at h;obtain⟨⟨aI,s1⟩,U,aa⟩:=h;simp only[bD,dz] at aa;obtain⟨rfl,rfl⟩:=aa;simp-implicitDefEqProofs(disch:=try exact ag) only[Ad,reduceAdd,reduceLeDiff,reduceIte,az];refine aY (Bk (af.aK aU) [40] (by simp)) ?_;rintro _ bl ⟨rfl,m2,cK⟩;refine⟨m2.1,?_⟩;have cn:=m2.get (J.ca H _) Z;have bM:=(aU.mut (· =r)).trans m2;simp-implicitDefEqProofs(disch:=try exact ag) only[Ad,reduceAdd,reduceLeDiff,reduceIte,az]
 refine aY (aT cK 0 Z aI s1 U) ?_;rintro v cQ ⟨m3,eY,ml⟩;refine⟨m3.1,?_⟩;have eK:=m3.get cn Z;have Xh:=J.aW eK;obtain⟨cs,rfl,hlen,dL⟩:=ml.cells;have bC:List.take 11 cs=cs:=List.take_of_length_le Z;simp-implicitDefEqProofs(disch:=try exact ag) only[Ad,reduceAdd,reduceLeDiff,reduceIte,az,hlen,dL,List.append_nil,bC];have bK:=aR.push cQ (.row false 11 [cs]);refine aY (Bc (eY.aK bK) [41] (by simp)) ?_;rintro _ dc ⟨rfl,m5,ff⟩;refine⟨m5.1,?_⟩;have gu:=m5.get (bK.get eK) Z;have anJ:=J.aW gu;have jD:=m5.get (J.ca cQ (.row false 11 [cs])) Z;have hj:=m2.1;simp only[J.b6] at hj;simp-implicitDefEqProofs(disch:=try exact ag) only[Ad,reduceAdd,reduceLeDiff,reduceIte,az,hlen,dL,List.append_nil,bC,gu,jD]
 refine a8.2 (g7.ret af (((bM.trans m3).trans (bK.mut _)).trans m5) ff.rd (bL _) (n:=bl.next) (ml.new ?_ λ_ h=>h) Z _);exact((aR.push _ _).mut _).trans ⟨m5.1,λl dF F4=>m5.2 l dF Z⟩
theorem abk{n:Nat}(aT:yO n):DN (n+1):=by
 intro H r T aj s af pos e s' h;refine cU (λ_=>ajj 0) ?_;have ax:=af.rd.lt;have df:=af.b9.one;have aU:=aR.push H (.row false 11 [[.int .i64 0,.int .i64 0,.str [],.str [],.int .i64 0,.an,.int .i64 0,.int .i64 0,.int .i64 0,.int .i64 0,.int .i64 0]]);simp-implicitDefEqProofs(disch:=try exact ag) only[ux,reduceAdd,reduceLeDiff,reduceIte,az];have dt:=af.aK aU;refine aY (gI dt.rd dt.b9 [91] (by simp)) ?_;rintro _ bl ⟨rfl,aJ⟩;refine⟨aJ.1,?_⟩;have cK:=dt.aK aJ;have cn:=aJ.get (J.ca H (.row false 11 [[.int .i64 0,.int .i64 0,.str [],.str [],.int .i64 0,.an,.int .i64 0,.int .i64 0,.int .i64 0,.int .i64 0,.int .i64 0]]))
 have vM:=J.aW cn;have bM:=(aU.trans aJ).mut (· =r);simp only[pP] at h;cases be:b2 T s [91] with
 |true=>
  simp only[be,bx,eT] at h;obtain⟨⟨aI,s1⟩,U,aa⟩:=h;simp only[bD,dz] at aa;obtain⟨rfl,rfl⟩:=aa;have cJ:=cK.rd;have fH:=cJ;unfold c1 at fH;obtain⟨m3,lp⟩:=hT cJ (aE s);simp-implicitDefEqProofs(disch:=try exact ag) only[ux,reduceAdd,reduceLeDiff,reduceIte,az,fH,df,Bool.not_true];refine aY (DS (af.mut (bM.trans m3) lp)) ?_;rintro _ dc ⟨rfl,m5,ff⟩;refine⟨m5.1,?_⟩;have gu:=m5.get (m3.get cn Z) Z;have CZ:=J.aW gu;simp-implicitDefEqProofs(disch:=try exact ag) only[ux,reduceAdd,reduceLeDiff,reduceIte,az];have e2:=aR.push dc (.row false 2 [[.str (e5 T (aE s)).1.1,.int .i64 (e5 T (aE s)).1.2]]);have tb:=J.ca dc (.row false 2 [[.str (e5 T (aE s)).1.1,.int .i64 (e5 T (aE s)).1.2]])
  refine aY (ly (ff.aK e2) [93] (by simp)) ?_;rintro _ jG ⟨rfl,m8,oK⟩;refine⟨m8.1,?_⟩;have uB:=m8.get (e2.get gu) Z;have sd:=m8.get tb Z;have Ns:=J.aW uB;have anN:=J.aW sd;simp-implicitDefEqProofs(disch:=try exact ag) only[ux,reduceAdd,reduceLeDiff,reduceIte,az];refine aY (aT oK aI s1 U) ?_;rintro v gK ⟨m9,qo,r9⟩;refine⟨m9.1,?_⟩;have s7:=m9.get uB Z;have td:=m9.get sd Z;have Fi:=J.aW s7;have Xj:=J.aW td;have Y5:=m9.1;obtain⟨cs,rfl,hlen,dL⟩:=r9.cells;have aO: ∀l,dH P l 96 1 [(0,.agg cs)]=some (.aM l 0 1 11 (some 1),.row false 11 [cs]):=λl=>jK l cs hlen dL
  replace bM:=((((bM.trans m3).trans m5).trans (e2.mut _)).trans m8).trans m9;have cJ:=qo.rd;unfold c1 at cJ;simp-implicitDefEqProofs(disch:=try exact ag) only[ux,reduceAdd,reduceLeDiff,reduceIte,az,aO,s7,td,sd];refine a8.2 ?_;refine ui.fin (ok:=bG H.next) (a:={kind:=9,eQ:=(e5 T (aE s)).1.1,fS:=(e5 T (aE s)).1.2,pos:=pos}) (kv:= .aM gK.next 0 1 11 (some 1)) (s':=s1) af ?_ ?_ (dO.qO (ro:=false) ?_ (by unfold bG;omega) (r9.new ?_ λl h=>by unfold bG;omega))
  ·(repeat (first|exact bM|refine dE.bV ?_ _|refine dE.de (S:=(· =r)) ?_ (.inl rfl) _|refine dE.de ?_ (.inr (by(first|omega|(simp only[J.b6,J.e9];omega)))) _))
  ·(unfold c1;simp-implicitDefEqProofs(disch:=try exact ag) only[dD,cJ,aE,fU,ig])
  ·simp-implicitDefEqProofs(disch:=try exact ag) only[dD]
  ·exact dE.de (S:=λl=>l<_) ((dE.refl _ _).bV _) (.inl Z) _
 |false=>
  simp only[be,bi,bD,dz] at h;obtain⟨rfl,rfl⟩:=h;simp-implicitDefEqProofs(disch:=try exact ag) only[ux,reduceAdd,reduceLeDiff,reduceIte,az,Bool.not_false];refine aY (wK cK) ?_;rintro _ dc ⟨rfl,m5,ff⟩;refine⟨m5.1,?_⟩;have gu:=m5.get cn Z;have CZ:=J.aW gu;simp-implicitDefEqProofs(disch:=try exact ag) only[ux,reduceAdd,reduceLeDiff,reduceIte,az,gu];refine a8.2 ?_;exact g7.box (a:={kind:=8,eQ:=(da T s).1,pos:=pos}) (kv:= .an) (lo:=H.next+1) af (bM.trans m5) ff.rd (bL _) (Nat.lt_succ_self _) (dO.nil _ _) _
theorem QM{N:Nat}(aT: ∀k,k<N->sF k){H0:J}{r:Nat}{T:List Tok}{aj:I}{s0:aw}(bt:c8 H0 r T aj s0):
  ∀(n m:Nat),n<N->n<m-> ∀(H:J) (s:aw) (l:List bh) (L:Nat) (els:List (List I)),cB r H0 H->c1 H r aj s->l.length+n<=1000000000->H.get L=some (.row false 11 els)->H0.next<=L->els.length=l.length->
   gm H (λk=>H0.next<=k/\k≠L) l els-> ∀(l':List bh) (s':aw),lb T n l s=some (l',s')->
   W (y4 (au P ao) N m (.ptr r 0 0) (.aM L 0 l.length 11 none) H) λv H'=>cB r H0 H'/\c8 H' r T aj s'/\dO H' (bG H0.next) l' v
 |0,m,dX,hm,H,s,l,L,els,bM,cp,hlen,aX,gA,kN,ph,l',s',h=>by simp[lb] at h
 |n+1,0,dX,hm,H,s,l,L,els,bM,cp,hlen,aX,gA,kN,ph,l',s',h=>Z
 |n+1,m+1,dX,hm,H,s,l,L,els,bM,cp,hlen,aX,gA,kN,ph,l',s',h=>by
  have ax:=bt.rd.lt;have df:=bt.b9.one;have api:=J.aW aX;have hle:=bM.1;have af:=bt.mut bM cp;simp only[lb] at h;simp only[y4];rw[y3];refine aY (gI cp af.b9 [44] (by simp)) ?_;rintro _ H1 ⟨rfl,aU⟩;refine⟨aU.1,?_⟩;have dt:=af.aK aU;have mT:=aU.get aX;have anG:=J.aW mT;have Ex:=ph.bo (e_.aK aU λ_ h=>h) l els;cases bC:b2 T s [44] with
  |false=>
   simp only[bC,bi,bD,dz] at h;obtain⟨rfl,rfl⟩:=h;simp-implicitDefEqProofs(disch:=try exact ag) only[oj,y3,o_,reduceAdd,reduceLeDiff,reduceIte,az];refine aY (Bc dt [41] (by simp)) ?_;rintro _ bl ⟨rfl,m2,cK⟩;refine⟨m2.1,?_⟩
   try simp only[oj,y3,o_]
   refine a8.2 ⟨(bM.trans (aU.mut _)).trans m2,cK,.inr (.inl ⟨L,0,none,false,els,rfl,gA,m2.get mT Z,?_⟩)⟩;rw[List.drop_zero];exact Ex.bo (e_.mut m2 Z λ_ h=>h.1) l els
  |true=>
   simp only[bC,bx,eT] at h;obtain⟨⟨aI,s1⟩,U,aa⟩:=h;have mU:=dt.rd;have Cv:=mU;unfold c1 at Cv;have anO:=mU.lt;obtain⟨m2,mS⟩:=hT mU (aE s);simp-implicitDefEqProofs(disch:=try exact ag) only[oj,y3,o_,reduceAdd,reduceLeDiff,reduceIte,az,Cv,df];refine aY (aT n Z (bt.mut ((bM.trans (aU.mut _)).trans m2) mS) 0 Z aI s1 U) ?_;rintro v cQ ⟨m3,eY,ml⟩;refine⟨m3.1,?_⟩;have r_:=m3.get (m2.get mT Z) Z;have anH:=J.aW r_;have sa:=aU.1;have s8:=m3.1;simp only[J.e9] at s8 ml;have Mp:=Ex.bo (e_.mut (m2.trans m3) Z λ_ h=>h) l els;obtain⟨cs,rfl,l_,dL⟩:=ml.cells;have aO: ∀l,dH P l 96 1 [(0,.agg cs)]=some (.aM l 0 1 11 (some 1),.row false 11 [cs]):=λl=>jK l cs l_ dL
   simp-implicitDefEqProofs(disch:=try exact ag) only[oj,o_,reduceAdd,reduceLeDiff,reduceIte,az,aO];have bz:=aR.push cQ (.row false 11 [cs]);rw[SJ (J.ca cQ (.row false 11 [cs])) (bz.get r_) kN Z,ks (by simp only[J.b6,J.e9];omega)];simp only[J.b6,J.e9,oj,o_];have LU:l.length+1=(l++[aI]).length:=by simp
   rw[LU];have lv: ∀k,k<cQ.next->k≠L->(((cQ.push (.row false 11 [cs])).set L .dead).push (.row false 11 (els++[cs]))).get k=cQ.get k:=λk ah eZ=>by
    rw[J.gy (by simp only[J.b6,J.e9];omega),J.get_set_other Z,J.gy Z]
   have Ot:cB r H0 (((cQ.push (.row false 11 [cs])).set L .dead).push (.row false 11 (els++[cs]))):=((((bM.trans (aU.mut _)).trans m2).trans m3).bV _|>.de (.inr gA) _).bV _;refine QM aT bt n m Z Z _ s1 (l++[aI]) (cQ.next+1) (els++[cs]) Ot ?_ (by simp;omega) ?_ Z (by simp[kN]) ?_ l' s' aa
   ·have:=eY.rd;unfold c1 at this ⊢;rw[lv r Z Z];exact this
   ·exact J.wJ (by simp only[J.b6,J.e9];omega) (by simp only[J.b6,J.e9];omega)
   ·refine gm.append l els aI cs ?_ kN ?_
    ·exact Mp.bo (λk ro es ah kO=>⟨⟨ah.1,by have:=J.aW kO;omega⟩,by rw[lv k (J.aW kO) ah.2];exact kO⟩) l els
    ·exact ml.bo (λk ro es ah kO=>by
      have ae:=J.aW kO;unfold bG at ah;exact⟨⟨Z,Z⟩,by rw[lv k ae Z];exact kO⟩) aI _
theorem adv{n:Nat}(aV:n<=900000000)(aT: ∀k,k<=n->sF k):D3 (n+1):=by
 intro H r T aj s af l s' h;refine cU (λ_=>ajl (n+1)) ?_;have ax:=af.rd.lt;simp only[mJ] at h;rw[o_];refine aY (Bk af [40] (by simp)) ?_;rintro _ H1 ⟨rfl,m1,dt⟩;refine⟨m1.1,?_⟩;simp-implicitDefEqProofs(disch:=try exact ag) only[oj,o_,reduceAdd,reduceLeDiff,reduceIte,az];refine aY (gI dt.rd dt.b9 [41] (by simp)) ?_;rintro _ bl ⟨rfl,aJ⟩;refine⟨aJ.1,?_⟩;have cK:=dt.aK aJ;have bM:=m1.trans (aJ.mut _);cases be:b2 T (eE T [40] s) [41] with
 |true=>
  simp only[be,bx,bD,dz] at h;obtain⟨rfl,rfl⟩:=h;simp-implicitDefEqProofs(disch:=try exact ag) only[oj,o_,reduceAdd,reduceLeDiff,reduceIte,az];refine aY (Bc cK [41] (by simp)) ?_;rintro _ cQ ⟨rfl,m3,eY⟩;refine⟨m3.1,?_⟩
  try simp only[oj,o_]
  exact a8.2 ⟨bM.trans m3,eY,dO.nil _ _⟩
 |false=>
  simp only[be,bi,eT] at h;obtain⟨⟨aI,s1⟩,U,aa⟩:=h;simp-implicitDefEqProofs(disch:=try exact ag) only[oj,o_,reduceAdd,reduceLeDiff,reduceIte,az];refine aY (aT n (bL _) cK 0 Z aI s1 U) ?_;rintro v cQ ⟨m3,eY,ml⟩;refine⟨m3.1,?_⟩;have sa:=m1.1;have hj:=aJ.1;have s8:=m3.1;obtain⟨cs,rfl,l_,dL⟩:=ml.cells;have aO: ∀l,dH P l 96 1 [(0,.agg cs)]=some (.aM l 0 1 11 (some 1),.row false 11 [cs]):=λl=>jK l cs l_ dL
  simp-implicitDefEqProofs(disch:=try exact ag) only[oj,o_,reduceAdd,reduceLeDiff,reduceIte,az,aO];have bK:=(aR.push cQ (.row false 11 [cs])).bV (.row false 11 [cs]);rw[RB (J.ca cQ (.row false 11 [cs])),ks (by simp only[J.b6];omega)];simp only[J.b6,oj,o_];refine QM (N:=n+1) (λk ah=>aT k Z) af n (n+1) Z Z _ s1 [aI] (cQ.next+1) [cs] ((bM.trans m3).trans (bK.mut _)) (eY.rd.aK bK) (by simp;omega) ?_ Z rfl ?_ l s' aa
  ·exact J.wJ (by simp only[J.b6];omega) (by simp only[J.b6];omega)
  ·rw[gm,gm];exact⟨ml.bo (λk ro es ah kO=>by
    have ae:=J.aW kO;unfold bG at ah;exact⟨⟨Z,Z⟩,bK.get kO⟩) aI _,trivial⟩
end
section
theorem JQ{N B:Nat}(aT: ∀k,k<B->sF k){ok:Nat->Prop}{H0:J}{r:Nat}{T:List Tok}{aj:I}{s0:aw}(bt:c8 H0 r T aj s0)(yb: ¬ok r)(o4: ∀l,H0.next<=l->ok l):
  ∀(n m:Nat),n<=B->n<m-> ∀(H:J) (s:aw) (e:bh) (cs gl:List I),cB r H0 H->c1 H r aj s->H.get (H0.next+1)=some (.row false 11 [gl])->gl.length=11->H.get H0.next=some (.row false 11 [cs])->
   ec H (λl=>ok l/\l≠H0.next/\l≠H0.next+1) e (.agg cs)-> ∀(cC:bh) (s':aw),jV T n e s=some (cC,s')->
   W (w5 (au P ao) N m (.ptr r 0 0) (.ptr H0.next 0 0) (.ptr (H0.next+1) 0 0) H) (ui ok H0 r T aj cC s')
 |0,m,dX,hm,H,s,e,cs,gl,bM,cp,fV,ct,eK,he,cC,s',h=>by simp[jV] at h
 |n+1,0,dX,hm,H,s,e,cs,gl,bM,cp,fV,ct,eK,he,cC,s',h=>Z
 |n+1,m+1,dX,hm,H,s,e,cs,gl,bM,cp,fV,ct,eK,he,cC,s',h=>by
  have ax:=bt.rd.lt;have df:=bt.b9.one;have af:=bt.mut bM cp;have CY:=J.aW eK;have x9:=J.aW fV;have hle:=bM.1;obtain⟨uz,iZ,hlen,dL⟩:=he.cells;cases iZ;have bC:List.take 11 cs=cs:=List.take_of_length_le Z;have ao9:List.drop 11 gl=[]:=List.drop_of_length_le Z;have YS:List.drop 11 cs=[]:=List.drop_of_length_le Z;have bg:=he.same;simp only[jV] at h;simp only[w5];rw[D1];refine aY (gI cp af.b9 [46] (by simp)) ?_;rintro _ H1 ⟨rfl,aU⟩;refine⟨aU.1,?_⟩;have fin: ∀dU,aR H dU->(cC,s')=(e,s)->W (y1 (au P ao) N (.ptr H0.next 0 0) (.ptr (H0.next+1) 0 0) dU) (ui ok H0 r T aj cC s'):=by
   intro dU p uD;cases uD;have W9:=p.get eK;have Xa:=p.get fV;have gL:=J.aW W9;have hO:=J.aW Xa;simp-implicitDefEqProofs(disch:=try exact ag) only[y1,rF,tI,pK,pL,pM,sB,D1,pN,pO,o9,reduceAdd,reduceLeDiff,reduceIte,az,W9,Xa,hlen,dL,List.append_nil,bC,ao9];have fp:=(bM.trans (p.mut _)).de (.inr (Nat.le_succ _)) (.row false 11 [cs]);refine a8.2 ⟨fp,bt.mut fp ?_,(he.bo (e_.aK p λ_ h=>h) e _).bo (e_.set _ Z λl h=>h.1) e _⟩;have:=cp.aK p;unfold c1 at this ⊢;rw[J.get_set_other Z];exact this
  have go: ∀(cQ:J),aR H cQ->(bif b2 T s [46] then jV T n (.mk {kind:=5,name:=(da T (aE s)).1,pos:=(aq T s.at_).pos} [e]) (da T (aE s)).2 else(im T n 0 (eE T [91] s)).bind λp=>jV T n (.mk {kind:=6,pos:=(aq T s.at_).pos} [e,p.1]) (f0 T [93] p.2))=some (cC,s')->
    W (sB (au P ao) (w5 (au P ao) N m) cQ (.ptr r 0 0) (.ptr H0.next 0 0) (.ptr (H0.next+1) 0 0)) (ui ok H0 r T aj cC s'):=by
   intro cQ bz ae;simp only[sB];refine aY (nZ (cp.aK bz) (af.b9.aK bz)) ?_;rintro _ cu ⟨rfl,bK⟩;refine⟨bK.1,?_⟩;simp-implicitDefEqProofs(disch:=try exact ag) only[pM,pL,pK,reduceAdd,reduceLeDiff,reduceIte,az,Tok.v];have cO:=(bz.trans bK).bV (.row false 4 [[.int .i64 (aq T s.at_).kind,.str (aq T s.at_).text,.int .i64 (aq T s.at_).n,.int .i64 (aq T s.at_).pos]]);have oI:=J.ca cu (.row false 4 [[.int .i64 (aq T s.at_).kind,.str (aq T s.at_).text,.int .i64 (aq T s.at_).n,.int .i64 (aq T s.at_).pos]]);refine aY (gI (cp.aK cO) (af.b9.aK cO) [46] (by simp)) ?_;rintro _ fY ⟨rfl,h7⟩;refine⟨h7.1,?_⟩;have je:=cO.trans h7
   have tc:=h7.get oI;have Xi:=J.aW tc;have zP:=je.get eK;have Mm:=je.get fV;have oJ:=af.aK je;have NT:=bM.trans (je.mut _);have q5:=he.bo (e_.aK je λ_ h=>h) e _;have Fm:H.next<=cu.next:=(bz.trans bK).1
   have arL:=J.aW zP;cases bb:b2 T s [46] with
   |true=>
    simp only[bb,bx] at ae;have Nx:=oJ.rd;have Xm:=Nx;unfold c1 at Xm;have aq9:=Nx.lt;obtain⟨m8,ao6⟩:=hT Nx (aE s);simp-implicitDefEqProofs(disch:=try exact ag) only[tI,pK,pL,pM,sB,pN,pO,o9,reduceAdd,reduceLeDiff,reduceIte,az,Xm,df];refine aY (wK (bt.mut (NT.trans m8) ao6)) ?_;rintro _ gK ⟨rfl,m9,qo⟩;refine⟨m9.1,?_⟩;have NR:=m8.trans m9;have HG:=m8.get zP Z;have Ew:=m9.get HG Z;have Xc:=NR.get Mm Z;have sd:=m8.get tc Z;have td:=m9.get sd Z;have arM:=J.aW Ew;have arO:=J.aW Xc;have ar1:=J.aW td;have ak9:(fY.set r (.row false 5 [[aj,.int .i64 (IntKind.i64.wrap (s.at_+1)),.int .i64 s.bN,.int .i64 s.aA,.int .i64 s.cw]])).get H0.next=some (.row false 11 [cs]):=HG
    have anX:(fY.set r (.row false 5 [[aj,.int .i64 (IntKind.i64.wrap (s.at_+1)),.int .i64 s.bN,.int .i64 s.aA,.int .i64 s.cw]])).get cu.next=some (.row false 4 [[.int .i64 (aq T s.at_).kind,.str (aq T s.at_).text,.int .i64 (aq T s.at_).n,.int .i64 (aq T s.at_).pos]]):=sd
    have aO: ∀l,dH P l 96 1 [(0,.agg cs)]=some (.aM l 0 1 11 (some 1),.row false 11 [cs]):=λl=>jK l cs hlen dL
    simp-implicitDefEqProofs(disch:=try exact ag) only[tI,pK,pL,pM,sB,pN,pO,o9,reduceAdd,reduceLeDiff,reduceIte,az,Ew,ak9,td,anX,aO,bC,YS,bg,Bool.and_true,Bool.and_self];simp only[rF];have MC:cB r H0 ((gK.push (.row false 11 [cs])).set H0.next (.row false 11 [[.int .i64 5,.int .i64 0,.str (da T (aE s)).1,.str [],.int .i64 0,.aM gK.next 0 1 11 (some 1),.int .i64 (aq T s.at_).pos,.int .i64 0,.int .i64 0,.int .i64 0,.int .i64 0]])):=((NT.trans NR).bV _).de (.inr (bL _)) _;have lv: ∀k,k<gK.next->k≠H0.next->((gK.push (.row false 11 [cs])).set H0.next (.row false 11 [[.int .i64 5,.int .i64 0,.str (da T (aE s)).1,.str [],.int .i64 0,.aM gK.next 0 1 11 (some 1),.int .i64 (aq T s.at_).pos,.int .i64 0,.int .i64 0,.int .i64 0,.int .i64 0]])).get k=gK.get k:=λk ah eZ=>by
     rw[J.get_set_other Z,J.gy Z]
    refine JQ aT bt yb o4 n m Z Z _ _ _ (fm.cells {kind:=5,name:=(da T (aE s)).1,pos:=(aq T s.at_).pos} (.aM gK.next 0 1 11 (some 1))) gl MC ?_ ?_ ct (J.get_set_same (by simp only[J.b6];omega)) ?_ cC s' ae
    ·have:=qo.rd;unfold c1 at this ⊢;rw[lv r Z Z];exact this
    ·rw[lv _ Z Z];exact Xc
    ·rw[lA];have r9:=q5.mut NR (by rintro⟨h,_⟩;exact yb h) λ_ h=>h
     refine⟨_,rfl,dO.qO (ro:=false) ?_ ⟨o4 _ Z,Z,Z⟩ (r9.bo (λl ro els dF aX=>⟨dF,by rw[lv l (J.aW aX) dF.2.1];exact aX⟩) e _)⟩;rw[J.get_set_other Z];exact J.ca _ _
   |false=>
    simp only[bb,bi,eT] at ae;obtain⟨⟨aI,s1⟩,g1,g2⟩:=ae;simp-implicitDefEqProofs(disch:=try exact ag) only[rF,pK,pL,pM,sB,pN,pO,o9,reduceAdd,reduceLeDiff,reduceIte,az];refine aY (Bk oJ [91] (by simp)) ?_;rintro _ jG ⟨rfl,m8,oK⟩;refine⟨m8.1,?_⟩;simp-implicitDefEqProofs(disch:=try exact ag) only[rF,pK,pL,pM,sB,pN,pO,o9,reduceAdd,reduceLeDiff,reduceIte,az];refine aY (aT n Z oK 0 Z aI s1 g1) ?_;rintro v gK ⟨m9,qo,r9⟩;refine⟨m9.1,?_⟩;obtain⟨bU,rfl,l_,lF⟩:=r9.cells;have Nz:List.take 11 bU=bU:=List.take_of_length_le Z;simp-implicitDefEqProofs(disch:=try exact ag) only[rF,pK,pL,pM,sB,pN,pO,o9,reduceAdd,reduceLeDiff,reduceIte,az,l_,lF,List.append_nil]
    have sg:=aR.push gK (.row false 11 [bU]);refine aY (Bc (qo.aK sg) [93] (by simp)) ?_;rintro _ Ai ⟨rfl,m12,an3⟩;refine⟨m12.1,?_⟩;have EJ:=((m8.trans m9).trans (sg.mut _)).trans m12;have Wg:=EJ.get zP Z;have Wh:=EJ.get Mm Z;have Xl:=EJ.get tc Z;have ant:=m12.get (J.ca gK (.row false 11 [bU])) (by have:=m8.1;have:=m9.1;omega);have arb:=J.aW Wg;have arc:=J.aW Wh;have arh:=J.aW Xl;have aO: ∀l,dH P l 96 2 [(0,.agg cs),(1,.agg bU)]=some (.aM l 0 2 11 (some 2),.row false 11 [cs,bU]):=λl=>B9 l cs bU hlen dL l_ lF
    simp-implicitDefEqProofs(disch:=try exact ag) only[rF,pK,pL,pM,sB,pN,pO,o9,reduceAdd,reduceLeDiff,reduceIte,az,Wg,ant,Xl,aO,bC,Nz,YS];simp only[tI];have an8:cB r H0 ((Ai.push (.row false 11 [cs,bU])).set H0.next (.row false 11 [[.int .i64 6,.int .i64 0,.str [],.str [],.int .i64 0,.aM Ai.next 0 2 11 (some 2),.int .i64 (aq T s.at_).pos,.int .i64 0,.int .i64 0,.int .i64 0,.int .i64 0]])):=((NT.trans EJ).bV _).de (.inr (bL _)) _;have lv: ∀k,k<Ai.next->k≠H0.next->((Ai.push (.row false 11 [cs,bU])).set H0.next (.row false 11 [[.int .i64 6,.int .i64 0,.str [],.str [],.int .i64 0,.aM Ai.next 0 2 11 (some 2),.int .i64 (aq T s.at_).pos,.int .i64 0,.int .i64 0,.int .i64 0,.int .i64 0]])).get k=Ai.get k:=λk ah eZ=>by
     rw[J.get_set_other Z,J.gy Z]
    refine JQ aT bt yb o4 n m Z Z _ _ _ (fm.cells {kind:=6,pos:=(aq T s.at_).pos} (.aM Ai.next 0 2 11 (some 2))) gl an8 ?_ ?_ ct (J.get_set_same (by simp only[J.b6];omega)) ?_ cC s' g2
    ·have:=an3.rd;unfold c1 at this ⊢;rw[lv r Z Z];exact this
    ·rw[lv _ Z Z];exact Wh
    ·rw[lA];have anv:=q5.mut EJ (by rintro⟨h,_⟩;exact yb h) λ_ h=>h
     have arN:=J.aW Mm;have arF:=m8.1;have Y5:=m9.1;refine⟨_,rfl,dO.B_ (ro:=false) ?_ ⟨o4 _ Z,Z,Z⟩ (anv.bo (λl ro els dF aX=>⟨dF,by rw[lv l (J.aW aX) dF.2.1];exact aX⟩) e _) (r9.bo (λl ro els dF aX=> ?_) aI _)⟩
     ·rw[J.get_set_other Z];exact J.ca _ _
     ·unfold bG at dF;have Xe:=m12.get (sg.get aX) Z;exact⟨⟨o4 _ Z,Z,Z⟩,by rw[lv l (J.aW Xe) Z];exact Xe⟩
  cases U:b2 T s [46] with
  |true=>
   simp only[U,bx] at h;simp-implicitDefEqProofs(disch:=try exact ag) only[rF,tI,pK,pL,pM,pN,pO,o9,reduceAdd,reduceLeDiff,reduceIte,az];exact go H1 aU (by rw[U];exact h)
  |false=>
   simp only[U,bi] at h;simp-implicitDefEqProofs(disch:=try exact ag) only[rF,tI,pK,pL,pM,pN,pO,o9,reduceAdd,reduceLeDiff,reduceIte,az];refine hh (gI (cp.aK aU) (af.b9.aK aU) [91] (by simp)) ?_;rintro _ bl ⟨rfl,aJ⟩;refine⟨aJ.1,?_⟩;cases aa:b2 T s [91] with
   |true=>
    simp only[aa,bx] at h;simp-implicitDefEqProofs(disch:=try exact ag) only[rF,tI,pK,pL,pM,pN,pO,o9,reduceAdd,reduceLeDiff,reduceIte,az];exact go bl (aU.trans aJ) (by rw[U];exact h)
   |false=>
    simp only[aa,bi,bD] at h;simp-implicitDefEqProofs(disch:=try exact ag) only[rF,tI,pK,pL,pM,pN,pO,o9,reduceAdd,reduceLeDiff,reduceIte,az];exact fin bl (aU.trans aJ) h.symm
theorem abd{n:Nat}(aT: ∀k,k<=n->sF k):Ky (n+1):=by
 intro ok H r T aj s e v af he yb o4 cC s' h;refine cU (λ_=>aje (n+2)) ?_;obtain⟨cs,rfl,hlen,dL⟩:=he.cells;have ic: ∀l,eW l (.agg cs)=some (.ptr l 0 0,.row false 11 [cs]):=λl=>by rw[ij l cs dL,hlen]
 simp-implicitDefEqProofs(disch:=try exact ag) only[o9,pO,pN,reduceAdd,reduceLeDiff,reduceIte,az,ic];have aU:=(aR.push H (.row false 11 [cs])).bV (.row false 11 [[.int .i64 0,.int .i64 0,.str [],.str [],.int .i64 0,.an,.int .i64 0,.int .i64 0,.int .i64 0,.int .i64 0,.int .i64 0]]);refine JQ (N:=n+2) (B:=n+1) (λk ah=>aT k Z) af yb o4 (n+1) (n+2) Z Z _ s e cs [.int .i64 0,.int .i64 0,.str [],.str [],.int .i64 0,.an,.int .i64 0,.int .i64 0,.int .i64 0,.int .i64 0,.int .i64 0] (aU.mut _) (af.rd.aK aU) ?_ rfl ?_ ?_ cC s' h
 ·simp-implicitDefEqProofs(disch:=try exact ag) only[dD]
 ·simp-implicitDefEqProofs(disch:=try exact ag) only[dD]
 ·exact he.bo (λl ro els dF aX=>⟨⟨dF,by have:=J.aW aX;omega,by have:=J.aW aX;omega⟩,aU.get aX⟩) e _
end
section
theorem Vt{T:List Tok}{s:aw}{x:bk}(h:b2 T s x=true)(af:x≠[]):(aq T s.at_).text≠[]:=by
 simp only[b2,b4,Bool.and_eq_true,beq_iff_eq] at h;rw[h.2.2];exact af
theorem Qv{n:Nat}(aT:sF n){H0 H:J}{r:Nat}{T:List Tok}{aj:I}{s:aw}(bt:c8 H0 r T aj s)(eh:aR H0 H)(ay:H.get H0.next=some (.row false 11 [[.int .i64 0,.int .i64 0,.str [],.str [],.int .i64 0,.an,.int .i64 0,.int .i64 0,.int .i64 0,.int .i64 0,.int .i64 0]])){b:Nat}(kk:H0.next<b)(bg:H.get b=some (.row false 4 [[.int .i64 (aq T s.at_).kind,.str (aq T s.at_).text,.int .i64 (aq T s.at_).n,.int .i64 (aq T s.at_).pos]]))(dK:(aq T s.at_).text≠[]){k:Int}
  {cC:bh} {s':aw} (h:p3 T (n+1) k s=some (cC,s')):W (u9 (au P ao) (.ptr r 0 0) (.ptr H0.next 0 0) (.ptr b 0 0) (.int .i64 k) H) (g7 H0 r T aj cC s'):=by
 have ax:=bt.rd.lt;have df:=bt.b9.one;have af:=bt.aK eh;have hle:=eh.1;have x9:=J.aW bg;have io:=J.aW ay;simp only[p3,eT] at h;obtain⟨⟨aI,s1⟩,U,aa⟩:=h;simp only[bD,dz] at aa;obtain⟨rfl,rfl⟩:=aa;simp-implicitDefEqProofs(disch:=try exact ag) only[u9,qJ,p9,reduceAdd,reduceLeDiff,reduceIte,az,bg];refine aY (Bk af _ dK) ?_;rintro _ H1 ⟨rfl,m1,dt⟩;refine⟨m1.1,?_⟩;simp-implicitDefEqProofs(disch:=try exact ag) only[u9,qJ,p9,reduceAdd,reduceLeDiff,reduceIte,az];refine aY (aT dt 5 Z aI s1 U) ?_;rintro v bl ⟨m2,cK,fQ⟩;refine⟨m2.1,?_⟩;have sa:=m1.1;have hj:=m2.1;have m12:=m1.trans m2;have cn:=m12.get ay Z
 have kQ:=m12.get bg Z;have lV:=J.aW cn;have anF:=J.aW kQ;obtain⟨cs,rfl,hlen,dL⟩:=fQ.cells;have bC:List.take 11 cs=cs:=List.take_of_length_le Z;have aO: ∀l,dH P l 96 1 [(0,.agg cs)]=some (.aM l 0 1 11 (some 1),.row false 11 [cs]):=λl=>jK l cs hlen dL
 have cJ:=cK.rd;unfold c1 at cJ;have h0:=cK.rd.lt;have bM:=(eh.mut (· =r)).trans m12;simp-implicitDefEqProofs(disch:=try exact ag) only[u9,qJ,p9,reduceAdd,reduceLeDiff,reduceIte,az,hlen,dL,List.append_nil,bC,aO,cJ,df,cn,kQ];refine a8.2 ?_;refine ui.fin (ok:=bG H0.next) (a:={kind:=k,pos:=(aq T s.at_).pos}) (kv:= .aM (bl.next+1) 0 1 11 (some 1)) (s':=fU s1) bt ?_ ?_ (dO.qO (ro:=false) ?_ (by unfold bG;omega) (fQ.new ?_ λl h=>by unfold bG;omega))
 ·(repeat (first|exact bM|refine dE.bV ?_ _|refine dE.de (S:=(· =r)) ?_ (.inl rfl) _|refine dE.de ?_ (.inr (by(first|omega|(simp only[J.b6,J.e9];omega)))) _))
 ·(unfold c1;simp-implicitDefEqProofs(disch:=try exact ag) only[dD,cJ,aE,fU,ig])
 ·simp-implicitDefEqProofs(disch:=try exact ag) only[dD]
 ·exact dE.de (S:=λl=>l<_) ((dE.de (S:=λl=>l<_) ((dE.refl _ _).bV _) (.inl Z) _).bV _) (.inl Z) _
theorem abM{n:Nat}(Zf: ∀k,k<=n->sF k)(wo:KA n)(FA:Ky n):KC (n+1):=by
 intro H r T aj s af e s' h;refine cU (λ_=>ai3 0) ?_;have ax:=af.rd.lt;simp only[pU] at h;have aU:=aR.push H (.row false 11 [[.int .i64 0,.int .i64 0,.str [],.str [],.int .i64 0,.an,.int .i64 0,.int .i64 0,.int .i64 0,.int .i64 0,.int .i64 0]]);simp-implicitDefEqProofs(disch:=try exact ag) only[p9,qJ,reduceAdd,reduceLeDiff,reduceIte,az];refine aY (nZ (af.rd.aK aU) (af.b9.aK aU)) ?_;rintro _ bl ⟨rfl,aJ⟩;refine⟨aJ.1,?_⟩;have cn:=aJ.get (J.ca H _);have lV:=J.aW cn;simp-implicitDefEqProofs(disch:=try exact ag) only[qJ,p9,reduceAdd,reduceLeDiff,reduceIte,az,Tok.v];have bz:=aJ.bV (.row false 4 [[.int .i64 (aq T s.at_).kind,.str (aq T s.at_).text,.int .i64 (aq T s.at_).n,.int .i64 (aq T s.at_).pos]])
 have ta:=J.ca bl (.row false 4 [[.int .i64 (aq T s.at_).kind,.str (aq T s.at_).text,.int .i64 (aq T s.at_).n,.int .i64 (aq T s.at_).pos]]);have wr:=aU.trans bz;refine aY (gI (af.rd.aK wr) (af.b9.aK wr) [45] (by simp)) ?_;rintro _ cu ⟨rfl,bK⟩;refine⟨bK.1,?_⟩;have Iw:=wr.trans bK;have sc:=bK.get ta;have fV:=(bz.trans bK).get (J.ca H _);cases U:b2 T s [45] with
 |true=>
  simp only[U,bx] at h;have dK:(aq T s.at_).text≠[]:=Vt U (by simp);simp-implicitDefEqProofs(disch:=try exact ag) only[qJ,p9,reduceAdd,reduceLeDiff,reduceIte,az];cases n with
  |zero=>simp[p3] at h
  |succ n=>exact Qv (Zf n Z) af Iw fV Z sc dK h
 |false=>
  simp only[U,bi] at h;simp-implicitDefEqProofs(disch:=try exact ag) only[qJ,p9,reduceAdd,reduceLeDiff,reduceIte,az];refine aY (gI (af.rd.aK Iw) (af.b9.aK Iw) [33] (by simp)) ?_;rintro _ dc ⟨rfl,cO⟩;refine⟨cO.1,?_⟩;have ws:=Iw.trans cO;have oI:=cO.get sc;have gu:=cO.get fV;cases aa:b2 T s [33] with
  |true=>
   simp only[aa,bx] at h;have dK:(aq T s.at_).text≠[]:=Vt aa (by simp);simp-implicitDefEqProofs(disch:=try exact ag) only[qJ,p9,reduceAdd,reduceLeDiff,reduceIte,az];cases n with
   |zero=>simp[p3] at h
   |succ n=>exact Qv (Zf n Z) af ws gu Z oI dK h
  |false=>
   simp only[aa,bi,eT] at h;obtain⟨⟨aI,s1⟩,g1,g2⟩:=h;simp-implicitDefEqProofs(disch:=try exact ag) only[qJ,p9,reduceAdd,reduceLeDiff,reduceIte,az];refine aY (wo (af.aK ws) aI s1 g1) ?_;rintro v fX ⟨m6,hC,ao_⟩;refine⟨m6.1,?_⟩;have Y6:=ws.1;have apk:=m6.1;have qk:=m6.get gu Z;simp-implicitDefEqProofs(disch:=try exact ag) only[qJ,p9,reduceAdd,reduceLeDiff,reduceIte,az];have CZ:=J.aW gu;refine aY (FA (ok:=bG (H.next+1)) hC (ao_.bo (e_.aK (aR.refl _) λl dF=>by unfold bG at*;omega) aI _) (by unfold bG;omega) (λl dF=>by unfold bG;omega) e s' g2) ?_;rintro v fY ⟨m7,oJ,q5⟩;refine⟨m7.1,?_⟩;have s6:=m7.get qk Z
   have Y2:=J.aW s6;obtain⟨cs,rfl,hlen,dL⟩:=q5.cells;have bC:List.take 11 cs=cs:=List.take_of_length_le Z;simp-implicitDefEqProofs(disch:=try exact ag) only[qJ,p9,reduceAdd,reduceLeDiff,reduceIte,az,s6,hlen,dL,List.append_nil,bC];exact a8.2 (g7.ret af (((ws.mut _).trans m6).trans m7) oJ.rd (bL _) q5 (Nat.lt_succ_self _) _)
end
section
theorem RY{N:Nat}{H0 H:J}{r:Nat}{T:List Tok}{aj:I}{s0 s:aw}(bt:c8 H0 r T aj s0)(bM:cB r H0 H)(cp:c1 H r aj s){b3:Nat}{cs gl:List I}{e:bh}(cn:H.get H0.next=some (.row false 11 [gl]))(ct:gl.length=11)(eK:H.get b3=some (.row false 11 [cs]))(ae:H0.next<b3)
  (he:ec H (λl=>H0.next<l/\l≠b3) e (.agg cs)):W (yU (au P ao) N (.ptr H0.next 0 0) (.ptr b3 0 0) H) (g7 H0 r T aj e s):=by
 have ax:=bt.rd.lt;have lV:=J.aW cn;have CY:=J.aW eK;obtain⟨uz,iZ,hlen,dL⟩:=he.cells;cases iZ;have bC:List.take 11 cs=cs:=List.take_of_length_le Z;have bb:List.drop 11 gl=[]:=List.drop_of_length_le Z;simp-implicitDefEqProofs(disch:=try exact ag) only[yU,pS,D0,oR,oS,oT,o8,reduceAdd,reduceLeDiff,reduceIte,az,cn,eK,hlen,dL,List.append_nil,bC,bb];have fp:=bM.de (.inr (bL _)) (.row false 11 [cs]);refine a8.2 ⟨fp,bt.mut fp ?_,he.bo (e_.set _ Z λl h=>by unfold bG;omega) e _⟩;unfold c1 at cp ⊢;rw[J.get_set_other Z];exact cp
theorem QS{N B:Nat}(aT: ∀k,k<B->sF k){H0:J}{r:Nat}{T:List Tok}{aj:I}{s0:aw}(bt:c8 H0 r T aj s0){lev:Nat}(o3:lev<5){b3:Nat}(ae:H0.next<b3):
  ∀(n m:Nat),n<=B->n<m-> ∀(H:J) (s:aw) (e:bh) (cs gl:List I),cB r H0 H->c1 H r aj s->H.get H0.next=some (.row false 11 [gl])->gl.length=11->H.get b3=some (.row false 11 [cs])->
   ec H (λl=>H0.next<l/\l≠b3) e (.agg cs)-> ∀(cC:bh) (s':aw),om T n lev e s=some (cC,s')->
   W (yV (au P ao) N m (.ptr r 0 0) (.int .i64 lev) (.ptr H0.next 0 0) (.ptr b3 0 0) H) (g7 H0 r T aj cC s')
 |0,m,dX,hm,H,s,e,cs,gl,bM,cp,cn,ct,eK,he,cC,s',h=>by simp[om] at h
 |n+1,0,dX,hm,H,s,e,cs,gl,bM,cp,cn,ct,eK,he,cC,s',h=>Z
 |n+1,m+1,dX,hm,H,s,e,cs,gl,bM,cp,cn,ct,eK,he,cC,s',h=>by
  have ax:=bt.rd.lt;have af:=bt.mut bM cp;have CY:=J.aW eK;obtain⟨uz,iZ,hlen,dL⟩:=he.cells;cases iZ;have bC:List.take 11 cs=cs:=List.take_of_length_le Z;have bb:List.drop 11 cs=[]:=List.drop_of_length_le Z;have df:=bt.b9.one;simp only[om] at h;simp only[yV];rw[D0];refine aY (tB cp) ?_;rintro _ H1 ⟨rfl,rfl⟩;refine⟨bL _,?_⟩;cases j4:s.aA==0 with
  |false=>
   simp only[j4,Bool.false_and,bi,bD,dz] at h;obtain⟨rfl,rfl⟩:=h;simp-implicitDefEqProofs(disch:=try exact ag) only[pS,oR,oS,oT,o8,reduceAdd,reduceLeDiff,reduceIte,az];exact RY bt bM cp cn ct eK ae he
  |true=>
   simp only[j4,Bool.true_and] at h;simp-implicitDefEqProofs(disch:=try exact ag) only[pS,oR,oS,oT,o8,reduceAdd,reduceLeDiff,reduceIte,az];refine hh (nZ cp af.b9) ?_;rintro _ H1 ⟨rfl,aU⟩;refine⟨aU.1,?_⟩;simp-implicitDefEqProofs(disch:=try exact ag) only[pS,oR,oS,oT,o8,reduceAdd,reduceLeDiff,reduceIte,az];refine hh (Qm lev o3 (aq T s.at_)) ?_;rintro _ bl ⟨rfl,aJ⟩;refine⟨aJ.1,?_⟩;have bz:=aU.trans aJ;cases ah:jk lev (aq T s.at_) != 0 with
   |false=>
    simp only[ah,bi,bD,dz] at h;obtain⟨rfl,rfl⟩:=h;simp-implicitDefEqProofs(disch:=try exact ag) only[pS,oR,oS,oT,o8,reduceAdd,reduceLeDiff,reduceIte,az,ah];exact RY bt (bM.trans (bz.mut _)) (cp.aK bz) (bz.get cn) ct (bz.get eK) ae (he.bo (e_.aK bz λ_ h=>h) e _)
   |true=>
    simp only[ah,bx,eT] at h;obtain⟨⟨aI,s1⟩,U,aa⟩:=h;simp-implicitDefEqProofs(disch:=try exact ag) only[pS,oR,oS,oT,o8,reduceAdd,reduceLeDiff,reduceIte,az,ah];refine aY (nZ (cp.aK bz) (af.b9.aK bz)) ?_;rintro _ cu ⟨rfl,bK⟩;refine⟨bK.1,?_⟩;have cO:=(bz.trans bK).bV (.row false 4 [[.int .i64 (aq T s.at_).kind,.str (aq T s.at_).text,.int .i64 (aq T s.at_).n,.int .i64 (aq T s.at_).pos]]);have oI:=J.ca cu (.row false 4 [[.int .i64 (aq T s.at_).kind,.str (aq T s.at_).text,.int .i64 (aq T s.at_).n,.int .i64 (aq T s.at_).pos]]);have zT:=cp.aK (bz.trans bK);have anZ:=cp.aK cO;have cJ:=zT;unfold c1 at cJ
    have h0:=zT.lt;obtain⟨m6,Ni⟩:=hT anZ (aE s);have hw:IntKind.i64.wrap ((lev:Int)+1)=((lev+1:Nat):Int):=by rw[wrap_i64 Z Z];simp
    simp-implicitDefEqProofs(disch:=try exact ag) only[pS,oR,oS,oT,o8,reduceAdd,reduceLeDiff,reduceIte,az,Tok.v,cJ,df,hw];have FF:=(bM.trans (cO.mut _)).trans m6;have hC:=bt.mut FF Ni;refine aY (aT n Z hC (lev+1) Z aI s1 U) ?_;rintro v fY ⟨m7,oJ,q5⟩;refine⟨m7.1,?_⟩;have ank:=m6.get (cO.get eK) Z;have zP:=m7.get ank Z;have aq1:=J.aW zP;have tb:=m6.get oI (by have:=J.aW zT;omega);have tc:=m7.get tb (by have:=J.aW zT;omega);have Xi:=J.aW tc;have q6:=m7.1;have ya:=cO.1;simp only[J.e9,J.b6] at q6 ya q5;obtain⟨bU,rfl,l_,lF⟩:=q5.cells;have Nz:List.take 11 bU=bU:=List.take_of_length_le Z;simp-implicitDefEqProofs(disch:=try exact ag) only[pS,oR,oS,oT,o8,reduceAdd,reduceLeDiff,reduceIte,az,l_,lF,List.append_nil,tc]
    have je:=aR.push fY (.row false 11 [bU]);refine aY (Qm (H:=fY.push (.row false 11 [bU])) lev o3 (aq T s.at_)) ?_;rintro _ gK ⟨rfl,mA⟩;refine⟨mA.1,?_⟩;have yg:=je.trans mA;have YR:=mA.get (J.ca fY (.row false 11 [bU]));have Ew:=yg.get zP;have td:=yg.get tc;have apl:=J.aW YR;have aq2:=J.aW Ew;have Xj:=J.aW td;have aO: ∀l,dH P l 96 2 [(0,.agg cs),(1,.agg bU)]=some (.aM l 0 2 11 (some 2),.row false 11 [cs,bU]):=λl=>B9 l cs bU hlen dL l_ lF
    have apx:=he.same;have anY:=q5.same;have Nw:cd (some (.agg [.int .i64 (aq T s.at_).kind,.str (aq T s.at_).text,.int .i64 (aq T s.at_).n,.int .i64 (aq T s.at_).pos])) (.agg [.int .i64 (aq T s.at_).kind,.str (aq T s.at_).text,.int .i64 (aq T s.at_).n,.int .i64 (aq T s.at_).pos])=true:=by simp[cd,I.beq,jA.beq]
    have HG:=je.get zP;have sd:=je.get tc;simp-implicitDefEqProofs(disch:=try exact ag) only[oR,oS,oT,o8,reduceAdd,reduceLeDiff,reduceIte,az,Ew,YR,td,bC,Nz,bb,aO,apx,anY,Nw,HG,sd,Bool.and_true,Bool.and_self];rw[pS];have ap3:=((FF.trans m7).trans (yg.mut _));have MC:cB r H0 ((gK.push (.row false 11 [cs,bU])).set b3 (.row false 11 [[.int .i64 (jk lev (aq T s.at_)),.int .i64 0,.str [],.str [],.int .i64 0,.aM gK.next 0 2 11 (some 2),.int .i64 (aq T s.at_).pos,.int .i64 0,.int .i64 0,.int .i64 0,.int .i64 0]])):=(ap3.bV _).de (.inr (Nat.le_of_lt ae)) _;have lv: ∀k,k<gK.next->k≠b3->((gK.push (.row false 11 [cs,bU])).set b3 (.row false 11 [[.int .i64 (jk lev (aq T s.at_)),.int .i64 0,.str [],.str [],.int .i64 0,.aM gK.next 0 2 11 (some 2),.int .i64 (aq T s.at_).pos,.int .i64 0,.int .i64 0,.int .i64 0,.int .i64 0]])).get k=gK.get k:=λk ah eZ=>by
     rw[J.get_set_other Z,J.gy Z]
    have W8:=yg.get (m7.get (m6.get (cO.get cn) Z) Z);have aqY:=J.aW W8;have Mu:=oJ.rd.aK yg;have aq3:=Mu.lt;have arG:=yg.1;refine QS aT bt o3 ae n m Z Z _ s1 _ (fm.cells {kind:=jk lev (aq T s.at_),pos:=(aq T s.at_).pos} (.aM gK.next 0 2 11 (some 2))) gl MC ?_ ?_ ct (J.get_set_same (by simp only[J.b6];omega)) ?_ cC s' aa
    ·unfold c1 at Mu ⊢;rw[lv r Z Z];exact Mu
    ·rw[lv _ Z Z];exact W8
    ·rw[lA];have r9:ec gK (λl=>H0.next<l/\l≠b3) e (.agg cs):=he.mut (((cO.mut _).trans m6).trans m7|>.trans (yg.mut _)) Z λ_ h=>h
     refine⟨_,rfl,dO.B_ (ro:=false) ?_ ⟨Z,Z⟩ (r9.bo (λl ro els dF aX=>⟨dF,by rw[lv l (J.aW aX) dF.2];exact aX⟩) e _) (q5.bo (λl ro els dF aX=> ?_) aI _)⟩
     ·rw[J.get_set_other Z];exact J.ca _ _
     ·unfold bG at dF;have YW:=yg.get aX;exact⟨⟨Z,Z⟩,by rw[lv l (J.aW YW) Z];exact YW⟩
theorem adC{n:Nat}(AB: ∀k,k<=n->sF k)(C5:KC n):sF (n+1):=by
 intro H r T aj s af lev hle e s' h;refine cU (λ_=>aiQ (n+2)) ?_;have ax:=af.rd.lt;have aU:=aR.push H (.row false 11 [[.int .i64 0,.int .i64 0,.str [],.str [],.int .i64 0,.an,.int .i64 0,.int .i64 0,.int .i64 0,.int .i64 0,.int .i64 0]]);simp only[im] at h;by_cases aB:lev=5
 ·rw[if_pos aB] at h;have Ao:((lev:Int)==5)=true:=by simp;omega
  simp-implicitDefEqProofs(disch:=try exact ag) only[pS,oR,oS,oT,o8,reduceAdd,reduceLeDiff,reduceIte,az,Ao];refine aY (C5 (af.aK aU) e s' h) ?_;rintro v bl ⟨m2,cK,fQ⟩;refine⟨m2.1,?_⟩;have cn:=m2.get (J.ca H (.row false 11 [[.int .i64 0,.int .i64 0,.str [],.str [],.int .i64 0,.an,.int .i64 0,.int .i64 0,.int .i64 0,.int .i64 0,.int .i64 0]])) Z;have io:=J.aW cn;obtain⟨cs,rfl,hlen,dL⟩:=fQ.cells;have bC:List.take 11 cs=cs:=List.take_of_length_le Z;simp-implicitDefEqProofs(disch:=try exact ag) only[pS,oR,oS,oT,o8,reduceAdd,reduceLeDiff,reduceIte,az,cn,hlen,dL,List.append_nil,bC];exact a8.2 (g7.ret af ((aU.mut _).trans m2) cK.rd (bL _) fQ (Nat.lt_succ_self _) _)
 ·rw[if_neg aB,eT] at h;obtain⟨⟨aI,s1⟩,U,aa⟩:=h;have Ao:((lev:Int)==5)=false:=by simp;omega
  have hw:IntKind.i64.wrap ((lev:Int)+1)=((lev+1:Nat):Int):=by rw[wrap_i64 Z Z];simp
  simp-implicitDefEqProofs(disch:=try exact ag) only[pS,oR,oS,oT,o8,reduceAdd,reduceLeDiff,reduceIte,az,Ao,hw];refine aY (AB n (bL _) (af.aK aU) (lev+1) Z aI s1 U) ?_;rintro v bl ⟨m2,cK,fQ⟩;refine⟨m2.1,?_⟩;have cn:=m2.get (J.ca H (.row false 11 [[.int .i64 0,.int .i64 0,.str [],.str [],.int .i64 0,.an,.int .i64 0,.int .i64 0,.int .i64 0,.int .i64 0,.int .i64 0]])) Z;have hj:=m2.1;simp only[J.b6] at hj;obtain⟨cs,rfl,hlen,dL⟩:=fQ.cells;simp-implicitDefEqProofs(disch:=try exact ag) only[oT,oS,oR,reduceAdd,reduceLeDiff,reduceIte,az,hlen,dL,List.append_nil];have bz:=aR.push bl (.row false 11 [cs]);refine QS (N:=n+2) (B:=n) (λk ah=>AB k Z) af Z (b3:=bl.next) Z n (n+2) Z Z _ s1 aI cs _ (((aU.mut _).trans m2).trans (bz.mut _)) (cK.rd.aK bz) (bz.get cn) rfl (J.ca _ _) ?_ e s' aa
  exact fQ.bo (λl ro els dF aX=>by
   have:=J.aW aX;unfold bG at dF;simp only[J.b6] at dF;exact⟨⟨Z,Z⟩,bz.get aX⟩) aI _
end
section
theorem abh{n:Nat}(aT:D3 n){H0 H:J}{r:Nat}{T:List Tok}{aj:I}{s:aw}(bt:c8 H0 r T aj s)(eh:aR H0 H)(ay:H.get H0.next=some (.row false 11 [[.int .i64 0,.int .i64 0,.str [],.str [],.int .i64 0,.an,.int .i64 0,.int .i64 0,.int .i64 0,.int .i64 0,.int .i64 0]])){b:Nat}(kk:H0.next<b)(bg:H.get b=some (.row false 4 [[.int .i64 (aq T s.at_).kind,.str (aq T s.at_).text,.int .i64 (aq T s.at_).n,.int .i64 (aq T s.at_).pos]])){cC:bh}{s':aw}(h:(bif b2 T (da T s).2 [40] then(mJ T n (da T s).2).bind λp=>some (.mk {kind:=7,name:=(da T s).1,pos:=(aq T s.at_).pos} p.1,p.2) else some (.mk {kind:=4,name:=(da T s).1,pos:=(aq T s.at_).pos} [],(da T s).2))=some (cC,s')):
  W (tJ (au P ao) (.ptr r 0 0) (.ptr H0.next 0 0) (.ptr b 0 0) H) (g7 H0 r T aj cC s'):=by
 have ax:=bt.rd.lt;have df:=bt.b9.one;have af:=bt.aK eh;have hle:=eh.1;have wj:=J.aW bg;have io:=J.aW ay;rw[tJ];refine aY (wK af) ?_;rintro _ H1 ⟨rfl,m1,dt⟩;refine⟨m1.1,?_⟩;have dS:=m1.get ay Z;have q7:=m1.get bg Z;simp-implicitDefEqProofs(disch:=try exact ag) only[k7,k8,k9,k_,la,kU,kt,kV,ku,kW,kx,kX,ky,kY,kz,kZ,kA,kB,k0,kC,k1,kD,kE,ka,kb,kd,ke,kf,k2,k3,k4,k5,kJ,reduceAdd,reduceLeDiff,reduceIte,az];refine aY (gI dt.rd dt.b9 [40] (by simp)) ?_;rintro _ bl ⟨rfl,aJ⟩;refine⟨aJ.1,?_⟩;have cn:=aJ.get dS;have kQ:=aJ.get q7;have vM:=J.aW cn;have Mr:=J.aW kQ;have cK:=dt.aK aJ;have bM:=((eh.mut (· =r)).trans m1).trans (aJ.mut _)
 cases be:b2 T (da T s).2 [40] with
 |false=>
  simp only[be,bi,bD,dz] at h;obtain⟨rfl,rfl⟩:=h;simp-implicitDefEqProofs(disch:=try exact ag) only[k7,k8,k9,k_,la,kU,kt,kV,ku,kW,kx,kX,ky,kY,kz,kZ,kA,kB,k0,kC,k1,kD,kE,ka,kb,kd,ke,kf,k2,k3,k4,k5,kJ,reduceAdd,reduceLeDiff,reduceIte,az,Bool.not_false,cn,kQ];exact a8.2 (g7.box (a:={kind:=4,name:=(da T s).1,pos:=(aq T s.at_).pos}) (kv:= .an) (lo:=H0.next+1) bt bM cK.rd (bL _) (Nat.lt_succ_self _) (dO.nil _ _) _)
 |true=>
  simp only[be,bx,eT] at h;obtain⟨⟨eI,s1⟩,U,aa⟩:=h;simp only[bD,dz] at aa;obtain⟨rfl,rfl⟩:=aa;simp-implicitDefEqProofs(disch:=try exact ag) only[k7,k8,k9,k_,la,kU,kt,kV,ku,kW,kx,kX,ky,kY,kz,kZ,kA,kB,k0,kC,k1,kD,kE,ka,kb,kd,ke,kf,k2,k3,k4,k5,kJ,reduceAdd,reduceLeDiff,reduceIte,az,Bool.not_true];refine aY (aT cK eI s1 U) ?_;rintro v cQ ⟨m3,eY,Fg⟩;refine⟨m3.1,?_⟩;have eK:=m3.get cn Z;have ta:=m3.get kQ Z;have Xh:=J.aW eK;have aq6:=J.aW ta;have bw:v= .an\/ ∃l i n cap,v= .aM l i n 11 cap:=by
   rcases Fg with⟨h,_⟩|⟨l,i,cap,ro,els,h,_⟩|⟨l,i,cap,h,_⟩
   ·exact .inl h
   ·exact .inr ⟨_,_,_,_,h⟩
   ·exact .inr ⟨_,_,_,_,h⟩
  rcases bw with rfl|⟨l,i,k,cap,rfl⟩
  ·simp-implicitDefEqProofs(disch:=try exact ag) only[k7,k8,k9,k_,la,kU,kt,kV,ku,kW,kx,kX,ky,kY,kz,kZ,kA,kB,k0,kC,k1,kD,kE,ka,kb,kd,ke,kf,k2,k3,k4,k5,kJ,reduceAdd,reduceLeDiff,reduceIte,az,eK,ta,kQ];exact a8.2 (g7.box (a:={kind:=7,name:=(da T s).1,pos:=(aq T s.at_).pos}) (kv:= .an) (lo:=bl.next) bt (bM.trans m3) eY.rd (bL _) Z Fg _)
  ·simp-implicitDefEqProofs(disch:=try exact ag) only[k7,k8,k9,k_,la,kU,kt,kV,ku,kW,kx,kX,ky,kY,kz,kZ,kA,kB,k0,kC,k1,kD,kE,ka,kb,kd,ke,kf,k2,k3,k4,k5,kJ,reduceAdd,reduceLeDiff,reduceIte,az,eK,ta,kQ];exact a8.2 (g7.box (a:={kind:=7,name:=(da T s).1,pos:=(aq T s.at_).pos}) (kv:= .aM l i k 11 cap) (lo:=bl.next) bt (bM.trans m3) eY.rd (bL _) Z Fg _)
theorem adH{H0 H:J}{r:Nat}{T:List Tok}{aj:I}{s:aw}(bt:c8 H0 r T aj s)(eh:aR H0 H)(ay:H.get H0.next=some (.row false 11 [[.int .i64 0,.int .i64 0,.str [],.str [],.int .i64 0,.an,.int .i64 0,.int .i64 0,.int .i64 0,.int .i64 0,.int .i64 0]])){b:Nat}(kk:H0.next<b)(bg:H.get b=some (.row false 4 [[.int .i64 (aq T s.at_).kind,.str (aq T s.at_).text,.int .i64 (aq T s.at_).n,.int .i64 (aq T s.at_).pos]])){cC:bh}{s':aw}(h:some (bh.mk {kind:=1,n:=(aq T s.at_).n,pos:=(aq T s.at_).pos} [],aE s)=some (cC,s')):
  W (k7 (.ptr r 0 0) H (.ptr b 0 0) (.ptr H0.next 0 0)) (g7 H0 r T aj cC s'):=by
 have ax:=bt.rd.lt;have df:=bt.b9.one;have af:=bt.aK eh;have hle:=eh.1;have wj:=J.aW bg;have io:=J.aW ay;have cJ:=af.rd;have fH:=cJ;unfold c1 at fH;have h0:=cJ.lt;obtain⟨m1,mR⟩:=hT cJ (aE s);have lX:=(eh.mut (· =r)).trans m1;have dt:=bt.mut lX mR;have dS:=m1.get ay Z;have q7:=m1.get bg Z;simp only[bD,dz] at h;obtain⟨rfl,rfl⟩:=h;simp-implicitDefEqProofs(disch:=try exact ag) only[k7,k8,k9,k_,la,kU,kt,kV,ku,kW,kx,kX,ky,kY,kz,kZ,kA,kB,k0,kC,k1,kD,kE,ka,kb,kd,ke,kf,k2,k3,k4,k5,kJ,reduceAdd,reduceLeDiff,reduceIte,az,fH,df,ay,bg];exact a8.2 (g7.box (a:={kind:=1,n:=(aq T s.at_).n,pos:=(aq T s.at_).pos}) (kv:= .an) (lo:=H0.next+1) bt lX mR (bL _) (Nat.lt_succ_self _) (dO.nil _ _) _)
theorem Qg{H0 H:J}{r:Nat}{T:List Tok}{aj:I}{s:aw}(bt:c8 H0 r T aj s)(eh:aR H0 H)(ay:H.get H0.next=some (.row false 11 [[.int .i64 0,.int .i64 0,.str [],.str [],.int .i64 0,.an,.int .i64 0,.int .i64 0,.int .i64 0,.int .i64 0,.int .i64 0]])){b:Nat}(kk:H0.next<b)(bg:H.get b=some (.row false 4 [[.int .i64 (aq T s.at_).kind,.str (aq T s.at_).text,.int .i64 (aq T s.at_).n,.int .i64 (aq T s.at_).pos]])){cC:bh}{s':aw}(h:some (bh.mk {kind:=2,n:=bif (aq T s.at_).text==[116,114,117,101] then 1 else 0,pos:=(aq T s.at_).pos} [],aE s)=some (cC,s')):
  W (k8 (au P ao) (.ptr r 0 0) H (.ptr b 0 0) (.ptr H0.next 0 0)) (g7 H0 r T aj cC s'):=by
 have ax:=bt.rd.lt;have df:=bt.b9.one;have af:=bt.aK eh;have hle:=eh.1;have wj:=J.aW bg;have io:=J.aW ay;have cJ:=af.rd;have fH:=cJ;unfold c1 at fH;have h0:=cJ.lt;obtain⟨m1,mR⟩:=hT cJ (aE s);have lX:=(eh.mut (· =r)).trans m1;have dt:=bt.mut lX mR;have dS:=m1.get ay Z;have q7:=m1.get bg Z;simp only[bD,dz] at h;obtain⟨rfl,rfl⟩:=h;cases bC:(aq T s.at_).text==[116,114,117,101] with
 |true=>
  simp-implicitDefEqProofs(disch:=try exact ag) only[k7,y2,k8,k9,k_,la,kU,kt,kV,ku,kW,kx,kX,ky,kY,kz,kZ,kA,kB,k0,kC,k1,kD,kE,ka,kb,kd,ke,kf,k2,k3,k4,k5,kJ,reduceAdd,reduceLeDiff,reduceIte,az,fH,df,ay,bg,bC];exact a8.2 (g7.box (a:={kind:=2,n:=1,pos:=(aq T s.at_).pos}) (kv:= .an) (lo:=H0.next+1) bt lX mR (bL _) (Nat.lt_succ_self _) (dO.nil _ _) _)
 |false=>
  simp-implicitDefEqProofs(disch:=try exact ag) only[k7,y2,k8,k9,k_,la,kU,kt,kV,ku,kW,kx,kX,ky,kY,kz,kZ,kA,kB,k0,kC,k1,kD,kE,ka,kb,kd,ke,kf,k2,k3,k4,k5,kJ,reduceAdd,reduceLeDiff,reduceIte,az,fH,df,ay,bg,bC];exact a8.2 (g7.box (a:={kind:=2,n:=0,pos:=(aq T s.at_).pos}) (kv:= .an) (lo:=H0.next+1) bt lX mR (bL _) (Nat.lt_succ_self _) (dO.nil _ _) _)
theorem ab5{H0 H:J}{r:Nat}{T:List Tok}{aj:I}{s:aw}(bt:c8 H0 r T aj s)(eh:aR H0 H)(ay:H.get H0.next=some (.row false 11 [[.int .i64 0,.int .i64 0,.str [],.str [],.int .i64 0,.an,.int .i64 0,.int .i64 0,.int .i64 0,.int .i64 0,.int .i64 0]])){b:Nat}(kk:H0.next<b)(bg:H.get b=some (.row false 4 [[.int .i64 (aq T s.at_).kind,.str (aq T s.at_).text,.int .i64 (aq T s.at_).n,.int .i64 (aq T s.at_).pos]])){cC:bh}{s':aw}(h:some (bh.mk {kind:=3,eQ:=(e5 T (aE s)).1.1,fS:=(e5 T (aE s)).1.2,pos:=(aq T s.at_).pos} [],(e5 T (aE s)).2)=some (cC,s')):
  W (k9 (au P ao) (.ptr r 0 0) H (.ptr b 0 0) (.ptr H0.next 0 0)) (g7 H0 r T aj cC s'):=by
 have ax:=bt.rd.lt;have df:=bt.b9.one;have af:=bt.aK eh;have hle:=eh.1;have wj:=J.aW bg;have io:=J.aW ay;have cJ:=af.rd;have fH:=cJ;unfold c1 at fH;have h0:=cJ.lt;obtain⟨m1,mR⟩:=hT cJ (aE s);have lX:=(eh.mut (· =r)).trans m1;have dt:=bt.mut lX mR;have dS:=m1.get ay Z;have q7:=m1.get bg Z;simp only[bD,dz] at h;obtain⟨rfl,rfl⟩:=h;simp-implicitDefEqProofs(disch:=try exact ag) only[k7,k8,k9,k_,la,kU,kt,kV,ku,kW,kx,kX,ky,kY,kz,kZ,kA,kB,k0,kC,k1,kD,kE,ka,kb,kd,ke,kf,k2,k3,k4,k5,kJ,reduceAdd,reduceLeDiff,reduceIte,az,fH,df];refine aY (DS dt) ?_;rintro _ bl ⟨rfl,m2,cK⟩;refine⟨m2.1,?_⟩;have cn:=m2.get dS Z
 have kQ:=m2.get q7 Z;have vM:=J.aW cn;have Mr:=J.aW kQ;simp-implicitDefEqProofs(disch:=try exact ag) only[k7,k8,k9,k_,la,kU,kt,kV,ku,kW,kx,kX,ky,kY,kz,kZ,kA,kB,k0,kC,k1,kD,kE,ka,kb,kd,ke,kf,k2,k3,k4,k5,kJ,reduceAdd,reduceLeDiff,reduceIte,az,cn,kQ,bg];exact a8.2 (g7.box (a:={kind:=3,eQ:=(e5 T (aE s)).1.1,fS:=(e5 T (aE s)).1.2,pos:=(aq T s.at_).pos}) (kv:= .an) (lo:=H0.next+1) bt (lX.trans m2) cK.rd (bL _) (Nat.lt_succ_self _) (dO.nil _ _) _)
theorem adG{n:Nat}(aT:DN n){H0 H:J}{r:Nat}{T:List Tok}{aj:I}{s:aw}(bt:c8 H0 r T aj s)(eh:aR H0 H)(ay:H.get H0.next=some (.row false 11 [[.int .i64 0,.int .i64 0,.str [],.str [],.int .i64 0,.an,.int .i64 0,.int .i64 0,.int .i64 0,.int .i64 0,.int .i64 0]])){b:Nat}(kk:H0.next<b)(bg:H.get b=some (.row false 4 [[.int .i64 (aq T s.at_).kind,.str (aq T s.at_).text,.int .i64 (aq T s.at_).n,.int .i64 (aq T s.at_).pos]])){cC:bh}{s':aw}(h:pP T n (aq T s.at_).pos (aE s)=some (cC,s')):
  W (k_ (au P ao) (.ptr r 0 0) H (.ptr b 0 0) (.ptr H0.next 0 0)) (g7 H0 r T aj cC s'):=by
 have ax:=bt.rd.lt;have df:=bt.b9.one;have af:=bt.aK eh;have hle:=eh.1;have wj:=J.aW bg;have io:=J.aW ay;have cJ:=af.rd;have fH:=cJ;unfold c1 at fH;have h0:=cJ.lt;obtain⟨m1,mR⟩:=hT cJ (aE s);have lX:=(eh.mut (· =r)).trans m1;have dt:=bt.mut lX mR;have dS:=m1.get ay Z;have q7:=m1.get bg Z;simp-implicitDefEqProofs(disch:=try exact ag) only[k7,k8,k9,k_,la,kU,kt,kV,ku,kW,kx,kX,ky,kY,kz,kZ,kA,kB,k0,kC,k1,kD,kE,ka,kb,kd,ke,kf,k2,k3,k4,k5,kJ,reduceAdd,reduceLeDiff,reduceIte,az,fH,df,bg];refine aY (aT dt _ cC s' h) ?_;rintro v bl ⟨m2,cK,fQ⟩;refine⟨m2.1,?_⟩;have cn:=m2.get dS Z;have vM:=J.aW cn;have sa:=m1.1
 obtain⟨cs,rfl,hlen,dL⟩:=fQ.cells;have bC:List.take 11 cs=cs:=List.take_of_length_le Z;simp-implicitDefEqProofs(disch:=try exact ag) only[k7,k8,k9,k_,la,kU,kt,kV,ku,kW,kx,kX,ky,kY,kz,kZ,kA,kB,k0,kC,k1,kD,kE,ka,kb,kd,ke,kf,k2,k3,k4,k5,kJ,reduceAdd,reduceLeDiff,reduceIte,az,cn,hlen,dL,List.append_nil,bC];exact a8.2 (g7.ret bt (lX.trans m2) cK.rd (bL _) fQ Z _)
theorem first_par{n:Nat}(aT:yO n){H0 H:J}{r:Nat}{T:List Tok}{aj:I}{s:aw}(bt:c8 H0 r T aj s)(eh:aR H0 H)(ay:H.get H0.next=some (.row false 11 [[.int .i64 0,.int .i64 0,.str [],.str [],.int .i64 0,.an,.int .i64 0,.int .i64 0,.int .i64 0,.int .i64 0,.int .i64 0]])){b:Nat}(kk:H0.next<b)(bg:H.get b=some (.row false 4 [[.int .i64 (aq T s.at_).kind,.str (aq T s.at_).text,.int .i64 (aq T s.at_).n,.int .i64 (aq T s.at_).pos]])){cC:bh}{s':aw}(h:ld T n s=some (cC,s')):
  W (kt (au P ao) H (.ptr r 0 0) (.ptr H0.next 0 0)) (g7 H0 r T aj cC s'):=by
 have ax:=bt.rd.lt;have df:=bt.b9.one;have af:=bt.aK eh;have hle:=eh.1;have wj:=J.aW bg;have io:=J.aW ay;have lX:=eh.mut (· =r);have m1:=dE.refl (· =r) H;have dS:=ay;rw[kt];refine aY (aT af cC s' h) ?_;rintro v bl ⟨m2,cK,fQ⟩;refine⟨m2.1,?_⟩;have cn:=m2.get dS Z;have vM:=J.aW cn;have sa:=m1.1;obtain⟨cs,rfl,hlen,dL⟩:=fQ.cells;have bC:List.take 11 cs=cs:=List.take_of_length_le Z;simp-implicitDefEqProofs(disch:=try exact ag) only[k7,k8,k9,k_,la,kU,kt,kV,ku,kW,kx,kX,ky,kY,kz,kZ,kA,kB,k0,kC,k1,kD,kE,ka,kb,kd,ke,kf,k2,k3,k4,k5,kJ,reduceAdd,reduceLeDiff,reduceIte,az,cn,hlen,dL,List.append_nil,bC];exact a8.2 (g7.ret bt (lX.trans m2) cK.rd (bL _) fQ Z _)
theorem ab6{H0 H:J}{r:Nat}{T:List Tok}{aj:I}{s:aw}(bt:c8 H0 r T aj s)(eh:aR H0 H)(ay:H.get H0.next=some (.row false 11 [[.int .i64 0,.int .i64 0,.str [],.str [],.int .i64 0,.an,.int .i64 0,.int .i64 0,.int .i64 0,.int .i64 0,.int .i64 0]])){b:Nat}(kk:H0.next<b)(bg:H.get b=some (.row false 4 [[.int .i64 (aq T s.at_).kind,.str (aq T s.at_).text,.int .i64 (aq T s.at_).n,.int .i64 (aq T s.at_).pos]])){cC:bh}{s':aw}(h:some (bh.mk {kind:=11,pos:=(aq T s.at_).pos} [],f0 T [41] (eE T [40] (aE s)))=some (cC,s')):
  W (kU (au P ao) (.ptr r 0 0) H (.ptr b 0 0) (.ptr H0.next 0 0)) (g7 H0 r T aj cC s'):=by
 have ax:=bt.rd.lt;have df:=bt.b9.one;have af:=bt.aK eh;have hle:=eh.1;have wj:=J.aW bg;have io:=J.aW ay;have cJ:=af.rd;have fH:=cJ;unfold c1 at fH;have h0:=cJ.lt;obtain⟨m1,mR⟩:=hT cJ (aE s);have lX:=(eh.mut (· =r)).trans m1;have dt:=bt.mut lX mR;have dS:=m1.get ay Z;have q7:=m1.get bg Z;simp only[bD,dz] at h;obtain⟨rfl,rfl⟩:=h;simp-implicitDefEqProofs(disch:=try exact ag) only[k7,k8,k9,k_,la,kU,kt,kV,ku,kW,kx,kX,ky,kY,kz,kZ,kA,kB,k0,kC,k1,kD,kE,ka,kb,kd,ke,kf,k2,k3,k4,k5,kJ,reduceAdd,reduceLeDiff,reduceIte,az,fH,df];refine aY (Bk dt [40] (by simp)) ?_;rintro _ bl ⟨rfl,m2,cK⟩;refine⟨m2.1,?_⟩;simp-implicitDefEqProofs(disch:=try exact ag) only[k7,k8,k9,k_,la,kU,kt,kV,ku,kW,kx,kX,ky,kY,kz,kZ,kA,kB,k0,kC,k1,kD,kE,ka,kb,kd,ke,kf,k2,k3,k4,k5,kJ,reduceAdd,reduceLeDiff,reduceIte,az]
 refine aY (Bc cK [41] (by simp)) ?_;rintro _ cQ ⟨rfl,m3,eY⟩;refine⟨m3.1,?_⟩;have cn:=m3.get (m2.get dS Z) Z;have kQ:=m3.get (m2.get q7 Z) Z;have vM:=J.aW cn;have Mr:=J.aW kQ;simp-implicitDefEqProofs(disch:=try exact ag) only[k7,k8,k9,k_,la,kU,kt,kV,ku,kW,kx,kX,ky,kY,kz,kZ,kA,kB,k0,kC,k1,kD,kE,ka,kb,kd,ke,kf,k2,k3,k4,k5,kJ,reduceAdd,reduceLeDiff,reduceIte,az,cn,kQ];exact a8.2 (g7.box (a:={kind:=11,pos:=(aq T s.at_).pos}) (kv:= .an) (lo:=H0.next+1) bt ((lX.trans m2).trans m3) eY.rd (bL _) (Nat.lt_succ_self _) (dO.nil _ _) _)
theorem adF{n:Nat}(aT:yO n){H0 H:J}{r:Nat}{T:List Tok}{aj:I}{s:aw}(bt:c8 H0 r T aj s)(eh:aR H0 H)(ay:H.get H0.next=some (.row false 11 [[.int .i64 0,.int .i64 0,.str [],.str [],.int .i64 0,.an,.int .i64 0,.int .i64 0,.int .i64 0,.int .i64 0,.int .i64 0]])){b:Nat}(kk:H0.next<b)(bg:H.get b=some (.row false 4 [[.int .i64 (aq T s.at_).kind,.str (aq T s.at_).text,.int .i64 (aq T s.at_).n,.int .i64 (aq T s.at_).pos]])){cC:bh}{s':aw}(h:((ld T n (aE s)).bind λp=>some (bh.mk {kind:=10,pos:=(aq T s.at_).pos} [p.1],p.2))=some (cC,s')):
  W (la (au P ao) (.ptr r 0 0) H (.ptr b 0 0) (.ptr H0.next 0 0)) (g7 H0 r T aj cC s'):=by
 have ax:=bt.rd.lt;have df:=bt.b9.one;have af:=bt.aK eh;have hle:=eh.1;have wj:=J.aW bg;have io:=J.aW ay;have cJ:=af.rd;have fH:=cJ;unfold c1 at fH;have h0:=cJ.lt;obtain⟨m1,mR⟩:=hT cJ (aE s);have lX:=(eh.mut (· =r)).trans m1;have dt:=bt.mut lX mR;have dS:=m1.get ay Z;have q7:=m1.get bg Z;simp only[eT] at h;obtain⟨⟨aI,s1⟩,U,aa⟩:=h;simp only[bD,dz] at aa;obtain⟨rfl,rfl⟩:=aa;simp-implicitDefEqProofs(disch:=try exact ag) only[k7,k8,k9,k_,la,kU,kt,kV,ku,kW,kx,kX,ky,kY,kz,kZ,kA,kB,k0,kC,k1,kD,kE,ka,kb,kd,ke,kf,k2,k3,k4,k5,kJ,reduceAdd,reduceLeDiff,reduceIte,az,fH,df];refine aY (aT dt aI s1 U) ?_;rintro v bl ⟨m2,cK,fQ⟩
 refine⟨m2.1,?_⟩;have cn:=m2.get dS Z;have kQ:=m2.get q7 Z;have vM:=J.aW cn;have Mr:=J.aW kQ;have sa:=m1.1;have hj:=m2.1;obtain⟨cs,rfl,hlen,dL⟩:=fQ.cells;have bC:List.take 11 cs=cs:=List.take_of_length_le Z;have aO: ∀l,dH P l 96 1 [(0,.agg cs)]=some (.aM l 0 1 11 (some 1),.row false 11 [cs]):=λl=>jK l cs hlen dL
 have bM:=lX.trans m2;have mV:=cK.rd;unfold c1 at mV;have cJ:=mV;simp-implicitDefEqProofs(disch:=try exact ag) only[k7,k8,k9,k_,la,kU,kt,kV,ku,kW,kx,kX,ky,kY,kz,kZ,kA,kB,k0,kC,k1,kD,kE,ka,kb,kd,ke,kf,k2,k3,k4,k5,kJ,reduceAdd,reduceLeDiff,reduceIte,az,aO,cn,kQ,bg];refine a8.2 ?_;refine ui.fin (ok:=bG H0.next) (a:={kind:=10,pos:=(aq T s.at_).pos}) (kv:= .aM bl.next 0 1 11 (some 1)) (s':=s1) bt ?_ ?_ (dO.qO (ro:=false) ?_ (by unfold bG;omega) (fQ.new ?_ λl h=>by unfold bG;omega))
 ·(repeat (first|exact bM|refine dE.bV ?_ _|refine dE.de (S:=(· =r)) ?_ (.inl rfl) _|refine dE.de ?_ (.inr (by(first|omega|(simp only[J.b6,J.e9];omega)))) _))
 ·(unfold c1;simp-implicitDefEqProofs(disch:=try exact ag) only[dD,cJ,aE,fU,ig])
 ·simp-implicitDefEqProofs(disch:=try exact ag) only[dD]
 ·exact dE.de (S:=λl=>l<_) ((dE.refl _ _).bV _) (.inl Z) _
theorem ab7{n:Nat}(wo:DN n)(Is:yO n)(NJ:D3 n){H0 H:J}{r:Nat}{T:List Tok}{aj:I}{s:aw}(bt:c8 H0 r T aj s)(eh:aR H0 H)(ay:H.get H0.next=some (.row false 11 [[.int .i64 0,.int .i64 0,.str [],.str [],.int .i64 0,.an,.int .i64 0,.int .i64 0,.int .i64 0,.int .i64 0,.int .i64 0]])){b:Nat}(kk:H0.next<b)(bg:H.get b=some (.row false 4 [[.int .i64 (aq T s.at_).kind,.str (aq T s.at_).text,.int .i64 (aq T s.at_).n,.int .i64 (aq T s.at_).pos]])){cC:bh}{s':aw}(h:(bif b2 T s [110,117,108,108] then some (.mk {kind:=3,eQ:=(e5 T (aE s)).1.1,fS:=(e5 T (aE s)).1.2,pos:=(aq T s.at_).pos} [],(e5 T (aE s)).2) else(bif b2 T s [110,101,119] then pP T n (aq T s.at_).pos (aE s) else(bif b2 T s [108,101,110] then(ld T n (aE s)).bind λp=>some (.mk {kind:=10,pos:=(aq T s.at_).pos} [p.1],p.2) else(bif b2 T s [114,101,97,100] then some (.mk {kind:=11,pos:=(aq T s.at_).pos} [],f0 T [41] (eE T [40] (aE s))) else(bif b2 T s [40] then ld T n s else(bif b2 T (da T s).2 [40] then(mJ T n (da T s).2).bind λp=>some (.mk {kind:=7,name:=(da T s).1,pos:=(aq T s.at_).pos} p.1,p.2) else some (.mk {kind:=4,name:=(da T s).1,pos:=(aq T s.at_).pos} [],(da T s).2)))))))=some (cC,s')):
  W (kB (au P ao) H (.ptr r 0 0) (.ptr b 0 0) (.ptr H0.next 0 0)) (g7 H0 r T aj cC s'):=by
 have af:=bt.aK eh;rw[kB];refine aY (gI (bt.rd.aK eh) (bt.b9.aK eh) [110,117,108,108] (by simp)) ?_;rintro _ ar_ ⟨rfl,A5⟩;refine⟨A5.1,?_⟩;have aU:=eh.trans A5;have dS:=A5.get ay;have q7:=A5.get bg;cases a6:b2 T s [110,117,108,108] with
 |true=>
  simp only[a6,bx] at h;simp-implicitDefEqProofs(disch:=try exact ag) only[kA,ix,bx];exact ab5 bt aU dS kk q7 h
 |false=>
  simp only[a6,bi] at h;simp-implicitDefEqProofs(disch:=try exact ag) only[kA,ix,bi];rw[kZ];refine aY (gI (bt.rd.aK aU) (bt.b9.aK aU) [110,101,119] (by simp)) ?_;rintro _ asa ⟨rfl,cE⟩;refine⟨cE.1,?_⟩;have aJ:=aU.trans cE;have cn:=cE.get dS;have kQ:=cE.get q7;cases U:b2 T s [110,101,119] with
  |true=>
   simp only[U,bx] at h;simp-implicitDefEqProofs(disch:=try exact ag) only[kz,ix,bx];exact adG wo bt aJ cn kk kQ h
  |false=>
   simp only[U,bi] at h;simp-implicitDefEqProofs(disch:=try exact ag) only[kz,ix,bi];rw[kY];refine aY (gI (bt.rd.aK aJ) (bt.b9.aK aJ) [108,101,110] (by simp)) ?_;rintro _ asb ⟨rfl,cx⟩;refine⟨cx.1,?_⟩;have bz:=aJ.trans cx;have eK:=cx.get cn;have ta:=cx.get kQ;cases aa:b2 T s [108,101,110] with
   |true=>
    simp only[aa,bx] at h;simp-implicitDefEqProofs(disch:=try exact ag) only[ky,ix,bx];exact adF Is bt bz eK kk ta h
   |false=>
    simp only[aa,bi] at h;simp-implicitDefEqProofs(disch:=try exact ag) only[ky,ix,bi];rw[kX];refine aY (gI (bt.rd.aK bz) (bt.b9.aK bz) [114,101,97,100] (by simp)) ?_;rintro _ asc ⟨rfl,eM⟩;refine⟨eM.1,?_⟩;have bK:=bz.trans eM;have fV:=eM.get eK;have sc:=eM.get ta;cases ae:b2 T s [114,101,97,100] with
    |true=>
     simp only[ae,bx] at h;simp-implicitDefEqProofs(disch:=try exact ag) only[kx,ix,bx];exact ab6 bt bK fV kk sc h
    |false=>
     simp only[ae,bi] at h;simp-implicitDefEqProofs(disch:=try exact ag) only[kx,ix,bi];rw[kW];refine aY (gI (bt.rd.aK bK) (bt.b9.aK bK) [40] (by simp)) ?_;rintro _ asd ⟨rfl,eB⟩;refine⟨eB.1,?_⟩;have cO:=bK.trans eB;have gu:=eB.get fV;have oI:=eB.get sc;cases al:b2 T s [40] with
     |true=>
      simp only[al,bx] at h;simp-implicitDefEqProofs(disch:=try exact ag) only[ku,ix,bx];exact first_par Is bt cO gu kk oI h
     |false=>
      simp only[al,bi] at h;simp-implicitDefEqProofs(disch:=try exact ag) only[ku,ix,bi];rw[kV];exact abh NJ bt cO gu kk oI h
theorem abi{n:Nat}(wo:DN n)(Is:yO n)(NJ:D3 n):KA (n+1):=by
 intro H r T aj s af e s' h;refine cU (λ_=>ajf 0) ?_;have ax:=af.rd.lt;simp only[l5] at h;have aU:=aR.push H (.row false 11 [[.int .i64 0,.int .i64 0,.str [],.str [],.int .i64 0,.an,.int .i64 0,.int .i64 0,.int .i64 0,.int .i64 0,.int .i64 0]]);simp-implicitDefEqProofs(disch:=try exact ag) only[kJ,k5,reduceAdd,reduceLeDiff,reduceIte,az];refine aY (nZ (af.rd.aK aU) (af.b9.aK aU)) ?_;rintro _ bl ⟨rfl,aJ⟩;refine⟨aJ.1,?_⟩;have cn:=aJ.get (J.ca H _);have lV:=J.aW cn;simp-implicitDefEqProofs(disch:=try exact ag) only[k4,k3,reduceAdd,reduceLeDiff,reduceIte,az,Tok.v];have bz:=aJ.bV (.row false 4 [[.int .i64 (aq T s.at_).kind,.str (aq T s.at_).text,.int .i64 (aq T s.at_).n,.int .i64 (aq T s.at_).pos]])
 have ta:=J.ca bl (.row false 4 [[.int .i64 (aq T s.at_).kind,.str (aq T s.at_).text,.int .i64 (aq T s.at_).n,.int .i64 (aq T s.at_).pos]]);have eK:=bz.get (J.ca H _);have wr:=aU.trans bz;rw[k2];refine aY (tB (af.rd.aK wr)) ?_;rintro _ cu ⟨rfl,rfl⟩;refine⟨bL _,?_⟩;have rest:(s.aA==0&&(aq T s.at_).kind==2)=false->W (kE (au P ao) (bl.push (.row false 4 [[.int .i64 (aq T s.at_).kind,.str (aq T s.at_).text,.int .i64 (aq T s.at_).n,.int .i64 (aq T s.at_).pos]])) (.ptr r 0 0) (.ptr H.next 0 0) (.ptr bl.next 0 0)) (g7 H r T aj e s'):=by
  intro aV;simp only[aV,bi] at h;rw[kE];refine aY (gI (af.rd.aK wr) (af.b9.aK wr) [116,114,117,101] (by simp)) ?_;rintro _ dc ⟨rfl,cO⟩;refine⟨cO.1,?_⟩;have ws:=wr.trans cO;have gu:=cO.get eK;have oI:=cO.get ta;cases U:b2 T s [116,114,117,101] with
  |true=>
   simp only[U,Bool.true_or,bx] at h;simp-implicitDefEqProofs(disch:=try exact ag) only[kD,k0,w6,ix,bx];exact Qg af ws gu Z oI h
  |false=>
   simp only[U,Bool.false_or] at h;simp-implicitDefEqProofs(disch:=try exact ag) only[kD,k1,ix,bi];refine aY (gI (af.rd.aK ws) (af.b9.aK ws) [102,97,108,115,101] (by simp)) ?_;rintro _ fX ⟨rfl,e2⟩;refine⟨e2.1,?_⟩;have Zt:=ws.trans e2;have qk:=e2.get gu;have tb:=e2.get oI;cases aa:b2 T s [102,97,108,115,101] with
   |true=>
    simp only[aa,bx] at h;simp-implicitDefEqProofs(disch:=try exact ag) only[kC,w6,ix,bx];exact Qg af Zt qk Z tb h
   |false=>
    simp only[aa,bi] at h;simp-implicitDefEqProofs(disch:=try exact ag) only[kC,w6,ix,bi];exact ab7 wo Is NJ af Zt qk Z tb h
 cases j4:s.aA==0 with
 |false=>
  simp-implicitDefEqProofs(disch:=try exact ag) only[kf,ke,kd,kb,ka,reduceAdd,reduceLeDiff,reduceIte,az];exact rest (by simp[j4])
 |true=>
  cases ah:(aq T s.at_).kind==2 with
  |true=>
   simp only[j4,ah,Bool.and_self,bx] at h;simp-implicitDefEqProofs(disch:=try exact ag) only[kf,ke,kd,kb,ka,reduceAdd,reduceLeDiff,reduceIte,az,ah];exact adH af wr eK Z ta h
  |false=>
   simp-implicitDefEqProofs(disch:=try exact ag) only[kf,ke,kd,kb,ka,reduceAdd,reduceLeDiff,reduceIte,az,ah];exact rest (by simp[j4,ah])
theorem SI: ∀n,n<=900000000-> ∀k,k<=n->aif k
 |0,_,k,ah=>by
  have:k=0:=Z;subst this;exact⟨λ_ _ _ _ _ h=>by simp[im] at h,λ_ _ _ h=>by simp[pU] at h,λ_ _ _ _ _ _ h=>by simp[jV] at h,λ_ _ _ h=>by simp[ld] at h,λ_ _ _ h=>by simp[l5] at h,
   λ_ _ _ _ h=>by simp[pP] at h,λ_ _ _ h=>by simp[mJ] at h⟩
 |n+1,aV,k,ah=>by
  have aT:=SI n Z;have i:=aT n (bL _);rcases Nat.lt_or_ge k (n+1) with h|h
  ·exact aT k Z
  ·have:k=n+1:=Z;subst this;exact⟨adC (λk ah=>(aT k ah).expr) i.unary,abM (λk ah=>(aT k ah).expr) i.first i.behind,abd λk ah=>(aT k ah).expr,aca i.expr,abi i.fresh i.inner i.args,abk i.inner,adv Z λk ah=>(aT k ah).expr⟩
end
section
set_option maxRecDepth 100000
noncomputable section
def tk(G:av)(Y ai:I)(H:J):O:=
 dA H (eW (H).next Y) λap U=>
 dA U (eW (U).next ai) λaC aa=>
 ab (aF P 103 ap 0) λbf=>
 ab (am P aa 3 bf) λbB=>
 ab (aF P 103 aC 0) λbu=>
 ab (am P aa 3 bu) λbS=>
 ab (aZ P .eql 3 false bB bS) λbF=>
 aD bF true aa (bm (aF P 103 ap 1)) λb8 ae=>
 aD bF true ae (qr (am P ae 3 b8)) λcb al=>
 aD bF true al (bm (aF P 103 aC 1)) λb0 aB=>
 aD bF true aB (qr (am P aB 3 b0)) λbT aG=>
 aD bF true aG (bm (aZ P .eql 3 false cb bT)) λbX aP=>
 ab (cW bF (some bX) (some (.bool false))) λbI=>
 aD bI true aP (bm (aF P 103 ap 2)) λcG bn=>
 aD bI true bn (qr (am P bn 9 cG)) λc6 bH=>
 aD bI true bH (bm (aF P 103 aC 2)) λcN co=>
 aD bI true co (qr (am P co 9 cN)) λcz dp=>
 aD bI true dp (bm (aZ P .eql 9 false c6 cz)) λc7 dR=>
 ab (cW bI (some c7) (some (.bool false))) λcI=>
 aD cI true dR (bm (aF P 103 ap 3)) λdn eF=>
 aD cI true eF (qr (am P eF 43 dn)) λdu fs=>
 aD cI true fs (bm (aF P 103 aC 3)) λdh fP=>
 aD cI true fP (qr (am P fP 43 dh)) λdT gG=>
 aD cI true gG (bm (aZ P .eql 43 false du dT)) λdI hM=>
 ab (cW cI (some dI) (some (.bool false))) λcH=>
 aD cH true hM (bm (aF P 103 ap 6)) λdV ht=>
 aD cH true ht (qr (am P ht 101 dV)) λef kL=>
 aD cH true kL (bm (aF P 103 aC 6)) λe6 iC=>
 aD cH true iC (qr (am P iC 101 e6)) λeg hU=>
 aD cH true hU (bm (aZ P .eql 101 false ef eg)) λej kM=>
 ab (cW cH (some ej) (some (.bool false))) λed=>
 aD ed true kM (bm (aF P 103 ap 7)) λft hB=>
 aD ed true hB (qr (am P hB 3 ft)) λe7 pd=>
 aD ed true pd (bm (aF P 103 aC 7)) λfy lR=>
 aD ed true lR (qr (am P lR 3 fy)) λfW mP=>
 aD ed true mP (bm (aZ P .eql 3 false e7 fW)) λgv qh=>
 ab (cW ed (some gv) (some (.bool false))) λeU=>
 aD eU true qh (bm (aF P 103 ap 4)) λgb lS=>
 aD eU true lS (qr (am P lS 96 gb)) λgS wa=>
 aD eU true wa (bm (aF P 103 aC 4)) λju qi=>
 aD eU true qi (qr (am P qi 96 ju)) λhv mQ=>
 aD eU true mQ (λq=>fo mQ (G 91 [gS,hv,(.func (.func 92) [] [])] mQ) q) λh1 s4=>
 ab (cW eU (some h1) (some (.bool false))) λhV=>
 some (hV,s4)
theorem akN(G:av)(N:Nat)(Y:I)(ai:I)(H:J):bp Tryz.f92 G N (cF [Y,ai]) H=tk G Y ai H:=by
 refine cP (A:=bp Tryz.f92 G N) (aN _) ?_;delta tk;kernel_rfl
theorem amO(N:Nat){Y ai:I}{H:J}{r:I×J}(h:tk (au P ao) Y ai H=some r):au P ao 92 [Y,ai] H=some r:=
 cV ad Tryz.func92 ad ad ad ((akN (au P ao) N Y ai H).trans h)
def rL(G:av)(N:Nat)(H:J):O:=
 some ((.bool true),H)
theorem ae9(G:av)(N:Nat): ∀R H,cA P G N (Code.snd (Code.snd (Code.snd (di Tryz.f91)))) (b_ Tryz.f91) [] (b_ Tryz.f91) R H=rL G N H:=by
 refine ds (aN _) λR H=> ?_
 delta rL;kernel_rfl
def vA(G:av)(N:Nat)(bE:I->I->I->I->I->J->O)(ai ap:I)(bX bI cc:I)(H:J):O:=
 ab (aZ P .lss 3 false cc bI) λcG=>
 bQ (some cG) (ab (en P 96 bX cc) λcN=>
 ab (am P H 103 cN) λcz=>
 cv H [(.int .i64 0),(.int .i64 0),(.str []),(.str []),(.int .i64 0),I.an,(.int .i64 0),(.int .i64 0),(.int .i64 0),(.int .i64 0),(.int .i64 0)] λbS U=>
 a1 U (aQ P U 103 bS cz) λaa=>
 ab (en P 96 ai cc) λdb=>
 ab (am P aa 103 db) λdn=>
 cv aa [(.int .i64 0),(.int .i64 0),(.str []),(.str []),(.int .i64 0),I.an,(.int .i64 0),(.int .i64 0),(.int .i64 0),(.int .i64 0),(.int .i64 0)] λbF ae=>
 a1 ae (aQ P ae 103 bF dn) λal=>
 ab (am P al 103 bS) λdh=>
 ab (am P al 103 bF) λdT=>
 qR G al ap [dh,dT] λdI aB=>
 ab (fh .not dI) λcH=>
 bQ (some cH) (some ((.bool false),aB)) (ab (aZ P .add 3 true cc (.int .i64 1)) λep=>
 bE ai ap bX bI ep aB)) (rL G N H)
def vB(G:av)(N:Nat):Nat->I->I->I->I->I->J->O
 |0,_,_,_,_,_,_=>none
 |n+1,ai,ap,bX,bI,cc,H=>vA G N (vB G N n) ai ap bX bI cc H
theorem ae8(G:av)(N:Nat)(bE:I->I->I->I->I->J->O): ∀R H,cA P G N (Code.fst (Code.fst (Code.snd (Code.fst (Code.snd (Code.snd (di Tryz.f91))))))) (λR H=>bE (R 1) (R 2) (R 15) (R 16) (R 17) H) [(0,(λR H=>rL G N H))] (b_ Tryz.f91) R H=vA G N bE (R 1) (R 2) (R 15) (R 16) (R 17) H:=by
 refine ds (aN _) λR H=> ?_
 delta vA;generalize rL G N=ba;revert ba;refine id ?_;intro ba;kernel_rfl
def uN(G:av)(N:Nat)(Y ai ap:I)(H:J):O:=
 bj P .len [96] [Y] H λb8=>
 bj P .len [96] [ai] H λb0=>
 ab (aZ P .neq 3 false b8 b0) λbT=>
 bQ (some bT) (some ((.bool false),H)) (bj P .len [96] [Y] H λbI=>
 vB G N N ai ap Y bI (.int .i64 0) H)
theorem akM(G:av)(N:Nat)(Y:I)(ai:I)(ap:I)(H:J):bp Tryz.f91 G N (cF [Y,ai,ap]) H=uN G N Y ai ap H:=by
 refine cP (A:=bp Tryz.f91 G N) ((br ad ((br ad ((br ad (ae9 G N) ((br ad ((fL ad ((gD (k:=λm R H=>vB G N m (R 1) (R 2) (R 15) (R 16) (R 17) H) ad (λR H=>ad) (λm=>ae8 G N (vB G N m)))))) (aN _))))) (aN _))) (aN _))) ?_;delta uN;generalize vB G N N=ba;revert ba;refine id ?_;intro ba;kernel_rfl
theorem amN(N:Nat){Y ai ap:I}{H:J}{r:I×J}(h:uN (au P ao) N Y ai ap H=some r):au P ao 91 [Y,ai,ap] H=some r:=
 cV ad Tryz.func91 ad ad ad ((akM (au P ao) N Y ai ap H).trans h)
end
end
section
set_option maxRecDepth 100000
noncomputable section
def sV(G:av)(Y ai:I)(H:J):O:=
 dA H (eW (H).next Y) λap U=>
 dA U (eW (U).next ai) λaC aa=>
 ab (aF P 103 ap 0) λbf=>
 ab (am P aa 3 bf) λbB=>
 ab (aF P 103 aC 0) λbu=>
 ab (am P aa 3 bu) λbS=>
 ab (aZ P .eql 3 false bB bS) λbF=>
 aD bF true aa (bm (aF P 103 ap 1)) λb8 ae=>
 aD bF true ae (qr (am P ae 3 b8)) λcb al=>
 aD bF true al (bm (aF P 103 aC 1)) λb0 aB=>
 aD bF true aB (qr (am P aB 3 b0)) λbT aG=>
 aD bF true aG (bm (aZ P .eql 3 false cb bT)) λbX aP=>
 ab (cW bF (some bX) (some (.bool false))) λbI=>
 aD bI true aP (bm (aF P 103 ap 2)) λcG bn=>
 aD bI true bn (qr (am P bn 9 cG)) λc6 bH=>
 aD bI true bH (bm (aF P 103 aC 2)) λcN co=>
 aD bI true co (qr (am P co 9 cN)) λcz dp=>
 aD bI true dp (bm (aZ P .eql 9 false c6 cz)) λc7 dR=>
 ab (cW bI (some c7) (some (.bool false))) λcI=>
 aD cI true dR (bm (aF P 103 ap 3)) λdn eF=>
 aD cI true eF (qr (am P eF 43 dn)) λdu fs=>
 aD cI true fs (bm (aF P 103 aC 3)) λdh fP=>
 aD cI true fP (qr (am P fP 43 dh)) λdT gG=>
 aD cI true gG (bm (aZ P .eql 43 false du dT)) λdI hM=>
 ab (cW cI (some dI) (some (.bool false))) λcH=>
 aD cH true hM (bm (aF P 103 ap 6)) λdV ht=>
 aD cH true ht (qr (am P ht 101 dV)) λef kL=>
 aD cH true kL (bm (aF P 103 aC 6)) λe6 iC=>
 aD cH true iC (qr (am P iC 101 e6)) λeg hU=>
 aD cH true hU (bm (aZ P .eql 101 false ef eg)) λej kM=>
 ab (cW cH (some ej) (some (.bool false))) λed=>
 aD ed true kM (bm (aF P 103 ap 7)) λft hB=>
 aD ed true hB (qr (am P hB 3 ft)) λe7 pd=>
 aD ed true pd (bm (aF P 103 aC 7)) λfy lR=>
 aD ed true lR (qr (am P lR 3 fy)) λfW mP=>
 aD ed true mP (bm (aZ P .eql 3 false e7 fW)) λgv qh=>
 ab (cW ed (some gv) (some (.bool false))) λeU=>
 aD eU true qh (bm (aF P 103 ap 4)) λgb lS=>
 aD eU true lS (qr (am P lS 96 gb)) λgS wa=>
 aD eU true wa (bm (aF P 103 aC 4)) λju qi=>
 aD eU true qi (qr (am P qi 96 ju)) λhv mQ=>
 aD eU true mQ (λq=>fo mQ (G 86 [gS,hv] mQ) q) λh1 s4=>
 ab (cW eU (some h1) (some (.bool false))) λhV=>
 some (hV,s4)
theorem ahg(G:av)(N:Nat)(Y:I)(ai:I)(H:J):bp Tryz.f111 G N (cF [Y,ai]) H=sV G Y ai H:=by
 refine cP (A:=bp Tryz.f111 G N) (aN _) ?_;delta sV;kernel_rfl
theorem aiS(N:Nat){Y ai:I}{H:J}{r:I×J}(h:sV (au P ao) Y ai H=some r):au P ao 111 [Y,ai] H=some r:=
 cV ad Tryz.func111 ad ad ad ((ahg (au P ao) N Y ai H).trans h)
def rK(G:av)(N:Nat)(H:J):O:=
 some ((.bool true),H)
theorem ae7(G:av)(N:Nat): ∀R H,cA P G N (Code.snd (Code.snd (Code.snd (di Tryz.f86)))) (b_ Tryz.f86) [] (b_ Tryz.f86) R H=rK G N H:=by
 refine ds (aN _) λR H=> ?_
 delta rK;kernel_rfl
def vy(G:av)(N:Nat)(bE:I->I->I->J->O)(Y ai bf:I)(H:J):O:=
 bj P .len [96] [Y] H λb0=>
 ab (aZ P .lss 3 false bf b0) λbT=>
 bQ (some bT) (ab (en P 96 Y bf) λc6=>
 ab (am P H 103 c6) λcN=>
 ab (en P 96 ai bf) λcI=>
 ab (am P H 103 cI) λdb=>
 aL H (G 111 [cN,db] H) λdn U=>
 ab (fh .not dn) λdu=>
 bQ (some du) (some ((.bool false),U)) (ab (aZ P .add 3 true bf (.int .i64 1)) λbI=>
 bE Y ai bI U)) (rK G N H)
def vz(G:av)(N:Nat):Nat->I->I->I->J->O
 |0,_,_,_,_=>none
 |n+1,Y,ai,bf,H=>vy G N (vz G N n) Y ai bf H
theorem ae6(G:av)(N:Nat)(bE:I->I->I->J->O): ∀R H,cA P G N (Code.fst (Code.fst (Code.snd (Code.fst (Code.snd (Code.snd (di Tryz.f86))))))) (λR H=>bE (R 0) (R 1) (R 5) H) [(0,(λR H=>rK G N H))] (b_ Tryz.f86) R H=vy G N bE (R 0) (R 1) (R 5) H:=by
 refine ds (aN _) λR H=> ?_
 delta vy;generalize rK G N=ba;revert ba;refine id ?_;intro ba;kernel_rfl
def uM(G:av)(N:Nat)(Y ai:I)(H:J):O:=
 bj P .len [96] [Y] H λbu=>
 bj P .len [96] [ai] H λbF=>
 ab (aZ P .neq 3 false bu bF) λcr=>
 bQ (some cr) (some ((.bool false),H)) (vz G N N Y ai (.int .i64 0) H)
theorem akL(G:av)(N:Nat)(Y:I)(ai:I)(H:J):bp Tryz.f86 G N (cF [Y,ai]) H=uM G N Y ai H:=by
 refine cP (A:=bp Tryz.f86 G N) ((br ad ((br ad ((br ad (ae7 G N) ((br ad ((fL ad ((gD (k:=λm R H=>vz G N m (R 0) (R 1) (R 5) H) ad (λR H=>ad) (λm=>ae6 G N (vz G N m)))))) (aN _))))) (aN _))) (aN _))) ?_;delta uM;generalize vz G N N=ba;revert ba;refine id ?_;intro ba;kernel_rfl
theorem amM(N:Nat){Y ai:I}{H:J}{r:I×J}(h:uM (au P ao) N Y ai H=some r):au P ao 86 [Y,ai] H=some r:=
 cV ad Tryz.func86 ad ad ad ((akL (au P ao) N Y ai H).trans h)
end
end
end Go.Proofs.YtghmbpmaafnodaaGreatDoor
