/-
  Texts of one proof, laid together: Pc Pd ShG SgL Mc ShE SgI SgJ SgK.
-/
import Derived.Test.YtmhhnnklfcbgfaaGreatMJ
set_option linter.unusedVariables false
set_option linter.unusedSimpArgs false
set_option linter.defProp false
open Option renaming some→A,none→Z
open Bool renaming true→J,false→I
open Go.cv.af renaming int→D,bool→C
open Go.IntKind renaming i64→F
namespace Go.Proofs.YtmhhnnklfcbgfaaGreat
open Go.cv
open Nat (reduceAdd reduceLeDiff)
section
open Go.a2
set_option maxRecDepth 2000
section
variable {H:ae}{ok:Nat->Prop}{x:bq}{f:Nat}{c:bQ}{i:In}{gv gw cA cc rv wi:af}{M:Nat}{l:List bt}
def pn(x:bq)(f:Nat)(c:bQ)(gv gw cA cc:af)(M:Nat)(l:List bt)(H:ae)(r:af)(H':ae):Prop:=r= .tuple []/\cg M H H'/\∃a,gS x f c gv gw cA cc M l H' a
theorem y8{v:Int}(h:a7 c v≠bw):0<=v/\v.toNat<c.vars.length/\v<c.vars.length:=by
 have:=Gy h;omega
theorem jD(au:ep x)(m:gS x f c gv gw cA cc M l H rv)(aB:x.ax[f]? =A c){n:Int}(aL:a7 c n≠bw):W (aK P aD 170 [.ptr M 0 0,D F n] H) λr H'=>r= D F ((bj x.ax f+n.toNat:Nat):Int)/\aw H H':=by
 obtain⟨a,ah,_⟩:=y8 aL;grind[adg]
theorem QV(au:ep x)(m:gS x f c gv gw cA cc M l H rv){n:Int}(a:0<=n)(aL:n<=1000):W (aK P aD 173 [.ptr M 0 0,D F n] H) λr H'=>r= D F (eM x n.toNat:Nat)/\aw H H':=by
 obtain⟨k,rfl⟩:∃k:Nat,n=k:=⟨n.toNat,aa⟩;grind[aen]
theorem Nh(au:ep x)(m:gS x f c gv gw cA cc M l H rv){n:Int}(a:0<=n)(aL:n<=1000):W (aK P aD 174 [.ptr M 0 0,D F n] H) λr H'=>r= D F (eA x n.toNat:Nat)/\aw H H':=by
 obtain⟨k,rfl⟩:∃k:Nat,n=k:=⟨n.toNat,aa⟩;grind[acI]
theorem p9(m:gS x f c gv gw cA cc M l H rv){n:Int}(aL:a7 c n≠bw):W (aK P aD 172 [.ptr M 0 0,D F n] H) λr H'=>r= C (dE c n)/\aw H H':=by
 obtain⟨a,ah,ai⟩:=y8 aL;grind[Gm]
theorem tp{n:Int}(h:0<=n):af.int F ((n.toNat:Nat):Int)= D F n:=al
def mB(m:gS x f c gv gw cA cc M l H rv)(ar:l.length<=999999998){k a b e:Int}(d:bt)(aA:cZ d=[D F k,D F a,D F b,D F e]):W (aK P aD 169 [.ptr M 0 0,D F k,D F a,D F b,D F e] H) λr H'=>H.next<=H'.next/\pn x f c gv gw cA cc M (l++[d]) H r H':=by
 refine(Kk m ar d aA).mono ?_;rintro r H' ⟨ah,ai,ay,g,aM,_⟩;exact⟨ai,ah,ay,g,aM⟩
theorem acW(au:ep x)(V:gS x f c gv gw cA cc M l H rv)(aB:x.ax[f]? =A c)(hw:aI aN H ok i.args wi)(r:dM x f c i=J)(ar:l.length<=1000000)(am:¬(i.op=11\/i.op=12\/i.op=13\/i.op=18\/i.op=19\/i.op=20)):W (aK P aD 175 [.ptr M 0 0,.agg (cf i wi)] H) (pn x f c gv gw cA cc M (l++c5 x f c i) H):=by
 refine afu 0 ?_;have q:=aw.push H (.row I 6 [cf i wi]);have U:(H.push (.row I 6 [cf i wi])).get H.next=A (.row I 6 [[D F i.op,D F i.a,D F i.b,D F i.c,D F i.n,wi]]):=ae.a1 _ _
 have m:=V.aC q;have ao:=V.lt;have nil:∀{Y:ae},c5 x f c i=[]->aw H Y->W (A (af.tuple [],Y)) (pn x f c gv gw cA cc M (l++c5 x f c i) H):=λe p=>aE.2 ⟨rfl,ek p aa,rv,by rw[e,List.append_nil];exact V.aC p⟩
 refine bF @HE.eq_1 (dm hw) ?_;generalize H.push (.row I 6 [cf i wi])=H0 at*;have an:=ae.bm U;generalize ak:H.next=zI at*
 have E:=fU U;by_cases ay:i.op=3
 ·have t:∀j:Int,(i.op==j)=(3==j):=λj=>by rw[ay]
  have h:=(y1 ay r).1;have k:a7 c i.b≠bw:=(y1 ay r).2▸h;have e:c5 x f c i=bif dE c i.a then[bt.copy (bj x.ax f+i.a.toNat) (bj x.ax f+i.b.toNat)]else[]:=by grind[c5]
  simp-implicitDefEqProofs(disch:=try exact aY)only[reduceAdd,reduceLeDiff,reduceIte,bB,E,o U,t,Int.reduceBEq];refine cY (p9 m h) λK p=> ?_
  have B:=fU (p.get U);cases s:dE c i.a with
  |false=>
   simp-implicitDefEqProofs(disch:=try exact aY)only[reduceAdd,reduceLeDiff,reduceIte,bB,B,o (p.get U),t,Int.reduceBEq];exact nil al (q.trans p)
  |true=>
   rw[s]at e;refine bK (o (p.get U)) ?_;refine bz (jD au (m.aC p) aB h) λL v=> ?_
   have d:=p.trans v;refine bK (o (d.get U)) ?_;refine bz (jD au (m.aC d) aB k) λN w=> ?_
   have g:=d.trans w;refine bM ?_;refine cB (mB (m.aC g) aa (.copy (bj x.ax f+i.a.toNat) (bj x.ax f+i.b.toNat)) (by grind[cZ])) ?_;rintro _ O ⟨hle,rfl,y,z,u⟩;refine⟨hle,?_⟩;refine bF (o (d.get U)) (o (p.get U)) ?_;rw[e];exact aE.2 ⟨rfl,(ek (q.trans g) aa).trans y,z,u⟩
 have ab:(i.op==3)=false:=beq_eq_false_iff_ne.2 ay;by_cases Q:i.op=6
 ·have t:∀j:Int,(i.op==j)=(6==j):=λj=>by rw[Q]
  have h:=(y2 Q r).1;have G:fh x (a7 c i.b) i.c≠bw:=(y2 Q r).2▸h;have k:=s5 G;have rc:=(s4 au G).1;have e:c5 x f c i=bif dE c i.a then[bt.load (bj x.ax f+i.a.toNat) (bj x.ax f+i.b.toNat) i.c.toNat]else[]:=by grind[c5]
  simp-implicitDefEqProofs(disch:=try exact aY)only[reduceAdd,reduceLeDiff,reduceIte,bB,E,o U,t,Int.reduceBEq];refine cY (p9 m h) λK p=> ?_
  have B:=fU (p.get U);cases s:dE c i.a with
  |false=>
   simp-implicitDefEqProofs(disch:=try exact aY)only[reduceAdd,reduceLeDiff,reduceIte,bB,B,o (p.get U),t,Int.reduceBEq];exact nil al (q.trans p)
  |true=>
   rw[s]at e;refine bK (o (p.get U)) ?_;refine bz (jD au (m.aC p) aB h) λL v=> ?_
   have d:=p.trans v;refine bK (o (d.get U)) ?_;refine bz (jD au (m.aC d) aB k) λN w=> ?_
   have g:=d.trans w;refine bK (o (g.get U)) ?_;refine cB (mB (m.aC g) aa (.load (bj x.ax f+i.a.toNat) (bj x.ax f+i.b.toNat) i.c.toNat) (by grind[cZ])) ?_;rintro _ O ⟨hle,rfl,y,z,u⟩;refine⟨hle,?_⟩;refine bT (o (g.get U)) (o (d.get U)) (o (p.get U)) ?_;rw[e];exact aE.2 ⟨rfl,(ek (q.trans g) aa).trans y,z,u⟩
 have ad:(i.op==6)=false:=beq_eq_false_iff_ne.2 Q;by_cases S:i.op=8
 ·have t:∀j:Int,(i.op==j)=(8==j):=λj=>by rw[S]
  have h:=(y4 S r).1;have k:=oD (y4 S r).2.1;have e:c5 x f c i=bif dE c i.a then[bt.load (bj x.ax f+i.a.toNat) (bj x.ax f+i.b.toNat) 0]else[]:=by grind[c5]
  simp-implicitDefEqProofs(disch:=try exact aY)only[reduceAdd,reduceLeDiff,reduceIte,bB,E,o U,t,Int.reduceBEq];refine cY (p9 m h) λK p=> ?_
  have B:=fU (p.get U);cases s:dE c i.a with
  |false=>
   simp-implicitDefEqProofs(disch:=try exact aY)only[reduceAdd,reduceLeDiff,reduceIte,bB,B,o (p.get U),t,Int.reduceBEq];exact nil al (q.trans p)
  |true=>
   rw[s]at e;refine bK (o (p.get U)) ?_;refine bz (jD au (m.aC p) aB h) λL v=> ?_
   have d:=p.trans v;refine bK (o (d.get U)) ?_;refine bz (jD au (m.aC d) aB k) λN w=> ?_
   have g:=d.trans w;refine bM ?_;refine cB (mB (m.aC g) aa (.load (bj x.ax f+i.a.toNat) (bj x.ax f+i.b.toNat) 0) (by grind[cZ])) ?_;rintro _ O ⟨hle,rfl,y,z,u⟩;refine⟨hle,?_⟩;refine bF (o (d.get U)) (o (p.get U)) ?_;rw[e];exact aE.2 ⟨rfl,(ek (q.trans g) aa).trans y,z,u⟩
 have ai:(i.op==8)=false:=beq_eq_false_iff_ne.2 S;by_cases R:i.op=7
 ·have t:∀j:Int,(i.op==j)=(7==j):=λj=>by rw[R]
  have k:=(y3 R r).1;have G:fh x (a7 c i.a) i.c≠bw:=(y3 R r).2▸k;have h:=s5 G;have rc:=(s4 au G).1;have e:c5 x f c i=bif dE c i.b then[bt.store (bj x.ax f+i.a.toNat) (bj x.ax f+i.b.toNat) i.c.toNat]else[]:=by grind[c5]
  simp-implicitDefEqProofs(disch:=try exact aY)only[reduceAdd,reduceLeDiff,reduceIte,bB,E,o U,t,Int.reduceBEq];refine cY (p9 m k) λK p=> ?_
  have B:=fU (p.get U);cases s:dE c i.b with
  |false=>
   simp-implicitDefEqProofs(disch:=try exact aY)only[reduceAdd,reduceLeDiff,reduceIte,bB,B,o (p.get U),t,Int.reduceBEq];exact nil al (q.trans p)
  |true=>
   rw[s]at e;refine bK (o (p.get U)) ?_;refine bz (jD au (m.aC p) aB h) λL v=> ?_
   have d:=p.trans v;refine bK (o (d.get U)) ?_;refine bz (jD au (m.aC d) aB k) λN w=> ?_
   have g:=d.trans w;refine bK (o (g.get U)) ?_;refine cB (mB (m.aC g) aa (.store (bj x.ax f+i.a.toNat) (bj x.ax f+i.b.toNat) i.c.toNat) (by grind[cZ])) ?_;rintro _ O ⟨hle,rfl,y,z,u⟩;refine⟨hle,?_⟩;refine bT (o (g.get U)) (o (d.get U)) (o (p.get U)) ?_;rw[e];exact aE.2 ⟨rfl,(ek (q.trans g) aa).trans y,z,u⟩
 have ah:(i.op==7)=false:=beq_eq_false_iff_ne.2 R;by_cases T:i.op=9
 ·have t:∀j:Int,(i.op==j)=(9==j):=λj=>by rw[T]
  have k:=(y5 T r).1;have h:=oD (y5 T r).2.1;have e:c5 x f c i=bif dE c i.c then[bt.store (bj x.ax f+i.a.toNat) (bj x.ax f+i.c.toNat) 0]else[]:=by grind[c5]
  simp-implicitDefEqProofs(disch:=try exact aY)only[reduceAdd,reduceLeDiff,reduceIte,bB,E,o U,t,Int.reduceBEq];refine cY (p9 m k) λK p=> ?_
  have B:=fU (p.get U);cases s:dE c i.c with
  |false=>
   refine bM ?_;exact nil al (q.trans p)
  |true=>
   rw[s]at e;refine bK (o (p.get U)) ?_;refine bz (jD au (m.aC p) aB h) λL v=> ?_
   have d:=p.trans v;refine bK (o (d.get U)) ?_;refine bz (jD au (m.aC d) aB k) λN w=> ?_
   have g:=d.trans w;refine bM ?_;refine cB (mB (m.aC g) aa (.store (bj x.ax f+i.a.toNat) (bj x.ax f+i.c.toNat) 0) (by grind[cZ])) ?_;rintro _ O ⟨hle,rfl,y,z,u⟩;refine⟨hle,?_⟩;refine bF (o (d.get U)) (o (p.get U)) ?_;rw[e];exact aE.2 ⟨rfl,(ek (q.trans g) aa).trans y,z,u⟩
 have aj:(i.op==9)=false:=beq_eq_false_iff_ne.2 T;refine bb E ab ad ah ai aj ?_;grind[c5]
theorem OX(au:ep x)(aB:x.ax[f]? =A c){g:bQ}(aR:x.ax[i.c.toNat]? =A g)(r:0<=i.c)(O:i.args.length<=6)(R:i.args.length<=g.vars.length)(y:∀{j:Nat} {v:Int},i.args[j]? =A v->a7 c v≠bw){zI:Nat}(t:zI≠M){N:Nat}{Q:af->ae->Prop}:
  ∀(j k n:Nat) (H:ae) (l:List bt) (rv:af),k+j=i.args.length->j<n->l.length<=1000000+k->gS x f c gv gw cA cc M l H rv->H.get zI=A (.row I 6 [[D F i.op,D F i.a,D F i.b,D F i.c,D F i.n,wi]])->Eo zI rv->aI aN H (· <M) i.args wi->
  (∀H' d,cg M H H'->H'.get zI=A (.row I 6 [[D F i.op,D F i.a,D F i.b,D F i.c,D F i.n,wi]])->gS x f c gv gw cA cc M (l++iO c (bj x.ax f) (bj x.ax i.c.toNat) (i.args.drop k) k) H' d->W (wR (aK P aD) N (.ptr M 0 0) (.ptr zI 0 0) H') Q)->
  W (wS (aK P aD) N n (.ptr M 0 0) (.ptr zI 0 0) wi (D F i.args.length) (D F k) H) Q
 |_,_,0,_,_,_,_,hm,_,_,_,_,_,_=>aa
 |0,k,n+1,H,l,rv,L,_,_,m,U,_,hw,fin=>by
  have ap:¬(k:Int)<(i.args.length:Int):=aa;have:=fin H rv (.refl _ _) U (by grind[iO]);refine bF @wS.eq_2 @BO.eq_1 ?_;omega
 |j+1,k,n+1,H,l,rv,L,av,ar,m,U,u,hw,fin=>by
  have S:k<i.args.length:=aa;have on:=OX (N:=N) (Q:=Q) au aB aR r O R y t j (k+1) n;have aF:=m.lt;have aE:=ae.bm U;obtain⟨aH,ad,aj⟩:=hw.int (j:=(k:Int)) (a:=i.args[k]) aa al;have w:=y (j:=k) (v:=i.args[k]) al;rw[List.drop_eq_getElem_cons S,iO]at fin;have aG:=fU U;refine cu @wS.eq_2 @BO.eq_1 ad aj ?_;refine bz (p9 m w) λK p=> ?_
  have aT:=e8 (show k<=1000000000 by omega);cases z:dE c i.args[k]with
  |false=>
   rw[z,pC,List.nil_append]at fin;refine bF @HB.eq_1 aT ?_;exact on K l rv aa aa aa (m.aC p) (p.get U) u (hw.aC p) λH' d ah ai ay=>fin H' d ((ek p aa).trans ah) ai ay
  |true=>
   rw[z,hk,<-List.append_assoc]at fin;refine bM ?_;refine bz (jD au (m.aC p) aB w) λB V=> ?_
   have e:=p.trans V;have h:=m.aC e;have an:=au.ax;have ao:=(List.getElem?_eq_some_iff.1 aR).1;have aA:=si aR (v:=k) aa;have am:=lU au;obtain⟨ab,i1,i2⟩:=(m.aC p).aL.int (j:=i.c) (a:=(bj x.ax i.c.toNat:Int)) r (tq x aa);have i4:aJ P B 3 ab=A (D F (bj x.ax i.c.toNat)):=by
    obtain⟨q,i3,i5⟩:=h.aL.int (j:=i.c) (a:=(bj x.ax i.c.toNat:Int)) r (tq x aa);grind
   have ak:IntKind.i64.wrap ((bj x.ax i.c.toNat:Int)+(k:Int))=((bj x.ax i.c.toNat+k:Nat):Int):=by grind[wrap_i64]
   refine dd (nM h.g) (o (e.get U)) i1 i4 ak ?_;refine cB (Kk h aa (.copy (bj x.ax i.c.toNat+k) (bj x.ax f+i.args[k].toNat)) rfl) ?_;rintro _ s ⟨rfl,hle,Y,d,T,aM⟩;refine⟨hle,?_⟩;obtain⟨E,G⟩:=aM zI (by have:=e.1;omega) t u;have pu:cg M H s:=(ek e aa).trans Y;refine bb @HB.eq_1 (nM h.g) (nM (m.aC p).g) (o (e.get U)) (o (p.get U)) (ag i2 (ag i4 (ag (dD m.aL) aT))) ?_;exact on s _ d aa aa al T (by rw[G,e.get U]) E (hw.eu pu) λH' d ah ai ay=>fin H' d (pu.trans ah) ai ay
theorem acC(au:ep x)(s:gS x f c gv gw cA cc M l H rv)(aB:x.ax[f]? =A c)(hw:aI aN H (· <M) i.args wi)(N:dM x f c i=J)(ar:l.length<=1000000)(y:i.op=13):W (aK P aD 171 [.ptr M 0 0,.agg (cf i wi)] H) (pn x f c gv gw cA cc M (l++c5 x f c i) H):=by
 obtain⟨g,aR⟩:=ni y N;have B:=hI (au.code aR.at_.2);have hlen:=aR.len;have aj:=B.params;refine afq (i.args.length+1) ?_;have t:=aw.push H (.row I 6 [cf i wi]);have U:(H.push (.row I 6 [cf i wi])).get H.next=A (.row I 6 [[D F i.op,D F i.a,D F i.b,D F i.c,D F i.n,wi]]):=ae.a1 _ _
 have ao:=s.lt;have O:=fU U;refine cu @HA.eq_1 (dm hw) O (hw.bf bV) ?_;refine OX au aB aR.at_.2 aR.at_.1 aa aa (λh=>(aR.arg h).1) aa i.args.length 0 (i.args.length+1) _ l rv aa aa aa (s.aC t) U (λL n cap m=>by have:=s.r.eS.lt (K:=cU) m;omega) (hw.aC t) ?_;intro H1 V pu d j;have an:=ae.bm d;rw[List.drop_zero]at j;have w:cg M H H1:=(ek t aa).trans pu;have av:=fU d;have e:c5 x f c i=iO c (bj x.ax f) (bj x.ax i.c.toNat) i.args 0++(bif decide (0<=i.a)&&dE c i.a then[.copy (bj x.ax f+i.a.toNat) (eM x i.c.toNat)]else[]):=by grind[c5]
 have z:∀(at_ to:Nat) (ak:List Int) (k:Nat),(iO c at_ to ak k).length<=ak.length:=by
  intro at_ to ak
  induction ak with
  |nil=>grind[iO]
  |cons v ak am=>grind[iO]
 have ai:=z (bj x.ax f) (bj x.ax i.c.toNat) i.args 0;have G:i.a<c.vars.length:=by
  rcases aR.res with h|h
  ·omega
  grind[y8]
 refine bF @wR.eq_1 (o d) ?_;refine bz (Gm j i.a G) λK p=> ?_
 cases m:(decide (0<=i.a)&&dE c i.a)with
 |false=>
  refine bM ?_;exact aE.2 ⟨rfl,w.trans (by grind[ek]),V,by rw[e,m,pC,List.append_nil];exact j.aC p⟩
 |true=>
  have E:a7 c i.a≠bw:=by
   simp only[Bool.and_eq_true]at m;exact AX m.2
  refine bK (o (p.get d)) ?_;refine bz (jD au (j.aC p) aB E) λY Q=> ?_
  have q:=p.trans Q;have af:=au.ax;have ah:=(List.getElem?_eq_some_iff.1 aR.at_.2).1;refine bK (o (q.get d)) ?_;refine bz (QV au (j.aC q) aR.at_.1 aa) λab R=> ?_
  have u:=q.trans R;refine bM ?_;refine cB (mB (j.aC u) al (.copy (bj x.ax f+i.a.toNat) (eM x i.c.toNat)) rfl) ?_;rintro _ ad ⟨hle,rfl,S,T,ap⟩;refine⟨hle,?_⟩;refine bF (o (q.get d)) (o (p.get d)) ?_;exact aE.2 ⟨rfl,w.trans ((ek u aa).trans S),T,al⟩
theorem acK(au:ep x)(V:gS x f c gv gw cA cc M l H rv)(aB:x.ax[f]? =A c)(ak:aI aN H (· <M) i.args wi)(k:dM x f c i=J)(ar:l.length<=1000000):W (aK P aD 129 [.ptr M 0 0,.agg (cf i wi)] H) (pn x f c gv gw cA cc M (l++c5 x f c i) H):=by
 refine ae4 0 ?_;have q:=aw.push H (.row I 6 [cf i wi]);have U:(H.push (.row I 6 [cf i wi])).get H.next=A (.row I 6 [[D F i.op,D F i.a,D F i.b,D F i.c,D F i.n,wi]]):=ae.a1 _ _
 have m:=V.aC q;have hw:=ak.aC q;have aQ:=V.lt;have aM:=(List.getElem?_eq_some_iff.1 aB).1;have aL:=au.ax;have aO:=au.globals;have aR:c5 x f c i=c5 x f c i:=rfl;have nil:∀{E:ae},c5 x f c i=[]->aw H E->W (A (af.tuple [],E)) (pn x f c gv gw cA cc M (l++c5 x f c i) H):=λe p=>aE.2 ⟨rfl,ek p aa,rv,by rw[e,List.append_nil];exact V.aC p⟩
 have an:∀{am:List bt} {r:af} {E:ae},pn x f c gv gw cA cc M am (H.push (.row I 6 [cf i wi])) r E->pn x f c gv gw cA cc M am H r E:=λ⟨ah,ai,ay⟩=>⟨ah,(ek q aa).trans ai,ay⟩
 refine bF @Hg.eq_1 (dm ak) ?_;generalize H.push (.row I 6 [cf i wi])=H0 at*;have aP:=ae.bm U;generalize aJ:H.next=zI at*
 have B:=fU U;by_cases S:i.op=11
 ·have t:∀j:Int,(i.op==j)=(11==j):=λj=>al
  have s:a7 c i.a≠bw:=(o9 S k).1.1;have dL:=(kF (o9 S k).2).1;have e:c5 x f c i=[bt.base (bj x.ax f+i.a.toNat) i.n.toNat]:=by grind[c5]
  simp-implicitDefEqProofs(disch:=try exact aY)only[qh,reduceAdd,reduceLeDiff,reduceIte,bB,B,o U,t,Int.reduceBEq];refine bz (jD au m aB s) λK p=> ?_
  refine bK (o (p.get U)) ?_;refine cB (mB (m.aC p) aa (.base (bj x.ax f+i.a.toNat) i.n.toNat) (by rw[cZ,tp dL])) ?_;rintro _ O ⟨hle,rfl,v,w,u⟩;refine⟨hle,?_⟩;refine bF (o (p.get U)) (o U) ?_;rw[e];exact aE.2 ⟨rfl,(ek (q.trans p) aa).trans v,w,u⟩
 have ap:(i.op==11)=false:=beq_eq_false_iff_ne.2 S;by_cases T:i.op=12
 ·have t:∀j:Int,(i.op==j)=(12==j):=λj=>al
  have s:a7 c i.a≠bw:=oD (o_ T k).1.1;have dL:=(kF (o_ T k).2).1;have e:c5 x f c i=[bt.base (bj x.ax f+i.a.toNat) i.n.toNat]:=by grind[c5]
  simp-implicitDefEqProofs(disch:=try exact aY)only[qh,reduceAdd,reduceLeDiff,reduceIte,bB,B,o U,t,Int.reduceBEq];refine bz (jD au m aB s) λK p=> ?_
  refine bK (o (p.get U)) ?_;refine cB (mB (m.aC p) aa (.base (bj x.ax f+i.a.toNat) i.n.toNat) (by rw[cZ,tp dL])) ?_;rintro _ O ⟨hle,rfl,v,w,u⟩;refine⟨hle,?_⟩;refine bF (o (p.get U)) (o U) ?_;rw[e];exact aE.2 ⟨rfl,(ek (q.trans p) aa).trans v,w,u⟩
 have av:(i.op==12)=false:=beq_eq_false_iff_ne.2 T;by_cases ad:i.op=13
 ·have t:∀j:Int,(i.op==j)=(13==j):=λj=>al
  simp-implicitDefEqProofs(disch:=try exact aY)only[qh,reduceAdd,reduceLeDiff,reduceIte,bB,B,o U,t,Int.reduceBEq,gK (i:=i) (wi:=wi) U];refine cB (acC au m aB hw k ar ad) ?_;rintro r K G;refine⟨G.2.1.1,aE.2 (an ⟨rfl,G.2⟩)⟩
 have aA:(i.op==13)=false:=beq_eq_false_iff_ne.2 ad;by_cases aj:i.op=18
 ·have t:∀j:Int,(i.op==j)=(18==j):=λj=>al
  have e:c5 x f c i=bif decide (0<=i.a)&&dE c i.a then[bt.copy (eM x f) (bj x.ax f+i.a.toNat)]else[]:=by grind[c5]
  have ao:i.a<c.vars.length:=by
   rcases Te aj k with h|h
   ·grind[y8]
   omega
  simp-implicitDefEqProofs(disch:=try exact aY)only[qh,reduceAdd,reduceLeDiff,reduceIte,bB,B,o U,t,Int.reduceBEq];refine bz (Gm m i.a ao) λK p=> ?_
  cases z:(decide (0<=i.a)&&dE c i.a)with
  |false=>
   refine bM ?_;exact nil al (q.trans p)
  |true=>
   rw[z]at e;have s:a7 c i.a≠bw:=by
    simp only[Bool.and_eq_true]at z;exact AX z.2
   refine bK (nM (m.aC p).g) ?_;refine bz (QV au (m.aC p) (n:=(f:Int)) aa aa) λY L=> ?_
   have d:=p.trans L;refine bK (o (d.get U)) ?_;refine bz (jD au (m.aC d) aB s) λab N=> ?_
   have y:=d.trans N;refine bM ?_;refine cB (mB (m.aC y) aa (.copy (eM x f) (bj x.ax f+i.a.toNat)) rfl) ?_;rintro _ O ⟨hle,rfl,v,w,u⟩;refine⟨hle,?_⟩;refine bF (o (d.get U)) (o (p.get U)) ?_;rw[e];exact aE.2 ⟨rfl,(ek (q.trans y) aa).trans v,w,u⟩
 have aF:(i.op==18)=false:=beq_eq_false_iff_ne.2 aj;by_cases Q:i.op=19
 ·have t:∀j:Int,(i.op==j)=(19==j):=λj=>al
  have e:c5 x f c i=bif dE c i.a then[bt.copy (bj x.ax f+i.a.toNat) (eA x i.n.toNat)]else[]:=by grind[c5]
  have s:=(uD Q k).1;have dL:=(mD (uD Q k).2).1;have cX:=(mD (uD Q k).2).2.1;simp-implicitDefEqProofs(disch:=try exact aY)only[qh,reduceAdd,reduceLeDiff,reduceIte,bB,B,o U,t,Int.reduceBEq];refine bz (p9 m s) λK p=> ?_
  cases z:dE c i.a with
  |false=>
   refine bM ?_;exact nil al (q.trans p)
  |true=>
   rw[z]at e;refine bK (o (p.get U)) ?_;refine bz (jD au (m.aC p) aB s) λY L=> ?_
   have d:=p.trans L;refine bK (o (d.get U)) ?_;refine bz (Nh au (m.aC d) dL aa) λab N=> ?_
   have y:=d.trans N;refine bM ?_;refine cB (mB (m.aC y) aa (.copy (bj x.ax f+i.a.toNat) (eA x i.n.toNat)) rfl) ?_;rintro _ O ⟨hle,rfl,v,w,u⟩;refine⟨hle,?_⟩;refine bF (o (d.get U)) (o (p.get U)) ?_;rw[e];exact aE.2 ⟨rfl,(ek (q.trans y) aa).trans v,w,u⟩
 have aG:(i.op==19)=false:=beq_eq_false_iff_ne.2 Q;by_cases R:i.op=20
 ·have t:∀j:Int,(i.op==j)=(20==j):=λj=>al
  have e:c5 x f c i=bif dE c i.a then[bt.copy (eA x i.n.toNat) (bj x.ax f+i.a.toNat)]else[]:=by grind[c5]
  have s:=(uE R k).1;have dL:=(mD (uE R k).2).1;have cX:=(mD (uE R k).2).2.1;simp-implicitDefEqProofs(disch:=try exact aY)only[qh,reduceAdd,reduceLeDiff,reduceIte,bB,B,o U,t,Int.reduceBEq];refine bz (p9 m s) λK p=> ?_
  cases z:dE c i.a with
  |false=>
   refine bM ?_;exact nil al (q.trans p)
  |true=>
   rw[z]at e;refine bK (o (p.get U)) ?_;refine bz (Nh au (m.aC p) dL aa) λY L=> ?_
   have d:=p.trans L;refine bK (o (d.get U)) ?_;refine bz (jD au (m.aC d) aB s) λab N=> ?_
   have y:=d.trans N;refine bM ?_;refine cB (mB (m.aC y) aa (.copy (eA x i.n.toNat) (bj x.ax f+i.a.toNat)) rfl) ?_;rintro _ O ⟨hle,rfl,v,w,u⟩;refine⟨hle,?_⟩;refine bF (o (d.get U)) (o (p.get U)) ?_;rw[e];exact aE.2 ⟨rfl,(ek (q.trans y) aa).trans v,w,u⟩
 have aH:(i.op==20)=false:=beq_eq_false_iff_ne.2 R;refine bb @qh.eq_1 B ap av aA (ag aF (ag aG (ag aH (gK (i:=i) (wi:=wi) U)))) ?_;refine cB (acW au m aB hw k ar aa) ?_;rintro r K G;exact⟨G.2.1.1,aE.2 (an ⟨rfl,G.2⟩)⟩
end
end
section
open Go.a2
set_option maxRecDepth 2000
section
variable {H:ae}{ok:Nat->Prop}{x:bq}{f:Nat}{c:bQ}{i:In}{gv gw cA cc rv wi:af}{M:Nat}{l:List bt}
theorem aZ.qz{α:Type}{K:e0 α}{H:ae}{l:List α}{v:af}{M:Nat}(h:aZ K (M+1) ba H l v)(d:∀{H H':ae} {ok:Nat->Prop} {a cs},K.V H ok a cs->K.V H' ok a cs)(b:bA):aZ K (M+1) ba (H.set M b) l v:=by
 refine⟨?_,h.low⟩;rcases h.eS with ah|⟨L',els,cap,c,e,f,g,i,j⟩
 ·exact .inl ah
 ·have:=h.low _ _ _ c;exact .inr (by grind[ae.b_])
theorem aI.qz{α:Type}{K:e0 α}{H:ae}{l:List α}{v:af}{M:Nat}(h:aI K H (· <M) l v)(b:bA):aI K (H.set M b) (· <M) l v:=h.keep λk b a g=>(by grind[ae.b_])
theorem FB(e:dM x f c i=J)(au:ep x):(c5 x f c i).length<=7:=by
 have d:∀(at_ to:Nat) (ak:List Int) (k:Nat),(iO c at_ to ak k).length<=ak.length:=by
  intro at_ to ak
  induction ak with
  |nil=>grind[iO]
  |cons v ak h=>grind[iO]
 have one:∀(b:Bool) (z:bt),(bif b then[z]else[]).length<=7:=λb z=>al
 unfold c5;simp only
 split
 case h_8 a=>
  obtain⟨g,aR⟩:=ni a e;have ah:=d (bj x.ax f) (bj x.ax i.c.toNat) i.args 0;have ai:=aR.len;have ay:=(hI (au.code aR.at_.2)).params;grind
 all_goals first|exact one _ _|simp
def acT(m:gS x f c gv gw cA cc M l H rv){k:Nat}{g:bQ}{v w:af}(bS:aI fc H (· <M) g.vars v)(b2:aI fJ H (· <M) g.ins w):
  cz P (H.push (.row I 7 [cL g v w])) 3 (.ptr M 0 8) (D F k)=A ((H.push (.row I 7 [cL g v w])).set M (.row I 12 [iV x k c gv gw cA cc rv]))/\
  cz P ((H.push (.row I 7 [cL g v w])).set M (.row I 12 [iV x k c gv gw cA cc rv])) 49 (.ptr M 0 0) (.agg (cL g v w))=A ((H.push (.row I 7 [cL g v w])).set M (.row I 12 [iV x k g v w cA cc rv]))/\
  gS x k g v w cA cc M l ((H.push (.row I 7 [cL g v w])).set M (.row I 12 [iV x k g v w cA cc rv])) rv:=by
 have e:=m.lt;have pp:=aw.push H (.row I 7 [cL g v w]);have a:=pp.get m.g;have b:=ae.bm a;have d:((H.push (.row I 7 [cL g v w])).set M (.row I 12 [iV x k c gv gw cA cc rv])).get M=A (.row I 12 [iV x k c gv gw cA cc rv]):=ae.cO b;have ah:=bS.one;have ai:=b2.one;refine⟨?_,?_,?_⟩
 ·rw[fb (n:=1) aG a rfl rfl rfl b0];rfl
 ·rw[fb (n:=7) aG d rfl rfl (by simp[cL,af.cells,ah,ai];simp[af.one]) b0,ae.set_set];rfl
 ·exact⟨ae.cO b,(m.r.aC pp).qz (λh=>h) _,(bS.aC pp).qz _,(b2.aC pp).qz _,(m.aL.aC pp).qz _,(m.aA.aC pp).qz _⟩
theorem OS(au:ep x)(aB:x.ax[f]? =A c){R q:Nat}{L1:af->af->af->af->ae->O}{Q:af->ae->Prop}{N:Nat}:∀(j k n:Nat) (H:ae) (l:List bt) (rv:af),k+j=c.ins.length->j<n->c.ins.length<=1000000->l.length+7*j+R<=1000000->gS x f c gv gw cA cc M l H rv->
  (∀H' b a,cg M H H'->a=l++(c.ins.drop k).flatMap (c5 x f c)->a.length+R<=1000000->gS x f c gv gw cA cc M a H' b->W (yf (aK P aD) N L1 (.ptr M 0 0) cc (D F x.ax.length) (D F q) H') Q)->
  W (yh (aK P aD) N L1 n (.ptr M 0 0) cc (D F x.ax.length) (D F q) gw (D F c.ins.length) (D F k) H) Q
 |_,_,0,_,_,_,_,hm,_,_,_,_=>aa
 |0,k,n+1,H,l,rv,h,_,_,ar,m,fin=>by
  have u:¬(k:Int)<(c.ins.length:Int):=aa;have:=fin H rv l (.refl _ _) al aa m;refine bF @yh.eq_2 @Df.eq_1 ?_;omega
 |j+1,k,n+1,H,l,rv,h,y,t,ar,m,fin=>by
  have d:k<c.ins.length:=aa;have z:=m.lt;obtain⟨L,nn,wi,o,r,g⟩:=m.b2.rf (j:=(k:Int)) (i:=c.ins[k]) aa al;have e:dM x f c c.ins[k]=true:=(hI (au.code aB)).ins (List.getElem_mem d);have on:=OS au aB (R:=R) (q:=q) (L1:=L1) (Q:=Q) (N:=N) j (k+1) n;rw[List.drop_eq_getElem_cons d,List.flatMap_cons]at fin;generalize c.ins[k]=i at*;have v:=FB e au;have st:=qD (i:=i) (w:=wi) (ae.a1 H (.row I 6 [[D F 0,D F 0,D F 0,D F 0,D F 0,.aq]])) g.one;have pp:=aw.push H (.row I 6 [cf i wi]);have U:=ae.a1 H (.row I 6 [cf i wi]);refine bb @yh.eq_2 @Df.eq_1 o (r _ (aw.refl _)) st (ag @ae.gD (gK U)) ?_
  refine cB (acK au (m.aC pp) aB (g.aC pp) e aa) ?_;rintro _ K ⟨rfl,p,b,gi⟩;refine⟨p.1,?_⟩;have pu:cg M H K:=(ek pp aa).trans p;refine bM ?_;refine on K _ b aa aa aa al gi λH' s a ah ai ay aM=>fin H' s a (pu.trans ah) al ay aM
theorem OT(au:ep x)(hlen:∀c∈x.ax,c.ins.length<=2500){N:Nat}(q:2501<=N):∀(j k n:Nat) (H:ae) (f:Nat) (c:bQ) (gv gw:af) (l:List bt) (rv:af),k+j=x.ax.length->j<n->l.length+7*hz (x.ax.drop k)<=1000000->gS x f c gv gw cA cc M l H rv->
  W (yg (aK P aD) N n (.ptr M 0 0) cc (D F x.ax.length) (D F k) H) λr H'=>cg M H H'/\aZ cU (M+1) ba H' (l++kJ x (x.ax.drop k) k) r
 |_,_,0,_,_,_,_,_,_,_,_,hm,_,_=>aa
 |0,k,n+1,H,f,c,gv,gw,l,rv,t,_,_,m=>by
  have d:¬(k:Int)<(x.ax.length:Int):=aa;simp-implicitDefEqProofs(disch:=try exact aY)only[yg,De,ye,reduceAdd,reduceLeDiff,reduceIte,bB,d,decide_false,nM m.g];refine aE.2 ⟨.refl _ _,?_⟩;rw[List.drop_of_length_le aa,kJ,List.append_nil];exact m.r
 |j+1,k,n+1,H,f,c,gv,gw,l,rv,t,ab,ar,m=>by
  have d:(k:Int)<(x.ax.length:Int):=aa;have h:k<x.ax.length:=aa;have aj:=m.lt;have U:=au.ax;obtain⟨L,nn,v,w,G,O,bS,b2⟩:∃L n v w,ct P 24 cc (D F k)=A (.ptr L n 0)/\(∀H',aw H H'->aJ P H' 49 (.ptr L n 0)=A (.agg (cL x.ax[k] v w)))/\aI fc H (· <M) x.ax[k].vars v/\aI fJ H (· <M) x.ax[k].ins w:=by
   obtain⟨L,n,ro,els,cs,ah,_,ai,ay,v,w,rfl,bS,b2⟩:=m.aA.at_ (K:=fO) cG (j:=(k:Int)) (a:=x.ax[k]) aa al;exact⟨L,n,v,w,ah,λH' p=>hA (n:=7) (c:=0) aG aG (p.get ai) ay (by exact ds 7),bS,b2⟩
  have V:=hlen _ (List.getElem_mem h);have s:x.ax[k]? =A x.ax[k]:=al;have on:=OT au hlen q j (k+1) n;rw[List.drop_eq_getElem_cons h,hz]at ar;rw[List.drop_eq_getElem_cons h,kJ,vb];generalize x.ax[k]=g at*;have st:=o8 (c:=g) (v:=v) (w:=w) (ae.a1 H (.row I 7 [[D F 0,.aq,C I,D F 0,D F 0,D F 0,.aq]])) bS.one b2.one;obtain⟨s1,s2,z⟩:=acT m (k:=k) bS b2;have b5:=ae.a1 H (.row I 7 [cL g v w]);have lx:M≠H.next:=aa
  have i:∀b:bA,((H.push (.row I 7 [cL g v w])).set M b).get H.next=A (.row I 7 [cL g v w]):=(by grind[ae.b_])
  have rg:bG (A (.agg (cL g v w))) (.agg (cL g v w))=true:=GR bS b2;simp-implicitDefEqProofs(disch:=try exact aY)only[yg,De,reduceAdd,reduceLeDiff,reduceIte,bB,d,decide_true,G,O _ (aw.refl _),st,ae.gD,s1,s2,lu b5,lu (i _),rg,Bool.and_self,Bool.and_true,h2 (i _),b2.len eJ];refine OS au s (R:=7*hz (x.ax.drop (k+1))) g.ins.length 0 N _ l rv aa aa aa aa z ?_;intro H' Q y pu e u B;rw[List.drop_zero]at e;have E:cg M H H':=by
   refine cg.trans ⟨aW,λad Y=> ?_⟩ pu;grind[ae.b_,ae.eI]
  refine bK @yf.eq_1 ?_;refine(on H' k g v w y Q aa aa u B).mono ?_;rintro r S ⟨o,T⟩;exact⟨E.trans o,al⟩
theorem W9(au:right x=J){V:af}(aF:cE H ok x V):W (aK P aD 77 [V] H) λr H'=>aZ cU H.next ba H' (cons x) r/\aw H H':=by
 have o:=aF;have i:=fG au;obtain⟨_,rfl,a,b,cc,d,rfl,ah,ai,ay,aM⟩:=aF;refine agR 2501 ?_;have l:=aw.push H (.row I 5 [[a,b,cc,d,D F x.main]]);have f:=ae.a1 H (.row I 5 [[a,b,cc,d,D F x.main]]);have M:bG (A (.agg [a,b,cc,d,D F x.main])) (.agg [a,b,cc,d,D F x.main])=true:=by simp[bG,af.beq,e9.beq,ah.rd,ai.rd,ay.rd,aM.rd]
 refine bT @I0.eq_1 (dQ ah ai ay aM) (cq f) ?_;refine bz (rh (o.aC l) (rD i) (rE au)) λK p=> ?_
 rw[au];refine bK (cq (p.get f)) ?_;refine e2 (Gt i ((o.aC l).aC p)) λcA O cX G=> ?_
 have j:=p.trans G;refine bK (cq (j.get f)) ?_;refine bz (Eb i ((o.aC l).aC j)) λh u=> ?_
 have s:=j.trans u;have q:=l.trans s;have y:=ay.below.keep (H':=h) (ok':=(· <h.next)) λk b z g=>⟨Nat.lt_of_lt_of_le z q.1,q.get g⟩
 have B:=(cX.aC u).az.below;have no:=cX.az.one;have co:=ay.one
 let bu:bQ:=⟨0,[],I,⟨0,0,0⟩,[]⟩
 have v:ey P 196 [(1,cA),(3,D F (ga x.ax)),(4,cc)]=A (.agg (iV x 0 bu .aq .aq cA cc .aq)):=KR no rfl co;have w:fl h.next (.agg (iV x 0 bu .aq .aq cA cc .aq))=A (.ptr h.next 0 0,.row I 12 [iV x 0 bu .aq .aq cA cc .aq]):=mH _ _ (by simp[iV,no,co];simp[af.one])
 have t:=aw.push h (.row I 12 [iV x 0 bu .aq .aq cA cc .aq]);have E:gS x 0 bu .aq .aq cA cc h.next [] (h.push (.row I 12 [iV x 0 bu .aq .aq cA cc .aq])) .aq:=
  ⟨ae.a1 _ _,aZ.nil _ _ _ _,.inl ⟨rfl,rfl⟩,.inl ⟨rfl,rfl⟩,B.aC t,y.aC t⟩
 refine bb (dh (s.get f)) (dh (j.get f)) (dh (p.get f)) (cq (j.get f)) (cq (p.get f)) (ag M (ag (dD ay) (ag v (ag w (ag (dh (t.get (s.get f))) (ay.bf cG)))))) ?_;have hlen:∀c∈x.ax,c.ins.length<=2500:=λc aA=>by have:=oH aA;grind[nT]
 refine(OT i hlen aa x.ax.length 0 2501 _ 0 bu .aq .aq [] .aq aa (by have:=i.ax;omega) (by grind[nT]) E).mono ?_;rintro r N ⟨Q,m⟩;rw[List.drop_zero,List.nil_append]at m;refine⟨⟨m.eS,λL n cap e=>by have:=m.low L n cap e;have:=q.1;omega⟩,q.trans (by grind[cg.aC,cg.trans,ek])⟩
end
end
section
set_option maxRecDepth 100000
set_option maxHeartbeats 4000000
noncomputable section
def o0(G:ao)(N:Nat):eP 8 Tryz.f101 G N (·.ad.ad.ad.ad.ad) (a8 Tryz.f101) []:=⟨_,v1 an⟩
def rH(G:ao)(N:Nat)(L2:ck):dO 8 49 50 51 Tryz.f101 G N (·.ad.ad.ad.ad.aj.ad.aj.aj.ad.ad.ad) (bO L2 8 49 50 51) [(2,(a6 (o0 G N) 8))]:=⟨_,v4 an⟩
def v8(G:ao)(N:Nat)(L2:ck):dO 8 49 50 51 Tryz.f101 G N (·.ad.ad.ad.ad.aj.ad.aj.aj) (bO L2 8 49 50 51) [(2,(a6 (o0 G N) 8))]:=⟨_,v4 (ak (ak (ak ((rH G N L2).2) an) an) an)⟩
def tB(G:ao)(N:Nat):Nat->ck
 |0=>fB
 |n+1=>v8 G N (tB G N n)
def qc(G:ao)(N:Nat):eP 5 Tryz.f101 G N (·.ad.ad.ad) (a8 Tryz.f101) []:=⟨_,v1 (ak (ak ((o0 G N).2) (ak (bh (bH (λm=>(v8 G N (tB G N m)).2))) an)) an)⟩
def rG(G:ao)(N:Nat)(L4:b8):ew 0 5 6 Tryz.f101 G N (·.ad.ad.aj.ad.aj.aj) (bo L4 0 5 6) [(0,(a6 (qc G N) 5))]:=⟨_,v3 an⟩
def qd(G:ao)(N:Nat):Nat->b8
 |0=>gQ
 |n+1=>rG G N (qd G N n)
def qb(G:ao)(N:Nat):gn Tryz.f101 G N:=⟨_,t2 (ak (ak (ak ((qc G N).2) (ak (bh (bH (λm=>(rG G N (qd G N m)).2))) an)) an) an)⟩
def aeO(N:Nat):=c6 Tryz.func101 λG=>(qb G N).2
def BN(G:ao):eQ Tryz.f147 G:=⟨_,λN=>t2 an⟩
def afj(N:Nat):=c6 Tryz.func147 λG=>(BN G).2 N
end
end
end Go.Proofs.YtmhhnnklfcbgfaaGreat
namespace Go.a2
open Go.cv
section
open Classical
def lK:List (List Int)->List Bool->Nat
 |f::fs,b::bs=>(if b then 0 else f.length)+lK fs bs
 |_,_=>0
def TX:∀{fs:List (List Int)} {met:List Bool} {c:Nat} {f:List Int},fs[c]? =A f->met[c]? =A I->lK fs (met.set c J)+f.length=lK fs met
 |[],_,_,_,h,_=>by grind
 |_::_,[],_,_,_,h=>by grind
 |g::fs,b::bs,0,f,h,ai=>by
  simp only[List.getElem?_cons_zero,bE]at h ai;subst h;subst ai;simp[lK];omega
 |g::fs,b::bs,c+1,f,h,ai=>by
  have:=TX (fs:=fs) (met:=bs) (c:=c) (by simpa using h) (by grind);grind[lK]
structure kz(fs:List (List Int))(roots:List Int)(met:List Bool)(work:List Int):Prop where
 len:met.length=fs.length
 snd:∀c:Nat,met[c]? =some true->fC fs roots c
 JV:∀n:Nat,(n:Int)∈work->n<fs.length->fC fs roots n
 gj:∀n:Nat,(n:Int)∈roots->n<fs.length->met[n]? =some true\/(n:Int)∈work
 Jx:∀c:Nat,met[c]? =some true->∀f,fs[c]? =some f->∀d:Nat,(d:Int)∈f->d<fs.length->met[d]? =some true\/(d:Int)∈work
theorem kz.start(fs:List (List Int))(roots:List Int):kz fs roots (List.replicate fs.length I) roots:=
 ⟨by simp,(by grind),λn h ar=> .root h ar,λn h _=> .inr h,(by grind)⟩
def kz.skip{fs:List (List Int)}{roots work:List Int}{met:List Bool}{a:Int}(h:kz fs roots met (work++[a]))(e:∀n:Nat,a=n->n<fs.length->met[n]? =A J):kz fs roots met work:=by
 have key:∀n:Nat,n<fs.length->met[n]? =A J\/(n:Int)∈work++[a]->met[n]? =A J\/(n:Int)∈work:=by
  grind
 exact⟨h.len,h.snd,λn aL=>h.JV n (List.mem_append.2 (.inl aL)),λn aL ar=>key n ar (h.gj n aL ar),λc aA f aB d b ar=>key d ar (h.Jx c aA f aB d b ar)⟩
def kz.take{fs:List (List Int)}{roots work f:List Int}{met:List Bool}{c:Nat}(h:kz fs roots met (work++[(c:Int)]))(aB:fs[c]? =A f):kz fs roots (met.set c J) (work++f):=by
 have aA:=(List.getElem?_eq_some_iff.1 aB).1;have au:fC fs roots c:=h.JV c (by simp) aA;have e:c<met.length:=by rw[h.len];exact aA
 have a:∀n:Nat,(met.set c J)[n]? =A J↔n=c\/met[n]? =A true:=by
  grind
 have key:∀n:Nat,met[n]? =A J\/(n:Int)∈work++[(c:Int)]->(met.set c J)[n]? =A J\/(n:Int)∈work++f:=by
  grind
 refine⟨by simp[h.len],?_,?_,λn aL ar=>key n (h.gj n aL ar),?_⟩
 ·intro n aL;rcases(a n).1 aL with rfl|ah
  ·omega
  ·exact h.snd n ah
 ·intro n aL ar;rcases List.mem_append.1 aL with ah|ah
  ·exact h.JV n (List.mem_append.2 (.inl ah)) ar
  ·exact .step au aB ah ar
 ·intro n aL g aR d b ar;rcases(a n).1 aL with rfl|ah
  ·grind
  ·exact key d (h.Jx n ah g aR d b ar)
def kz.done{fs:List (List Int)}{roots:List Int}{met:List Bool}(h:kz fs roots met [])(c:Nat):met[c]? =A J↔fC fs roots c:=by
 refine⟨h.snd c,λau=> ?_⟩
 induction au with
 |root ah ai=>exact(h.gj _ ah ai).elim id λh=>by grind
 |step _ aB a ar i=>exact(h.Jx _ i _ aB _ a ar).elim id λh=>by grind
def iY:List Bool->Nat->List Int
 |[],_=>[]
 |b::bs,k=>if b then(k:Int)::iY bs (k+1)else iY bs (k+1)
def D9{m:Nat}{p:Nat->Prop}:∀{bs:List Bool} {k:Nat},bs.length+k=m->(∀i,k<=i->i<m->(bs[i-k]? =A J↔p i))->iY bs k=((db m p).filter (λi=>decide (k<=i))).map (λ(n:Nat)=>(n:Int))
 |[],k,ar,_=>by
  have:(db m p).filter (λi=>decide (k<=i))=[]:=by
   grind[List.filter_eq_nil_iff,g4]
  rw[this];rfl
 |b::bs,k,ar,h=>by
  simp only[List.length_cons]at ar;have e:=D9 (m:=m) (p:=p) (bs:=bs) (k:=k+1) (by omega) (by grind);have c:=h k (by omega) (by omega);rw[Nat.sub_self]at c;simp only[List.getElem?_cons_zero,bE]at c;have d:(db m p).filter (λi=>decide (k<=i))=(if b then[k]else[])++(db m p).filter (λi=>decide (k+1<=i)):=by
   refine GX ((vL m p).filter _) ?_ λa=> ?_
   ·grind[vL]
   grind[g4]
  grind[iY]
def kz.list{fs:List (List Int)}{roots:List Int}{met:List Bool}(h:kz fs roots met []):iY met 0=(fa fs roots).map (λ(n:Nat)=>(n:Int)):=by
 have:=D9 (m:=fs.length) (p:=fC fs roots) (bs:=met) (k:=0) (by have:=h.len;omega) λi _ _=>by rw[Nat.sub_zero];exact h.done i
 grind[fa,List.filter_eq_self]
end
end Go.a2
namespace Go.Proofs.YtmhhnnklfcbgfaaGreat
open Go.cv
open Nat (reduceAdd reduceLeDiff)
section
open Go.a2
set_option maxRecDepth 2000
def da(l:List Bool):List (List af):=l.map λb=>[C b]
theorem u3{l:List Bool}{i:Nat}{b:Bool}(h:l[i]? =A b):(da l)[i]? =A [C b]:=by simp[da,h]
def Vv(l:List Bool)(i:Nat)(b:Bool):(da l).set i [C b]=da (l.set i b):=by simp[da,List.map_set]
def Jp{H:ae}{l:List Bool}{L:Nat}(h:H.get L=A (.row I 1 (da l)))(c:Option Nat):aI En H ba l (.az L 0 l.length 1 c):=
 .inr (.inl ⟨L,0,c,I,da l,rfl,trivial,h,by simp[da],λj b a=>⟨_,by grind[u3],rfl⟩⟩)
def yY{H:ae}{l:List Bool}{L i:Nat}{b b':Bool}(h:H.get L=A (.row I 1 (da l)))(aP:l[i]? =A b):cz P H 4 (.ptr L i 0) (C b')=A (H.set L (.row I 1 (da (l.set i b')))):=by
 rw[fb TM h (u3 aP) rfl rfl aa,<-Vv];rfl
def tm(l n:Nat)(aL:n<=1000000000):g5 (h0 P ⟨.leaf,l⟩ 104 (D F n) (D F n)) l=A (.az l 0 n 1 (A n),.row I 1 (da (List.replicate n I))):=by
 rw[rz (e:=4) (b:=1) (z:= C I) aG aG aG aG rfl rfl b0 b0 l n aL];simp[da,af.cells]
section
variable {H:ae}{ok ok':Nat->Prop}
theorem aa1{fs:List (List Int)}{v:af}{c:Int}(h:aI (bp aN) H ok fs v):W (aK P aD 147 [v,D F c] H) λr H'=>r= C (decide (0<=c/\c<fs.length))/\H'=H:=by
 refine afj 0 ?_;by_cases a:0<=c
 ·refine ahx @BN.eq_1 a @decide_true (h.bf dJ) @true_and @c0 ?_;grind[aE]
 ·refine ahw @BN.eq_1 a @decide_false false_and @c0 ?_;grind[aE]
theorem Fu{met:List Bool}{L B:Nat}{c:Option Nat}(g:met.length<=100000){N:Nat}:∀(j k m:Nat) (H:ae) (l:List Int) (v:af),k+j=met.length->j<m->H.get L=A (.row I 1 (da met))->aZ aN B ba H l v->L<B->B<=H.next->l.length<=k->
  W (tB (aK P aD) N m v (.az L 0 met.length 1 c) (D F met.length) (D F k) H) λr H'=>aZ aN B ba H' (l++iY (met.drop k) k) r/\cg B H H'
 |_,_,0,_,_,_,_,hm,_,_,_,_,_=>aa
 |0,k,m+1,H,l,v,u,_,aR,ar,_,_,_=>by
  have K:¬(k:Int)<(met.length:Int):=aa;refine bb @o0.eq_1 @rH.eq_1 @v8.eq_1 @tB.eq_2 @qc.eq_1 (ag @rG.eq_1 (ag @qd.eq_2 @qb.eq_1)) ?_;refine aE.2 ⟨?_,.refl _ _⟩;grind[iY]
 |j+1,k,m+1,H,l,v,u,hm,aR,ar,d,f,M=>by
  have w:k<met.length:=aa;obtain⟨p,i,b⟩:=(Jp aR c).bool (j:=(k:Int)) (a:=met[k]) aa al;rw[List.drop_eq_getElem_cons w,iY];have n:=e8 (show k<=1000000000 by omega);cases h:met[k]with
  |false=>
   rw[h]at b;refine bb @o0.eq_1 @rH.eq_1 @v8.eq_1 @tB.eq_2 @qc.eq_1 (ag @rG.eq_1 (ag @qd.eq_2 (ag @qb.eq_1 (ag i (ag b n))))) ?_;exact Fu g j (k+1) m H l v aa aa aR ar d f aa
  |true=>
   rw[h]at b;obtain⟨x,H',o,q,e,z,E⟩:=ar.j4 (a:=(k:Int)) f aa;have hle:(H.push (.row I 1 [[D F (k:Int)]])).next<=H'.next:=by simp;omega
   refine bb @o0.eq_1 @rH.eq_1 @v8.eq_1 @tB.eq_2 @qc.eq_1 (ag @rG.eq_1 (ag @qd.eq_2 (ag @qb.eq_1 (ag i (ag b (ag @c3 (ag o n))))))) ?_;have t:H'.get L=A (.row I 1 (da met)):=by rw[e.2 L d];omega
   refine(Fu g j (k+1) m H' (l++[(k:Int)]) x aa aa t q d aa al).mono ?_;rintro r y ⟨G,s⟩;refine⟨?_,e.trans s⟩;grind
theorem zV{fs:List (List Int)}{roots:List Int}{fv:af}{L B:Nat}{c:Option Nat}(aL:fs.length<=100000)(t:∀l,ok l->l<B){N:Nat}(z:fs.length<N):∀(m:Nat) (H:ae) (met:List Bool) (work:List Int) (b6:af),kz fs roots met work->work.length+lK fs met<m->work.length+lK fs met<=1000000000->aI (bp aN) H ok fs fv->H.get L=A (.row I 1 (da met))->aZ aN (L+1) ba H work b6->kC aN b6->L=B->L<H.next->
  W (qd (aK P aD) N m fv (.az L 0 fs.length 1 c) b6 H) λr H'=>aZ aN B ba H' ((fa fs roots).map λ(n:Nat)=>(n:Int)) r/\cg B H H'
 |0,_,_,_,_,_,hm,_,_,_,_,_,_,_=>aa
 |m+1,H,met,work,b6,aP,hm,G,aB,aR,hw,aA,T,y=>by
  subst T;have hlen:=aP.len;rcases List.eq_nil_or_concat work with rfl|⟨aT,a,rfl⟩
  ·have ai:¬(0:Int)<((([]:List Int).length:Nat):Int):=aW;rw[<-hlen];have Y:bD P .empty .len [104] [.az L 0 met.length 1 c]=A (D F met.length):=hN pW.un _ _ _ _ _;simp-implicitDefEqProofs(disch:=try exact aY)only[o0,rH,qc,rG,qd,qb,ez,c0,eU,hw.az.len bV,ai,decide_false,Y];refine(Fu (B:=L+1) aa met.length 0 N H [] .aq aa aa aR (aZ.nil _ _ _ _) aa aa aW).mono ?_;rintro r H' ⟨d,x⟩;rw[List.nil_append,List.drop_zero,aP.list]at d;exact⟨⟨d.eS,λL' n c e=>by have:=d.low L' n c e;omega⟩,x.le aa⟩
  ·rw[List.concat_eq_append]at aP hm G hw;have aj:(0:Int)<(((aT++[a]).length:Nat):Int):=aW;have ab:IntKind.i64.wrap ((((aT++[a]).length:Nat):Int)-1)=(aT.length:Int):=by
    grind[wrap_i64]
   obtain⟨p,an,ao⟩:=hw.az.int (j:=(aT.length:Int)) (a:=a) aa aW;obtain⟨w,ap,i,E⟩:=hw.pop bV aA;simp only[List.length_append,List.length_cons,List.length_nil,Nat.zero_add]at hm G;simp-implicitDefEqProofs(disch:=try exact aY)only[o0,rH,qc,rG,qd,qb,ez,c0,eU,hw.az.len bV,aj,decide_true,ab,an,ao,ap];refine dK (aa1 aB) ?_;by_cases K:0<=a/\a<fs.length
   ·obtain⟨n,rfl⟩:∃n:Nat,a=n:=⟨a.toNat,aa⟩;have aC:n<fs.length:=aa;have aE:n<met.length:=aa;have M:fs[n]? =A fs[n]:=al;obtain⟨am,u,R⟩:=(Jp aR c).bool (j:=(n:Int)) (a:=met[n]) aa al;rw[hlen]at u;refine cu K @and_self u R ?_;cases ay:met[n]with
    |true=>
     refine bM ?_;exact zV aL t z m H met aT w (aP.skip al) aa aa aB aR i E rfl y
    |false=>
     have O:met[n]? =A false:=al;have ad:=yY (b':=true) aR O;have Q:am= .ptr L n 0:=by
      grind[nJ,pW]
     subst Q;have aF:=TX M O;have ak:∀k,k≠L->(H.set L (.row I 1 (da (met.set n J)))).get k=H.get k:=(by grind[ae.b_]);have U:aI (bp aN) (H.set L (.row I 1 (da (met.set n J)))) ok fs fv:=aB.keep λk b f g=>al
     have av:(H.set L (.row I 1 (da (met.set n J)))).get L=A (.row I 1 (da (met.set n J))):=ae.cO y;have ah:aZ aN (L+1) ba (H.set L (.row I 1 (da (met.set n J)))) aT w:=by
      refine⟨?_,i.low⟩;rcases i.eS with h|⟨L',els,cap,o,v,q,s⟩
      ·exact .inl h
      ·have:=i.low _ _ _ o;exact .inr ⟨L',els,cap,o,v,al,s.1,s.2.1,s.2.2⟩
     obtain⟨aG,wf,f1,f2,f3⟩:=U.list (j:=(n:Int)) (a:=fs[n]) aa al;obtain⟨ar,H',o,v,q,s,S⟩:=ah.ints (by simp;omega) f3 aa;have hle:=q.1;refine dd u ad f1 f2 o ?_;have V:H'.get L=A (.row I 1 (da (met.set n J))):=by rw[q.2 L aa];omega
     have pu:cg L H H':=⟨fH hle,λk f=>by rw[q.2 k aa,ak k aa]⟩;refine(zV aL t z m H' (met.set n J) (aT++fs[n]) ar (aP.take M) al al (aB.keep λk b f g=>⟨f,by rw[pu.2 k (t k f)];exact g⟩) V v (E.app S) rfl (by have:=pu.1;omega)).mono ?_;rintro r au ⟨d,x⟩;exact⟨d,pu.trans x⟩
   ·refine bK (decide_eq_false K) ?_;refine zV aL t z m H met aT w (aP.skip λk f ax=> ?_) aa aa aB aR i E rfl y;omega
def aO(l:List Nat):List Int:=l.map λ(n:Nat)=>(n:Int)
def ZP{fs:List (List Int)}{roots:List Int}{fv rv:af}(aB:aI (bp aN) H ok fs fv)(au:aI aN H ok' roots rv)(aL:fs.length<=100000)(f:roots.length+lK fs (List.replicate fs.length I)<=1000000000):W (aK P aD 101 [fv,rv] H) λr H'=>aZ aN H.next ba H' (aO (fa fs roots)) r/\aw H H':=by
 refine aeO (roots.length+lK fs (List.replicate fs.length I)+fs.length+1) ?_;have c:=aw.push H (.row I 1 (da (List.replicate fs.length I)));simp-implicitDefEqProofs(disch:=try exact aY)only[o0,rH,qc,qb,ez,eU,aB.len dJ,tm _ _ (show fs.length<=1000000000 by omega)];refine cB (LC (au.aC c) aa) ?_;rintro w H1 ⟨a6,bd,bo⟩;refine⟨bd.1,?_⟩;have cX:=bd.1;simp only[ae.fW]at cX a6;have pu:cg H.next H H1:=(ek c aa).trans (ek bd aW)
 refine(zV (fs:=fs) (roots:=roots) (ok:=(· <H.next)) aL aa aa _ H1 (List.replicate fs.length I) roots w (kz.start fs roots) aa f (aB.below.keep λk b a g=>⟨a,by rw[pu.2 k a];exact g⟩) (by rw[bd.2 _ aW];exact ae.a1 _ _) a6 bo rfl aa).mono ?_;rintro r h ⟨d,e⟩;exact⟨d,cg.aC (pu.trans e)⟩
end
end
section
set_option maxRecDepth 100000
set_option maxHeartbeats 4000000
noncomputable section
def tI(G:ao)(N:Nat):gT 8 16 Tryz.f130 G N (·.ad.ad.ad.ad.ad.ad.ad.ad.ad.ad.ad) (a8 Tryz.f130) []:=⟨_,v2 an⟩
def wg(G:ao)(N:Nat)(L4:cH):fQ 6 8 12 16 104 105 Tryz.f130 G N (·.ad.ad.ad.ad.ad.ad.ad.ad.ad.ad.aj.ad.aj.aj.ad.ad.ad) (cm L4 6 8 12 16 104 105) [(6,(bd (tI G N) 8 16))]:=⟨_,v6 an⟩
def Bf(G:ao)(N:Nat)(L4:cH)(L6:jO):qR 6 8 12 16 18 104 105 114 115 Tryz.f130 G N (·.ad.ad.ad.ad.ad.ad.ad.ad.ad.ad.aj.ad.aj.aj.ad.ad.aj.aj.ad.ad.ad.aj.aj) (pA L6 6 8 12 16 18 104 105 114 115) [(8,(cm (wg G N L4) 6 8 12 16 104 105)),(7,(cm (wg G N L4) 6 8 12 16 104 105)),(6,(bd (tI G N) 8 16))]:=⟨_,Xu an⟩
def wj(G:ao)(N:Nat)(L4:cH):Nat->jO
 |0=>y_
 |n+1=>Bf G N L4 (wj G N L4 n)
def Be(G:ao)(N:Nat)(L4:cH):fQ 6 8 12 16 104 105 Tryz.f130 G N (·.ad.ad.ad.ad.ad.ad.ad.ad.ad.ad.aj.ad.aj.aj) (cm L4 6 8 12 16 104 105) [(6,(bd (tI G N) 8 16))]:=⟨_,pE (ak (ak (ak ((wg G N L4).2) (bh (ak (ak (ak (bh (bH (λm=>(Bf G N L4 (wj G N L4 m)).2))) an) an) an))) an) an)⟩
def wh(G:ao)(N:Nat):Nat->cH
 |0=>iK
 |n+1=>Be G N (wh G N n)
def Bl(G:ao)(N:Nat):dO 6 8 12 16 Tryz.f130 G N (·.ad.ad.ad.ad.ad.ad.ad.ad.ad.ad) (a8 Tryz.f130) []:=⟨_,v4 (ak ((tI G N).2) (ak (bh (bH (λm=>(Be G N (wh G N m)).2))) an))⟩
def Bg(G:ao)(N:Nat)(a:cH):fQ 6 8 12 16 85 86 Tryz.f130 G N (·.ad.ad.ad.ad.ad.ad.ad.ad.ad.aj.ad.aj.aj) (cm a 6 8 12 16 85 86) [(4,(bO (Bl G N) 6 8 12 16))]:=⟨_,pE an⟩
def wk(G:ao)(N:Nat):Nat->cH
 |0=>iK
 |n+1=>Bg G N (wk G N n)
def Bk(G:ao)(N:Nat):e6 4 5 6 8 12 Tryz.f130 G N (·.ad.ad.ad.ad.ad.ad.ad) (a8 Tryz.f130) []:=⟨_,nF (ak (ak (ak ((Bl G N).2) (ak (bh (bH (λm=>(Bg G N (wk G N m)).2))) an)) an) an)⟩
def Bh(G:ao)(N:Nat)(L8:ei):gZ 4 5 6 8 12 68 69 Tryz.f130 G N (·.ad.ad.ad.ad.ad.ad.aj.ad.aj.aj) (dw L8 4 5 6 8 12 68 69) [(2,(b3 (Bk G N) 4 5 6 8 12))]:=⟨_,hf an⟩
def wm(G:ao)(N:Nat):Nat->ei
 |0=>k5
 |n+1=>Bh G N (wm G N n)
def Bj(G:ao)(N:Nat):fQ 4 5 6 8 11 12 Tryz.f130 G N (·.ad.ad.ad.ad.ad.ad) (a8 Tryz.f130) []:=⟨_,v6 (ak ((Bk G N).2) (ak (bh (bH (λm=>(Bh G N (wm G N m)).2))) an))⟩
def Bi(G:ao)(N:Nat)(L9:jO):qR 4 5 6 8 11 12 58 59 60 Tryz.f130 G N (·.ad.ad.ad.ad.ad.aj.ad.aj.aj) (pA L9 4 5 6 8 11 12 58 59 60) [(0,(cm (Bj G N) 4 5 6 8 11 12))]:=⟨_,v9 an⟩
def tJ(G:ao)(N:Nat):Nat->jO
 |0=>y_
 |n+1=>Bi G N (tJ G N n)
def Hh(G:ao)(N:Nat):Eu Tryz.f130 G N:=⟨λx x1 x2 x3 H=>fp H (fl (H).next x) λx4 ah=>fp ah (fl (ah).next x1) λx5 ai=>fp ai (fl (ai).next x2) λx6 ay=>fA ay [af.aq,af.aq] λx8 aM=>aU (aJ P aM 3 x4) λy=>eg aM (G 176 [y,D F 70001] aM) λp t=>b1 p J t (qr (aJ P t 3 x5)) λz n=>b1 p J n (λq=>eh n (G 176 [z,D F 61] n) q) λB u=>aU (dA p (A B) (A (C I))) λx25=>b1 x25 J u (qr (aJ P u 3 x6)) λE o=>b1 x25 J o (λq=>eh o (G 176 [E,D F 9] o) q) λK w=>aU (dA x25 (A K) (A (C I))) λL=>aU (jX .not L) λk=>b1 k I w (qv x3) λM v=>b1 k I v (qv (.func (.func 178) [] [x4,x5,x6])) λO l=>b1 k I l (λq=>eh l (G 177 [M,O] l) q) λQ a=>aU (dA k (A (C J)) (A Q)) λR=>eB (A R) (gG a (cz P a 154 x8 (.agg [af.aq,af.aq])) λc=>aU (aJ P c 154 x8) λr=>A (.tuple [r,D F 5],c)) (aU (aJ P a 3 x4) λS=>aU (aJ P a 3 x5) λT=>aU (aJ P a 3 x6) λU=>aU (bx P .mul 3 I T U) λV=>aU (bx P .add 3 I S V) λb=>aU (aJ P a 3 x4) λd=>aU (aJ P a 3 x6) λe=>fp a (g5 (h0 P ⟨.leaf,(a).next⟩ 243 b b) (a).next) λW c=>fp c (g5 (h0 P ⟨.leaf,(c).next⟩ 31 b b) (c).next) λY f=>fp f (g5 (h0 P ⟨.leaf,(f).next⟩ 244 b b) (f).next) λx50 g=>fp g (g5 (h0 P ⟨.leaf,(g).next⟩ 243 b b) (g).next) λx52 i=>fp i (A (.map (i).next,.map [])) λaa h=>fp h (g5 (h0 P ⟨.leaf,(h).next⟩ 104 b b) (h).next) λab j=>aU (ey P 248 [(0,d),(1,e),(2,W),(3,Y),(4,x50),(5,x52),(6,aa),(8,ab)]) λad=>fp j (fl (j).next ad) λae s=>bif ((bG (aJ P a 3 x4) d&&(bG (aJ P c 3 x4) d&&(bG (aJ P f 3 x4) d&&(bG (aJ P g 3 x4) d&&(bG (aJ P i 3 x4) d&&(bG (aJ P h 3 x4) d&&(bG (aJ P j 3 x4) d&&J)))))))&&((bG (aJ P a 3 x6) e&&(bG (aJ P c 3 x6) e&&(bG (aJ P f 3 x6) e&&(bG (aJ P g 3 x6) e&&(bG (aJ P i 3 x6) e&&(bG (aJ P h 3 x6) e&&(bG (aJ P j 3 x6) e&&J)))))))&&J))then(eU P .len [53] [x3] s λaj=>tJ G N N x4 x5 x6 x8 b ae x3 aj (D F 0) s)else Z),abr (ak (ak (ak (ak (ak (ak ((Bj G N).2) (ak (bh (bH (λm=>(Bi G N (tJ G N m)).2))) an)) an) an) an) an) an)⟩
def ae6(N:Nat):=oW Tryz.func130 λG=>(Hh G N).2
def BQ(G:ao):eQ Tryz.f176 G:=⟨_,λN=>t2 an⟩
def afv(N:Nat):=c6 Tryz.func176 λG=>(BQ G).2 N
def HG(G:ao):sC Tryz.f178 G:=⟨_,λN=>t4 an⟩
def afx(N:Nat):=oW Tryz.func178 λG=>(HG G).2 N
def qk(G:ao):W0 Tryz.f179 G (·.ad.ad) (a8 Tryz.f179) []:=⟨_,λN=>v0 an⟩
def tS(G:ao):W6 1 2 3 4 10 35 Tryz.f179 G (·.ad.aj.ad.aj.ad.ad.ad.ad.ad) (bu (qk G)) [(0,(bu (qk G)))]:=⟨_,λN=>v6 an⟩
def rL(G:ao):sC Tryz.f179 G:=⟨_,λN=>t4 (ak (ak ((qk G).2 N) (ak (bh (ak (c9 an (ak (c9 an (ak ((tS G).2 N) an)) an)) an)) an)) an)⟩
def afy(N:Nat):=oW Tryz.func179 λG=>(rL G).2 N
def BT(G:ao)(N:Nat)(L0:ck):dO 0 3 81 82 Tryz.f180 G N (·.ad.ad.aj.ad.ad.ad.ad.ad.ad.ad.ad.ad.aj.ad.aj.aj) (bO L0 0 3 81 82) [(1,(a8 Tryz.f180)),(0,(a8 Tryz.f180))]:=⟨_,l6 an⟩
def wU(G:ao)(N:Nat):Nat->ck
 |0=>fB
 |n+1=>BT G N (wU G N n)
def rM(G:ao)(N:Nat):gn Tryz.f180 G N:=⟨_,pD (ak (ak (bh (ak (c9 an (ak (c9 an (ak (c9 an (ak (c9 an (ak (c9 (ak (bh (bH (λm=>(BT G N (wU G N m)).2))) an) an) an)) an)) an)) an)) an)) an) an)⟩
def afz(N:Nat):=c6 Tryz.func180 λG=>(rM G N).2
def BU(G:ao):eQ Tryz.f181 G:=⟨_,λN=>t2 an⟩
def afA(N:Nat):=c6 Tryz.func181 λG=>(BU G).2 N
def BV(G:ao)(N:Nat)(L0:T1)(L2:cF):e6 0 2 69 70 71 Tryz.f182 G N (·.aj.aj.ad.aj.ad.ad.ad.ad.ad.ad.aj.aj) (b3 L2 0 2 69 70 71) [(4,(a6 L0 0)),(1,(a6 L0 0)),(0,(a8 Tryz.f182))]:=⟨_,v5 an⟩
def wV(G:ao)(N:Nat)(L0:T1):Nat->cF
 |0=>hW
 |n+1=>BV G N L0 (wV G N L0 n)
def BX(G:ao)(N:Nat)(L0:T1):gT 0 2 Tryz.f182 G N (·.aj.aj.ad.aj.ad.ad.ad.ad.ad) (a6 L0 0) [(1,(a6 L0 0)),(0,(a8 Tryz.f182))]:=⟨_,v2 (ak (bh (bH (λm=>(BV G N L0 (wV G N L0 m)).2))) an)⟩
def BW(G:ao)(N:Nat)(L0:T1)(L3:cF):e6 0 2 52 53 54 Tryz.f182 G N (·.aj.aj.ad.aj.ad.ad.ad.ad.aj.ad.aj.aj) (b3 L3 0 2 52 53 54) [(2,(bd (BX G N L0) 0 2)),(1,(a6 L0 0)),(0,(a8 Tryz.f182))]:=⟨_,v5 an⟩
def wW(G:ao)(N:Nat)(L0:T1):Nat->cF
 |0=>hW
 |n+1=>BW G N L0 (wW G N L0 n)
def HK(G:ao)(N:Nat)(L0:T1):eP 0 Tryz.f182 G N (·.aj.aj) (a6 L0 0) [(0,(a8 Tryz.f182))]:=⟨_,q4 (ak (bh (ak (ak (ak (ak (ak ((BX G N L0).2) (ak (bh (bH (λm=>(BW G N L0 (wW G N L0 m)).2))) an)) an) an) an) an)) an)⟩
def BY(G:ao)(N:Nat):Nat->T1
 |0=>Ur
 |n+1=>HK G N (BY G N n)
def HJ(G:ao)(N:Nat):f_ Tryz.f182 G N:=⟨_,t1 (bh (bH (λm=>(HK G N (BY G N m)).2)))⟩
def afB(N:Nat):=eo Tryz.func182 λG=>(HJ G N).2
def wX(G:ao)(N:Nat):eP 3 Tryz.f183 G N (·.ad.ad.ad) (a8 Tryz.f183) []:=⟨_,v1 an⟩
def HM(G:ao)(N:Nat)(L1:b8):ew 0 3 4 Tryz.f183 G N (·.ad.ad.aj.ad.aj.aj.ad.ad) (bo L1 0 3 4) [(0,(a6 (wX G N) 3))]:=⟨_,v3 an⟩
def tT(G:ao)(N:Nat)(L1:b8):ew 0 3 4 Tryz.f183 G N (·.ad.ad.aj.ad.aj.aj) (bo L1 0 3 4) [(0,(a6 (wX G N) 3))]:=⟨_,v3 (ak (ak ((HM G N L1).2) an) an)⟩
def rN(G:ao)(N:Nat):Nat->b8
 |0=>gQ
 |n+1=>tT G N (rN G N n)
def HL(G:ao)(N:Nat):f_ Tryz.f183 G N:=⟨_,t1 (ak (ak (ak ((wX G N).2) (ak (bh (bH (λm=>(tT G N (rN G N m)).2))) an)) an) an)⟩
def afC(N:Nat):=eo Tryz.func183 λG=>(HL G N).2
def HN(G:ao):jS Tryz.f184 G:=⟨_,λN=>t3 an⟩
def afD(N:Nat):=hp Tryz.func184 λG=>(HN G).2 N
def Ch(G:ao):jS Tryz.f220 G:=⟨_,λN=>t3 an⟩
def afT(N:Nat):=hp Tryz.func220 λG=>(Ch G).2 N
def xf(G:ao):jS Tryz.f221 G:=⟨λb x1 x2 H=>aU (dS b) λx10=>aU (bP P 248 x10 6) λx11=>aU (aJ P H 245 x11) λx12=>aU (ey P 312 [(0,x1),(1,x2)]) λx15=>aU (mC P H 245 x12 x15 J) λx16=>aU (jd x16 0) λx17=>aU (jd x16 1) λg=>fA H [] λx6 ah=>gG ah (cz P ah 310 x6 x17) λai=>b1 g I ai (qv x1) λo ay=>b1 g I ay (qv x2) λp aM=>b1 g I aM (cn (bx P .eql 3 I o p)) λq d=>aU (dA g (A (C J)) (A q)) λr=>eB (A r) (A (.tuple [],d)) (aU (dS b) λx26=>aU (bP P 248 x26 6) λs=>aU (aJ P d 245 s) λt=>aU (ey P 312 [(0,x1),(1,x2)]) λu=>gG d (jU P d 245 t u (.agg [])) λa=>aU (dS b) λw=>aU (bP P 248 w 3) λj=>aU (aJ P a 31 j) λk=>aU (ct P 31 k x1) λl=>aU (aJ P a 30 l) λm=>fp a (gu P (a).next 30 1 [(0,x2)]) λx c=>eg c (ej P c [30,30] m x) λy e=>aU (dS b) λv=>aU (bP P 248 v 3) λh=>aU (aJ P e 31 h) λi=>aU (ct P 31 i x1) λz=>gG e (cz P e 30 z y) λf=>bif ((bG (aJ P a 31 j) k&&(bG (aJ P c 31 j) k&&J))&&((bG (aJ P a 30 l) m&&(bG (aJ P c 30 l) m&&J))&&((bG (aJ P a 31 h) i&&(bG (aJ P c 31 h) i&&(bG (aJ P e 31 h) i&&J)))&&J)))then(aU (dS b) λx52=>aU (bP P 248 x52 2) λB=>aU (aJ P f 243 B) λE=>aU (ct P 243 E x1) λK=>aU (aJ P f 251 K) λL=>eg f (G 220 [b,x2,L] f) λM n=>A (.tuple [],n))else Z),λN=>N_ an⟩
def afU(N:Nat):=hp Tryz.func221 λG=>(xf G).2 N
def H_(G:ao)(N:Nat)(L0:cF):e6 0 2 14 15 16 Tryz.f225 G N (·.ad.aj.aj.ad.ad.ad) (b3 L0 0 2 14 15 16) [(0,(a8 Tryz.f225))]:=⟨_,v5 an⟩
def xh(G:ao)(N:Nat)(L0:cF):e6 0 2 14 15 16 Tryz.f225 G N (·.ad.aj.aj) (b3 L0 0 2 14 15 16) [(0,(a8 Tryz.f225))]:=⟨_,nF (ak (ak (ak ((H_ G N L0).2) an) an) an)⟩
def ua(G:ao)(N:Nat):Nat->cF
 |0=>hW
 |n+1=>xh G N (ua G N n)
def H9(G:ao)(N:Nat):nA Tryz.f225 G N:=⟨_,t3 (ak (bh (bH (λm=>(xh G N (ua G N m)).2))) an)⟩
def afX(N:Nat):=hp Tryz.func225 λG=>(H9 G N).2
def H7(G:ao):eQ Tryz.f222 G:=⟨λa x1 H=>kg G H a "Push" [x1] λx6 ah=>kg G ah a "Len" [] λx9 ai=>aU (bx P .sub 3 J x9 (D F 1)) λx10=>eg ai (G 250 [a,x10] ai) λx11 ay=>A (.tuple [],ay),λN=>N9 an⟩
def afV(N:Nat):=c6 Tryz.func222 λG=>(H7 G).2 N
def xg(G:ao):hr Tryz.f223 G:=⟨_,λN=>t1 an⟩
def G5(N:Nat):=eo Tryz.func223 λG=>(xg G).2 N
def H8(G:ao):hr Tryz.f224 G:=⟨λa H=>kg G H a "Len" [] λx5 ah=>aU (bx P .sub 3 J x5 (D F 1)) λx6=>kg G ah a "Swap" [D F 0,x6] λx9 ai=>eg ai (G 251 [a,D F 0,x6] ai) λx12 ay=>kg G ay a "Pop" [] λb aM=>A (b,aM),λN=>Af an⟩
def afW(N:Nat):=eo Tryz.func224 λG=>(H8 G).2 N
def Cn(G:ao)(N:Nat)(L0:T2):gT 0 1 Tryz.f250 G N (·.aj.aj) (bd L0 0 1) [(0,(a8 Tryz.f250))]:=⟨λa x1 H=>aU (bx P .sub 3 J x1 (D F 1)) λx6=>aU (bx P .quo 3 J x6 (D F 2)) λx7=>aU (bx P .eql 3 I x7 x1) λx10=>b1 x10 I H (qv a) λx12 ah=>b1 x10 I ah (qv x1) λd ai=>b1 x10 I ai (qv x7) λe ay=>b1 x10 I ay (λq=>(jB P ay x12 "Less" [d,e]).bind λp=>eh ay (G p.1 p.2 ay) q) λx15 aM=>b1 x10 I aM (cn (jX .not x15)) λx16 b=>aU (dA x10 (A (C J)) (A x16)) λx17=>eB (A x17) (A (.tuple [],b)) (kg G b a "Swap" [x7,x1] λf c=>L0 a x7 c),cR an⟩
def xo(G:ao)(N:Nat):Nat->T2
 |0=>ns
 |n+1=>Cn G N (xo G N n)
def Iq(G:ao)(N:Nat):gn Tryz.f250 G N:=⟨_,t2 (bh (bH (λm=>(Cn G N (xo G N m)).2)))⟩
def agc(N:Nat):=c6 Tryz.func250 λG=>(Iq G N).2
def rX(G:ao)(N:Nat):gT 1 7 Tryz.f251 G N (·.ad.ad.ad) (a8 Tryz.f251) []:=⟨_,v2 an⟩
def xq(G:ao)(N:Nat)(L1:ck):e6 0 1 2 7 9 Tryz.f251 G N (·.ad.ad.aj.aj.aj.aj.ad.ad.ad.ad) (bO L1 0 1 2 7) [(1,(bO L1 0 1 2 7)),(0,(bd (rX G N) 1 7))]:=⟨λa x1 x2 x7 x9 H=>kg G H a "Less" [x9,x7] λb ah=>aU (jX .not b) λc=>eB (A c) (rX G N x1 x7 ah) (kg G ah a "Swap" [x7,x9] λd ai=>L1 a x1 x2 x9 ai),cR an⟩
def xp(G:ao)(N:Nat)(L1:ck):dO 0 1 2 7 Tryz.f251 G N (·.ad.ad.aj.aj.aj) (bO L1 0 1 2 7) [(0,(bd (rX G N) 1 7))]:=⟨λd x1 x2 x7 H=>aU (bx P .mul 3 J (D F 2) x7) λg=>aU (bx P .add 3 J g (D F 1)) λa=>aU (bx P .geq 3 I a x2) λx17=>b1 x17 I H (qv a) λh ah=>b1 x17 I ah (cn (bx P .lss 3 J h (D F 0))) λi ai=>aU (dA x17 (A (C J)) (A i)) λj=>eB (A j) (rX G N x1 x7 ai) (aU (bx P .add 3 J a (D F 1)) λe=>aU (bx P .lss 3 I e x2) λb=>b1 b J ai (qv d) λk ay=>b1 b J ay (qv e) λl aM=>b1 b J aM (qv a) λm c=>b1 b J c (λq=>(jB P c k "Less" [l,m]).bind λp=>eh c (G p.1 p.2 c) q) λn f=>aU (dA b (A n) (A (C I))) λo=>eB (A o) (xq G N L1 d x1 x2 x7 e f) (xq G N L1 d x1 x2 x7 a f)),cR (bh (ak (ak (ak (ak ((xq G N L1).2) an) an) an) an))⟩
def rY(G:ao)(N:Nat):Nat->ck
 |0=>fB
 |n+1=>xp G N (rY G N n)
def Ir(G:ao)(N:Nat):nA Tryz.f251 G N:=⟨_,t3 (ak (ak (ak ((rX G N).2) (bh (bH (λm=>(xp G N (rY G N m)).2)))) an) an)⟩
def agd(N:Nat):=hp Tryz.func251 λG=>(Ir G N).2
def Ix(G:ao):jS Tryz.f281 G:=⟨_,λN=>t3 an⟩
def agm(N:Nat):=hp Tryz.func281 λG=>(Ix G).2 N
def Iy(G:ao):jS Tryz.f282 G:=⟨_,λN=>vc an⟩
def agn(N:Nat):=hp Tryz.func282 λG=>(Iy G).2 N
def Iz(G:ao):hr Tryz.f283 G:=⟨_,λN=>t1 an⟩
def ago(N:Nat):=eo Tryz.func283 λG=>(Iz G).2 N
def IA(G:ao):eQ Tryz.f284 G:=⟨_,λN=>pD an⟩
def agp(N:Nat):=c6 Tryz.func284 λG=>(IA G).2 N
end
end
end Go.Proofs.YtmhhnnklfcbgfaaGreat
namespace Go.a2
open Go.cv
structure Ask where
 fE:Bool
 o:Nat
 f:Nat
structure bI where
 am:List Nat
 g1:List (List Nat)
 asks:List (List Ask)
 seen:List Nat
 work:List Nat
 waits:List Bool
def bI.a(S:bI)(v:Nat):Nat:=S.am.getD v 0
def bI.g(S:bI)(v:Nat):List Nat:=S.g1.getD v []
def bI.q(S:bI)(v:Nat):List Ask:=S.asks.getD v []
def bI.s(S:bI)(v:Nat):Nat:=S.seen.getD v 0
def bI.w(S:bI)(v:Nat):Bool:=S.waits.getD v I
def ji(S:bI)(v:Nat):bI:=if S.w v then S else {S with waits:=S.waits.set v J,work:=v::S.work}
def gJ(S:bI)(v x:Nat):bI:=if S.a v|||x=S.a v then S else ji {S with am:=S.am.set v (S.a v|||x)} v
def iA(S:bI)(a b:Nat):bI:=if b∈S.g a\/a=b then S else gJ {S with g1:=S.g1.set a (S.g a++[b])} b (S.a a)
def dk(n t f:Nat):Nat:=n+t*8+f
def l0(S:bI)(v:Nat)(q:Ask):bI:={S with asks:=S.asks.set v (S.q v++[q])}
def nd(n:Nat)(S:bI)(a b:Nat):List Nat->bI
 |[]=>S
 |f::fs=>nd n (iA (iA S (dk n a f) (dk n b f)) (dk n b f) (dk n a f)) a b fs
def sM(n:Nat)(S:bI):bt->bI
 | .base a b=>gJ S a (1<<<b)
 | .copy a b=>iA S b a
 | .load a b f=>l0 S b ⟨J,a,f⟩
 | .store a b f=>l0 S a ⟨I,b,f⟩
 | .same a b=>nd n S a b (List.range 8)
def sN(n:Nat):List bt->bI->bI
 |[],S=>S
 |c::cs,S=>sN n cs (sM n S c)
def oz(n t:Nat)(S:bI)(q:Ask):bI:=if q.fE then iA S (dk n t q.f) q.o else iA S q.o (dk n t q.f)
def lW(n t:Nat):List Ask->bI->bI
 |[],S=>S
 |q::qs,S=>lW n t qs (oz n t S q)
def qA(n v:Nat):List Nat->bI->bI
 |[],S=>S
 |t::ts,S=>qA n v ts (lW n t (S.q v) S)
def mK(v:Nat):List Nat->bI->bI
 |[],S=>S
 |b::bs,S=>mK v bs (gJ S b (S.a v))
def bits(x:Nat):List Nat:=(List.range 64).filter (x.testBit ·)
def kX(S:bI)(v:Nat):bI:={S with work:=S.work.erase v,waits:=S.waits.set v I}
def nf(S:bI)(v:Nat):bI:={S with seen:=S.seen.set v (S.s v|||S.a v)}
def ln(S:bI)(v:Nat):List Nat:=(List.range 64).filter λt=>(S.a v).testBit t&& !(S.s v).testBit t
def pY(n:Nat)(S:bI)(v:Nat):bI:=qA n v (ln S v) (nf (kX S v) v)
def D2(n:Nat)(S:bI)(v:Nat):bI:=mK v ((pY n S v).g v) (pY n S v)
def gO(V:Nat):bI:=⟨List.replicate V 0,List.replicate V [],List.replicate V [],List.replicate V 0,[],List.replicate V I⟩
def pM{α:Type}{l:List α}{i j:Nat}{x d:α}(h:i<l.length):(l.set i x).getD j d=if j=i then x else l.getD j d:=by
 grind
def l8{α:Type}{n i:Nat}{x:α}:(List.replicate n x).getD i x=x:=by
 grind
def lp(l:List Nat):Nat:=(l.map λx=>64-(bits x).length).sum
theorem V4(x:Nat):(bits x).length<=64:=Nat.le_trans (List.length_filter_le _ _) (by simp)
def filter_lt{α:Type}{p q:α->Bool}:∀{l:List α},(∀a∈l,p a=J->q a=J)->(∃a∈l,q a=J/\p a=I)->(l.filter p).length<(l.filter q).length
 |[],_,h=>by grind
 |b::l,ah,ai=>by
  have hle:∀{l:List α},(∀a∈l,p a=J->q a=J)->(l.filter p).length<=(l.filter q).length:=by
   intro l
   induction l with
   |nil=>grind
   |cons c l g=>
    grind
  have e:∀a∈l,p a=J->q a=true:=(by grind);obtain⟨a,d,aH,f⟩:=ai;rcases List.mem_cons.1 d with rfl|d
  ·grind
  ·have g:=filter_lt e ⟨a,d,aH,f⟩;grind
def V5{x y:Nat}(a:y<2^64)(aF:x<2^64)(h:x|||y≠x):(bits x).length<(bits (x|||y)).length:=by
 unfold bits;refine filter_lt (by grind) ?_;apply Classical.byContradiction;intro aL;apply h;apply Nat.eq_of_testBit_eq;intro i;by_cases aP:i<64
 ·grind
 ·have ah:x<2^i:=Nat.lt_of_lt_of_le aF (Nat.pow_le_pow_right (by omega) (by omega));have ai:y<2^i:=Nat.lt_of_lt_of_le a (Nat.pow_le_pow_right (by omega) (by omega));grind[Nat.testBit_lt_two_pow]
def Na:∀{l:List Nat} {v x:Nat},v<l.length->(bits (l.getD v 0)).length<(bits x).length->lp (l.set v x)+1<=lp l
 |[],_,_,h,_=>by grind
 |a::l,0,x,_,h=>by
  grind[V4,lp]
 |a::l,v+1,x,b,h=>by
  have c:=Na (l:=l) (v:=v) (x:=x) (by grind) (by grind);grind[lp]
def bI.M(S:bI):Nat:=2*lp S.am+S.work.length
structure eC(n m:Nat)(l:List bt)(zX:Nat->Prop)(Y:Nat->Nat->Prop)(S:bI):Prop where
 cy:S.am.length=n+m*8
 aS:S.g1.length=n+m*8
 hB:S.asks.length=n+m*8
 ls:S.seen.length=n+m*8
 lw:S.waits.length=n+m*8
 fk:∀v,S.a v<2^64
 mL:∀v,∀b∈S.g v,b<n+m*8
 lL:∀v∈S.work,v<n+m*8
 cA:S.work.Nodup
 sound:∀v s,(S.a v).testBit s=true->dN n l v s
 gs:∀a,∀b∈S.g a,∀s,dN n l a s->dN n l b s
 qs:∀v,∀q∈S.q v,(q.fE=true/\bt.load q.o v q.f∈l)\/(q.fE=false/\bt.store v q.o q.f∈l)
 sle:∀v s,(S.s v).testBit s=true->(S.a v).testBit s=true
 wt:∀v,S.w v=true↔v∈S.work
 oy:∀v t,(S.s v).testBit t=true->¬Y v t->∀q∈S.q v,(if q.fE then q.o=dk n t q.f\/q.o∈S.g (dk n t q.f)else dk n t q.f=q.o\/dk n t q.f∈S.g q.o)
 dz:∀v,¬zX v->S.w v=false->(∀b∈S.g v,∀s,(S.a v).testBit s=true->(S.a b).testBit s=true)/\S.s v=S.a v
structure jM(S c:bI):Prop where
 a:∀v s,(S.a v).testBit s=true->(c.a v).testBit s=true
 g:∀v,∀b∈S.g v,b∈c.g v
 q:∀v,c.q v=S.q v
 s:∀v,c.s v=S.s v
 m:c.M<=S.M
theorem jM.refl(S:bI):jM S S:=⟨λ_ _ h=>h,λ_ _ h=>h,λ_=>rfl,(by omega),(by omega)⟩
theorem jM.trans{S c d:bI}(h:jM S c)(k:jM c d):jM S d:=⟨λv s x=>k.a v s (h.a v s x),λv b x=>k.g v b (h.g v b x),λv=>(k.q v).trans (h.q v),λv=>(k.s v).trans (h.s v),Nat.le_trans k.m h.m⟩
section
variable {n m:Nat}{l:List bt}{zX:Nat->Prop}{Y:Nat->Nat->Prop}{S:bI}
theorem eC.ji(h:eC n m l zX Y S){v:Nat}(d:v<n+m*8):eC n m l zX Y (ji S v):=by
 unfold Go.a2.ji;cases hw:S.w v with
 |true=>grind
 |false=>
  have c:v<S.waits.length:=by rw[h.lw];omega
  have b:∀u,({S with waits:=S.waits.set v J,work:=v::S.work}:bI).w u=if u=v then J else S.w u:=λu=>pM c
  have aL:v∉S.work:=λhm=>by rw[(h.wt v).2 hm]at hw;grind
  simp only[Bool.false_eq_true,if_false];refine⟨h.cy,h.aS,h.hB,h.ls,by simpa using h.lw,h.fk,h.mL,?_,List.nodup_cons.2 ⟨aL,h.cA⟩,h.sound,h.gs,h.qs,h.sle,?_,h.oy,?_⟩
  ·intro u hu;rcases List.mem_cons.1 hu with rfl|hu
   ·omega
   ·exact h.lL u hu
  ·intro u;rw[b,List.mem_cons];split
   ·grind
   ·rename_i e;rw[h.wt];grind
  ·intro u hu a;rw[b]at a;split at a
   ·grind
   ·exact h.dz u hu a
theorem eC.gJ(h:eC n m l zX Y S){v x:Nat}(af:v<n+m*8)(aF:x<2^64)(ae:∀s,x.testBit s=J->dN n l v s):eC n m l zX Y (gJ S v x)/\jM S (gJ S v x)/\(∀s,x.testBit s=J->((gJ S v x).a v).testBit s=J)/\(∀u,u≠v->(gJ S v x).a u=S.a u)/\(gJ S v x).g1=S.g1/\(∀u,u≠v->(gJ S v x).w u=S.w u)/\(∀u,(S.w u=I->S.s u=S.a u)->(gJ S v x).w u=I->(gJ S v x).s u=(gJ S v x).a u):=by
 unfold Go.a2.gJ;by_cases e:S.a v|||x=S.a v
 ·rw[if_pos e];refine⟨h,.refl S,λs d=> ?_,λ_ _=>rfl,rfl,λ_ _=>rfl,λ_ q=>q⟩;rw[<-e,Nat.testBit_or,d,Bool.or_true]
 ·rw[if_neg e];have E:v<S.am.length:=by rw[h.cy];omega
  have V:v<S.waits.length:=by rw[h.lw];omega
  have y:∀u,(({S with am:=S.am.set v (S.a v|||x)}:bI)).a u=if u=v then S.a v|||x else S.a u:=λu=>pM E
  have B:∀u s,(S.a u).testBit s=J->((({S with am:=S.am.set v (S.a v|||x)}:bI)).a u).testBit s=true:=by
   grind
  have z:=h.fk v;have ad:S.a v|||x<2^64:=Nat.or_lt_two_pow z aF;have ab:lp (S.am.set v (S.a v|||x))+1<=lp S.am:=Na E (V5 aF z e);unfold Go.a2.ji;have W:(({S with am:=S.am.set v (S.a v|||x)}:bI)).w v=S.w v:=rfl;rw[W];have common:∀c:bI,c.am=S.am.set v (S.a v|||x)->c.g1=S.g1->c.asks=S.asks->c.seen=S.seen->c.waits.length=S.waits.length->(∀u∈c.work,u<n+m*8)->c.work.Nodup->(∀u,c.w u=J↔u∈c.work)->(∀u,c.w u=if u=v then J else S.w u)->eC n m l zX Y c:=by
   intro c p K L M N O P Q R;have r:∀u,c.a u=if u=v then S.a v|||x else S.a u:=λu=>by rw[<-y];show c.am.getD u 0=(S.am.set v (S.a v|||x)).getD u 0;rw[p]
   have k:∀u,c.g u=S.g u:=(by grind[bI.g]);have G:∀u,c.q u=S.q u:=(by grind[bI.q]);have H:∀u,c.s u=S.s u:=(by grind[bI.s]);have U:∀u s,(S.a u).testBit s=J->(c.a u).testBit s=true:=(by grind);refine⟨by rw[p];simpa using h.cy,by rw[K];exact h.aS,by rw[L];exact h.hB,by rw[M];exact h.ls,by rw[N];exact h.lw,?_,?_,O,P,?_,?_,?_,?_,Q,?_,?_⟩
   ·intro u;rw[r];split
    ·omega
    ·exact h.fk u
   ·intro u b f;rw[k]at f;exact h.mL u b f
   ·intro u s d;rw[r]at d;split at d
    ·rename_i T;subst T;rw[Nat.testBit_or,Bool.or_eq_true]at d;rcases d with d|d
     ·exact h.sound u s d
     grind
    ·exact h.sound u s d
   ·intro u b f;rw[k]at f;exact h.gs u b f
   ·intro u q aH;rw[G]at aH;exact h.qs u q aH
   ·intro u s d;rw[H]at d;exact U u s (h.sle u s d)
   ·intro u t a_ aa q aH;rw[H]at a_;rw[G]at aH;simp only[k];exact h.oy u t a_ aa q aH
   ·intro u hu i;rw[R]at i;split at i
    ·grind
    ·rename_i ne;obtain⟨f1,f2⟩:=h.dz u hu i;grind
  cases hw:S.w v with
  |true=>
   rw[if_pos rfl];refine⟨common _ rfl rfl rfl rfl rfl h.lL h.cA h.wt λu=> ?_,⟨B,λ_ _ f=>f,λ_=>rfl,λ_=>rfl,?_⟩,λs d=> ?_,λu hu=> ?_,rfl,λ_ _=>rfl,λu q i=> ?_⟩
   ·show S.w u=_;split
    ·grind
    ·rfl
   ·show 2*lp (S.am.set v (S.a v|||x))+S.work.length<=2*lp S.am+S.work.length;omega
   ·grind
   ·grind
   ·have j:S.w u=false:=i;by_cases e:u=v
    ·grind
    ·rw[y,if_neg e];exact q j
  |false=>
   rw[if_neg (by simp)];have aL:v∉S.work:=λhm=>by rw[(h.wt v).2 hm]at hw;grind
   have o:∀u,((S.waits.set v J).getD u I)=if u=v then J else S.w u:=λu=>pM V
   refine⟨common _ rfl rfl rfl rfl (by simp) ?_ (List.nodup_cons.2 ⟨aL,h.cA⟩) ?_ o,⟨B,λ_ _ f=>f,λ_=>rfl,λ_=>rfl,?_⟩,λs d=> ?_,λu hu=> ?_,rfl,λu hu=> ?_,λu q i=> ?_⟩
   ·intro u hu;rcases List.mem_cons.1 hu with rfl|hu
    ·omega
    ·exact h.lL u hu
   ·intro u;show(S.waits.set v J).getD u I=J↔u∈v::S.work;rw[o,List.mem_cons];split
    ·grind
    ·rename_i e;rw[h.wt];grind
   ·show 2*lp (S.am.set v (S.a v|||x))+(v::S.work).length<=2*lp S.am+S.work.length;grind
   ·grind[bI.a]
   ·grind[bI.a]
   ·show(S.waits.set v J).getD u I=_;grind
   ·have j:(S.waits.set v J).getD u I=false:=i;rw[o]at j;split at j
    ·grind
    ·rename_i e;show S.s u=bI.a {S with am:=S.am.set v (S.a v|||x)} u;grind
end
section
variable {n m:Nat}{l:List bt}{zX:Nat->Prop}{Y:Nat->Nat->Prop}{S:bI}
def eC.ak3{d:Nat->Prop}{e:Nat->Nat->Prop}(h:eC n m l zX Y S)(aF:∀v,zX v->d v)(f:∀v t,Y v t->e v t):eC n m l d e S:=
 ⟨h.cy,h.aS,h.hB,h.ls,h.lw,h.fk,h.mL,h.lL,h.cA,h.sound,h.gs,h.qs,h.sle,h.wt,λv t a b=>h.oy v t a λc=>b (f v t c),λv a=>h.dz v λc=>a (aF v c)⟩
def lQ(S b:bI):Prop:=∀u,(S.w u=I->S.s u=S.a u)->b.w u=I->b.s u=b.a u
theorem lQ.refl(S:bI):lQ S S:=λ_ q=>q
theorem lQ.trans{a b c:bI}(h:lQ a b)(k:lQ b c):lQ a c:=λu q=>k u (h u q)
theorem eC.q5(h:eC n m l zX Y S){a b:Nat}(Q:a<n+m*8)(E:b<n+m*8)(L:∀s,dN n l a s->dN n l b s):eC n m l zX Y (iA S a b)/\jM S (iA S a b)/\(a=b\/b∈(iA S a b).g a)/\lQ S (iA S a b):=by
 unfold iA;by_cases e:b∈S.g a\/a=b
 ·rw[if_pos e];exact⟨h,.refl S,e.elim .inr .inl,.refl S⟩
 ·rw[if_neg e];simp only[not_or]at e;obtain⟨P,p⟩:=e;have K:a<S.g1.length:=by rw[h.aS];omega
  have o:∀u,(({S with g1:=S.g1.set a (S.g a++[b])}:bI)).g u=if u=a then S.g a++[b]else S.g u:=λu=>pM K
  have R:∀u,∀c∈S.g u,c∈(({S with g1:=S.g1.set a (S.g a++[b])}:bI)).g u:=by
   grind
  have ah:eC n m l (λv=>zX v\/v=a) Y ({S with g1:=S.g1.set a (S.g a++[b])}:bI):=by
   refine⟨h.cy,by simpa using h.aS,h.hB,h.ls,h.lw,h.fk,?_,h.lL,h.cA,h.sound,?_,h.qs,h.sle,h.wt,?_,?_⟩
   ·intro v c aA;rw[o]at aA;split at aA
    ·rcases List.mem_append.1 aA with aA|aA
     ·exact h.mL a c aA
     grind
    ·exact h.mL v c aA
   ·intro v c aA s f;rw[o]at aA;split at aA
    ·rename_i jx;subst jx;rcases List.mem_append.1 aA with aA|aA
     ·exact h.gs v c aA s f
     grind
    ·exact h.gs v c aA s f
   ·intro v t a_ N q aH;have:=h.oy v t a_ N q aH;grind
   ·intro v j hw;simp only[not_or]at j;obtain⟨f1,f2⟩:=h.dz v j.1 hw;rw[o,if_neg j.2];exact⟨f1,f2⟩
  obtain⟨d,i,O,x,y,z,B⟩:=ah.gJ E (h.fk a) λs f=>L s (h.sound a s f)
  generalize Go.a2.gJ ({S with g1:=S.g1.set a (S.g a++[b])}:bI) b (S.a a)=k at d i O x y z B ⊢;have G:∀u,k.g u=if u=a then S.g a++[b]else S.g u:=λu=>by rw[<-o];show k.g1.getD u []=(S.g1.set a (S.g a++[b])).getD u [];rw[y]
  have H:∀v,∀c∈S.g v,c∈k.g v:=(by grind);refine⟨⟨d.cy,d.aS,d.hB,d.ls,d.lw,d.fk,d.mL,d.lL,d.cA,d.sound,d.gs,d.qs,d.sle,d.wt,d.oy,?_⟩,⟨i.a,H,i.q,i.s,i.m⟩,(by grind),B⟩;intro v j hw;by_cases jx:v=a
  ·subst jx;have M:S.w v=false:=by rw[z v p]at hw;exact hw
   obtain⟨f1,f2⟩:=h.dz v j M;have r:k.a v=S.a v:=x v p;refine⟨λc aA s f=> ?_,?_⟩
   ·rw[r]at f;rw[G,if_pos rfl]at aA;rcases List.mem_append.1 aA with aA|aA
    ·exact i.a c s (f1 c aA s f)
    grind
   ·rw[r];exact(i.s v).trans f2
  ·exact d.dz v (by grind) hw
def nt(n t:Nat)(S:bI)(q:Ask):Prop:=if q.fE then q.o=dk n t q.f\/q.o∈S.g (dk n t q.f)else dk n t q.f=q.o\/dk n t q.f∈S.g q.o
def nt.ra{n t:Nat}{S a:bI}{q:Ask}(h:nt n t S q)(g:jM S a):nt n t a q:=by
 unfold nt at h ⊢;split at h
 ·rename_i e;rw[if_pos e];exact h.imp id (g.g _ _)
 ·rename_i e;rw[if_neg e];exact h.imp id (g.g _ _)
theorem eC.answer(d:gy n m l)(h:eC n m l zX Y S){v t:Nat}{q:Ask}(a_:dN n l v t)(aH:(q.fE=J/\bt.load q.o v q.f∈l)\/(q.fE=I/\bt.store v q.o q.f∈l)):eC n m l zX Y (oz n t S q)/\jM S (oz n t S q)/\nt n t (oz n t S q) q/\lQ S (oz n t S q):=by
 have r:=a_.site d;unfold oz nt;rcases aH with⟨e,aH⟩|⟨e,aH⟩
 ·obtain⟨j,k,p⟩:=d _ aH;simp only[e,if_true];obtain⟨g,i,a3,a4⟩:=h.q5 (a:=dk n t q.f) (b:=q.o) (by unfold dk;omega) (by omega) λs c=> .load aH a_ c
  grind
 ·obtain⟨j,k,p⟩:=d _ aH;simp only[e,Bool.false_eq_true,if_false];obtain⟨g,i,a3,a4⟩:=h.q5 (a:=q.o) (b:=dk n t q.f) (by omega) (by unfold dk;omega) λs c=> .store aH a_ c
  grind
theorem eC.answers(b:gy n m l){v t:Nat}(a_:dN n l v t):∀{qs:List Ask} {S:bI},eC n m l zX Y S->(∀q∈qs,(q.fE=J/\bt.load q.o v q.f∈l)\/(q.fE=I/\bt.store v q.o q.f∈l))->eC n m l zX Y (lW n t qs S)/\jM S (lW n t qs S)/\(∀q∈qs,nt n t (lW n t qs S) q)/\lQ S (lW n t qs S)
 |[],S,h,_=>⟨h,.refl S,λq aH=>by grind,.refl S⟩
 |q::qs,S,h,aH=>by
  obtain⟨c,d,a3,a4⟩:=h.answer b a_ (aH q (by simp));obtain⟨e,a,g,i⟩:=eC.answers b a_ (qs:=qs) c (by grind);refine⟨e,d.trans a,λj cD=> ?_,a4.trans i⟩;rcases List.mem_cons.1 cD with rfl|cD
  ·exact a3.ra a
  ·exact g j cD
theorem eC.sites(d:gy n m l){v:Nat}:∀{ts:List Nat} {S:bI},eC n m l zX (λu t=>u=v/\t∈ts) S->(∀t∈ts,dN n l v t)->eC n m l zX (λ_ _=>False) (qA n v ts S)/\jM S (qA n v ts S)/\lQ S (qA n v ts S)
 |[],S,h,_=>⟨h.ak3 (λ_ a=>a) λ_ _ a=>by grind,.refl S,.refl S⟩
 |t::ts,S,h,a_=>by
  obtain⟨b,c,a3,a4⟩:=eC.answers d (a_ t (by simp)) h (qs:=S.q v) (h.qs v);have g:eC n m l zX (λu t=>u=v/\t∈ts) (lW n t (S.q v) S):=by
   refine⟨b.cy,b.aS,b.hB,b.ls,b.lw,b.fk,b.mL,b.lL,b.cA,b.sound,b.gs,b.qs,b.sle,b.wt,λu f hu o q aH=> ?_,b.dz⟩;by_cases e:u=v/\f=t
   ·obtain⟨rfl,rfl⟩:=e;rw[c.q]at aH;exact a3 q aH
   ·refine b.oy u f hu (λaA=> ?_) q aH;grind
  obtain⟨i,j,k⟩:=eC.sites d g (by grind);exact⟨i,c.trans j,a4.trans k⟩
theorem eC.MY{v:Nat}(t:v<n+m*8):∀{bs:List Nat} {S:bI},eC n m l zX Y S->(∀b∈bs,b∈S.g v)->eC n m l zX Y (mK v bs S)/\jM S (mK v bs S)/\lQ S (mK v bs S)/\(mK v bs S).a v=S.a v/\(mK v bs S).g1=S.g1/\∀b∈bs,∀s,(S.a v).testBit s=J->((mK v bs S).a b).testBit s=J
 |[],S,h,_=>⟨h,.refl S,.refl S,rfl,rfl,λb f=>by grind⟩
 |b::bs,S,h,f=>by
  have i:=f b (by simp);obtain⟨w,x,y,E,z,G,B⟩:=h.gJ (h.mL v b i) (h.fk v) λs d=>h.gs v b i s (h.sound v s d)
  have r:(Go.a2.gJ S b (S.a v)).a v=S.a v:=by
   grind[Go.a2.gJ]
  have aR:∀u,(Go.a2.gJ S b (S.a v)).g u=S.g u:=(by grind[bI.g]);obtain⟨j,e,k,o,p,q⟩:=eC.MY t w (bs:=bs) (by grind);refine⟨j,x.trans e,lQ.trans B k,o.trans r,p.trans z,λc aA s d=> ?_⟩;rcases List.mem_cons.1 aA with rfl|aA
  ·exact e.a _ _ (y s d)
  ·exact q c aA s (by grind)
abbrev lR(n m:Nat)(l:List bt)(S:bI):Prop:=eC n m l (λ_=>False) (λ_ _=>False) S
structure sn(S c:bI):Prop where
 a:∀v s,(S.a v).testBit s=true->(c.a v).testBit s=true
 g:∀v,∀b∈S.g v,b∈c.g v
 q:∀v,c.q v=S.q v
theorem eC.step(Y:gy n m l)(h:lR n m l S){v:Nat}(V:v∈S.work):lR n m l (D2 n S v)/\sn S (D2 n S v)/\(D2 n S v).M<S.M:=by
 have W:=h.lL v V;have T:v<S.waits.length:=by rw[h.lw];omega
 have R:v<S.seen.length:=by rw[h.ls];omega
 have B:S.s v|||S.a v=S.a v:=by
  apply Nat.eq_of_testBit_eq;intro i;rw[Nat.testBit_or];cases aP:(S.s v).testBit i with
  |true=>rw[h.sle v i aP];rfl
  |false=>rfl
 have E:∀u,(nf (kX S v) v).w u=if u=v then I else S.w u:=λu=>pM T
 have r:∀u,(nf (kX S v) v).s u=if u=v then S.a v else S.s u:=λu=>by
  have:=pM (x:=S.s v|||S.a v) (d:=0) (j:=u) R;rw[B]at this;show(S.seen.set v (S.s v|||S.a v)).getD u 0=_;rw[B];exact this
 have ah:eC n m l (λu=>u=v) (λu t=>u=v/\t∈ln S v) (nf (kX S v) v):=by
  refine⟨h.cy,h.aS,h.hB,by simpa [nf,kX]using h.ls,by simpa [nf,kX]using h.lw,h.fk,h.mL,λu hu=>h.lL u (List.mem_of_mem_erase hu),h.cA.erase v,h.sound,h.gs,h.qs,?_,?_,?_,?_⟩
  ·intro u s f;rw[r]at f;split at f
   ·rename_i e;subst e;exact f
   ·exact h.sle u s f
  ·intro u;rw[E];show _↔u∈S.work.erase v;rw[h.cA.mem_erase_iff];split
   ·grind
   ·rename_i e;rw[h.wt];grind
  ·intro u t a_ aa q aH;have U:q∈S.q u:=aH;refine h.oy u t ?_ (λaA=>aA) q U;rw[r]at a_;split at a_
   ·rename_i e;subst e;cases af:(S.s u).testBit t with
    |true=>rfl
    |false=>
     exfalso;apply aa;refine⟨rfl,?_⟩;unfold ln;rw[List.mem_filter];refine⟨?_,by grind⟩;rw[List.mem_range];rcases Nat.lt_or_ge t 64 with y|y
     ·omega
     ·have:=Nat.testBit_lt_two_pow (Nat.lt_of_lt_of_le (h.fk u) (Nat.pow_le_pow_right (by omega) y));grind
   omega
  ·intro u hu hw;rw[E,if_neg hu]at hw;obtain⟨f1,f2⟩:=h.dz u (λaA=>aA) hw;refine⟨f1,?_⟩;rw[r,if_neg hu];exact f2
 obtain⟨G,o,a3⟩:=eC.sites Y ah λt a_=>by
  unfold ln at a_;rw[List.mem_filter]at a_;simp only[Bool.and_eq_true]at a_;exact h.sound v t a_.2.1
 have P:=a3 v λ_=>by rw[r,if_pos rfl];rfl
 obtain⟨c,p,H,K,L,N⟩:=eC.MY W (bs:=(pY n S v).g v) G λb k=>k
 have Q:=H v P;have ab:(nf (kX S v) v).M+1=S.M:=by
  show 2*lp S.am+(S.work.erase v).length+1=2*lp S.am+S.work.length;grind
 have ad:=o.m;have ae:=p.m;refine⟨⟨c.cy,c.aS,c.hB,c.ls,c.lw,c.fk,c.mL,c.lL,c.cA,c.sound,c.gs,c.qs,c.sle,c.wt,c.oy,?_⟩,⟨λu s f=>p.a u s (o.a u s f),λu b k=>p.g u b (o.g u b k),λu=>(p.q u).trans (o.q u)⟩,?_⟩
 ·intro u _ hw;by_cases e:u=v
  ·subst e;refine⟨λb k s f=> ?_,Q hw⟩;have O:b∈(pY n S u).g u:=by
    have:(mK u ((pY n S u).g u) (qA n u (ln S u) (nf (kX S u) u))).g u=(pY n S u).g u:=congrArg (λz=>List.getD z u []) L;rw[<-this];exact k
   refine N b O s ?_;rw[<-K];exact f
  ·exact c.dz u e hw
 ·show(mK v ((pY n S v).g v) (qA n v (ln S v) (nf (kX S v) v))).M<S.M;omega
end
section
variable {n m:Nat}{l:List bt}{S:bI}
structure gX(n m:Nat)(l:List bt)(S:bI):Prop where
 i:lR n m l S
 z:∀v,S.s v=0
structure kA(S c:bI):Prop where
 a:∀v s,(S.a v).testBit s=true->(c.a v).testBit s=true
 g:∀v,∀b∈S.g v,b∈c.g v
 q:∀v,∀q∈S.q v,q∈c.q v
theorem jM.b{S c:bI}(h:jM S c):kA S c:=⟨h.a,h.g,(by grind[q])⟩
theorem sn.b{S c:bI}(h:sn S c):kA S c:=⟨h.a,h.g,(by grind[q])⟩
theorem kA.refl(S:bI):kA S S:=⟨λ_ _ h=>h,λ_ _ h=>h,λ_ _ h=>h⟩
theorem kA.trans{S c d:bI}(h:kA S c)(k:kA c d):kA S d:=⟨λv s x=>k.a v s (h.a v s x),λv b x=>k.g v b (h.g v b x),(by grind[q])⟩
def pj(n:Nat)(S:bI):bt->Prop
 | .base a b=>(S.a a).testBit b=J
 | .copy a b=>b=a\/a∈S.g b
 | .load a b f=>(⟨J,a,f⟩:Ask)∈S.q b
 | .store a b f=>(⟨I,b,f⟩:Ask)∈S.q a
 | .same a b=>∀f,f<8->(dk n a f=dk n b f\/dk n b f∈S.g (dk n a f))/\(dk n b f=dk n a f\/dk n a f∈S.g (dk n b f))
def pj.ra{S d:bI}{c:bt}(h:pj n S c)(g:kA S d):pj n d c:=by
 cases c with
 |base a b=>exact g.a _ _ h
 |copy a b=>exact Or.imp id (g.g _ _) h
 |load a b f=>exact g.q _ _ h
 |store a b f=>exact g.q _ _ h
 |same a b=>exactλf aB=>⟨(h f aB).1.imp id (g.g _ _),(h f aB).2.imp id (g.g _ _)⟩
theorem gX.start(n m:Nat)(l:List bt):gX n m l (gO (n+m*8)):=by
 have c:∀v,(gO (n+m*8)).a v=0:=λv=>l8
 have aR:∀v,(gO (n+m*8)).g v=[]:=λv=>l8
 have aH:∀v,(gO (n+m*8)).q v=[]:=λv=>l8
 have b:∀v,(gO (n+m*8)).s v=0:=λv=>l8
 have hw:∀v,(gO (n+m*8)).w v=false:=λv=>l8
 refine⟨⟨by simp[gO],by simp[gO],by simp[gO],by simp[gO],by simp[gO],?_,?_,?_,List.nodup_nil,?_,?_,?_,?_,?_,?_,?_⟩,b⟩
 ·grind
 ·grind
 ·grind[gO]
 ·grind
 ·grind
 ·grind
 ·grind
 ·grind[gO]
 ·grind
 grind
def gX.of(h:gX n m l S){a:bI}(i:lR n m l a)(g:jM S a):gX n m l a:=⟨i,λv=>by rw[g.s,h.z]⟩
def gX.q5(h:gX n m l S){a b:Nat}(e:a<n+m*8)(f:b<n+m*8)(j:∀s,dN n l a s->dN n l b s):gX n m l (iA S a b)/\kA S (iA S a b)/\(a=b\/b∈(iA S a b).g a):=by
 obtain⟨d,c,a3,_⟩:=h.i.q5 e f j;exact⟨h.of d c,c.b,a3⟩
theorem gX.same{a b:Nat}(aA:bt.same a b∈l)(p:a<m)(r:b<m):∀{fs:List Nat} {S:bI},gX n m l S->(∀f∈fs,f<8)->gX n m l (nd n S a b fs)/\kA S (nd n S a b fs)/\∀f∈fs,(dk n a f=dk n b f\/dk n b f∈(nd n S a b fs).g (dk n a f))/\(dk n b f=dk n a f\/dk n a f∈(nd n S a b fs).g (dk n b f))
 |[],S,h,_=>⟨h,.refl S,λf aB=>by grind⟩
 |f::fs,S,h,aB=>by
  have e:=aB f (by simp);obtain⟨i,j,a3⟩:=h.q5 (a:=dk n a f) (b:=dk n b f) (by unfold dk;omega) (by unfold dk;omega) λs c=> .same aA e c
  obtain⟨k,d,o⟩:=i.q5 (a:=dk n b f) (b:=dk n a f) (by unfold dk;omega) (by unfold dk;omega) λs c=> .n_ aA e c
  obtain⟨a6,bd,bo⟩:=gX.same aA p r (fs:=fs) k (by grind);refine⟨a6,(j.trans d).trans bd,λg aR=> ?_⟩;rcases List.mem_cons.1 aR with rfl|aR
  ·exact⟨a3.imp id λq=>bd.g _ _ (d.g _ _ q),o.imp id (bd.g _ _)⟩
  ·exact bo g aR
theorem ahK{b s:Nat}(h:(1<<<b).testBit s=J):s=b:=by
 grind[Nat.one_shiftLeft]
theorem gX.ask(h:gX n m l S){v:Nat}{q:Ask}(j:v<n+m*8)(aH:(q.fE=J/\bt.load q.o v q.f∈l)\/(q.fE=I/\bt.store v q.o q.f∈l)):gX n m l (l0 S v q)/\kA S (l0 S v q)/\q∈(l0 S v q).q v:=by
 have c:v<S.asks.length:=by rw[h.i.hB];omega
 have d:∀u,(l0 S v q).q u=if u=v then S.q v++[q]else S.q u:=λu=>pM c
 refine⟨⟨⟨h.i.cy,h.i.aS,by simpa [l0]using h.i.hB,h.i.ls,h.i.lw,h.i.fk,h.i.mL,h.i.lL,h.i.cA,h.i.sound,h.i.gs,?_,h.i.sle,h.i.wt,?_,h.i.dz⟩,h.z⟩,⟨λ_ _ a=>a,λ_ _ a=>a,?_⟩,?_⟩
 ·intro u p b;rw[d]at b;split at b
  ·rename_i e;subst e;rcases List.mem_append.1 b with b|b
   ·exact h.i.qs u p b
   grind
  ·exact h.i.qs u p b
 ·intro u t a_;have:S.s u=0:=h.z u;have g:(S.s u).testBit t=true:=a_;grind
 ·grind
 grind
theorem gX.begin(hm:m<=60)(k:gy n m l)(h:gX n m l S){c:bt}(aA:c∈l):gX n m l (sM n S c)/\kA S (sM n S c)/\pj n (sM n S c) c:=by
 have hw:=k c aA;cases c with
 |base a b=>
  obtain⟨d,e⟩:=hw;have aF:(1<<<b:Nat)<2^64:=by rw[Nat.one_shiftLeft];exact Nat.pow_lt_pow_right (by omega) (by omega)
  obtain⟨o,j,p,_⟩:=h.i.gJ (v:=a) (x:=1<<<b) (by omega) aF λs g=>by rw[ahK g];exact .base aA
  exact⟨h.of o j,j.b,p b (by grind)⟩
 |copy a b=>
  obtain⟨d,e⟩:=hw;exact h.q5 (by omega) (by omega) λs g=> .copy aA g
 |load a b f=>
  obtain⟨d,e,_⟩:=hw;exact h.ask (by omega) (.inl ⟨rfl,aA⟩)
 |store a b f=>
  obtain⟨d,e,_⟩:=hw;exact h.ask (by omega) (.inr ⟨rfl,aA⟩)
 |same a b=>
  obtain⟨d,e⟩:=hw;obtain⟨s1,s2,q⟩:=gX.same aA d e (fs:=List.range 8) h λf aB=>by grind
  exact⟨s1,s2,λf aB=>q f (by grind)⟩
theorem gX.K2(hm:m<=60)(e:gy n m l):∀{cs:List bt} {S:bI},gX n m l S->(∀c∈cs,c∈l)->gX n m l (sN n cs S)/\kA S (sN n cs S)/\∀c∈cs,pj n (sN n cs S) c
 |[],S,h,_=>⟨h,.refl S,λc aA=>by grind⟩
 |c::cs,S,h,aA=>by
  obtain⟨f,g,a3⟩:=h.begin hm e (aA c (by simp));obtain⟨i,b,j⟩:=gX.K2 hm e (cs:=cs) f (by grind);refine⟨i,g.trans b,λd a=> ?_⟩;rcases List.mem_cons.1 a with rfl|a
  ·exact a3.ra b
  ·exact j d a
def acv(S:bI)(v:Nat):sn S (ji S v):=by
 unfold ji;split<;>exact⟨λ_ _ h=>h,λ_ _ h=>h,λ_=>rfl⟩
theorem eC.final(r:gy n m l)(h:lR n m l S)(g:∀c∈l,pj n S c)(hw:S.work=[]):∀v s,(S.a v).testBit s=J↔dN n l v s:=by
 have k:∀v,S.w v=false:=by
  intro v;cases o:S.w v with
  |false=>rfl
  |true=>rw[h.wt,hw]at o;grind
 have i:=λv=>(h.dz v (λx=>x) (k v)).1
 have p:=λv=>(h.dz v (λx=>x) (k v)).2
 have j:∀v t,(S.a v).testBit t=J->∀q∈S.q v,nt n t S q:=λv t a_ q aH=>h.oy v t (by grind) (λx=>x) q aH
 intro v s;refine⟨h.sound v s,dN.least (R:=λv s=>(S.a v).testBit s=J) ⟨?_,?_,?_,?_,?_,?_⟩⟩
 ·intro a b aA;exact g _ aA
 ·intro a b s aA d;rcases g _ aA with e|e
  ·grind
  grind
 ·intro a b f t s aA a_ d;have:=j b t a_ _ (g _ aA);unfold nt at this;simp only[if_true]at this;rcases this with e|e
  ·rw[e];exact d
  ·exact i _ _ e s d
 ·intro a b f t s aA a_ d;have:=j a t a_ _ (g _ aA);unfold nt at this;simp only[Bool.false_eq_true,if_false]at this;rcases this with e|e
  ·grind[dk]
  ·exact i _ _ e s d
 ·intro a b f s aA aB d;rcases(g _ aA f aB).1 with e|e
  ·show(S.a (dk n b f)).testBit s=J;rw[<-e];exact d
  ·exact i _ _ e s d
 ·intro a b f s aA aB d;rcases(g _ aA f aB).2 with e|e
  ·show(S.a (dk n a f)).testBit s=J;rw[<-e];exact d
  ·exact i _ _ e s d
open Classical in
theorem eC.list(b:gy n m l)(hm:m<=60)(h:∀v s,(S.a v).testBit s=J↔dN n l v s)(v:Nat):bits (S.a v)=db m (dN n l v):=by
 refine GX (List.Pairwise.filter _ List.pairwise_lt_range) (vL _ _) λs=> ?_
 rw[g4];unfold bits;rw[List.mem_filter,List.mem_range];constructor
 ·rintro⟨_,ah⟩;have:=(h v s).1 ah;exact⟨this.site b,this⟩
 grind
