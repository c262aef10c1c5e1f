/-
  Texts of one proof, laid together: Pc Pd ShG SgL Mc ShE SgI SgJ SgK.
-/
import Derived.Test.YtmhhnnklfcbgfaaGreatMJ
set_option linter.unusedVariables false
set_option linter.unusedSimpArgs false
set_option linter.defProp false
open Option renaming some→A,none→Z
open Bool renaming true→J,false→I
open Go.cw.af renaming int→D,bool→C
open Go.IntKind renaming i64→F
namespace Go.Proofs.YtmhhnnklfcbgfaaGreat
open Go.cw
open Nat (reduceAdd reduceLeDiff)
section
open Go.a_
set_option maxRecDepth 2000
section
variable {H:ae}{ok:Nat->Prop}{x:bC}{f:Nat}{c:bT}{i:In}{gv gw cB cc rv wi:af}{M:Nat}{l:List bp}
def oO(x:bC)(f:Nat)(c:bT)(gv gw cB cc:af)(M:Nat)(l:List bp)(H:ae)(r:af)(H':ae):Prop:=r= .tuple []/\cl M H H'/\∃a,gF x f c gv gw cB cc M l H' a
theorem yq{v:Int}(h:a6 c v≠bt):0<=v/\v.toNat<c.vars.length/\v<c.vars.length:=by
 have:=FD h;omega
theorem jt(ar:ez x)(m:gF x f c gv gw cB cc M l H rv)(aC:x.ay[f]? =A c){n:Int}(aL:a6 c n≠bt):W (aK P aG 170 [.ptr M 0 0,D F n] H) λr H'=>r= D F ((bk x.ay f+n.toNat:Nat):Int)/\au H H':=by
 obtain⟨a,ah,_⟩:=yq aL;grind[ab2]
theorem PC(ar:ez x)(m:gF x f c gv gw cB cc M l H rv){n:Int}(a:0<=n)(aL:n<=1000):W (aK P aG 173 [.ptr M 0 0,D F n] H) λr H'=>r= D F (eG x n.toNat:Nat)/\au H H':=by
 obtain⟨k,rfl⟩:∃k:Nat,n=k:=⟨n.toNat,ad⟩;grind[ac7]
theorem Mb(ar:ez x)(m:gF x f c gv gw cB cc M l H rv){n:Int}(a:0<=n)(aL:n<=1000):W (aK P aG 174 [.ptr M 0 0,D F n] H) λr H'=>r= D F (ew x n.toNat:Nat)/\au H H':=by
 obtain⟨k,rfl⟩:∃k:Nat,n=k:=⟨n.toNat,ad⟩;grind[abw]
theorem pF(m:gF x f c gv gw cB cc M l H rv){n:Int}(aL:a6 c n≠bt):W (aK P aG 172 [.ptr M 0 0,D F n] H) λr H'=>r= C (dy c n)/\au H H':=by
 obtain⟨a,ah,ai⟩:=yq aL;grind[Fs]
theorem sQ{n:Int}(h:0<=n):af.int F ((n.toNat:Nat):Int)= D F n:=al
def l8(m:gF x f c gv gw cB cc M l H rv)(aw:l.length<=999999998){k a b e:Int}(d:bp)(aA:cU d=[D F k,D F a,D F b,D F e]):W (aK P aG 169 [.ptr M 0 0,D F k,D F a,D F b,D F e] H) λr H'=>H.next<=H'.next/\oO x f c gv gw cB cc M (l++[d]) H r H':=by
 refine(Jl m aw d aA).mono ?_;rintro r H' ⟨ah,ai,ax,g,aM,_⟩;exact⟨ai,ah,ax,g,aM⟩
theorem abK(ar:ez x)(V:gF x f c gv gw cB cc M l H rv)(aC:x.ay[f]? =A c)(hw:aH aN H ok i.args wi)(r:dY x f c i=J)(aw:l.length<=1000000)(am:¬(i.op=11\/i.op=12\/i.op=13\/i.op=18\/i.op=19\/i.op=20)):W (aK P aG 175 [.ptr M 0 0,.agg (cm i wi)] H) (oO x f c gv gw cB cc M (l++cZ x f c i) H):=by
 refine aeg 0 ?_;have q:=au.push H (.row I 6 [cm i wi]);have U:(H.push (.row I 6 [cm i wi])).get H.next=A (.row I 6 [[D F i.op,D F i.a,D F i.b,D F i.c,D F i.n,wi]]):=ae.a2 _ _
 have m:=V.aB q;have ap:=V.lt;have nil:∀{Y:ae},cZ x f c i=[]->au H Y->W (A (af.tuple [],Y)) (oO x f c gv gw cB cc M (l++cZ x f c i) H):=λe p=>aD.2 ⟨rfl,ek p ad,rv,by rw[e,List.append_nil];exact V.aB p⟩
 refine bG @GN.eq_1 (dn hw) ?_;generalize H.push (.row I 6 [cm i wi])=H0 at*;have an:=ae.bq U;generalize ak:H.next=zI at*
 have E:=f_ U;by_cases ax:i.op=3
 ·have t:∀j:Int,(i.op==j)=(3==j):=λj=>by rw[ax]
  have h:=(yh ax r).1;have k:a6 c i.b≠bt:=(yh ax r).2▸h;have e:cZ x f c i=bif dy c i.a then[bp.copy (bk x.ay f+i.a.toNat) (bk x.ay f+i.b.toNat)]else[]:=by grind[cZ]
  simp-implicitDefEqProofs(disch:=try exact aW)only[reduceAdd,reduceLeDiff,reduceIte,bB,E,o U,t,Int.reduceBEq];refine cT (pF m h) λK p=> ?_
  have B:=f_ (p.get U);cases s:dy c i.a with
  |false=>
   simp-implicitDefEqProofs(disch:=try exact aW)only[reduceAdd,reduceLeDiff,reduceIte,bB,B,o (p.get U),t,Int.reduceBEq];exact nil al (q.trans p)
  |true=>
   rw[s]at e;refine bP (o (p.get U)) ?_;refine bw (jt ar (m.aB p) aC h) λL v=> ?_
   have d:=p.trans v;refine bP (o (d.get U)) ?_;refine bw (jt ar (m.aB d) aC k) λN w=> ?_
   have g:=d.trans w;refine bN ?_;refine cK (l8 (m.aB g) ad (.copy (bk x.ay f+i.a.toNat) (bk x.ay f+i.b.toNat)) (by grind[cU])) ?_;rintro _ O ⟨hle,rfl,y,z,u⟩;refine⟨hle,?_⟩;refine bG (o (d.get U)) (o (p.get U)) ?_;rw[e];exact aD.2 ⟨rfl,(ek (q.trans g) ad).trans y,z,u⟩
 have aa:(i.op==3)=false:=beq_eq_false_iff_ne.2 ax;by_cases Q:i.op=6
 ·have t:∀j:Int,(i.op==j)=(6==j):=λj=>by rw[Q]
  have h:=(yi Q r).1;have G:e8 x (a6 c i.b) i.c≠bt:=(yi Q r).2▸h;have k:=sA G;have rc:=(sz ar G).1;have e:cZ x f c i=bif dy c i.a then[bp.load (bk x.ay f+i.a.toNat) (bk x.ay f+i.b.toNat) i.c.toNat]else[]:=by grind[cZ]
  simp-implicitDefEqProofs(disch:=try exact aW)only[reduceAdd,reduceLeDiff,reduceIte,bB,E,o U,t,Int.reduceBEq];refine cT (pF m h) λK p=> ?_
  have B:=f_ (p.get U);cases s:dy c i.a with
  |false=>
   simp-implicitDefEqProofs(disch:=try exact aW)only[reduceAdd,reduceLeDiff,reduceIte,bB,B,o (p.get U),t,Int.reduceBEq];exact nil al (q.trans p)
  |true=>
   rw[s]at e;refine bP (o (p.get U)) ?_;refine bw (jt ar (m.aB p) aC h) λL v=> ?_
   have d:=p.trans v;refine bP (o (d.get U)) ?_;refine bw (jt ar (m.aB d) aC k) λN w=> ?_
   have g:=d.trans w;refine bP (o (g.get U)) ?_;refine cK (l8 (m.aB g) ad (.load (bk x.ay f+i.a.toNat) (bk x.ay f+i.b.toNat) i.c.toNat) (by grind[cU])) ?_;rintro _ O ⟨hle,rfl,y,z,u⟩;refine⟨hle,?_⟩;refine b3 (o (g.get U)) (o (d.get U)) (o (p.get U)) ?_;rw[e];exact aD.2 ⟨rfl,(ek (q.trans g) ad).trans y,z,u⟩
 have ab:(i.op==6)=false:=beq_eq_false_iff_ne.2 Q;by_cases S:i.op=8
 ·have t:∀j:Int,(i.op==j)=(8==j):=λj=>by rw[S]
  have h:=(yk S r).1;have k:=n1 (yk S r).2.1;have e:cZ x f c i=bif dy c i.a then[bp.load (bk x.ay f+i.a.toNat) (bk x.ay f+i.b.toNat) 0]else[]:=by grind[cZ]
  simp-implicitDefEqProofs(disch:=try exact aW)only[reduceAdd,reduceLeDiff,reduceIte,bB,E,o U,t,Int.reduceBEq];refine cT (pF m h) λK p=> ?_
  have B:=f_ (p.get U);cases s:dy c i.a with
  |false=>
   simp-implicitDefEqProofs(disch:=try exact aW)only[reduceAdd,reduceLeDiff,reduceIte,bB,B,o (p.get U),t,Int.reduceBEq];exact nil al (q.trans p)
  |true=>
   rw[s]at e;refine bP (o (p.get U)) ?_;refine bw (jt ar (m.aB p) aC h) λL v=> ?_
   have d:=p.trans v;refine bP (o (d.get U)) ?_;refine bw (jt ar (m.aB d) aC k) λN w=> ?_
   have g:=d.trans w;refine bN ?_;refine cK (l8 (m.aB g) ad (.load (bk x.ay f+i.a.toNat) (bk x.ay f+i.b.toNat) 0) (by grind[cU])) ?_;rintro _ O ⟨hle,rfl,y,z,u⟩;refine⟨hle,?_⟩;refine bG (o (d.get U)) (o (p.get U)) ?_;rw[e];exact aD.2 ⟨rfl,(ek (q.trans g) ad).trans y,z,u⟩
 have ai:(i.op==8)=false:=beq_eq_false_iff_ne.2 S;by_cases R:i.op=7
 ·have t:∀j:Int,(i.op==j)=(7==j):=λj=>by rw[R]
  have k:=(yj R r).1;have G:e8 x (a6 c i.a) i.c≠bt:=(yj R r).2▸k;have h:=sA G;have rc:=(sz ar G).1;have e:cZ x f c i=bif dy c i.b then[bp.store (bk x.ay f+i.a.toNat) (bk x.ay f+i.b.toNat) i.c.toNat]else[]:=by grind[cZ]
  simp-implicitDefEqProofs(disch:=try exact aW)only[reduceAdd,reduceLeDiff,reduceIte,bB,E,o U,t,Int.reduceBEq];refine cT (pF m k) λK p=> ?_
  have B:=f_ (p.get U);cases s:dy c i.b with
  |false=>
   simp-implicitDefEqProofs(disch:=try exact aW)only[reduceAdd,reduceLeDiff,reduceIte,bB,B,o (p.get U),t,Int.reduceBEq];exact nil al (q.trans p)
  |true=>
   rw[s]at e;refine bP (o (p.get U)) ?_;refine bw (jt ar (m.aB p) aC h) λL v=> ?_
   have d:=p.trans v;refine bP (o (d.get U)) ?_;refine bw (jt ar (m.aB d) aC k) λN w=> ?_
   have g:=d.trans w;refine bP (o (g.get U)) ?_;refine cK (l8 (m.aB g) ad (.store (bk x.ay f+i.a.toNat) (bk x.ay f+i.b.toNat) i.c.toNat) (by grind[cU])) ?_;rintro _ O ⟨hle,rfl,y,z,u⟩;refine⟨hle,?_⟩;refine b3 (o (g.get U)) (o (d.get U)) (o (p.get U)) ?_;rw[e];exact aD.2 ⟨rfl,(ek (q.trans g) ad).trans y,z,u⟩
 have ah:(i.op==7)=false:=beq_eq_false_iff_ne.2 R;by_cases T:i.op=9
 ·have t:∀j:Int,(i.op==j)=(9==j):=λj=>by rw[T]
  have k:=(yl T r).1;have h:=n1 (yl T r).2.1;have e:cZ x f c i=bif dy c i.c then[bp.store (bk x.ay f+i.a.toNat) (bk x.ay f+i.c.toNat) 0]else[]:=by grind[cZ]
  simp-implicitDefEqProofs(disch:=try exact aW)only[reduceAdd,reduceLeDiff,reduceIte,bB,E,o U,t,Int.reduceBEq];refine cT (pF m k) λK p=> ?_
  have B:=f_ (p.get U);cases s:dy c i.c with
  |false=>
   refine bN ?_;exact nil al (q.trans p)
  |true=>
   rw[s]at e;refine bP (o (p.get U)) ?_;refine bw (jt ar (m.aB p) aC h) λL v=> ?_
   have d:=p.trans v;refine bP (o (d.get U)) ?_;refine bw (jt ar (m.aB d) aC k) λN w=> ?_
   have g:=d.trans w;refine bN ?_;refine cK (l8 (m.aB g) ad (.store (bk x.ay f+i.a.toNat) (bk x.ay f+i.c.toNat) 0) (by grind[cU])) ?_;rintro _ O ⟨hle,rfl,y,z,u⟩;refine⟨hle,?_⟩;refine bG (o (d.get U)) (o (p.get U)) ?_;rw[e];exact aD.2 ⟨rfl,(ek (q.trans g) ad).trans y,z,u⟩
 have aj:(i.op==9)=false:=beq_eq_false_iff_ne.2 T;refine bh E aa ab ah ai aj ?_;grind[cZ]
theorem NN(ar:ez x)(aC:x.ay[f]? =A c){g:bT}(aS:x.ay[i.c.toNat]? =A g)(r:0<=i.c)(O:i.args.length<=6)(R:i.args.length<=g.vars.length)(y:∀{j:Nat} {v:Int},i.args[j]? =A v->a6 c v≠bt){zI:Nat}(t:zI≠M){N:Nat}{Q:af->ae->Prop}:
  ∀(j k n:Nat) (H:ae) (l:List bp) (rv:af),k+j=i.args.length->j<n->l.length<=1000000+k->gF x f c gv gw cB cc M l H rv->H.get zI=A (.row I 6 [[D F i.op,D F i.a,D F i.b,D F i.c,D F i.n,wi]])->Dz zI rv->aH aN H (· <M) i.args wi->
  (∀H' d,cl M H H'->H'.get zI=A (.row I 6 [[D F i.op,D F i.a,D F i.b,D F i.c,D F i.n,wi]])->gF x f c gv gw cB cc M (l++ix c (bk x.ay f) (bk x.ay i.c.toNat) (i.args.drop k) k) H' d->W (vX (aK P aG) N (.ptr M 0 0) (.ptr zI 0 0) H') Q)->
  W (vY (aK P aG) N n (.ptr M 0 0) (.ptr zI 0 0) wi (D F i.args.length) (D F k) H) Q
 |_,_,0,_,_,_,_,hm,_,_,_,_,_,_=>ad
 |0,k,n+1,H,l,rv,L,_,_,m,U,_,hw,fin=>by
  have aq:¬(k:Int)<(i.args.length:Int):=ad;have:=fin H rv (.refl _ _) U (by grind[ix]);refine bG @vY.eq_2 @Ba.eq_1 ?_;omega
 |j+1,k,n+1,H,l,rv,L,av,aw,m,U,u,hw,fin=>by
  have S:k<i.args.length:=ad;have on:=NN (N:=N) (Q:=Q) ar aC aS r O R y t j (k+1) n;have aE:=m.lt;have aD:=ae.bq U;obtain⟨aJ,ab,aj⟩:=hw.int (j:=(k:Int)) (a:=i.args[k]) ad al;have w:=y (j:=k) (v:=i.args[k]) al;rw[List.drop_eq_getElem_cons S,ix]at fin;have aF:=f_ U;refine cv @vY.eq_2 @Ba.eq_1 ab aj ?_;refine bw (pF m w) λK p=> ?_
  have aT:=fB (show k<=1000000000 by omega);cases z:dy c i.args[k]with
  |false=>
   rw[z,oZ,List.nil_append]at fin;refine bG @GK.eq_1 aT ?_;exact on K l rv ad ad ad (m.aB p) (p.get U) u (hw.aB p) λH' d ah ai ax=>fin H' d ((ek p ad).trans ah) ai ax
  |true=>
   rw[z,g8,<-List.append_assoc]at fin;refine bN ?_;refine bw (jt ar (m.aB p) aC w) λB V=> ?_
   have e:=p.trans V;have h:=m.aB e;have an:=ar.ay;have ap:=(List.getElem?_eq_some_iff.1 aS).1;have aA:=rQ aS (v:=k) ad;have am:=kV ar;obtain⟨aa,i1,i2⟩:=(m.aB p).aL.int (j:=i.c) (a:=(bk x.ay i.c.toNat:Int)) r (sR x ad);have i4:aI P B 3 aa=A (D F (bk x.ay i.c.toNat)):=by
    obtain⟨q,i3,i5⟩:=h.aL.int (j:=i.c) (a:=(bk x.ay i.c.toNat:Int)) r (sR x ad);grind
   have ak:IntKind.i64.wrap ((bk x.ay i.c.toNat:Int)+(k:Int))=((bk x.ay i.c.toNat+k:Nat):Int):=by grind[wrap_i64]
   refine c_ (np h.g) (o (e.get U)) i1 i4 ak ?_;refine cK (Jl h ad (.copy (bk x.ay i.c.toNat+k) (bk x.ay f+i.args[k].toNat)) rfl) ?_;rintro _ s ⟨rfl,hle,Y,d,T,aM⟩;refine⟨hle,?_⟩;obtain⟨E,G⟩:=aM zI (by have:=e.1;omega) t u;have pu:cl M H s:=(ek e ad).trans Y;refine bh @GK.eq_1 (np h.g) (np (m.aB p).g) (o (e.get U)) (o (p.get U)) (ag i2 (ag i4 (ag (dF m.aL) aT))) ?_;exact on s _ d ad ad al T (by rw[G,e.get U]) E (hw.e3 pu) λH' d ah ai ax=>fin H' d (pu.trans ah) ai ax
theorem abo(ar:ez x)(s:gF x f c gv gw cB cc M l H rv)(aC:x.ay[f]? =A c)(hw:aH aN H (· <M) i.args wi)(N:dY x f c i=J)(aw:l.length<=1000000)(y:i.op=13):W (aK P aG 171 [.ptr M 0 0,.agg (cm i wi)] H) (oO x f c gv gw cB cc M (l++cZ x f c i) H):=by
 obtain⟨g,aS⟩:=oD y N;have B:=ia (ar.code aS.at_.2);have hlen:=aS.len;have aj:=B.params;refine aec (i.args.length+1) ?_;have t:=au.push H (.row I 6 [cm i wi]);have U:(H.push (.row I 6 [cm i wi])).get H.next=A (.row I 6 [[D F i.op,D F i.a,D F i.b,D F i.c,D F i.n,wi]]):=ae.a2 _ _
 have ap:=s.lt;have O:=f_ U;refine cv @GJ.eq_1 (dn hw) O (hw.bg b0) ?_;refine NN ar aC aS.at_.2 aS.at_.1 ad ad (λh=>(aS.arg h).1) ad i.args.length 0 (i.args.length+1) _ l rv ad ad ad (s.aB t) U (λL n cap m=>by have:=s.r.eL.lt (K:=cP) m;omega) (hw.aB t) ?_;intro H1 V pu d j;have an:=ae.bq d;rw[List.drop_zero]at j;have w:cl M H H1:=(ek t ad).trans pu;have av:=f_ d;have e:cZ x f c i=ix c (bk x.ay f) (bk x.ay i.c.toNat) i.args 0++(bif decide (0<=i.a)&&dy c i.a then[.copy (bk x.ay f+i.a.toNat) (eG x i.c.toNat)]else[]):=by grind[cZ]
 have z:∀(at_ to:Nat) (ak:List Int) (k:Nat),(ix c at_ to ak k).length<=ak.length:=by
  intro at_ to ak
  induction ak with
  |nil=>grind[ix]
  |cons v ak am=>grind[ix]
 have ai:=z (bk x.ay f) (bk x.ay i.c.toNat) i.args 0;have G:i.a<c.vars.length:=by
  rcases aS.res with h|h
  ·omega
  grind[yq]
 refine bG @vX.eq_1 (o d) ?_;refine bw (Fs j i.a G) λK p=> ?_
 cases m:(decide (0<=i.a)&&dy c i.a)with
 |false=>
  refine bN ?_;exact aD.2 ⟨rfl,w.trans (by grind[ek]),V,by rw[e,m,oZ,List.append_nil];exact j.aB p⟩
 |true=>
  have E:a6 c i.a≠bt:=by
   simp only[Bool.and_eq_true]at m;exact Af m.2
  refine bP (o (p.get d)) ?_;refine bw (jt ar (j.aB p) aC E) λY Q=> ?_
  have q:=p.trans Q;have af:=ar.ay;have ah:=(List.getElem?_eq_some_iff.1 aS.at_.2).1;refine bP (o (q.get d)) ?_;refine bw (PC ar (j.aB q) aS.at_.1 ad) λaa R=> ?_
  have u:=q.trans R;refine bN ?_;refine cK (l8 (j.aB u) al (.copy (bk x.ay f+i.a.toNat) (eG x i.c.toNat)) rfl) ?_;rintro _ ab ⟨hle,rfl,S,T,aq⟩;refine⟨hle,?_⟩;refine bG (o (q.get d)) (o (p.get d)) ?_;exact aD.2 ⟨rfl,w.trans ((ek u ad).trans S),T,al⟩
theorem aby(ar:ez x)(V:gF x f c gv gw cB cc M l H rv)(aC:x.ay[f]? =A c)(ak:aH aN H (· <M) i.args wi)(k:dY x f c i=J)(aw:l.length<=1000000):W (aK P aG 129 [.ptr M 0 0,.agg (cm i wi)] H) (oO x f c gv gw cB cc M (l++cZ x f c i) H):=by
 refine adP 0 ?_;have q:=au.push H (.row I 6 [cm i wi]);have U:(H.push (.row I 6 [cm i wi])).get H.next=A (.row I 6 [[D F i.op,D F i.a,D F i.b,D F i.c,D F i.n,wi]]):=ae.a2 _ _
 have m:=V.aB q;have hw:=ak.aB q;have aQ:=V.lt;have aM:=(List.getElem?_eq_some_iff.1 aC).1;have aL:=ar.ay;have aO:=ar.globals;have aR:cZ x f c i=cZ x f c i:=rfl;have nil:∀{E:ae},cZ x f c i=[]->au H E->W (A (af.tuple [],E)) (oO x f c gv gw cB cc M (l++cZ x f c i) H):=λe p=>aD.2 ⟨rfl,ek p ad,rv,by rw[e,List.append_nil];exact V.aB p⟩
 have an:∀{am:List bp} {r:af} {E:ae},oO x f c gv gw cB cc M am (H.push (.row I 6 [cm i wi])) r E->oO x f c gv gw cB cc M am H r E:=λ⟨ah,ai,ax⟩=>⟨ah,(ek q ad).trans ai,ax⟩
 refine bG @Gm.eq_1 (dn ak) ?_;generalize H.push (.row I 6 [cm i wi])=H0 at*;have aP:=ae.bq U;generalize aJ:H.next=zI at*
 have B:=f_ U;by_cases S:i.op=11
 ·have t:∀j:Int,(i.op==j)=(11==j):=λj=>al
  have s:a6 c i.a≠bt:=(rJ S k).1.1;have dE:=(nc (rJ S k).2).1;have e:cZ x f c i=[bp.base (bk x.ay f+i.a.toNat) i.n.toNat]:=by grind[cZ]
  simp-implicitDefEqProofs(disch:=try exact aW)only[pR,reduceAdd,reduceLeDiff,reduceIte,bB,B,o U,t,Int.reduceBEq];refine bw (jt ar m aC s) λK p=> ?_
  refine bP (o (p.get U)) ?_;refine cK (l8 (m.aB p) ad (.base (bk x.ay f+i.a.toNat) i.n.toNat) (by rw[cU,sQ dE])) ?_;rintro _ O ⟨hle,rfl,v,w,u⟩;refine⟨hle,?_⟩;refine bG (o (p.get U)) (o U) ?_;rw[e];exact aD.2 ⟨rfl,(ek (q.trans p) ad).trans v,w,u⟩
 have aq:(i.op==11)=false:=beq_eq_false_iff_ne.2 S;by_cases T:i.op=12
 ·have t:∀j:Int,(i.op==j)=(12==j):=λj=>al
  have s:a6 c i.a≠bt:=n1 (rK T k).1.1;have dE:=(nc (rK T k).2).1;have e:cZ x f c i=[bp.base (bk x.ay f+i.a.toNat) i.n.toNat]:=by grind[cZ]
  simp-implicitDefEqProofs(disch:=try exact aW)only[pR,reduceAdd,reduceLeDiff,reduceIte,bB,B,o U,t,Int.reduceBEq];refine bw (jt ar m aC s) λK p=> ?_
  refine bP (o (p.get U)) ?_;refine cK (l8 (m.aB p) ad (.base (bk x.ay f+i.a.toNat) i.n.toNat) (by rw[cU,sQ dE])) ?_;rintro _ O ⟨hle,rfl,v,w,u⟩;refine⟨hle,?_⟩;refine bG (o (p.get U)) (o U) ?_;rw[e];exact aD.2 ⟨rfl,(ek (q.trans p) ad).trans v,w,u⟩
 have av:(i.op==12)=false:=beq_eq_false_iff_ne.2 T;by_cases ab:i.op=13
 ·have t:∀j:Int,(i.op==j)=(13==j):=λj=>al
  simp-implicitDefEqProofs(disch:=try exact aW)only[pR,reduceAdd,reduceLeDiff,reduceIte,bB,B,o U,t,Int.reduceBEq,gP (i:=i) (wi:=wi) U];refine cK (abo ar m aC hw k aw ab) ?_;rintro r K G;refine⟨G.2.1.1,aD.2 (an ⟨rfl,G.2⟩)⟩
 have aA:(i.op==13)=false:=beq_eq_false_iff_ne.2 ab;by_cases aj:i.op=18
 ·have t:∀j:Int,(i.op==j)=(18==j):=λj=>al
  have e:cZ x f c i=bif decide (0<=i.a)&&dy c i.a then[bp.copy (eG x f) (bk x.ay f+i.a.toNat)]else[]:=by grind[cZ]
  have ap:i.a<c.vars.length:=by
   rcases R7 aj k with h|h
   ·grind[yq]
   omega
  simp-implicitDefEqProofs(disch:=try exact aW)only[pR,reduceAdd,reduceLeDiff,reduceIte,bB,B,o U,t,Int.reduceBEq];refine bw (Fs m i.a ap) λK p=> ?_
  cases z:(decide (0<=i.a)&&dy c i.a)with
  |false=>
   refine bN ?_;exact nil al (q.trans p)
  |true=>
   rw[z]at e;have s:a6 c i.a≠bt:=by
    simp only[Bool.and_eq_true]at z;exact Af z.2
   refine bP (np (m.aB p).g) ?_;refine bw (PC ar (m.aB p) (n:=(f:Int)) ad ad) λY L=> ?_
   have d:=p.trans L;refine bP (o (d.get U)) ?_;refine bw (jt ar (m.aB d) aC s) λaa N=> ?_
   have y:=d.trans N;refine bN ?_;refine cK (l8 (m.aB y) ad (.copy (eG x f) (bk x.ay f+i.a.toNat)) rfl) ?_;rintro _ O ⟨hle,rfl,v,w,u⟩;refine⟨hle,?_⟩;refine bG (o (d.get U)) (o (p.get U)) ?_;rw[e];exact aD.2 ⟨rfl,(ek (q.trans y) ad).trans v,w,u⟩
 have aE:(i.op==18)=false:=beq_eq_false_iff_ne.2 aj;by_cases Q:i.op=19
 ·have t:∀j:Int,(i.op==j)=(19==j):=λj=>al
  have e:cZ x f c i=bif dy c i.a then[bp.copy (bk x.ay f+i.a.toNat) (ew x i.n.toNat)]else[]:=by grind[cZ]
  have s:=(tP Q k).1;have dE:=(mb (tP Q k).2).1;have cL:=(mb (tP Q k).2).2.1;simp-implicitDefEqProofs(disch:=try exact aW)only[pR,reduceAdd,reduceLeDiff,reduceIte,bB,B,o U,t,Int.reduceBEq];refine bw (pF m s) λK p=> ?_
  cases z:dy c i.a with
  |false=>
   refine bN ?_;exact nil al (q.trans p)
  |true=>
   rw[z]at e;refine bP (o (p.get U)) ?_;refine bw (jt ar (m.aB p) aC s) λY L=> ?_
   have d:=p.trans L;refine bP (o (d.get U)) ?_;refine bw (Mb ar (m.aB d) dE ad) λaa N=> ?_
   have y:=d.trans N;refine bN ?_;refine cK (l8 (m.aB y) ad (.copy (bk x.ay f+i.a.toNat) (ew x i.n.toNat)) rfl) ?_;rintro _ O ⟨hle,rfl,v,w,u⟩;refine⟨hle,?_⟩;refine bG (o (d.get U)) (o (p.get U)) ?_;rw[e];exact aD.2 ⟨rfl,(ek (q.trans y) ad).trans v,w,u⟩
 have aF:(i.op==19)=false:=beq_eq_false_iff_ne.2 Q;by_cases R:i.op=20
 ·have t:∀j:Int,(i.op==j)=(20==j):=λj=>al
  have e:cZ x f c i=bif dy c i.a then[bp.copy (ew x i.n.toNat) (bk x.ay f+i.a.toNat)]else[]:=by grind[cZ]
  have s:=(tQ R k).1;have dE:=(mb (tQ R k).2).1;have cL:=(mb (tQ R k).2).2.1;simp-implicitDefEqProofs(disch:=try exact aW)only[pR,reduceAdd,reduceLeDiff,reduceIte,bB,B,o U,t,Int.reduceBEq];refine bw (pF m s) λK p=> ?_
  cases z:dy c i.a with
  |false=>
   refine bN ?_;exact nil al (q.trans p)
  |true=>
   rw[z]at e;refine bP (o (p.get U)) ?_;refine bw (Mb ar (m.aB p) dE ad) λY L=> ?_
   have d:=p.trans L;refine bP (o (d.get U)) ?_;refine bw (jt ar (m.aB d) aC s) λaa N=> ?_
   have y:=d.trans N;refine bN ?_;refine cK (l8 (m.aB y) ad (.copy (ew x i.n.toNat) (bk x.ay f+i.a.toNat)) rfl) ?_;rintro _ O ⟨hle,rfl,v,w,u⟩;refine⟨hle,?_⟩;refine bG (o (d.get U)) (o (p.get U)) ?_;rw[e];exact aD.2 ⟨rfl,(ek (q.trans y) ad).trans v,w,u⟩
 have aI:(i.op==20)=false:=beq_eq_false_iff_ne.2 R;refine bh @pR.eq_1 B aq av aA (ag aE (ag aF (ag aI (gP (i:=i) (wi:=wi) U)))) ?_;refine cK (abK ar m aC hw k aw ad) ?_;rintro r K G;exact⟨G.2.1.1,aD.2 (an ⟨rfl,G.2⟩)⟩
end
end
section
open Go.a_
set_option maxRecDepth 2000
section
variable {H:ae}{ok:Nat->Prop}{x:bC}{f:Nat}{c:bT}{i:In}{gv gw cB cc rv wi:af}{M:Nat}{l:List bp}
theorem aY.p6{α:Type}{K:eS α}{H:ae}{l:List α}{v:af}{M:Nat}(h:aY K (M+1) bb H l v)(d:∀{H H':ae} {ok:Nat->Prop} {a cs},K.V H ok a cs->K.V H' ok a cs)(b:bz):aY K (M+1) bb (H.set M b) l v:=by
 refine⟨?_,h.low⟩;rcases h.eL with ah|⟨L',els,cap,c,e,f,g,i,j⟩
 ·exact .inl ah
 ·have:=h.low _ _ _ c;exact .inr (by grind[ae.b8])
theorem aH.p6{α:Type}{K:eS α}{H:ae}{l:List α}{v:af}{M:Nat}(h:aH K H (· <M) l v)(b:bz):aH K (H.set M b) (· <M) l v:=h.keep λk b a g=>(by grind[ae.b8])
theorem EJ(e:dY x f c i=J)(ar:ez x):(cZ x f c i).length<=7:=by
 have d:∀(at_ to:Nat) (ak:List Int) (k:Nat),(ix c at_ to ak k).length<=ak.length:=by
  intro at_ to ak
  induction ak with
  |nil=>grind[ix]
  |cons v ak h=>grind[ix]
 have one:∀(b:Bool) (z:bp),(bif b then[z]else[]).length<=7:=λb z=>al
 unfold cZ;simp only
 split
 case h_8 a=>
  obtain⟨g,aS⟩:=oD a e;have ah:=d (bk x.ay f) (bk x.ay i.c.toNat) i.args 0;have ai:=aS.len;have ax:=(ia (ar.code aS.at_.2)).params;grind
 all_goals first|exact one _ _|simp
def abI(m:gF x f c gv gw cB cc M l H rv){k:Nat}{g:bT}{v w:af}(bV:aH e_ H (· <M) g.vars v)(b9:aH gq H (· <M) g.ins w):
  cr P (H.push (.row I 7 [cG g v w])) 3 (.ptr M 0 8) (D F k)=A ((H.push (.row I 7 [cG g v w])).set M (.row I 12 [iG x k c gv gw cB cc rv]))/\
  cr P ((H.push (.row I 7 [cG g v w])).set M (.row I 12 [iG x k c gv gw cB cc rv])) 49 (.ptr M 0 0) (.agg (cG g v w))=A ((H.push (.row I 7 [cG g v w])).set M (.row I 12 [iG x k g v w cB cc rv]))/\
  gF x k g v w cB cc M l ((H.push (.row I 7 [cG g v w])).set M (.row I 12 [iG x k g v w cB cc rv])) rv:=by
 have e:=m.lt;have pp:=au.push H (.row I 7 [cG g v w]);have a:=pp.get m.g;have b:=ae.bq a;have d:((H.push (.row I 7 [cG g v w])).set M (.row I 12 [iG x k c gv gw cB cc rv])).get M=A (.row I 12 [iG x k c gv gw cB cc rv]):=ae.cH b;have ah:=bV.one;have ai:=b9.one;refine⟨?_,?_,?_⟩
 ·rw[e4 (n:=1) aF a rfl rfl rfl bZ];rfl
 ·rw[e4 (n:=7) aF d rfl rfl (by simp[cG,af.cells,ah,ai];simp[af.one]) bZ,ae.set_set];rfl
 ·exact⟨ae.cH b,(m.r.aB pp).p6 (λh=>h) _,(bV.aB pp).p6 _,(b9.aB pp).p6 _,(m.aL.aB pp).p6 _,(m.aA.aB pp).p6 _⟩
theorem NI(ar:ez x)(aC:x.ay[f]? =A c){R q:Nat}{L1:af->af->af->af->ae->O}{Q:af->ae->Prop}{N:Nat}:∀(j k n:Nat) (H:ae) (l:List bp) (rv:af),k+j=c.ins.length->j<n->c.ins.length<=1000000->l.length+7*j+R<=1000000->gF x f c gv gw cB cc M l H rv->
  (∀H' b a,cl M H H'->a=l++(c.ins.drop k).flatMap (cZ x f c)->a.length+R<=1000000->gF x f c gv gw cB cc M a H' b->W (xo (aK P aG) N L1 (.ptr M 0 0) cc (D F x.ay.length) (D F q) H') Q)->
  W (xq (aK P aG) N L1 n (.ptr M 0 0) cc (D F x.ay.length) (D F q) gw (D F c.ins.length) (D F k) H) Q
 |_,_,0,_,_,_,_,hm,_,_,_,_=>ad
 |0,k,n+1,H,l,rv,h,_,_,aw,m,fin=>by
  have u:¬(k:Int)<(c.ins.length:Int):=ad;have:=fin H rv l (.refl _ _) al ad m;refine bG @xq.eq_2 @Cr.eq_1 ?_;omega
 |j+1,k,n+1,H,l,rv,h,y,t,aw,m,fin=>by
  have d:k<c.ins.length:=ad;have z:=m.lt;obtain⟨L,nn,wi,o,r,g⟩:=m.b9.uK (j:=(k:Int)) (i:=c.ins[k]) ad al;have e:dY x f c c.ins[k]=true:=(ia (ar.code aC)).ins (List.getElem_mem d);have on:=NI ar aC (R:=R) (q:=q) (L1:=L1) (Q:=Q) (N:=N) j (k+1) n;rw[List.drop_eq_getElem_cons d,List.flatMap_cons]at fin;generalize c.ins[k]=i at*;have v:=EJ e ar;have st:=tO (i:=i) (w:=wi) (ae.a2 H (.row I 6 [[D F 0,D F 0,D F 0,D F 0,D F 0,.ao]])) g.one;have pp:=au.push H (.row I 6 [cm i wi]);have U:=ae.a2 H (.row I 6 [cm i wi]);refine bh @xq.eq_2 @Cr.eq_1 o (r _ (au.refl _)) st (ag @ae.gU (gP U)) ?_
  refine cK (aby ar (m.aB pp) aC (g.aB pp) e ad) ?_;rintro _ K ⟨rfl,p,b,gz⟩;refine⟨p.1,?_⟩;have pu:cl M H K:=(ek pp ad).trans p;refine bN ?_;refine on K _ b ad ad ad al gz λH' s a ah ai ax aM=>fin H' s a (pu.trans ah) al ax aM
theorem NJ(ar:ez x)(hlen:∀c∈x.ay,c.ins.length<=2500){N:Nat}(q:2501<=N):∀(j k n:Nat) (H:ae) (f:Nat) (c:bT) (gv gw:af) (l:List bp) (rv:af),k+j=x.ay.length->j<n->l.length+7*hl (x.ay.drop k)<=1000000->gF x f c gv gw cB cc M l H rv->
  W (xp (aK P aG) N n (.ptr M 0 0) cc (D F x.ay.length) (D F k) H) λr H'=>cl M H H'/\aY cP (M+1) bb H' (l++ks x (x.ay.drop k) k) r
 |_,_,0,_,_,_,_,_,_,_,_,hm,_,_=>ad
 |0,k,n+1,H,f,c,gv,gw,l,rv,t,_,_,m=>by
  have d:¬(k:Int)<(x.ay.length:Int):=ad;simp-implicitDefEqProofs(disch:=try exact aW)only[xp,Cq,xn,reduceAdd,reduceLeDiff,reduceIte,bB,d,decide_false,np m.g];refine aD.2 ⟨.refl _ _,?_⟩;rw[List.drop_of_length_le ad,ks,List.append_nil];exact m.r
 |j+1,k,n+1,H,f,c,gv,gw,l,rv,t,aa,aw,m=>by
  have d:(k:Int)<(x.ay.length:Int):=ad;have h:k<x.ay.length:=ad;have aj:=m.lt;have U:=ar.ay;obtain⟨L,nn,v,w,G,O,bV,b9⟩:∃L n v w,ct P 24 cc (D F k)=A (.ptr L n 0)/\(∀H',au H H'->aI P H' 49 (.ptr L n 0)=A (.agg (cG x.ay[k] v w)))/\aH e_ H (· <M) x.ay[k].vars v/\aH gq H (· <M) x.ay[k].ins w:=by
   obtain⟨L,n,ro,els,cs,ah,_,ai,ax,v,w,rfl,bV,b9⟩:=m.aA.at_ (K:=gf) cD (j:=(k:Int)) (a:=x.ay[k]) ad al;exact⟨L,n,v,w,ah,λH' p=>hz (n:=7) (c:=0) aF aF (p.get ai) ax (by exact du 7),bV,b9⟩
  have V:=hlen _ (List.getElem_mem h);have s:x.ay[k]? =A x.ay[k]:=al;have on:=NJ ar hlen q j (k+1) n;rw[List.drop_eq_getElem_cons h,hl]at aw;rw[List.drop_eq_getElem_cons h,ks,uz];generalize x.ay[k]=g at*;have st:=p9 (c:=g) (v:=v) (w:=w) (ae.a2 H (.row I 7 [[D F 0,.ao,C I,D F 0,D F 0,D F 0,.ao]])) bV.one b9.one;obtain⟨s1,s2,z⟩:=abI m (k:=k) bV b9;have b4:=ae.a2 H (.row I 7 [cG g v w]);have k7:M≠H.next:=ad
  have i:∀b:bz,((H.push (.row I 7 [cG g v w])).set M b).get H.next=A (.row I 7 [cG g v w]):=(by grind[ae.b8])
  have rg:bF (A (.agg (cG g v w))) (.agg (cG g v w))=true:=FX bV b9;simp-implicitDefEqProofs(disch:=try exact aW)only[xp,Cq,reduceAdd,reduceLeDiff,reduceIte,bB,d,decide_true,G,O _ (au.refl _),st,ae.gU,s1,s2,k6 b4,k6 (i _),rg,Bool.and_self,Bool.and_true,h8 (i _),b9.len eP];refine NI ar s (R:=7*hl (x.ay.drop (k+1))) g.ins.length 0 N _ l rv ad ad ad ad z ?_;intro H' Q y pu e u B;rw[List.drop_zero]at e;have E:cl M H H':=by
   refine cl.trans ⟨aX,λab Y=> ?_⟩ pu;grind[ae.b8,ae.eW]
  refine bP @xo.eq_1 ?_;refine(on H' k g v w y Q ad ad u B).mono ?_;rintro r S ⟨o,T⟩;exact⟨E.trans o,al⟩
theorem VR(ar:right x=J){V:af}(aE:cA H ok x V):W (aK P aG 77 [V] H) λr H'=>aY cP H.next bb H' (cons x) r/\au H H':=by
 have o:=aE;have i:=ga ar;obtain⟨_,rfl,a,b,cc,d,rfl,ah,ai,ax,aM⟩:=aE;refine afv 2501 ?_;have l:=au.push H (.row I 5 [[a,b,cc,d,D F x.main]]);have f:=ae.a2 H (.row I 5 [[a,b,cc,d,D F x.main]]);have M:bF (A (.agg [a,b,cc,d,D F x.main])) (.agg [a,b,cc,d,D F x.main])=true:=by simp[bF,af.beq,e6.beq,ah.rd,ai.rd,ax.rd,aM.rd]
 refine b3 @HX.eq_1 (dV ah ai ax aM) (cn f) ?_;refine bw (n_ (o.aB l) (pG i) (pH ar)) λK p=> ?_
 rw[ar];refine bP (cn (p.get f)) ?_;refine e2 (Fy i ((o.aB l).aB p)) λcB O cL G=> ?_
 have j:=p.trans G;refine bP (cn (j.get f)) ?_;refine bw (Dm i ((o.aB l).aB j)) λh u=> ?_
 have s:=j.trans u;have q:=l.trans s;have y:=ax.below.keep (H':=h) (ok':=(· <h.next)) λk b z g=>⟨Nat.lt_of_lt_of_le z q.1,q.get g⟩
 have B:=(cL.aB u).az.below;have no:=cL.az.one;have co:=ax.one
 let br:bT:=⟨0,[],I,⟨0,0,0⟩,[]⟩
 have v:ei P 196 [(1,cB),(3,D F (fN x.ay)),(4,cc)]=A (.agg (iG x 0 br .ao .ao cB cc .ao)):=JS no rfl co;have w:fj h.next (.agg (iG x 0 br .ao .ao cB cc .ao))=A (.ptr h.next 0 0,.row I 12 [iG x 0 br .ao .ao cB cc .ao]):=mg _ _ (by simp[iG,no,co];simp[af.one])
 have t:=au.push h (.row I 12 [iG x 0 br .ao .ao cB cc .ao]);have E:gF x 0 br .ao .ao cB cc h.next [] (h.push (.row I 12 [iG x 0 br .ao .ao cB cc .ao])) .ao:=
  ⟨ae.a2 _ _,aY.nil _ _ _ _,.inl ⟨rfl,rfl⟩,.inl ⟨rfl,rfl⟩,B.aB t,y.aB t⟩
 refine bh (c9 (s.get f)) (c9 (j.get f)) (c9 (p.get f)) (cn (j.get f)) (cn (p.get f)) (ag M (ag (dF ax) (ag v (ag w (ag (c9 (t.get (s.get f))) (ax.bg cD)))))) ?_;have hlen:∀c∈x.ay,c.ins.length<=2500:=λc aA=>by have:=qK aA;grind[pI]
 refine(NJ i hlen ad x.ay.length 0 2501 _ 0 br .ao .ao [] .ao ad (by have:=i.ay;omega) (by grind[pI]) E).mono ?_;rintro r N ⟨Q,m⟩;rw[List.drop_zero,List.nil_append]at m;refine⟨⟨m.eL,λL n cap e=>by have:=m.low L n cap e;have:=q.1;omega⟩,q.trans (by grind[cl.aB,cl.trans,ek])⟩
end
end
section
set_option maxRecDepth 100000
set_option maxHeartbeats 4000000
noncomputable section
def ou(G:aq)(N:Nat):eJ 8 Tryz.f101 G N (·.aa.aa.aa.aa.aa) (a8 Tryz.f101) []:=⟨_,v1 an⟩
def q4(G:aq)(N:Nat)(L2:cg):dI 8 49 50 51 Tryz.f101 G N (·.aa.aa.aa.aa.aj.aa.aj.aj.aa.aa.aa) (bI L2 8 49 50 51) [(2,(a1 (ou G N) 8))]:=⟨_,v4 an⟩
def vo(G:aq)(N:Nat)(L2:cg):dI 8 49 50 51 Tryz.f101 G N (·.aa.aa.aa.aa.aj.aa.aj.aj) (bI L2 8 49 50 51) [(2,(a1 (ou G N) 8))]:=⟨_,v4 (ak (ak (ak ((q4 G N L2).2) an) an) an)⟩
def sY(G:aq)(N:Nat):Nat->cg
 |0=>fq
 |n+1=>vo G N (sY G N n)
def pM(G:aq)(N:Nat):eJ 5 Tryz.f101 G N (·.aa.aa.aa) (a8 Tryz.f101) []:=⟨_,v1 (ak (ak ((ou G N).2) (ak (bj (bH (λm=>(vo G N (sY G N m)).2))) an)) an)⟩
def q3(G:aq)(N:Nat)(L4:b6):eh 0 5 6 Tryz.f101 G N (·.aa.aa.aj.aa.aj.aj) (bn L4 0 5 6) [(0,(a1 (pM G N) 5))]:=⟨_,v3 an⟩
def pN(G:aq)(N:Nat):Nat->b6
 |0=>gD
 |n+1=>q3 G N (pN G N n)
def pL(G:aq)(N:Nat):fW Tryz.f101 G N:=⟨_,t2 (ak (ak (ak ((pM G N).2) (ak (bj (bH (λm=>(q3 G N (pN G N m)).2))) an)) an) an)⟩
def ady(N:Nat):=c1 Tryz.func101 λG=>(pL G N).2
def A_(G:aq):eO Tryz.f147 G:=⟨_,λN=>t2 an⟩
def ad5(N:Nat):=c1 Tryz.func147 λG=>(A_ G).2 N
end
end
end Go.Proofs.YtmhhnnklfcbgfaaGreat
namespace Go.a_
open Go.cw
section
open Classical
def lk:List (List Int)->List Bool->Nat
 |f::fs,b::bs=>(if b then 0 else f.length)+lk fs bs
 |_,_=>0
def SL:∀{fs:List (List Int)} {met:List Bool} {c:Nat} {f:List Int},fs[c]? =A f->met[c]? =A I->lk fs (met.set c J)+f.length=lk fs met
 |[],_,_,_,h,_=>by grind
 |_::_,[],_,_,_,h=>by grind
 |g::fs,b::bs,0,f,h,ai=>by
  simp only[List.getElem?_cons_zero,bD]at h ai;subst h;subst ai;simp[lk];omega
 |g::fs,b::bs,c+1,f,h,ai=>by
  have:=SL (fs:=fs) (met:=bs) (c:=c) (by simpa using h) (by grind);grind[lk]
structure ki(fs:List (List Int))(roots:List Int)(met:List Bool)(work:List Int):Prop where
 len:met.length=fs.length
 snd:∀c:Nat,met[c]? =some true->g4 fs roots c
 IX:∀n:Nat,(n:Int)∈work->n<fs.length->g4 fs roots n
 fS:∀n:Nat,(n:Int)∈roots->n<fs.length->met[n]? =some true\/(n:Int)∈work
 Iz:∀c:Nat,met[c]? =some true->∀f,fs[c]? =some f->∀d:Nat,(d:Int)∈f->d<fs.length->met[d]? =some true\/(d:Int)∈work
theorem ki.start(fs:List (List Int))(roots:List Int):ki fs roots (List.replicate fs.length I) roots:=
 ⟨by simp,(by grind),λn h aw=> .root h aw,λn h _=> .inr h,(by grind)⟩
def ki.skip{fs:List (List Int)}{roots work:List Int}{met:List Bool}{a:Int}(h:ki fs roots met (work++[a]))(e:∀n:Nat,a=n->n<fs.length->met[n]? =A J):ki fs roots met work:=by
 have key:∀n:Nat,n<fs.length->met[n]? =A J\/(n:Int)∈work++[a]->met[n]? =A J\/(n:Int)∈work:=by
  grind
 exact⟨h.len,h.snd,λn aL=>h.IX n (List.mem_append.2 (.inl aL)),λn aL aw=>key n aw (h.fS n aL aw),λc aA f aC d b aw=>key d aw (h.Iz c aA f aC d b aw)⟩
def ki.take{fs:List (List Int)}{roots work f:List Int}{met:List Bool}{c:Nat}(h:ki fs roots met (work++[(c:Int)]))(aC:fs[c]? =A f):ki fs roots (met.set c J) (work++f):=by
 have aA:=(List.getElem?_eq_some_iff.1 aC).1;have ar:g4 fs roots c:=h.IX c (by simp) aA;have e:c<met.length:=by rw[h.len];exact aA
 have a:∀n:Nat,(met.set c J)[n]? =A J↔n=c\/met[n]? =A true:=by
  grind
 have key:∀n:Nat,met[n]? =A J\/(n:Int)∈work++[(c:Int)]->(met.set c J)[n]? =A J\/(n:Int)∈work++f:=by
  grind
 refine⟨by simp[h.len],?_,?_,λn aL aw=>key n (h.fS n aL aw),?_⟩
 ·intro n aL;rcases(a n).1 aL with rfl|ah
  ·omega
  ·exact h.snd n ah
 ·intro n aL aw;rcases List.mem_append.1 aL with ah|ah
  ·exact h.IX n (List.mem_append.2 (.inl ah)) aw
  ·exact .step ar aC ah aw
 ·intro n aL g aS d b aw;rcases(a n).1 aL with rfl|ah
  ·grind
  ·exact key d (h.Iz n ah g aS d b aw)
def ki.done{fs:List (List Int)}{roots:List Int}{met:List Bool}(h:ki fs roots met [])(c:Nat):met[c]? =A J↔g4 fs roots c:=by
 refine⟨h.snd c,λar=> ?_⟩
 induction ar with
 |root ah ai=>exact(h.fS _ ah ai).elim id λh=>by grind
 |step _ aC a aw i=>exact(h.Iz _ i _ aC _ a aw).elim id λh=>by grind
def iK:List Bool->Nat->List Int
 |[],_=>[]
 |b::bs,k=>if b then(k:Int)::iK bs (k+1)else iK bs (k+1)
def Dj{m:Nat}{p:Nat->Prop}:∀{bs:List Bool} {k:Nat},bs.length+k=m->(∀i,k<=i->i<m->(bs[i-k]? =A J↔p i))->iK bs k=((c7 m p).filter (λi=>decide (k<=i))).map (λ(n:Nat)=>(n:Int))
 |[],k,aw,_=>by
  have:(c7 m p).filter (λi=>decide (k<=i))=[]:=by
   grind[List.filter_eq_nil_iff,g_]
  rw[this];rfl
 |b::bs,k,aw,h=>by
  simp only[List.length_cons]at aw;have e:=Dj (m:=m) (p:=p) (bs:=bs) (k:=k+1) (by omega) (by grind);have c:=h k (by omega) (by omega);have d:(c7 m p).filter (λi=>decide (k<=i))=(if b then[k]else[])++(c7 m p).filter (λi=>decide (k+1<=i)):=by
   refine F2 ((va m p).filter _) ?_ λa=> ?_
   ·grind[va]
   grind[g_]
  grind[iK]
def ki.list{fs:List (List Int)}{roots:List Int}{met:List Bool}(h:ki fs roots met []):iK met 0=(fE fs roots).map (λ(n:Nat)=>(n:Int)):=by
 have:=Dj (m:=fs.length) (p:=g4 fs roots) (bs:=met) (k:=0) (by have:=h.len;omega) λi _ _=>by exact h.done i
 grind[fE,List.filter_eq_self]
end
end Go.a_
namespace Go.Proofs.YtmhhnnklfcbgfaaGreat
open Go.cw
open Nat (reduceAdd reduceLeDiff)
section
open Go.a_
set_option maxRecDepth 2000
def c6(l:List Bool):List (List af):=l.map λb=>[C b]
theorem ur{l:List Bool}{i:Nat}{b:Bool}(h:l[i]? =A b):(c6 l)[i]? =A [C b]:=by simp[c6,h]
def Ui(l:List Bool)(i:Nat)(b:Bool):(c6 l).set i [C b]=c6 (l.set i b):=by simp[c6,List.map_set]
def Ir{H:ae}{l:List Bool}{L:Nat}(h:H.get L=A (.row I 1 (c6 l)))(c:Option Nat):aH Dy H bb l (.az L 0 l.length 1 c):=
 .inr (.inl ⟨L,0,c,I,c6 l,rfl,trivial,h,by simp[c6],λj b a=>⟨_,by grind[ur],rfl⟩⟩)
def yf{H:ae}{l:List Bool}{L i:Nat}{b b':Bool}(h:H.get L=A (.row I 1 (c6 l)))(aP:l[i]? =A b):cr P H 4 (.ptr L i 0) (C b')=A (H.set L (.row I 1 (c6 (l.set i b')))):=by
 rw[e4 SC h (ur aP) rfl rfl ad,<-Ui];rfl
def sP(l n:Nat)(aL:n<=1000000000):gS (hL P ⟨.leaf,l⟩ 104 (D F n) (D F n)) l=A (.az l 0 n 1 (A n),.row I 1 (c6 (List.replicate n I))):=by
 rw[qX (e:=4) (b:=1) (z:= C I) aF aF aF aF rfl rfl bZ bZ l n aL];simp[c6,af.cells]
section
variable {H:ae}{ok ok':Nat->Prop}
theorem ZP{fs:List (List Int)}{v:af}{c:Int}(h:aH (bu aN) H ok fs v):W (aK P aG 147 [v,D F c] H) λr H'=>r= C (decide (0<=c/\c<fs.length))/\H'=H:=by
 refine ad5 0 ?_;by_cases a:0<=c
 ·refine ago @A_.eq_1 a @decide_true (h.bg dP) @true_and @cV ?_;grind[aD]
 ·refine agn @A_.eq_1 a @decide_false false_and @cV ?_;grind[aD]
theorem EB{met:List Bool}{L B:Nat}{c:Option Nat}(g:met.length<=100000){N:Nat}:∀(j k m:Nat) (H:ae) (l:List Int) (v:af),k+j=met.length->j<m->H.get L=A (.row I 1 (c6 met))->aY aN B bb H l v->L<B->B<=H.next->l.length<=k->
  W (sY (aK P aG) N m v (.az L 0 met.length 1 c) (D F met.length) (D F k) H) λr H'=>aY aN B bb H' (l++iK (met.drop k) k) r/\cl B H H'
 |_,_,0,_,_,_,_,hm,_,_,_,_,_=>ad
 |0,k,m+1,H,l,v,u,_,aS,aw,_,_,_=>by
  have K:¬(k:Int)<(met.length:Int):=ad;refine bh @ou.eq_1 @q4.eq_1 @vo.eq_1 @sY.eq_2 @pM.eq_1 (ag @q3.eq_1 (ag @pN.eq_2 @pL.eq_1)) ?_;refine aD.2 ⟨?_,.refl _ _⟩;grind[iK]
 |j+1,k,m+1,H,l,v,u,hm,aS,aw,d,f,M=>by
  have w:k<met.length:=ad;obtain⟨p,i,b⟩:=(Ir aS c).bool (j:=(k:Int)) (a:=met[k]) ad al;rw[List.drop_eq_getElem_cons w,iK];have n:=fB (show k<=1000000000 by omega);cases h:met[k]with
  |false=>
   rw[h]at b;refine bh @ou.eq_1 @q4.eq_1 @vo.eq_1 @sY.eq_2 @pM.eq_1 (ag @q3.eq_1 (ag @pN.eq_2 (ag @pL.eq_1 (ag i (ag b n))))) ?_;exact EB g j (k+1) m H l v ad ad aS aw d f ad
  |true=>
   rw[h]at b;obtain⟨x,H',o,q,e,z,E⟩:=aw.jU (a:=(k:Int)) f ad;have hle:(H.push (.row I 1 [[D F (k:Int)]])).next<=H'.next:=by simp;omega
   refine bh @ou.eq_1 @q4.eq_1 @vo.eq_1 @sY.eq_2 @pM.eq_1 (ag @q3.eq_1 (ag @pN.eq_2 (ag @pL.eq_1 (ag i (ag b (ag @c2 (ag o n))))))) ?_;have t:H'.get L=A (.row I 1 (c6 met)):=by rw[e.2 L d];omega
   refine(EB g j (k+1) m H' (l++[(k:Int)]) x ad ad t q d ad al).mono ?_;rintro r y ⟨G,s⟩;refine⟨?_,e.trans s⟩;grind
theorem zc{fs:List (List Int)}{roots:List Int}{fv:af}{L B:Nat}{c:Option Nat}(aL:fs.length<=100000)(t:∀l,ok l->l<B){N:Nat}(z:fs.length<N):∀(m:Nat) (H:ae) (met:List Bool) (work:List Int) (b5:af),ki fs roots met work->work.length+lk fs met<m->work.length+lk fs met<=1000000000->aH (bu aN) H ok fs fv->H.get L=A (.row I 1 (c6 met))->aY aN (L+1) bb H work b5->km aN b5->L=B->L<H.next->
  W (pN (aK P aG) N m fv (.az L 0 fs.length 1 c) b5 H) λr H'=>aY aN B bb H' ((fE fs roots).map λ(n:Nat)=>(n:Int)) r/\cl B H H'
 |0,_,_,_,_,_,hm,_,_,_,_,_,_,_=>ad
 |m+1,H,met,work,b5,aP,hm,G,aC,aS,hw,aA,T,y=>by
  subst T;have hlen:=aP.len;rcases List.eq_nil_or_concat work with rfl|⟨aT,a,rfl⟩
  ·have ai:¬(0:Int)<((([]:List Int).length:Nat):Int):=aX;rw[<-hlen];have Y:bE P .empty .len [104] [.az L 0 met.length 1 c]=A (D F met.length):=iF pn.un _ _ _ _ _;simp-implicitDefEqProofs(disch:=try exact aW)only[ou,q4,pM,q3,pN,pL,ej,cV,eM,hw.az.len b0,ai,decide_false,Y];refine(EB (B:=L+1) ad met.length 0 N H [] .ao ad ad aS (aY.nil _ _ _ _) ad ad aX).mono ?_;rintro r H' ⟨d,x⟩;rw[List.nil_append,List.drop_zero,aP.list]at d;exact⟨⟨d.eL,λL' n c e=>by have:=d.low L' n c e;omega⟩,x.le ad⟩
  ·rw[List.concat_eq_append]at aP hm G hw;have aj:(0:Int)<(((aT++[a]).length:Nat):Int):=aX;have aa:IntKind.i64.wrap ((((aT++[a]).length:Nat):Int)-1)=(aT.length:Int):=by
    grind[wrap_i64]
   obtain⟨p,an,ap⟩:=hw.az.int (j:=(aT.length:Int)) (a:=a) ad aX;obtain⟨w,aq,i,E⟩:=hw.pop b0 aA;simp only[List.length_append,List.length_cons,List.length_nil,Nat.zero_add]at hm G;simp-implicitDefEqProofs(disch:=try exact aW)only[ou,q4,pM,q3,pN,pL,ej,cV,eM,hw.az.len b0,aj,decide_true,aa,an,ap,aq];refine dK (ZP aC) ?_;by_cases K:0<=a/\a<fs.length
   ·obtain⟨n,rfl⟩:∃n:Nat,a=n:=⟨a.toNat,ad⟩;have aB:n<fs.length:=ad;have aD:n<met.length:=ad;have M:fs[n]? =A fs[n]:=al;obtain⟨am,u,R⟩:=(Ir aS c).bool (j:=(n:Int)) (a:=met[n]) ad al;rw[hlen]at u;refine cv K @and_self u R ?_;cases ay:met[n]with
    |true=>
     refine bN ?_;exact zc aL t z m H met aT w (aP.skip al) ad ad aC aS i E rfl y
    |false=>
     have O:met[n]? =A false:=al;have ab:=yf (b':=true) aS O;have Q:am= .ptr L n 0:=by
      grind[pc,pn]
     subst Q;have aE:=SL M O;have ak:∀k,k≠L->(H.set L (.row I 1 (c6 (met.set n J)))).get k=H.get k:=(by grind[ae.b8]);have U:aH (bu aN) (H.set L (.row I 1 (c6 (met.set n J)))) ok fs fv:=aC.keep λk b f g=>al
     have aw:(H.set L (.row I 1 (c6 (met.set n J)))).get L=A (.row I 1 (c6 (met.set n J))):=ae.cH y;have ah:aY aN (L+1) bb (H.set L (.row I 1 (c6 (met.set n J)))) aT w:=by
      refine⟨?_,i.low⟩;rcases i.eL with h|⟨L',els,cap,o,v,q,s⟩
      ·exact .inl h
      ·have:=i.low _ _ _ o;exact .inr ⟨L',els,cap,o,v,al,s.1,s.2.1,s.2.2⟩
     obtain⟨aF,wf,f1,f2,f3⟩:=U.list (j:=(n:Int)) (a:=fs[n]) ad al;obtain⟨ar,H',o,v,q,s,S⟩:=ah.ints (by simp;omega) f3 ad;have hle:=q.1;refine c_ u ab f1 f2 o ?_;have V:H'.get L=A (.row I 1 (c6 (met.set n J))):=by rw[q.2 L ad];omega
     have pu:cl L H H':=⟨fA hle,λk f=>by rw[q.2 k ad,ak k ad]⟩;refine(zc aL t z m H' (met.set n J) (aT++fs[n]) ar (aP.take M) al al (aC.keep λk b f g=>⟨f,by rw[pu.2 k (t k f)];exact g⟩) V v (E.app S) rfl (by have:=pu.1;omega)).mono ?_;rintro r av ⟨d,x⟩;exact⟨d,pu.trans x⟩
   ·refine bP (decide_eq_false K) ?_;refine zc aL t z m H met aT w (aP.skip λk f ax=> ?_) ad ad aC aS i E rfl y;omega
def aQ(l:List Nat):List Int:=l.map λ(n:Nat)=>(n:Int)
def YC{fs:List (List Int)}{roots:List Int}{fv rv:af}(aC:aH (bu aN) H ok fs fv)(ar:aH aN H ok' roots rv)(aL:fs.length<=100000)(f:roots.length+lk fs (List.replicate fs.length I)<=1000000000):W (aK P aG 101 [fv,rv] H) λr H'=>aY aN H.next bb H' (aQ (fE fs roots)) r/\au H H':=by
 refine ady (roots.length+lk fs (List.replicate fs.length I)+fs.length+1) ?_;have c:=au.push H (.row I 1 (c6 (List.replicate fs.length I)));simp-implicitDefEqProofs(disch:=try exact aW)only[ou,q4,pM,pL,ej,eM,aC.len dP,sP _ _ (show fs.length<=1000000000 by omega)];refine cK (VH (ar.aB c) ad) ?_;rintro w H1 ⟨a1,bd,bn⟩;refine⟨bd.1,?_⟩;have cL:=bd.1;simp only[ae.fR]at cL a1;have pu:cl H.next H H1:=(ek c ad).trans (ek bd aX)
 refine(zc (fs:=fs) (roots:=roots) (ok:=(· <H.next)) aL ad ad _ H1 (List.replicate fs.length I) roots w (ki.start fs roots) ad f (aC.below.keep λk b a g=>⟨a,by rw[pu.2 k a];exact g⟩) (by rw[bd.2 _ aX];exact ae.a2 _ _) a1 bn rfl ad).mono ?_;rintro r h ⟨d,e⟩;exact⟨d,cl.aB (pu.trans e)⟩
end
end
section
set_option maxRecDepth 100000
set_option maxHeartbeats 4000000
noncomputable section
def s7(G:aq)(N:Nat):gG 8 16 Tryz.f130 G N (·.aa.aa.aa.aa.aa.aa.aa.aa.aa.aa.aa) (a8 Tryz.f130) []:=⟨_,v2 an⟩
def vu(G:aq)(N:Nat)(L4:cy):fD 6 8 12 16 104 105 Tryz.f130 G N (·.aa.aa.aa.aa.aa.aa.aa.aa.aa.aa.aj.aa.aj.aj.aa.aa.aa) (ch L4 6 8 12 16 104 105) [(6,(bd (s7 G N) 8 16))]:=⟨_,v6 an⟩
def AA(G:aq)(N:Nat)(L4:cy)(L6:jE):ql 6 8 12 16 18 104 105 114 115 Tryz.f130 G N (·.aa.aa.aa.aa.aa.aa.aa.aa.aa.aa.aj.aa.aj.aj.aa.aa.aj.aj.aa.aa.aa.aj.aj) (oX L6 6 8 12 16 18 104 105 114 115) [(8,(ch (vu G N L4) 6 8 12 16 104 105)),(7,(ch (vu G N L4) 6 8 12 16 104 105)),(6,(bd (s7 G N) 8 16))]:=⟨_,We an⟩
def vx(G:aq)(N:Nat)(L4:cy):Nat->jE
 |0=>ys
 |n+1=>AA G N L4 (vx G N L4 n)
def Az(G:aq)(N:Nat)(L4:cy):fD 6 8 12 16 104 105 Tryz.f130 G N (·.aa.aa.aa.aa.aa.aa.aa.aa.aa.aa.aj.aa.aj.aj) (ch L4 6 8 12 16 104 105) [(6,(bd (s7 G N) 8 16))]:=⟨_,o2 (ak (ak (ak ((vu G N L4).2) (bj (ak (ak (ak (bj (bH (λm=>(AA G N L4 (vx G N L4 m)).2))) an) an) an))) an) an)⟩
def vv(G:aq)(N:Nat):Nat->cy
 |0=>ir
 |n+1=>Az G N (vv G N n)
def AI(G:aq)(N:Nat):dI 6 8 12 16 Tryz.f130 G N (·.aa.aa.aa.aa.aa.aa.aa.aa.aa.aa) (a8 Tryz.f130) []:=⟨_,v4 (ak ((s7 G N).2) (ak (bj (bH (λm=>(Az G N (vv G N m)).2))) an))⟩
def AD(G:aq)(N:Nat)(a:cy):fD 6 8 12 16 85 86 Tryz.f130 G N (·.aa.aa.aa.aa.aa.aa.aa.aa.aa.aj.aa.aj.aj) (ch a 6 8 12 16 85 86) [(4,(bI (AI G N) 6 8 12 16))]:=⟨_,o2 an⟩
def vy(G:aq)(N:Nat):Nat->cy
 |0=>ir
 |n+1=>AD G N (vy G N n)
def AH(G:aq)(N:Nat):eY 4 5 6 8 12 Tryz.f130 G N (·.aa.aa.aa.aa.aa.aa.aa) (a8 Tryz.f130) []:=⟨_,ng (ak (ak (ak ((AI G N).2) (ak (bj (bH (λm=>(AD G N (vy G N m)).2))) an)) an) an)⟩
def AE(G:aq)(N:Nat)(L8:ec):gM 4 5 6 8 12 68 69 Tryz.f130 G N (·.aa.aa.aa.aa.aa.aa.aj.aa.aj.aj) (dp L8 4 5 6 8 12 68 69) [(2,(bY (AH G N) 4 5 6 8 12))]:=⟨_,g2 an⟩
def vz(G:aq)(N:Nat):Nat->ec
 |0=>kN
 |n+1=>AE G N (vz G N n)
def AG(G:aq)(N:Nat):fD 4 5 6 8 11 12 Tryz.f130 G N (·.aa.aa.aa.aa.aa.aa) (a8 Tryz.f130) []:=⟨_,v6 (ak ((AH G N).2) (ak (bj (bH (λm=>(AE G N (vz G N m)).2))) an))⟩
def AF(G:aq)(N:Nat)(L9:jE):ql 4 5 6 8 11 12 58 59 60 Tryz.f130 G N (·.aa.aa.aa.aa.aa.aj.aa.aj.aj) (oX L9 4 5 6 8 11 12 58 59 60) [(0,(ch (AG G N) 4 5 6 8 11 12))]:=⟨_,v9 an⟩
def s8(G:aq)(N:Nat):Nat->jE
 |0=>ys
 |n+1=>AF G N (s8 G N n)
def Gn(G:aq)(N:Nat):DF Tryz.f130 G N:=⟨λy x1 x2 x3 H=>fe H (fj (H).next y) λx4 ah=>fe ah (fj (ah).next x1) λx5 ai=>fe ai (fj (ai).next x2) λx6 ax=>e5 ax [af.ao,af.ao] λx8 aM=>aU (aI P aM 3 x4) λz=>ea aM (G 176 [z,D F 70001] aM) λp u=>bW p J u (qr (aI P u 3 x5)) λB n=>bW p J n (λq=>eb n (G 176 [B,D F 61] n) q) λE v=>aU (dt p (A E) (A (C I))) λs=>bW s J v (qr (aI P v 3 x6)) λK o=>bW s J o (λq=>eb o (G 176 [K,D F 9] o) q) λL x=>aU (dt s (A L) (A (C I))) λM=>aU (jL .not M) λk=>bW k I x (qv x3) λO w=>bW k I w (qv (.func (.func 178) [] [x4,x5,x6])) λQ l=>bW k I l (λq=>eb l (G 177 [O,Q] l) q) λR a=>aU (dt k (A (C J)) (A R)) λS=>ep (A S) (gp a (cr P a 154 x8 (.agg [af.ao,af.ao])) λc=>aU (aI P c 154 x8) λr=>A (.tuple [r,D F 5],c)) (aU (aI P a 3 x4) λT=>aU (aI P a 3 x5) λU=>aU (aI P a 3 x6) λV=>aU (bx P .mul 3 I U V) λW=>aU (bx P .add 3 I T W) λb=>aU (aI P a 3 x4) λd=>aU (aI P a 3 x6) λe=>fe a (gS (hL P ⟨.leaf,(a).next⟩ 243 b b) (a).next) λY c=>fe c (gS (hL P ⟨.leaf,(c).next⟩ 31 b b) (c).next) λaa f=>fe f (gS (hL P ⟨.leaf,(f).next⟩ 244 b b) (f).next) λx50 g=>fe g (gS (hL P ⟨.leaf,(g).next⟩ 243 b b) (g).next) λx52 i=>fe i (A (.map (i).next,.map [])) λab h=>fe h (gS (hL P ⟨.leaf,(h).next⟩ 104 b b) (h).next) λad j=>aU (ei P 248 [(0,d),(1,e),(2,Y),(3,aa),(4,x50),(5,x52),(6,ab),(8,ad)]) λae=>fe j (fj (j).next ae) λaj t=>bif ((bF (aI P a 3 x4) d&&(bF (aI P c 3 x4) d&&(bF (aI P f 3 x4) d&&(bF (aI P g 3 x4) d&&(bF (aI P i 3 x4) d&&(bF (aI P h 3 x4) d&&(bF (aI P j 3 x4) d&&J)))))))&&((bF (aI P a 3 x6) e&&(bF (aI P c 3 x6) e&&(bF (aI P f 3 x6) e&&(bF (aI P g 3 x6) e&&(bF (aI P i 3 x6) e&&(bF (aI P h 3 x6) e&&(bF (aI P j 3 x6) e&&J)))))))&&J))then(eM P .len [53] [x3] t λal=>s8 G N N x4 x5 x6 x8 b aj x3 al (D F 0) t)else Z),aaf (ak (ak (ak (ak (ak (ak ((AG G N).2) (ak (bj (bH (λm=>(AF G N (s8 G N m)).2))) an)) an) an) an) an) an)⟩
def adR(N:Nat):=om Tryz.func130 λG=>(Gn G N).2
def Bc(G:aq):eO Tryz.f176 G:=⟨_,λN=>t2 an⟩
def aeh(N:Nat):=c1 Tryz.func176 λG=>(Bc G).2 N
def GP(G:aq):r7 Tryz.f178 G:=⟨_,λN=>t4 an⟩
def aej(N:Nat):=om Tryz.func178 λG=>(GP G).2 N
def pU(G:aq):W0 Tryz.f179 G (·.aa.aa) (a8 Tryz.f179) []:=⟨_,λN=>v0 an⟩
def ti(G:aq):W6 1 2 3 4 10 35 Tryz.f179 G (·.aa.aj.aa.aj.aa.aa.aa.aa.aa) (br (pU G)) [(0,(br (pU G)))]:=⟨_,λN=>v6 an⟩
def q8(G:aq):r7 Tryz.f179 G:=⟨_,λN=>t4 (ak (ak ((pU G).2 N) (ak (bj (ak (c4 an (ak (c4 an (ak ((ti G).2 N) an)) an)) an)) an)) an)⟩
def aek(N:Nat):=om Tryz.func179 λG=>(q8 G).2 N
def Be(G:aq)(N:Nat)(L0:cg):dI 0 3 81 82 Tryz.f180 G N (·.aa.aa.aj.aa.aa.aa.aa.aa.aa.aa.aa.aa.aj.aa.aj.aj) (bI L0 0 3 81 82) [(1,(a8 Tryz.f180)),(0,(a8 Tryz.f180))]:=⟨_,lI an⟩
def v7(G:aq)(N:Nat):Nat->cg
 |0=>fq
 |n+1=>Be G N (v7 G N n)
def q9(G:aq)(N:Nat):fW Tryz.f180 G N:=⟨_,qz (ak (ak (bj (ak (c4 an (ak (c4 an (ak (c4 an (ak (c4 an (ak (c4 (ak (bj (bH (λm=>(Be G N (v7 G N m)).2))) an) an) an)) an)) an)) an)) an)) an) an)⟩
def ael(N:Nat):=c1 Tryz.func180 λG=>(q9 G N).2
def Bf(G:aq):eO Tryz.f181 G:=⟨_,λN=>t2 an⟩
def aem(N:Nat):=c1 Tryz.func181 λG=>(Bf G).2 N
def Bg(G:aq)(N:Nat)(L0:T1)(L2:cx):eY 0 2 69 70 71 Tryz.f182 G N (·.aj.aj.aa.aj.aa.aa.aa.aa.aa.aa.aj.aj) (bY L2 0 2 69 70 71) [(4,(a1 L0 0)),(1,(a1 L0 0)),(0,(a8 Tryz.f182))]:=⟨_,v5 an⟩
def v8(G:aq)(N:Nat)(L0:T1):Nat->cx
 |0=>hH
 |n+1=>Bg G N L0 (v8 G N L0 n)
def Bi(G:aq)(N:Nat)(L0:T1):gG 0 2 Tryz.f182 G N (·.aj.aj.aa.aj.aa.aa.aa.aa.aa) (a1 L0 0) [(1,(a1 L0 0)),(0,(a8 Tryz.f182))]:=⟨_,v2 (ak (bj (bH (λm=>(Bg G N L0 (v8 G N L0 m)).2))) an)⟩
def Bh(G:aq)(N:Nat)(L0:T1)(L3:cx):eY 0 2 52 53 54 Tryz.f182 G N (·.aj.aj.aa.aj.aa.aa.aa.aa.aj.aa.aj.aj) (bY L3 0 2 52 53 54) [(2,(bd (Bi G N L0) 0 2)),(1,(a1 L0 0)),(0,(a8 Tryz.f182))]:=⟨_,v5 an⟩
def v_(G:aq)(N:Nat)(L0:T1):Nat->cx
 |0=>hH
 |n+1=>Bh G N L0 (v_ G N L0 n)
def GS(G:aq)(N:Nat)(L0:T1):eJ 0 Tryz.f182 G N (·.aj.aj) (a1 L0 0) [(0,(a8 Tryz.f182))]:=⟨_,qA (ak (bj (ak (ak (ak (ak (ak ((Bi G N L0).2) (ak (bj (bH (λm=>(Bh G N L0 (v_ G N L0 m)).2))) an)) an) an) an) an)) an)⟩
def Bj(G:aq)(N:Nat):Nat->T1
 |0=>Td
 |n+1=>GS G N (Bj G N n)
def GR(G:aq)(N:Nat):fM Tryz.f182 G N:=⟨_,t1 (bj (bH (λm=>(GS G N (Bj G N m)).2)))⟩
def aen(N:Nat):=en Tryz.func182 λG=>(GR G N).2
def wa(G:aq)(N:Nat):eJ 3 Tryz.f183 G N (·.aa.aa.aa) (a8 Tryz.f183) []:=⟨_,v1 an⟩
def GV(G:aq)(N:Nat)(L1:b6):eh 0 3 4 Tryz.f183 G N (·.aa.aa.aj.aa.aj.aj.aa.aa) (bn L1 0 3 4) [(0,(a1 (wa G N) 3))]:=⟨_,v3 an⟩
def tj(G:aq)(N:Nat)(L1:b6):eh 0 3 4 Tryz.f183 G N (·.aa.aa.aj.aa.aj.aj) (bn L1 0 3 4) [(0,(a1 (wa G N) 3))]:=⟨_,v3 (ak (ak ((GV G N L1).2) an) an)⟩
def q_(G:aq)(N:Nat):Nat->b6
 |0=>gD
 |n+1=>tj G N (q_ G N n)
def GU(G:aq)(N:Nat):fM Tryz.f183 G N:=⟨_,t1 (ak (ak (ak ((wa G N).2) (ak (bj (bH (λm=>(tj G N (q_ G N m)).2))) an)) an) an)⟩
def aeo(N:Nat):=en Tryz.func183 λG=>(GU G N).2
def GW(G:aq):jH Tryz.f184 G:=⟨_,λN=>t3 an⟩
def aep(N:Nat):=hC Tryz.func184 λG=>(GW G).2 N
def Bx(G:aq):jH Tryz.f220 G:=⟨_,λN=>t3 an⟩
def aeD(N:Nat):=hC Tryz.func220 λG=>(Bx G).2 N
def wy(G:aq):jH Tryz.f221 G:=⟨λb x1 x2 H=>aU (eB b) λx10=>aU (bO P 248 x10 6) λx11=>aU (aI P H 245 x11) λx12=>aU (ei P 312 [(0,x1),(1,x2)]) λp=>aU (l9 P H 245 x12 p J) λn=>aU (iS n 0) λq=>aU (iS n 1) λg=>e5 H [] λx6 ah=>gp ah (cr P ah 310 x6 q) λai=>bW g I ai (qv x1) λr ax=>bW g I ax (qv x2) λs aM=>bW g I aM (ck (bx P .eql 3 I r s)) λt d=>aU (dt g (A (C J)) (A t)) λu=>ep (A u) (A (.tuple [],d)) (aU (eB b) λv=>aU (bO P 248 v 6) λw=>aU (aI P d 245 w) λx=>aU (ei P 312 [(0,x1),(1,x2)]) λy=>gp d (jI P d 245 x y (.agg [])) λa=>aU (eB b) λB=>aU (bO P 248 B 3) λj=>aU (aI P a 31 j) λk=>aU (ct P 31 k x1) λl=>aU (aI P a 30 l) λm=>fe a (gB P (a).next 30 1 [(0,x2)]) λE c=>ea c (eA P c [30,30] m E) λK e=>aU (eB b) λz=>aU (bO P 248 z 3) λh=>aU (aI P e 31 h) λi=>aU (ct P 31 i x1) λL=>gp e (cr P e 30 L K) λf=>bif ((bF (aI P a 31 j) k&&(bF (aI P c 31 j) k&&J))&&((bF (aI P a 30 l) m&&(bF (aI P c 30 l) m&&J))&&((bF (aI P a 31 h) i&&(bF (aI P c 31 h) i&&(bF (aI P e 31 h) i&&J)))&&J)))then(aU (eB b) λx52=>aU (bO P 248 x52 2) λM=>aU (aI P f 243 M) λO=>aU (ct P 243 O x1) λQ=>aU (aI P f 251 Q) λR=>ea f (G 220 [b,x2,R] f) λS o=>A (.tuple [],o))else Z),λN=>M4 an⟩
def aeE(N:Nat):=hC Tryz.func221 λG=>(wy G).2 N
def He(G:aq)(N:Nat)(L0:cx):eY 0 2 14 15 16 Tryz.f225 G N (·.aa.aj.aj.aa.aa.aa) (bY L0 0 2 14 15 16) [(0,(a8 Tryz.f225))]:=⟨_,v5 an⟩
def wA(G:aq)(N:Nat)(L0:cx):eY 0 2 14 15 16 Tryz.f225 G N (·.aa.aj.aj) (bY L0 0 2 14 15 16) [(0,(a8 Tryz.f225))]:=⟨_,ng (ak (ak (ak ((He G N L0).2) an) an) an)⟩
def tr(G:aq)(N:Nat):Nat->cx
 |0=>hH
 |n+1=>wA G N (tr G N n)
def Hd(G:aq)(N:Nat):m_ Tryz.f225 G N:=⟨_,t3 (ak (bj (bH (λm=>(wA G N (tr G N m)).2))) an)⟩
def aeH(N:Nat):=hC Tryz.func225 λG=>(Hd G N).2
def Hb(G:aq):eO Tryz.f222 G:=⟨λa x1 H=>j6 G H a "Push" [x1] λx6 ah=>j6 G ah a "Len" [] λx9 ai=>aU (bx P .sub 3 J x9 (D F 1)) λx10=>ea ai (G 250 [a,x10] ai) λx11 ax=>A (.tuple [],ax),λN=>M3 an⟩
def aeF(N:Nat):=c1 Tryz.func222 λG=>(Hb G).2 N
def wz(G:aq):g5 Tryz.f223 G:=⟨_,λN=>t1 an⟩
def Ga(N:Nat):=en Tryz.func223 λG=>(wz G).2 N
def Hc(G:aq):g5 Tryz.f224 G:=⟨λa H=>j6 G H a "Len" [] λx5 ah=>aU (bx P .sub 3 J x5 (D F 1)) λx6=>j6 G ah a "Swap" [D F 0,x6] λx9 ai=>ea ai (G 251 [a,D F 0,x6] ai) λx12 ax=>j6 G ax a "Pop" [] λb aM=>A (b,aM),λN=>zr an⟩
def aeG(N:Nat):=en Tryz.func224 λG=>(Hc G).2 N
def BE(G:aq)(N:Nat)(L0:T2):gG 0 1 Tryz.f250 G N (·.aj.aj) (bd L0 0 1) [(0,(a8 Tryz.f250))]:=⟨λa x1 H=>aU (bx P .sub 3 J x1 (D F 1)) λx6=>aU (bx P .quo 3 J x6 (D F 2)) λx7=>aU (bx P .eql 3 I x7 x1) λx10=>bW x10 I H (qv a) λx12 ah=>bW x10 I ah (qv x1) λd ai=>bW x10 I ai (qv x7) λe ax=>bW x10 I ax (λq=>(jr P ax x12 "Less" [d,e]).bind λp=>eb ax (G p.1 p.2 ax) q) λf aM=>bW x10 I aM (ck (jL .not f)) λg b=>aU (dt x10 (A (C J)) (A g)) λh=>ep (A h) (A (.tuple [],b)) (j6 G b a "Swap" [x7,x1] λi c=>L0 a x7 c),cO an⟩
def wH(G:aq)(N:Nat):Nat->T2
 |0=>m2
 |n+1=>BE G N (wH G N n)
def Hs(G:aq)(N:Nat):fW Tryz.f250 G N:=⟨_,t2 (bj (bH (λm=>(BE G N (wH G N m)).2)))⟩
def aeW(N:Nat):=c1 Tryz.func250 λG=>(Hs G N).2
def rm(G:aq)(N:Nat):gG 1 7 Tryz.f251 G N (·.aa.aa.aa) (a8 Tryz.f251) []:=⟨_,v2 an⟩
def wJ(G:aq)(N:Nat)(L1:cg):eY 0 1 2 7 9 Tryz.f251 G N (·.aa.aa.aj.aj.aj.aj.aa.aa.aa.aa) (bI L1 0 1 2 7) [(1,(bI L1 0 1 2 7)),(0,(bd (rm G N) 1 7))]:=⟨λa x1 x2 x7 x9 H=>j6 G H a "Less" [x9,x7] λb ah=>aU (jL .not b) λc=>ep (A c) (rm G N x1 x7 ah) (j6 G ah a "Swap" [x7,x9] λd ai=>L1 a x1 x2 x9 ai),cO an⟩
def wI(G:aq)(N:Nat)(L1:cg):dI 0 1 2 7 Tryz.f251 G N (·.aa.aa.aj.aj.aj) (bI L1 0 1 2 7) [(0,(bd (rm G N) 1 7))]:=⟨λd x1 x2 x7 H=>aU (bx P .mul 3 J (D F 2) x7) λh=>aU (bx P .add 3 J h (D F 1)) λa=>aU (bx P .geq 3 I a x2) λe=>bW e I H (qv a) λi ah=>bW e I ah (ck (bx P .lss 3 J i (D F 0))) λj ai=>aU (dt e (A (C J)) (A j)) λk=>ep (A k) (rm G N x1 x7 ai) (aU (bx P .add 3 J a (D F 1)) λf=>aU (bx P .lss 3 I f x2) λb=>bW b J ai (qv d) λl ax=>bW b J ax (qv f) λm aM=>bW b J aM (qv a) λn c=>bW b J c (λq=>(jr P c l "Less" [m,n]).bind λp=>eb c (G p.1 p.2 c) q) λo g=>aU (dt b (A o) (A (C I))) λr=>ep (A r) (wJ G N L1 d x1 x2 x7 f g) (wJ G N L1 d x1 x2 x7 a g)),cO (bj (ak (ak (ak (ak ((wJ G N L1).2) an) an) an) an))⟩
def rn(G:aq)(N:Nat):Nat->cg
 |0=>fq
 |n+1=>wI G N (rn G N n)
def Ht(G:aq)(N:Nat):m_ Tryz.f251 G N:=⟨_,t3 (ak (ak (ak ((rm G N).2) (bj (bH (λm=>(wI G N (rn G N m)).2)))) an) an)⟩
def aeX(N:Nat):=hC Tryz.func251 λG=>(Ht G N).2
def Hz(G:aq):jH Tryz.f281 G:=⟨_,λN=>t3 an⟩
def ae5(N:Nat):=hC Tryz.func281 λG=>(Hz G).2 N
def HA(G:aq):jH Tryz.f282 G:=⟨_,λN=>uA an⟩
def ae6(N:Nat):=hC Tryz.func282 λG=>(HA G).2 N
def HB(G:aq):g5 Tryz.f283 G:=⟨_,λN=>t1 an⟩
def ae7(N:Nat):=en Tryz.func283 λG=>(HB G).2 N
def HC(G:aq):eO Tryz.f284 G:=⟨_,λN=>qz an⟩
def ae8(N:Nat):=c1 Tryz.func284 λG=>(HC G).2 N
end
end
end Go.Proofs.YtmhhnnklfcbgfaaGreat
namespace Go.a_
open Go.cw
structure Ask where
 fu:Bool
 o:Nat
 f:Nat
structure bJ where
 am:List Nat
 g9:List (List Nat)
 asks:List (List Ask)
 seen:List Nat
 work:List Nat
 waits:List Bool
def bJ.a(S:bJ)(v:Nat):Nat:=S.am.getD v 0
def bJ.g(S:bJ)(v:Nat):List Nat:=S.g9.getD v []
def bJ.q(S:bJ)(v:Nat):List Ask:=S.asks.getD v []
def bJ.s(S:bJ)(v:Nat):Nat:=S.seen.getD v 0
def bJ.w(S:bJ)(v:Nat):Bool:=S.waits.getD v I
def iY(S:bJ)(v:Nat):bJ:=if S.w v then S else {S with waits:=S.waits.set v J,work:=v::S.work}
def gx(S:bJ)(v x:Nat):bJ:=if S.a v|||x=S.a v then S else iY {S with am:=S.am.set v (S.a v|||x)} v
def ib(S:bJ)(a b:Nat):bJ:=if b∈S.g a\/a=b then S else gx {S with g9:=S.g9.set a (S.g a++[b])} b (S.a a)
def dd(n t f:Nat):Nat:=n+t*8+f
def lC(S:bJ)(v:Nat)(q:Ask):bJ:={S with asks:=S.asks.set v (S.q v++[q])}
def mU(n:Nat)(S:bJ)(a b:Nat):List Nat->bJ
 |[]=>S
 |f::fs=>mU n (ib (ib S (dd n a f) (dd n b f)) (dd n b f) (dd n a f)) a b fs
def sh(n:Nat)(S:bJ):bp->bJ
 | .base a b=>gx S a (1<<<b)
 | .copy a b=>ib S b a
 | .load a b f=>lC S b ⟨J,a,f⟩
 | .store a b f=>lC S a ⟨I,b,f⟩
 | .same a b=>mU n S a b (List.range 8)
def si(n:Nat):List bp->bJ->bJ
 |[],S=>S
 |c::cs,S=>si n cs (sh n S c)
def nY(n t:Nat)(S:bJ)(q:Ask):bJ:=if q.fu then ib S (dd n t q.f) q.o else ib S q.o (dd n t q.f)
def lz(n t:Nat):List Ask->bJ->bJ
 |[],S=>S
 |q::qs,S=>lz n t qs (nY n t S q)
def p7(n v:Nat):List Nat->bJ->bJ
 |[],S=>S
 |t::ts,S=>p7 n v ts (lz n t (S.q v) S)
def ml(v:Nat):List Nat->bJ->bJ
 |[],S=>S
 |b::bs,S=>ml v bs (gx S b (S.a v))
def bits(x:Nat):List Nat:=(List.range 64).filter (x.testBit ·)
def kF(S:bJ)(v:Nat):bJ:={S with work:=S.work.erase v,waits:=S.waits.set v I}
def mV(S:bJ)(v:Nat):bJ:={S with seen:=S.seen.set v (S.s v|||S.a v)}
def k1(S:bJ)(v:Nat):List Nat:=(List.range 64).filter λt=>(S.a v).testBit t&& !(S.s v).testBit t
def ps(n:Nat)(S:bJ)(v:Nat):bJ:=p7 n v (k1 S v) (mV (kF S v) v)
def Dd(n:Nat)(S:bJ)(v:Nat):bJ:=ml v ((ps n S v).g v) (ps n S v)
def gC(V:Nat):bJ:=⟨List.replicate V 0,List.replicate V [],List.replicate V [],List.replicate V 0,[],List.replicate V I⟩
def o_{α:Type}{l:List α}{i j:Nat}{x d:α}(h:i<l.length):(l.set i x).getD j d=if j=i then x else l.getD j d:=by
 grind
def lK{α:Type}{n i:Nat}{x:α}:(List.replicate n x).getD i x=x:=by
 grind
def k3(l:List Nat):Nat:=(l.map λx=>64-(bits x).length).sum
theorem UQ(x:Nat):(bits x).length<=64:=Nat.le_trans (List.length_filter_le _ _) (by simp)
def filter_lt{α:Type}{p q:α->Bool}:∀{l:List α},(∀a∈l,p a=J->q a=J)->(∃a∈l,q a=J/\p a=I)->(l.filter p).length<(l.filter q).length
 |[],_,h=>by grind
 |b::l,ah,ai=>by
  have hle:∀{l:List α},(∀a∈l,p a=J->q a=J)->(l.filter p).length<=(l.filter q).length:=by
   intro l
   induction l with
   |nil=>grind
   |cons c l g=>
    grind
  have e:∀a∈l,p a=J->q a=true:=(by grind);obtain⟨a,d,aJ,f⟩:=ai;rcases List.mem_cons.1 d with rfl|d
  ·grind
  ·have g:=filter_lt e ⟨a,d,aJ,f⟩;grind
def UR{x y:Nat}(a:y<2^64)(aE:x<2^64)(h:x|||y≠x):(bits x).length<(bits (x|||y)).length:=by
 refine filter_lt (by grind) ?_;apply Classical.byContradiction;intro aL;apply h;apply Nat.eq_of_testBit_eq;intro i;by_cases aP:i<64
 ·grind
 ·have ai:y<2^i:=Nat.lt_of_lt_of_le a (Nat.pow_le_pow_right (by omega) (by omega));grind[Nat.testBit_lt_two_pow]
def LX:∀{l:List Nat} {v x:Nat},v<l.length->(bits (l.getD v 0)).length<(bits x).length->k3 (l.set v x)+1<=k3 l
 |[],_,_,h,_=>by grind
 |a::l,0,x,_,h=>by
  grind[UQ,k3]
 |a::l,v+1,x,b,h=>by
  have c:=LX (l:=l) (v:=v) (x:=x) (by grind) (by grind);grind[k3]
def bJ.M(S:bJ):Nat:=2*k3 S.am+S.work.length
structure er(n m:Nat)(l:List bp)(zX:Nat->Prop)(Y:Nat->Nat->Prop)(S:bJ):Prop where
 cq:S.am.length=n+m*8
 aR:S.g9.length=n+m*8
 hn:S.asks.length=n+m*8
 ls:S.seen.length=n+m*8
 lw:S.waits.length=n+m*8
 fb:∀v,S.a v<2^64
 mm:∀v,∀b∈S.g v,b<n+m*8
 ln:∀v∈S.work,v<n+m*8
 cB:S.work.Nodup
 sound:∀v s,(S.a v).testBit s=true->dH n l v s
 gs:∀a,∀b∈S.g a,∀s,dH n l a s->dH n l b s
 qs:∀v,∀q∈S.q v,(q.fu=true/\bp.load q.o v q.f∈l)\/(q.fu=false/\bp.store v q.o q.f∈l)
 sle:∀v s,(S.s v).testBit s=true->(S.a v).testBit s=true
 wt:∀v,S.w v=true↔v∈S.work
 nX:∀v t,(S.s v).testBit t=true->¬Y v t->∀q∈S.q v,(if q.fu then q.o=dd n t q.f\/q.o∈S.g (dd n t q.f)else dd n t q.f=q.o\/dd n t q.f∈S.g q.o)
 dD:∀v,¬zX v->S.w v=false->(∀b∈S.g v,∀s,(S.a v).testBit s=true->(S.a b).testBit s=true)/\S.s v=S.a v
structure jC(S c:bJ):Prop where
 a:∀v s,(S.a v).testBit s=true->(c.a v).testBit s=true
 g:∀v,∀b∈S.g v,b∈c.g v
 q:∀v,c.q v=S.q v
 s:∀v,c.s v=S.s v
 m:c.M<=S.M
theorem jC.refl(S:bJ):jC S S:=⟨λ_ _ h=>h,λ_ _ h=>h,λ_=>rfl,(by omega),(by omega)⟩
theorem jC.trans{S c d:bJ}(h:jC S c)(k:jC c d):jC S d:=⟨λv s x=>k.a v s (h.a v s x),λv b x=>k.g v b (h.g v b x),λv=>(k.q v).trans (h.q v),λv=>(k.s v).trans (h.s v),Nat.le_trans k.m h.m⟩
section
variable {n m:Nat}{l:List bp}{zX:Nat->Prop}{Y:Nat->Nat->Prop}{S:bJ}
theorem er.iY(h:er n m l zX Y S){v:Nat}(d:v<n+m*8):er n m l zX Y (iY S v):=by
 unfold Go.a_.iY;cases hw:S.w v with
 |true=>grind
 |false=>
  have c:v<S.waits.length:=by rw[h.lw];omega
  have b:∀u,({S with waits:=S.waits.set v J,work:=v::S.work}:bJ).w u=if u=v then J else S.w u:=λu=>o_ c
  have aL:v∉S.work:=λhm=>by rw[(h.wt v).2 hm]at hw;grind
  simp only[Bool.false_eq_true,if_false];refine⟨h.cq,h.aR,h.hn,h.ls,by simpa using h.lw,h.fb,h.mm,?_,List.nodup_cons.2 ⟨aL,h.cB⟩,h.sound,h.gs,h.qs,h.sle,?_,h.nX,?_⟩
  ·intro u hu;rcases List.mem_cons.1 hu with rfl|hu
   ·omega
   ·exact h.ln u hu
  ·intro u;rw[b,List.mem_cons];split
   ·grind
   ·rw[h.wt];grind
  ·intro u hu a;rw[b]at a;split at a
   ·grind
   ·exact h.dD u hu a
theorem er.gx(h:er n m l zX Y S){v x:Nat}(af:v<n+m*8)(aE:x<2^64)(ae:∀s,x.testBit s=J->dH n l v s):er n m l zX Y (gx S v x)/\jC S (gx S v x)/\(∀s,x.testBit s=J->((gx S v x).a v).testBit s=J)/\(∀u,u≠v->(gx S v x).a u=S.a u)/\(gx S v x).g9=S.g9/\(∀u,u≠v->(gx S v x).w u=S.w u)/\(∀u,(S.w u=I->S.s u=S.a u)->(gx S v x).w u=I->(gx S v x).s u=(gx S v x).a u):=by
 unfold Go.a_.gx;by_cases e:S.a v|||x=S.a v
 ·rw[if_pos e];refine⟨h,.refl S,λs d=> ?_,λ_ _=>rfl,rfl,λ_ _=>rfl,λ_ q=>q⟩;rw[<-e,Nat.testBit_or,d,Bool.or_true]
 ·rw[if_neg e];have E:v<S.am.length:=by rw[h.cq];omega
  have V:v<S.waits.length:=by rw[h.lw];omega
  have y:∀u,(({S with am:=S.am.set v (S.a v|||x)}:bJ)).a u=if u=v then S.a v|||x else S.a u:=λu=>o_ E
  have B:∀u s,(S.a u).testBit s=J->((({S with am:=S.am.set v (S.a v|||x)}:bJ)).a u).testBit s=true:=by
   grind
  have z:=h.fb v;have ad:S.a v|||x<2^64:=Nat.or_lt_two_pow z aE;have ab:k3 (S.am.set v (S.a v|||x))+1<=k3 S.am:=LX E (UR aE z e);unfold Go.a_.iY;have W:(({S with am:=S.am.set v (S.a v|||x)}:bJ)).w v=S.w v:=rfl;rw[W];have common:∀c:bJ,c.am=S.am.set v (S.a v|||x)->c.g9=S.g9->c.asks=S.asks->c.seen=S.seen->c.waits.length=S.waits.length->(∀u∈c.work,u<n+m*8)->c.work.Nodup->(∀u,c.w u=J↔u∈c.work)->(∀u,c.w u=if u=v then J else S.w u)->er n m l zX Y c:=by
   intro c p K L M N O P Q R;have r:∀u,c.a u=if u=v then S.a v|||x else S.a u:=λu=>by rw[<-y];show c.am.getD u 0=(S.am.set v (S.a v|||x)).getD u 0;rw[p]
   have k:∀u,c.g u=S.g u:=(by grind[bJ.g]);have G:∀u,c.q u=S.q u:=(by grind[bJ.q]);have H:∀u,c.s u=S.s u:=(by grind[bJ.s]);have U:∀u s,(S.a u).testBit s=J->(c.a u).testBit s=true:=(by grind);refine⟨by rw[p];simpa using h.cq,by rw[K];exact h.aR,by rw[L];exact h.hn,by rw[M];exact h.ls,by rw[N];exact h.lw,?_,?_,O,P,?_,?_,?_,?_,Q,?_,?_⟩
   ·intro u;rw[r];split
    ·omega
    ·exact h.fb u
   ·intro u b f;rw[k]at f;exact h.mm u b f
   ·intro u s d;rw[r]at d;split at d
    ·rename_i T;subst T;rw[Nat.testBit_or,Bool.or_eq_true]at d;rcases d with d|d
     ·exact h.sound u s d
     grind
    ·exact h.sound u s d
   ·intro u b f;rw[k]at f;exact h.gs u b f
   ·intro u q aJ;rw[G]at aJ;exact h.qs u q aJ
   ·intro u s d;rw[H]at d;exact U u s (h.sle u s d)
   ·intro u t ba aa q aJ;rw[H]at ba;rw[G]at aJ;simp only[k];exact h.nX u t ba aa q aJ
   ·intro u hu i;rw[R]at i;split at i
    ·grind
    ·obtain⟨f1,f2⟩:=h.dD u hu i;grind
  cases hw:S.w v with
  |true=>
   rw[if_pos rfl];refine⟨common _ rfl rfl rfl rfl rfl h.ln h.cB h.wt λu=> ?_,⟨B,λ_ _ f=>f,λ_=>rfl,λ_=>rfl,?_⟩,λs d=> ?_,λu hu=> ?_,rfl,λ_ _=>rfl,λu q i=> ?_⟩
   ·split
    ·grind
    ·rfl
   ·show 2*k3 (S.am.set v (S.a v|||x))+S.work.length<=2*k3 S.am+S.work.length;omega
   ·grind
   ·grind
   ·have j:S.w u=false:=i;by_cases e:u=v
    ·grind
    ·rw[y,if_neg e];exact q j
  |false=>
   have aL:v∉S.work:=λhm=>by rw[(h.wt v).2 hm]at hw;grind
   have o:∀u,((S.waits.set v J).getD u I)=if u=v then J else S.w u:=λu=>o_ V
   refine⟨common _ rfl rfl rfl rfl (by simp) ?_ (List.nodup_cons.2 ⟨aL,h.cB⟩) ?_ o,⟨B,λ_ _ f=>f,λ_=>rfl,λ_=>rfl,?_⟩,λs d=> ?_,λu hu=> ?_,rfl,λu hu=> ?_,λu q i=> ?_⟩
   ·intro u hu;rcases List.mem_cons.1 hu with rfl|hu
    ·omega
    ·exact h.ln u hu
   ·intro u;show(S.waits.set v J).getD u I=J↔u∈v::S.work;rw[o,List.mem_cons];split
    ·grind
    ·rename_i e;rw[h.wt];grind
   ·show 2*k3 (S.am.set v (S.a v|||x))+(v::S.work).length<=2*k3 S.am+S.work.length;grind
   ·grind[bJ.a]
   ·grind[bJ.a]
   ·show(S.waits.set v J).getD u I=_;grind
   ·have j:(S.waits.set v J).getD u I=false:=i;rw[o]at j;split at j
    ·grind
    ·show S.s u=bJ.a {S with am:=S.am.set v (S.a v|||x)} u;grind
end
section
variable {n m:Nat}{l:List bp}{zX:Nat->Prop}{Y:Nat->Nat->Prop}{S:bJ}
def er.ajO{d:Nat->Prop}{e:Nat->Nat->Prop}(h:er n m l zX Y S)(aE:∀v,zX v->d v)(f:∀v t,Y v t->e v t):er n m l d e S:=
 ⟨h.cq,h.aR,h.hn,h.ls,h.lw,h.fb,h.mm,h.ln,h.cB,h.sound,h.gs,h.qs,h.sle,h.wt,λv t a b=>h.nX v t a λc=>b (f v t c),λv a=>h.dD v λc=>a (aE v c)⟩
def lr(S b:bJ):Prop:=∀u,(S.w u=I->S.s u=S.a u)->b.w u=I->b.s u=b.a u
theorem lr.refl(S:bJ):lr S S:=λ_ q=>q
theorem lr.trans{a b c:bJ}(h:lr a b)(k:lr b c):lr a c:=λu q=>k u (h u q)
theorem er.qB(h:er n m l zX Y S){a b:Nat}(Q:a<n+m*8)(E:b<n+m*8)(L:∀s,dH n l a s->dH n l b s):er n m l zX Y (ib S a b)/\jC S (ib S a b)/\(a=b\/b∈(ib S a b).g a)/\lr S (ib S a b):=by
 unfold ib;by_cases e:b∈S.g a\/a=b
 ·rw[if_pos e];exact⟨h,.refl S,e.elim .inr .inl,.refl S⟩
 ·rw[if_neg e];simp only[not_or]at e;obtain⟨P,p⟩:=e;have K:a<S.g9.length:=by rw[h.aR];omega
  have o:∀u,(({S with g9:=S.g9.set a (S.g a++[b])}:bJ)).g u=if u=a then S.g a++[b]else S.g u:=λu=>o_ K
  have ah:er n m l (λv=>zX v\/v=a) Y ({S with g9:=S.g9.set a (S.g a++[b])}:bJ):=by
   refine⟨h.cq,by simpa using h.aR,h.hn,h.ls,h.lw,h.fb,?_,h.ln,h.cB,h.sound,?_,h.qs,h.sle,h.wt,?_,?_⟩
   ·intro v c aA;rw[o]at aA;split at aA
    ·rcases List.mem_append.1 aA with aA|aA
     ·exact h.mm a c aA
     grind
    ·exact h.mm v c aA
   ·intro v c aA s f;rw[o]at aA;split at aA
    ·rename_i jQ;subst jQ;rcases List.mem_append.1 aA with aA|aA
     ·exact h.gs v c aA s f
     grind
    ·exact h.gs v c aA s f
   ·intro v t ba N q aJ;have:=h.nX v t ba N q aJ;grind
   ·intro v j hw;simp only[not_or]at j;obtain⟨f1,f2⟩:=h.dD v j.1 hw;rw[o,if_neg j.2];exact⟨f1,f2⟩
  obtain⟨d,i,O,x,y,z,B⟩:=ah.gx E (h.fb a) λs f=>L s (h.sound a s f)
  generalize Go.a_.gx ({S with g9:=S.g9.set a (S.g a++[b])}:bJ) b (S.a a)=k at d i O x y z B ⊢;have G:∀u,k.g u=if u=a then S.g a++[b]else S.g u:=λu=>by rw[<-o];show k.g9.getD u []=(S.g9.set a (S.g a++[b])).getD u [];rw[y]
  have H:∀v,∀c∈S.g v,c∈k.g v:=(by grind);refine⟨⟨d.cq,d.aR,d.hn,d.ls,d.lw,d.fb,d.mm,d.ln,d.cB,d.sound,d.gs,d.qs,d.sle,d.wt,d.nX,?_⟩,⟨i.a,H,i.q,i.s,i.m⟩,(by grind),B⟩;intro v j hw;by_cases jQ:v=a
  ·subst jQ;have M:S.w v=false:=by rw[z v p]at hw;exact hw
   obtain⟨f1,f2⟩:=h.dD v j M;have r:k.a v=S.a v:=x v p;refine⟨λc aA s f=> ?_,?_⟩
   ·rw[r]at f;rw[G,if_pos rfl]at aA;rcases List.mem_append.1 aA with aA|aA
    ·exact i.a c s (f1 c aA s f)
    grind
   ·rw[r];exact(i.s v).trans f2
  ·exact d.dD v (by grind) hw
def nM(n t:Nat)(S:bJ)(q:Ask):Prop:=if q.fu then q.o=dd n t q.f\/q.o∈S.g (dd n t q.f)else dd n t q.f=q.o\/dd n t q.f∈S.g q.o
def nM.uI{n t:Nat}{S a:bJ}{q:Ask}(h:nM n t S q)(g:jC S a):nM n t a q:=by
 unfold nM at h ⊢;split at h
 ·rename_i e;rw[if_pos e];exact h.imp id (g.g _ _)
 ·rename_i e;rw[if_neg e];exact h.imp id (g.g _ _)
theorem er.answer(d:gg n m l)(h:er n m l zX Y S){v t:Nat}{q:Ask}(ba:dH n l v t)(aJ:(q.fu=J/\bp.load q.o v q.f∈l)\/(q.fu=I/\bp.store v q.o q.f∈l)):er n m l zX Y (nY n t S q)/\jC S (nY n t S q)/\nM n t (nY n t S q) q/\lr S (nY n t S q):=by
 have r:=ba.site d;unfold nY nM;rcases aJ with⟨e,aJ⟩|⟨e,aJ⟩
 ·obtain⟨j,k,p⟩:=d _ aJ;obtain⟨g,i,a3,a4⟩:=h.qB (a:=dd n t q.f) (b:=q.o) (by unfold dd;omega) (by omega) λs c=> .load aJ ba c
  grind
 ·obtain⟨j,k,p⟩:=d _ aJ;obtain⟨g,i,a3,a4⟩:=h.qB (a:=q.o) (b:=dd n t q.f) (by omega) (by unfold dd;omega) λs c=> .store aJ ba c
  grind
theorem er.answers(b:gg n m l){v t:Nat}(ba:dH n l v t):∀{qs:List Ask} {S:bJ},er n m l zX Y S->(∀q∈qs,(q.fu=J/\bp.load q.o v q.f∈l)\/(q.fu=I/\bp.store v q.o q.f∈l))->er n m l zX Y (lz n t qs S)/\jC S (lz n t qs S)/\(∀q∈qs,nM n t (lz n t qs S) q)/\lr S (lz n t qs S)
 |[],S,h,_=>⟨h,.refl S,λq aJ=>by grind,.refl S⟩
 |q::qs,S,h,aJ=>by
  obtain⟨c,d,a3,a4⟩:=h.answer b ba (aJ q (by simp));obtain⟨e,a,g,i⟩:=er.answers b ba (qs:=qs) c (by grind);refine⟨e,d.trans a,λj cu=> ?_,a4.trans i⟩;rcases List.mem_cons.1 cu with rfl|cu
  ·exact a3.uI a
  ·exact g j cu
theorem er.sites(d:gg n m l){v:Nat}:∀{ts:List Nat} {S:bJ},er n m l zX (λu t=>u=v/\t∈ts) S->(∀t∈ts,dH n l v t)->er n m l zX (λ_ _=>False) (p7 n v ts S)/\jC S (p7 n v ts S)/\lr S (p7 n v ts S)
 |[],S,h,_=>⟨h.ajO (λ_ a=>a) λ_ _ a=>by grind,.refl S,.refl S⟩
 |t::ts,S,h,ba=>by
  obtain⟨b,c,a3,a4⟩:=er.answers d (ba t (by simp)) h (qs:=S.q v) (h.qs v);have g:er n m l zX (λu t=>u=v/\t∈ts) (lz n t (S.q v) S):=by
   refine⟨b.cq,b.aR,b.hn,b.ls,b.lw,b.fb,b.mm,b.ln,b.cB,b.sound,b.gs,b.qs,b.sle,b.wt,λu f hu o q aJ=> ?_,b.dD⟩;by_cases e:u=v/\f=t
   ·obtain⟨rfl,rfl⟩:=e;rw[c.q]at aJ;exact a3 q aJ
   ·refine b.nX u f hu (λaA=> ?_) q aJ;grind
  obtain⟨i,j,k⟩:=er.sites d g (by grind);exact⟨i,c.trans j,a4.trans k⟩
theorem er.LK{v:Nat}(t:v<n+m*8):∀{bs:List Nat} {S:bJ},er n m l zX Y S->(∀b∈bs,b∈S.g v)->er n m l zX Y (ml v bs S)/\jC S (ml v bs S)/\lr S (ml v bs S)/\(ml v bs S).a v=S.a v/\(ml v bs S).g9=S.g9/\∀b∈bs,∀s,(S.a v).testBit s=J->((ml v bs S).a b).testBit s=J
 |[],S,h,_=>⟨h,.refl S,.refl S,rfl,rfl,λb f=>by grind⟩
 |b::bs,S,h,f=>by
  have i:=f b (by simp);obtain⟨w,x,y,E,z,G,B⟩:=h.gx (h.mm v b i) (h.fb v) λs d=>h.gs v b i s (h.sound v s d)
  have r:(Go.a_.gx S b (S.a v)).a v=S.a v:=by
   grind[Go.a_.gx]
  have aS:∀u,(Go.a_.gx S b (S.a v)).g u=S.g u:=(by grind[bJ.g]);obtain⟨j,e,k,o,p,q⟩:=er.LK t w (bs:=bs) (by grind);refine⟨j,x.trans e,lr.trans B k,o.trans r,p.trans z,λc aA s d=> ?_⟩;rcases List.mem_cons.1 aA with rfl|aA
  ·exact e.a _ _ (y s d)
  ·exact q c aA s (by grind)
abbrev lu(n m:Nat)(l:List bp)(S:bJ):Prop:=er n m l (λ_=>False) (λ_ _=>False) S
structure rV(S c:bJ):Prop where
 a:∀v s,(S.a v).testBit s=true->(c.a v).testBit s=true
 g:∀v,∀b∈S.g v,b∈c.g v
 q:∀v,c.q v=S.q v
theorem er.step(Y:gg n m l)(h:lu n m l S){v:Nat}(V:v∈S.work):lu n m l (Dd n S v)/\rV S (Dd n S v)/\(Dd n S v).M<S.M:=by
 have W:=h.ln v V;have T:v<S.waits.length:=by rw[h.lw];omega
 have R:v<S.seen.length:=by rw[h.ls];omega
 have B:S.s v|||S.a v=S.a v:=by
  apply Nat.eq_of_testBit_eq;intro i;rw[Nat.testBit_or];cases aP:(S.s v).testBit i with
  |true=>rw[h.sle v i aP];rfl
  |false=>rfl
 have E:∀u,(mV (kF S v) v).w u=if u=v then I else S.w u:=λu=>o_ T
 have r:∀u,(mV (kF S v) v).s u=if u=v then S.a v else S.s u:=λu=>by
  have:=o_ (x:=S.s v|||S.a v) (d:=0) (j:=u) R;rw[B]at this;show(S.seen.set v (S.s v|||S.a v)).getD u 0=_;rw[B];exact this
 have ah:er n m l (λu=>u=v) (λu t=>u=v/\t∈k1 S v) (mV (kF S v) v):=by
  refine⟨h.cq,h.aR,h.hn,by simpa [mV,kF]using h.ls,by simpa [mV,kF]using h.lw,h.fb,h.mm,λu hu=>h.ln u (List.mem_of_mem_erase hu),h.cB.erase v,h.sound,h.gs,h.qs,?_,?_,?_,?_⟩
  ·intro u s f;rw[r]at f;split at f
   ·rename_i e;subst e;exact f
   ·exact h.sle u s f
  ·intro u;rw[E];show _↔u∈S.work.erase v;rw[h.cB.mem_erase_iff];split
   ·grind
   ·rename_i e;rw[h.wt];grind
  ·intro u t ba aa q aJ;have U:q∈S.q u:=aJ;refine h.nX u t ?_ (λaA=>aA) q U;rw[r]at ba;split at ba
   ·rename_i e;subst e;cases af:(S.s u).testBit t with
    |true=>rfl
    |false=>
     exfalso;apply aa;refine⟨rfl,?_⟩;unfold k1;rw[List.mem_filter];refine⟨?_,by grind⟩;rw[List.mem_range];rcases Nat.lt_or_ge t 64 with y|y
     ·omega
     ·have:=Nat.testBit_lt_two_pow (Nat.lt_of_lt_of_le (h.fb u) (Nat.pow_le_pow_right (by omega) y));grind
   omega
  ·intro u hu hw;rw[E,if_neg hu]at hw;obtain⟨f1,f2⟩:=h.dD u (λaA=>aA) hw;refine⟨f1,?_⟩;rw[r,if_neg hu];exact f2
 obtain⟨G,o,a3⟩:=er.sites Y ah λt ba=>by
  unfold k1 at ba;rw[List.mem_filter]at ba;simp only[Bool.and_eq_true]at ba;exact h.sound v t ba.2.1
 have P:=a3 v λ_=>by rw[r,if_pos rfl];rfl
 obtain⟨c,p,H,K,L,N⟩:=er.LK W (bs:=(ps n S v).g v) G λb k=>k
 have Q:=H v P;have ab:(mV (kF S v) v).M+1=S.M:=by
  show 2*k3 S.am+(S.work.erase v).length+1=2*k3 S.am+S.work.length;grind
 have ad:=o.m;have ae:=p.m;refine⟨⟨c.cq,c.aR,c.hn,c.ls,c.lw,c.fb,c.mm,c.ln,c.cB,c.sound,c.gs,c.qs,c.sle,c.wt,c.nX,?_⟩,⟨λu s f=>p.a u s (o.a u s f),λu b k=>p.g u b (o.g u b k),λu=>(p.q u).trans (o.q u)⟩,?_⟩
 ·intro u _ hw;by_cases e:u=v
  ·subst e;refine⟨λb k s f=> ?_,Q hw⟩;have O:b∈(ps n S u).g u:=by
    have:(ml u ((ps n S u).g u) (p7 n u (k1 S u) (mV (kF S u) u))).g u=(ps n S u).g u:=congrArg (λz=>List.getD z u []) L;rw[<-this];exact k
   refine N b O s ?_;rw[<-K];exact f
  ·exact c.dD u e hw
 ·show(ml v ((ps n S v).g v) (p7 n v (k1 S v) (mV (kF S v) v))).M<S.M;omega
end
section
variable {n m:Nat}{l:List bp}{S:bJ}
structure gK(n m:Nat)(l:List bp)(S:bJ):Prop where
 i:lu n m l S
 z:∀v,S.s v=0
structure kj(S c:bJ):Prop where
 a:∀v s,(S.a v).testBit s=true->(c.a v).testBit s=true
 g:∀v,∀b∈S.g v,b∈c.g v
 q:∀v,∀q∈S.q v,q∈c.q v
theorem jC.b{S c:bJ}(h:jC S c):kj S c:=⟨h.a,h.g,(by grind[q])⟩
theorem rV.b{S c:bJ}(h:rV S c):kj S c:=⟨h.a,h.g,(by grind[q])⟩
theorem kj.refl(S:bJ):kj S S:=⟨λ_ _ h=>h,λ_ _ h=>h,λ_ _ h=>h⟩
theorem kj.trans{S c d:bJ}(h:kj S c)(k:kj c d):kj S d:=⟨λv s x=>k.a v s (h.a v s x),λv b x=>k.g v b (h.g v b x),(by grind[q])⟩
def oM(n:Nat)(S:bJ):bp->Prop
 | .base a b=>(S.a a).testBit b=J
 | .copy a b=>b=a\/a∈S.g b
 | .load a b f=>(⟨J,a,f⟩:Ask)∈S.q b
 | .store a b f=>(⟨I,b,f⟩:Ask)∈S.q a
 | .same a b=>∀f,f<8->(dd n a f=dd n b f\/dd n b f∈S.g (dd n a f))/\(dd n b f=dd n a f\/dd n a f∈S.g (dd n b f))
def oM.uI{S d:bJ}{c:bp}(h:oM n S c)(g:kj S d):oM n d c:=by
 cases c with
 |base a b=>exact g.a _ _ h
 |copy a b=>exact Or.imp id (g.g _ _) h
 |load a b f=>exact g.q _ _ h
 |store a b f=>exact g.q _ _ h
 |same a b=>exactλf aC=>⟨(h f aC).1.imp id (g.g _ _),(h f aC).2.imp id (g.g _ _)⟩
theorem gK.start(n m:Nat)(l:List bp):gK n m l (gC (n+m*8)):=by
 have c:∀v,(gC (n+m*8)).a v=0:=λv=>lK
 have aS:∀v,(gC (n+m*8)).g v=[]:=λv=>lK
 have aJ:∀v,(gC (n+m*8)).q v=[]:=λv=>lK
 have b:∀v,(gC (n+m*8)).s v=0:=λv=>lK
 have hw:∀v,(gC (n+m*8)).w v=false:=λv=>lK
 refine⟨⟨by simp[gC],by simp[gC],by simp[gC],by simp[gC],by simp[gC],?_,?_,?_,List.nodup_nil,?_,?_,?_,?_,?_,?_,?_⟩,b⟩
 ·grind
 ·grind
 ·grind[gC]
 ·grind
 ·grind
 ·grind
 ·grind
 ·grind[gC]
 ·grind
 grind
def gK.of(h:gK n m l S){a:bJ}(i:lu n m l a)(g:jC S a):gK n m l a:=⟨i,λv=>by rw[g.s,h.z]⟩
def gK.qB(h:gK n m l S){a b:Nat}(e:a<n+m*8)(f:b<n+m*8)(j:∀s,dH n l a s->dH n l b s):gK n m l (ib S a b)/\kj S (ib S a b)/\(a=b\/b∈(ib S a b).g a):=by
 obtain⟨d,c,a3,_⟩:=h.i.qB e f j;exact⟨h.of d c,c.b,a3⟩
theorem gK.same{a b:Nat}(aA:bp.same a b∈l)(p:a<m)(r:b<m):∀{fs:List Nat} {S:bJ},gK n m l S->(∀f∈fs,f<8)->gK n m l (mU n S a b fs)/\kj S (mU n S a b fs)/\∀f∈fs,(dd n a f=dd n b f\/dd n b f∈(mU n S a b fs).g (dd n a f))/\(dd n b f=dd n a f\/dd n a f∈(mU n S a b fs).g (dd n b f))
 |[],S,h,_=>⟨h,.refl S,λf aC=>by grind⟩
 |f::fs,S,h,aC=>by
  have e:=aC f (by simp);obtain⟨i,j,a3⟩:=h.qB (a:=dd n a f) (b:=dd n b f) (by unfold dd;omega) (by unfold dd;omega) λs c=> .same aA e c
  obtain⟨k,d,o⟩:=i.qB (a:=dd n b f) (b:=dd n a f) (by unfold dd;omega) (by unfold dd;omega) λs c=> .nG aA e c
  obtain⟨a1,bd,bn⟩:=gK.same aA p r (fs:=fs) k (by grind);refine⟨a1,(j.trans d).trans bd,λg aS=> ?_⟩;rcases List.mem_cons.1 aS with rfl|aS
  ·exact⟨a3.imp id λq=>bd.g _ _ (d.g _ _ q),o.imp id (bd.g _ _)⟩
  ·exact bn g aS
theorem agD{b s:Nat}(h:(1<<<b).testBit s=J):s=b:=by
 grind[Nat.one_shiftLeft]
theorem gK.ask(h:gK n m l S){v:Nat}{q:Ask}(j:v<n+m*8)(aJ:(q.fu=J/\bp.load q.o v q.f∈l)\/(q.fu=I/\bp.store v q.o q.f∈l)):gK n m l (lC S v q)/\kj S (lC S v q)/\q∈(lC S v q).q v:=by
 have c:v<S.asks.length:=by rw[h.i.hn];omega
 have d:∀u,(lC S v q).q u=if u=v then S.q v++[q]else S.q u:=λu=>o_ c
 refine⟨⟨⟨h.i.cq,h.i.aR,by simpa [lC]using h.i.hn,h.i.ls,h.i.lw,h.i.fb,h.i.mm,h.i.ln,h.i.cB,h.i.sound,h.i.gs,?_,h.i.sle,h.i.wt,?_,h.i.dD⟩,h.z⟩,⟨λ_ _ a=>a,λ_ _ a=>a,?_⟩,?_⟩
 ·intro u p b;rw[d]at b;split at b
  ·rename_i e;subst e;rcases List.mem_append.1 b with b|b
   ·exact h.i.qs u p b
   grind
  ·exact h.i.qs u p b
 ·intro u t ba;have:S.s u=0:=h.z u;have g:(S.s u).testBit t=true:=ba;grind
 ·grind
 grind
theorem gK.begin(hm:m<=60)(k:gg n m l)(h:gK n m l S){c:bp}(aA:c∈l):gK n m l (sh n S c)/\kj S (sh n S c)/\oM n (sh n S c) c:=by
 have hw:=k c aA;cases c with
 |base a b=>
  obtain⟨d,e⟩:=hw;have aE:(1<<<b:Nat)<2^64:=by rw[Nat.one_shiftLeft];exact Nat.pow_lt_pow_right (by omega) (by omega)
  obtain⟨o,j,p,_⟩:=h.i.gx (v:=a) (x:=1<<<b) (by omega) aE λs g=>by rw[agD g];exact .base aA
  exact⟨h.of o j,j.b,p b (by grind)⟩
 |copy a b=>
  obtain⟨d,e⟩:=hw;exact h.qB (by omega) (by omega) λs g=> .copy aA g
 |load a b f=>
  obtain⟨d,e,_⟩:=hw;exact h.ask (by omega) (.inl ⟨rfl,aA⟩)
 |store a b f=>
  obtain⟨d,e,_⟩:=hw;exact h.ask (by omega) (.inr ⟨rfl,aA⟩)
 |same a b=>
  obtain⟨d,e⟩:=hw;obtain⟨s1,s2,gb⟩:=gK.same aA d e (fs:=List.range 8) h λf aC=>by grind
  exact⟨s1,s2,λf aC=>gb f (by grind)⟩
theorem gK.J3(hm:m<=60)(e:gg n m l):∀{cs:List bp} {S:bJ},gK n m l S->(∀c∈cs,c∈l)->gK n m l (si n cs S)/\kj S (si n cs S)/\∀c∈cs,oM n (si n cs S) c
 |[],S,h,_=>⟨h,.refl S,λc aA=>by grind⟩
 |c::cs,S,h,aA=>by
  obtain⟨f,g,a3⟩:=h.begin hm e (aA c (by simp));obtain⟨i,b,j⟩:=gK.J3 hm e (cs:=cs) f (by grind);refine⟨i,g.trans b,λd a=> ?_⟩;rcases List.mem_cons.1 a with rfl|a
  ·exact a3.uI b
  ·exact j d a
def abh(S:bJ)(v:Nat):rV S (iY S v):=by
 unfold iY;split<;>exact⟨λ_ _ h=>h,λ_ _ h=>h,λ_=>rfl⟩
theorem er.final(r:gg n m l)(h:lu n m l S)(g:∀c∈l,oM n S c)(hw:S.work=[]):∀v s,(S.a v).testBit s=J↔dH n l v s:=by
 have k:∀v,S.w v=false:=by
  intro v;cases o:S.w v with
  |false=>rfl
  |true=>rw[h.wt,hw]at o;grind
 have i:=λv=>(h.dD v (λx=>x) (k v)).1
 have p:=λv=>(h.dD v (λx=>x) (k v)).2
 have j:∀v t,(S.a v).testBit t=J->∀q∈S.q v,nM n t S q:=λv t ba q aJ=>h.nX v t (by grind) (λx=>x) q aJ
 intro v s;refine⟨h.sound v s,dH.least (R:=λv s=>(S.a v).testBit s=J) ⟨?_,?_,?_,?_,?_,?_⟩⟩
 ·intro a b aA;exact g _ aA
 ·intro a b s aA d;rcases g _ aA with e|e
  ·grind
  grind
 ·intro a b f t s aA ba d;have:=j b t ba _ (g _ aA);unfold nM at this;simp only[if_true]at this;rcases this with e|e
  ·rw[e];exact d
  ·exact i _ _ e s d
 ·intro a b f t s aA ba d;have:=j a t ba _ (g _ aA);rcases this with e|e
  ·grind[dd]
  ·exact i _ _ e s d
 ·intro a b f s aA aC d;rcases(g _ aA f aC).1 with e|e
  ·show(S.a (dd n b f)).testBit s=J;rw[<-e];exact d
  ·exact i _ _ e s d
 ·intro a b f s aA aC d;rcases(g _ aA f aC).2 with e|e
  ·show(S.a (dd n a f)).testBit s=J;rw[<-e];exact d
  ·exact i _ _ e s d
open Classical in
theorem er.list(b:gg n m l)(hm:m<=60)(h:∀v s,(S.a v).testBit s=J↔dH n l v s)(v:Nat):bits (S.a v)=c7 m (dH n l v):=by
 refine F2 (List.Pairwise.filter _ List.pairwise_lt_range) (va _ _) λs=> ?_
 rw[g_];unfold bits;rw[List.mem_filter,List.mem_range];constructor
 ·rintro⟨_,ah⟩;have:=(h v s).1 ah;exact⟨this.site b,this⟩
 grind
