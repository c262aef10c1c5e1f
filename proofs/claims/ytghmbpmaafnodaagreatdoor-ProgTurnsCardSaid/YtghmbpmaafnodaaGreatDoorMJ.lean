/- Part. -/
import Derived.Test.YtghmbpmaafnodaaGreatDoorMG
set_option linter.defProp false
open Option renaming some→I,none→u,map→yz
open Bool renaming true→Y,false→X,false_and→hi,and_false→jk,cond_eq_ite→kl,not_false→mn,not_true→tu,and_self→uv,true_and→vw
open Go.bk.aa renaming int→J,str→Z,bool→D
open Go.IntKind renaming i64→U
open Nat renaming reduceAdd→de,reduceLeDiff→fg,lt_succ_self→ij,zero_le→BC
open List renaming take_of_length_le→ef,append_nil→gh,take→lm,length_eq_zero_iff→pq,drop_of_length_le→rs,all_cons→wx,all_nil→xy,drop→zA,length_cons→AB
namespace Go.Proofs.YtghmbpmaafnodaaGreatDoor
open Go.bk
def kU(ok:Nat->Prop)(H:ad)(r:Nat)(T:List Tok)(af:aa)(e:az)(s':am)(v:aa)(H':ad):Prop:=bs r H H'/\bF H' r T af s'/\cb H' ok e v
abbrev dS(H:ad):=kU (aW H.next) H
def dS.box{H c:ad}{r:Nat}{T:List Tok}{af:aa}{s s':am}{a:bY}{ks:List az}{kv:aa}{b:Nat}{lo:Nat}(h:bF H r T af s)(m:bs r H c)(e:bE c r af s')(i:H.next<=b)(k:b<lo)(j:bW c (aW lo) ks kv)(d:b_):
  dS H r T af (.mk a ks) s' (.agg (a.cells kv)) (c.set b d):=by
 have ak:=h.rd.lt;have m':=m.bH (.inr i) d;refine⟨m',h.mut m' ?_,?_⟩
 ·unfold bE at e ⊢;rw[ad.get_set_other ae];exact e
 ·rw[gq];exact⟨kv,rfl,j.aP (cH.set _ (by unfold aW;omega) λl ak=>by unfold aW at*;omega)⟩
def kU.fin{ok:Nat->Prop}{H b6:ad}{r:Nat}{T:List Tok}{af:aa}{s s':am}{a:bY}{ks:List az}{kv:aa}(e:bF H r T af s)(m:bs r H b6)(c:bE b6 r af s')(d:bW b6 ok ks kv):kU ok H r T af (.mk a ks) s' (.agg (a.cells kv)) b6:=
 ⟨m,e.mut m c,gq.2 ⟨kv,rfl,d⟩⟩
def dS.ret{H a:ad}{r:Nat}{T:List Tok}{af:aa}{s s':am}{e:az}{v:aa}{b n:Nat}(i:bF H r T af s)(m:bs r H a)(d:bE a r af s')(j:H.next<=b)(k:cb a (aW n) e v)(o:b<n)(c:b_):dS H r T af e s' v (a.set b c):=by
 have ak:=i.rd.lt;have m':=m.bH (.inr j) c;refine⟨m',i.mut m' ?_,k.new (bV.bH (S:=(· <n)) (bV.refl _ _) (.inl o) _) λl h=>by unfold aW;omega⟩;unfold bE at d ⊢;rw[ad.get_set_other ae];exact d
def j9(n:Nat):Prop:=∀{H:ad} {r:Nat} {T:List Tok} {af:aa} {s:am},bF H r T af s->∀(lev:Nat),lev<=5->∀(e:az) (s':am),dm T n lev s=I (e,s')->W (al P aj 109 [.ptr r 0 0,J U lev] H) (dS H r T af e s')
def zN(n:Nat):Prop:=∀{H:ad} {r:Nat} {T:List Tok} {af:aa} {s:am},bF H r T af s->∀(e:az) (s':am),gb T n s=I (e,s')->W (al P aj 127 [.ptr r 0 0] H) (dS H r T af e s')
def zq(n:Nat):Prop:=∀{ok:Nat->Prop} {H:ad} {r:Nat} {T:List Tok} {af:aa} {s:am} {e:az} {v:aa},bF H r T af s->cb H ok e v->¬ok r->(∀l,H.next<=l->ok l)->∀(a:az) (s':am),eG T n e s=I (a,s')->W (al P aj 145 [.ptr r 0 0,v] H) (kU ok H r T af a s')
def oc(n:Nat):Prop:=∀{H:ad} {r:Nat} {T:List Tok} {af:aa} {s:am},bF H r T af s->∀(e:az) (s':am),eT T n s=I (e,s')->W (al P aj 157 [.ptr r 0 0] H) (dS H r T af e s')
def zy(n:Nat):Prop:=∀{H:ad} {r:Nat} {T:List Tok} {af:aa} {s:am},bF H r T af s->∀(e:az) (s':am),dL T n s=I (e,s')->W (al P aj 146 [.ptr r 0 0] H) (dS H r T af e s')
def sL(n:Nat):Prop:=∀{H:ad} {r:Nat} {T:List Tok} {af:aa} {s:am},bF H r T af s->∀(pos:Int) (e:az) (s':am),fY T n pos s=I (e,s')->W (al P aj 156 [.ptr r 0 0,J U pos] H) (dS H r T af e s')
def sI(n:Nat):Prop:=∀{H:ad} {r:Nat} {T:List Tok} {af:aa} {s:am},bF H r T af s->∀(l:List az) (s':am),fD T n s=I (l,s')->W (al P aj 158 [.ptr r 0 0] H) λv H'=>bs r H H'/\bF H' r T af s'/\bW H' (aW H.next) l v
structure OZ(n:Nat):Prop where
 expr:j9 n
 unary:zN n
 behind:zq n
 inner:oc n
 first:zy n
 fresh:sL n
 args:sI n
def Ss{n:Nat}(M:j9 n):oc (n+1):=by
 intro H r T af s d e s' h;refine bt (λ_=>V0 0) ?_;have ak:=d.rd.lt;have y:=aw.push H (.row X 11 [[J U 0,J U 0,Z [],Z [],J U 0,.ag,J U 0,J U 0,J U 0,J U 0,J U 0]]);simp only[eT,ct]at h;obtain⟨⟨ap,s1⟩,A,m⟩:=h;simp only[aT,bS]at m;obtain⟨rfl,rfl⟩:=m;simp(disch:=try exact ah)only[xF,de,ai];refine aA (rr (d.av y) [40] (by simp)) ?_;rintro _ z ⟨rfl,c,G⟩;refine⟨c.1,?_⟩;have B:=c.get (ad.a_ H _) ae;have N:=(y.mut (· =r)).trans c;simp(disch:=try exact ah)only[ai];refine aA (M G 0 ae ap s1 A) ?_;rintro v k ⟨i,K,q⟩;refine⟨i.1,?_⟩;have o:=i.get B ae
 have Q:=ad.aF o;obtain⟨cs,rfl,w,x⟩:=q.cells;have aq:lm 11 cs=cs:=ef ae;simp(disch:=try exact ah)only[de,ai,w,x,gh];have j:=aw.push k (.row X 11 [cs]);refine aA (rn (K.av j) [41] (by simp)) ?_;rintro _ O ⟨rfl,a,L⟩;refine⟨a.1,?_⟩;have p:=a.get (j.get o) ae;have R:=ad.aF p;have C:=a.get (ad.a_ k (.row X 11 [cs])) ae;have F:=c.1;simp only[ad.bb]at F;simp(disch:=try exact ah)only[ai,w,x,gh,aq,p,C];refine aD.2 (dS.ret d (((N.trans i).trans (j.mut _)).trans a) L.rd (aV _) (n:=z.next) (q.new ?_ λ_ h=>h) ae _);exact((aw.push _ _).mut _).trans ⟨a.1,λl E P=>a.2 l E ae⟩
def RT{n:Nat}(an:oc n):sL (n+1):=by
 intro H r T af s d pos e s' h;refine bt (λ_=>VZ 0) ?_;have ak:=d.rd.lt;have aI:=d.ba.one;have O:=aw.push H (.row X 11 [[J U 0,J U 0,Z [],Z [],J U 0,.ag,J U 0,J U 0,J U 0,J U 0,J U 0]]);simp(disch:=try exact ah)only[xE,de,ai];have y:=d.av O;refine aA (dD y.rd y.ba [91] (by simp)) ?_;rintro _ aq ⟨rfl,p⟩;refine⟨p.1,?_⟩;have N:=y.av p;have w:=p.get (ad.a_ H (.row X 11 [[J U 0,J U 0,Z [],Z [],J U 0,.ag,J U 0,J U 0,J U 0,J U 0,J U 0]]));have aB:=ad.aF w;have m:=(O.trans p).mut (· =r)
 simp only[fY]at h;cases K:aS T s [91]with
 |true=>
  simp only[K,aK,ct]at h;obtain⟨⟨ap,s1⟩,R,C⟩:=h;simp only[aT,bS]at C;obtain⟨rfl,rfl⟩:=C;have j:=N.rd;have M:=j;unfold bE at M;obtain⟨A,V⟩:=eL j (ao s);simp(disch:=try exact ah)only[de,fg,ai,M,tu];refine aA (tO (d.mut (m.trans A) V)) ?_;rintro _ q ⟨rfl,c,z⟩;refine⟨c.1,?_⟩;have i:=c.get (A.get w ae) ae;have W:=ad.aF i;simp(disch:=try exact ah)only[de,ai];have B:=aw.push q (.row X 2 [[Z (cz T (ao s)).1.1,J U (cz T (ao s)).1.2]]);have aj:=ad.a_ q (.row X 2 [[Z (cz T (ao s)).1.1,J U (cz T (ao s)).1.2]]);refine aA (g5 (z.av B) [93] (by simp)) ?_
  rintro _ ar ⟨rfl,o,al⟩;refine⟨o.1,?_⟩;have E:=o.get (B.get i) ae;have x:=o.get aj ae;have ay:=ad.aF E;have aC:=ad.aF x;simp(disch:=try exact ah)only[ai];refine aA (an al ap s1 R) ?_;rintro v Q ⟨k,am,G⟩;refine⟨k.1,?_⟩;have F:=k.get E ae;have L:=k.get x ae;have az:=ad.aF F;have aE:=ad.aF L;have aG:=k.1;obtain⟨cs,rfl,aa,ab⟩:=G.cells;have au:∀l,b0 P l 96 1 [(0,.agg cs)]=I (.ax l 0 1 11 (I 1),.row X 11 [cs]):=λl=>fQ l cs aa ab
  replace m:=((((m.trans A).trans c).trans (B.mut _)).trans o).trans k;have j:=am.rd;unfold bE at j;simp(disch:=try exact ah)only[de,ai,au,F,L,x];refine aD.2 ?_;refine kU.fin (ok:=aW H.next) (a:={kind:=9,b5:=(cz T (ao s)).1.1,ci:=(cz T (ao s)).1.2,pos:=pos}) (kv:= .ax Q.next 0 1 11 (I 1)) (s':=s1) d ?_ ?_ (bW.jw (ro:=false) ?_ (by unfold aW;omega) (G.new ?_ λl h=>by unfold aW;omega))
  ·(repeat (first|exact m|refine bV.a1 ?_ _|refine bV.bH (S:=(· =r)) ?_ (.inl rfl) _|refine bV.bH ?_ (.inr (by(first|omega|(simp only[ad.bb,ad.cL];omega)))) _))
  ·(unfold bE;simp(disch:=try exact ah)only[b7,j,ao])
  ·simp(disch:=try exact ah)only[b7]
  ·exact bV.bH (S:=λl=>l<_) ((bV.refl _ _).a1 _) (.inl ae) _
 |false=>
  simp only[K,aH,aT,bS]at h;obtain⟨rfl,rfl⟩:=h;simp(disch:=try exact ah)only[ai,mn];refine aA (np N) ?_;rintro _ q ⟨rfl,c,z⟩;refine⟨c.1,?_⟩;have i:=c.get w ae;have W:=ad.aF i;simp(disch:=try exact ah)only[de,ai,i];refine aD.2 ?_;exact dS.box (a:={kind:=8,b5:=(bv T s).1,pos:=pos}) (kv:= .ag) (lo:=H.next+1) d (m.trans c) z.rd (aV _) (ij _) (bW.nil _ _) _
def EA{N:Nat}(V:∀k,k<N->j9 k){H0:ad}{r:Nat}{T:List Tok}{af:aa}{s0:am}(p:bF H0 r T af s0):
  ∀(n m:Nat),n<N->n<m->∀(H:ad) (s:am) (l:List az) (L:Nat) (els:List (List aa)),bs r H0 H->bE H r af s->l.length+n<=1000000000->H.get L=I (.row X 11 els)->H0.next<=L->els.length=l.length->
   cU H (λk=>H0.next<=k/\k≠L) l els->∀(l':List az) (s':am),e2 T n l s=I (l',s')->
   W (ps (al P aj) N m (.ptr r 0 0) (.ax L 0 l.length 11 u) H) λv H'=>bs r H0 H'/\bF H' r T af s'/\bW H' (aW H0.next) l' v
 |0,m,F,O,H,s,l,L,els,e,y,M,x,w,j,B,l',s',h=>by simp[e2]at h
 |n+1,0,F,O,H,s,l,L,els,e,y,M,x,w,j,B,l',s',h=>ae
 |n+1,m+1,F,O,H,s,l,L,els,e,y,M,x,w,j,B,l',s',h=>by
  have ak:=p.rd.lt;have aZ:=p.ba.one;have aQ:=ad.aF x;have aV:=e.1;have R:=p.mut e y;simp only[e2]at h;simp only[ps];rw[ui];refine aA (dD y R.ba [44] (by simp)) ?_;rintro _ H1 ⟨rfl,c⟩;refine⟨c.1,?_⟩;have S:=R.av c;have C:=c.get x;have aR:=ad.aF C;have G:=B.aP (cH.av c λ_ h=>h) l els;cases aq:aS T s [44]with
  |false=>
   simp only[aq,aH,aT,bS]at h;obtain⟨rfl,rfl⟩:=h;simp only[nE,ai];refine aA (rn S [41] (by simp)) ?_;rintro _ aN ⟨rfl,a,aI⟩;refine⟨a.1,?_⟩
   try simp only[nE,ui,rI]
   refine aD.2 ⟨(e.trans (c.mut _)).trans a,aI,.inr (.inl ⟨L,0,u,X,els,rfl,w,a.get C ae,?_⟩)⟩;rw[List.drop_zero];exact G.aP (cH.mut a ae λ_ h=>h.1) l els
  |true=>
   simp only[aq,aK,ct]at h;obtain⟨⟨ap,s1⟩,ab,ah⟩:=h;have E:=S.rd;have Q:=E;unfold bE at Q;have aX:=E.lt;obtain⟨a,ar⟩:=eL E (ao s);simp only[de,fg,ai,Q];refine aA (V n ae (p.mut ((e.trans (c.mut _)).trans a) ar) 0 ae ap s1 ab) ?_;rintro v d ⟨q,aJ,A⟩;refine⟨q.1,?_⟩;have K:=q.get (a.get C ae) ae;have aU:=ad.aF K;have aY:=c.1;have aE:=q.1;simp only[ad.cL]at aE A;have ay:=G.aP (cH.mut (a.trans q) ae λ_ h=>h) l els;obtain⟨cs,rfl,aB,aG⟩:=A.cells;have au:∀l,b0 P l 96 1 [(0,.agg cs)]=I (.ax l 0 1 11 (I 1),.row X 11 [cs]):=λl=>fQ l cs aB aG
   simp only[ai,au];have aM:=aw.push d (.row X 11 [cs]);rw[Er (ad.a_ d (.row X 11 [cs])) (aM.get K) j ae,gF (by simp only[ad.bb,ad.cL];omega)];simp only[ad.bb];have aC:l.length+1=(l++[ap]).length:=by simp
   rw[aC];have z:∀k,k<d.next->k≠L->(((d.push (.row X 11 [cs])).set L .dead).push (.row X 11 (els++[cs]))).get k=d.get k:=λk o aO=>by
    rw[ad.dv (by simp only[ad.bb,ad.cL];omega),ad.get_set_other ae,ad.dv ae]
   have aL:bs r H0 (((d.push (.row X 11 [cs])).set L .dead).push (.row X 11 (els++[cs]))):=((((e.trans (c.mut _)).trans a).trans q).a1 _|>.bH (.inr w) _).a1 _;refine EA V p n m ae ae _ s1 (l++[ap]) (d.next+1) (els++[cs]) aL ?_ (by simp;omega) ?_ ae (by simp[j]) ?_ l' s' ah
   ·have:=aJ.rd;unfold bE at this ⊢;rw[z r ae ae];exact this
   ·exact ad.m7 (by simp only[ad.bb,ad.cL];omega) (by simp only[ad.bb,ad.cL];omega)
   ·refine cU.append l els ap cs ?_ j ?_
    ·exact ay.aP (λk ro es o i=>⟨⟨o.1,by have:=ad.aF i;omega⟩,by rw[z k (ad.aF i) o.2];exact i⟩) l els
    ·exact A.aP (λk ro es o i=>by
      have an:=ad.aF i;unfold aW at o;exact⟨⟨ae,ae⟩,by rw[z k an ae];exact i⟩) ap _
def P2{n:Nat}(Q:n<=900000000)(z:∀k,k<=n->j9 k):sI (n+1):=by
 intro H r T af s e l s' h;refine bt (λ_=>V1 (n+1)) ?_;have ak:=e.rd.lt;simp only[fD]at h;rw[rI];refine aA (rr e [40] (by simp)) ?_;rintro _ H1 ⟨rfl,m,i⟩;refine⟨m.1,?_⟩;simp only[ai];refine aA (dD i.rd i.ba [41] (by simp)) ?_;rintro _ G ⟨rfl,d⟩;refine⟨d.1,?_⟩;have y:=i.av d;have A:=m.trans (d.mut _);cases w:aS T (cl T [40] s) [41]with
 |true=>
  simp only[w,aK,aT,bS]at h;obtain⟨rfl,rfl⟩:=h;simp only[ai];refine aA (rn y [41] (by simp)) ?_;rintro _ c ⟨rfl,a,j⟩;refine⟨a.1,?_⟩
  try simp only[nE,rI]
  exact aD.2 ⟨A.trans a,j,bW.nil _ _⟩
 |false=>
  simp only[w,aH,ct]at h;obtain⟨⟨ap,s1⟩,B,C⟩:=h;simp only[ai];refine aA (z n (aV _) y 0 ae ap s1 B) ?_;rintro v c ⟨a,j,p⟩;refine⟨a.1,?_⟩;have L:=m.1;have M:=d.1;have O:=a.1;obtain⟨cs,rfl,E,F⟩:=p.cells;have au:∀l,b0 P l 96 1 [(0,.agg cs)]=I (.ax l 0 1 11 (I 1),.row X 11 [cs]):=λl=>fQ l cs E F
  simp only[ai,au];have o:=(aw.push c (.row X 11 [cs])).a1 (.row X 11 [cs]);rw[Ep (ad.a_ c (.row X 11 [cs])),gF (by simp only[ad.bb];omega)];simp only[ad.bb];refine EA (N:=n+1) (λk x=>z k ae) e n (n+1) ae ae _ s1 [ap] (c.next+1) [cs] ((A.trans a).trans (o.mut _)) (j.rd.av o) (by simp;omega) ?_ ae rfl ?_ l s' C
  ·exact ad.m7 (by simp only[ad.bb];omega) (by simp only[ad.bb];omega)
  ·rw[cU,cU];exact⟨p.aP (λk ro es x q=>by
    have K:=ad.aF q;unfold aW at x;exact⟨⟨ae,ae⟩,o.get q⟩) ap _,trivial⟩
def Ac{N B:Nat}(aR:∀k,k<B->j9 k){ok:Nat->Prop}{H0:ad}{r:Nat}{T:List Tok}{af:aa}{s0:am}(A:bF H0 r T af s0)(ar:¬ok r)(M:∀l,H0.next<=l->ok l):
  ∀(n m:Nat),n<=B->n<m->∀(H:ad) (s:am) (e:az) (cs w:List aa),bs r H0 H->bE H r af s->H.get (H0.next+1)=I (.row X 11 [w])->w.length=11->H.get H0.next=I (.row X 11 [cs])->
   cb H (λl=>ok l/\l≠H0.next/\l≠H0.next+1) e (.agg cs)->∀(a:az) (s':am),eG T n e s=I (a,s')->
   W (nB (al P aj) N m (.ptr r 0 0) (.ptr H0.next 0 0) (.ptr (H0.next+1) 0 0) H) (kU ok H0 r T af a s')
 |0,m,a8,bo,H,s,e,cs,w,E,q,L,ay,K,C,a,s',h=>by simp[eG]at h
 |n+1,0,a8,bo,H,s,e,cs,w,E,q,L,ay,K,C,a,s',h=>ae
 |n+1,m+1,a8,bo,H,s,e,cs,w,E,q,L,ay,K,C,a,s',h=>by
  have ak:=A.rd.lt;have b8:=A.ba.one;have O:=A.mut E q;have bX:=ad.aF K;have bZ:=ad.aF L;have b1:=E.1;obtain⟨bV,bB,aL,aM⟩:=C.cells;cases bB;have aq:lm 11 cs=cs:=ef ae;have bG:zA 11 w=[]:=rs ae;have bj:zA 11 cs=[]:=rs ae;have bM:=C.same;simp only[eG]at h;simp only[nB];rw[xj];refine aA (dD q O.ba [46] (by simp)) ?_;rintro _ H1 ⟨rfl,F⟩;refine⟨F.1,?_⟩;have fin:∀b6,aw H b6->(a,s')=(e,s)->W (pp (al P aj) N (.ptr H0.next 0 0) (.ptr (H0.next+1) 0 0) b6) (kU ok H0 r T af a s'):=by
   intro b6 p bJ;cases bJ;have a9:=p.get K;have bf:=p.get L;have dt:=ad.aF a9;have eI:=ad.aF bf;simp(disch:=try exact ah)only[pp,ai,a9,bf,aL,aM,gh,aq,bG];have m':=(E.trans (p.mut _)).bH (.inr (Nat.le_succ _)) (.row X 11 [cs]);refine aD.2 ⟨m',A.mut m' ?_,(C.aP (cH.av p λ_ h=>h) e _).aP (cH.set _ ae λl h=>h.1) e _⟩;have:=q.av p;unfold bE at this ⊢;rw[ad.get_set_other ae];exact this
  have go:∀(aE:ad),aw H aE->(bif aS T s [46]then eG T n (.mk {kind:=5,name:=(bv T (ao s)).1,pos:=(G T s.at_).pos} [e]) (bv T (ao s)).2 else(dm T n 0 (cl T [91] s)).bind λp=>eG T n (.mk {kind:=6,pos:=(G T s.at_).pos} [e,p.1]) (cV T [93] p.2))=I (a,s')->
    W (xi (al P aj) (nB (al P aj) N m) aE (.ptr r 0 0) (.ptr H0.next 0 0) (.ptr (H0.next+1) 0 0)) (kU ok H0 r T af a s'):=by
   intro aE aC V;simp only[xi];refine aA (im (q.av aC) (O.ba.av aC)) ?_;rintro _ aG ⟨rfl,a2⟩;refine⟨a2.1,?_⟩;simp(disch:=try exact ah)only[CA,Cz,Cy,de,ai,Tok.v];have a3:=(aC.trans a2).a1 (.row X 4 [[J U (G T s.at_).kind,Z (G T s.at_).text,J U (G T s.at_).n,J U (G T s.at_).pos]]);have bN:=ad.a_ aG (.row X 4 [[J U (G T s.at_).kind,Z (G T s.at_).text,J U (G T s.at_).n,J U (G T s.at_).pos]]);refine aA (dD (q.av a3) (O.ba.av a3) [46] (by simp)) ?_;rintro _ a6 ⟨rfl,a4⟩;refine⟨a4.1,?_⟩;have R:=a3.trans a4;have aN:=a4.get bN;have b2:=ad.aF aN
   have aI:=R.get K;have aJ:=R.get L;have bw:=O.av R;have aX:=E.trans (R.mut _);have bk:=C.aP (cH.av R λ_ h=>h) e _;have b7:H.next<=aG.next:=(aC.trans a2).1
   have b_:=ad.aF aI;cases bi:aS T s [46]with
   |true=>
    simp only[bi,aK]at V;have aO:=bw.rd;have bu:=aO;unfold bE at bu;have b3:=aO.lt;obtain⟨i,bD⟩:=eL aO (ao s);simp(disch:=try exact ah)only[de,fg,ai,bu];refine aA (np (A.mut (aX.trans i) bD)) ?_;rintro _ c ⟨rfl,j,aQ⟩;refine⟨j.1,?_⟩;have aU:=i.trans j;have bd:=i.get aI ae;have be:=j.get bd ae;have bh:=aU.get aJ ae;have br:=i.get aN ae;have bt:=j.get br ae;have ca:=ad.aF be;have ce:=ad.aF bh;have cg:=ad.aF bt;have bA:(a6.set r (.row X 5 [[af,J U (IntKind.i64.wrap (s.at_+1)),J U s.aY,J U s.an,J U s.bl]])).get H0.next=I (.row X 11 [cs]):=bd
    have bO:(a6.set r (.row X 5 [[af,J U (IntKind.i64.wrap (s.at_+1)),J U s.aY,J U s.an,J U s.bl]])).get aG.next=I (.row X 4 [[J U (G T s.at_).kind,Z (G T s.at_).text,J U (G T s.at_).n,J U (G T s.at_).pos]]):=br
    have au:∀l,b0 P l 96 1 [(0,.agg cs)]=I (.ax l 0 1 11 (I 1),.row X 11 [cs]):=λl=>fQ l cs aL aM
    simp(disch:=try exact ah)only[de,ai,be,bA,bt,bO,au,aq,bj,bM];simp only[Cx];have bS:bs r H0 ((c.push (.row X 11 [cs])).set H0.next (.row X 11 [[J U 5,J U 0,Z (bv T (ao s)).1,Z [],J U 0,.ax c.next 0 1 11 (I 1),J U (G T s.at_).pos,J U 0,J U 0,J U 0,J U 0]])):=((aX.trans aU).a1 _).bH (.inr (aV _)) _;have o:∀k,k<c.next->k≠H0.next->((c.push (.row X 11 [cs])).set H0.next (.row X 11 [[J U 5,J U 0,Z (bv T (ao s)).1,Z [],J U 0,.ax c.next 0 1 11 (I 1),J U (G T s.at_).pos,J U 0,J U 0,J U 0,J U 0]])).get k=c.get k:=λk bK bL=>by
     rw[ad.get_set_other ae,ad.dv ae]
    refine Ac aR A ar M n m ae ae _ _ _ (bY.cells {kind:=5,name:=(bv T (ao s)).1,pos:=(G T s.at_).pos} (.ax c.next 0 1 11 (I 1))) w bS ?_ ?_ ay (ad.get_set_same (by simp only[ad.bb];omega)) ?_ a s' V
    ·have:=aQ.rd;unfold bE at this ⊢;rw[o r ae ae];exact this
    ·rw[o _ ae ae];exact bh
    ·rw[gq];have ab:=bk.mut aU (by rintro⟨h,_⟩;exact ar h) λ_ h=>h
     refine⟨_,rfl,bW.jw (ro:=false) ?_ ⟨M _ ae,ae,ae⟩ (ab.aP (λl ro els z y=>⟨z,by rw[o l (ad.aF y) z.2.1];exact y⟩) e _)⟩;rw[ad.get_set_other ae];exact ad.a_ _ _
   |false=>
    simp only[bi,aH,ct]at V;obtain⟨⟨ap,s1⟩,bx,bz⟩:=V;simp(disch:=try exact ah)only[ai];refine aA (rr bw [91] (by simp)) ?_;rintro _ bU ⟨rfl,i,bR⟩;refine⟨i.1,?_⟩;simp(disch:=try exact ah)only[ai];refine aA (aR n ae bR 0 ae ap s1 bx) ?_;rintro v c ⟨j,aQ,ab⟩;refine⟨j.1,?_⟩;obtain⟨d,rfl,bn,bp⟩:=ab.cells;have bP:lm 11 d=d:=ef ae;simp(disch:=try exact ah)only[de,ai,bn,bp,gh];have aZ:=aw.push c (.row X 11 [d]);refine aA (rn (aQ.av aZ) [93] (by simp)) ?_;rintro _ x ⟨rfl,aB,bQ⟩;refine⟨aB.1,?_⟩;have Q:=((i.trans j).trans (aZ.mut _)).trans aB;have bc:=Q.get aI ae
    have bg:=Q.get aJ ae;have bq:=Q.get aN ae;have bC:=aB.get (ad.a_ c (.row X 11 [d])) (by have:=i.1;have:=j.1;omega);have b9:=ad.aF bc;have cc:=ad.aF bg;have cf:=ad.aF bq;have au:∀l,b0 P l 96 2 [(0,.agg cs),(1,.agg d)]=I (.ax l 0 2 11 (I 2),.row X 11 [cs,d]):=λl=>sv l cs d aL aM bn bp
    simp(disch:=try exact ah)only[de,ai,bc,bC,bq,au,aq,bP,bj];simp only[Cw];have bT:bs r H0 ((x.push (.row X 11 [cs,d])).set H0.next (.row X 11 [[J U 6,J U 0,Z [],Z [],J U 0,.ax x.next 0 2 11 (I 2),J U (G T s.at_).pos,J U 0,J U 0,J U 0,J U 0]])):=((aX.trans Q).a1 _).bH (.inr (aV _)) _;have o:∀k,k<x.next->k≠H0.next->((x.push (.row X 11 [cs,d])).set H0.next (.row X 11 [[J U 6,J U 0,Z [],Z [],J U 0,.ax x.next 0 2 11 (I 2),J U (G T s.at_).pos,J U 0,J U 0,J U 0,J U 0]])).get k=x.get k:=λk bK bL=>by
     rw[ad.get_set_other ae,ad.dv ae]
    refine Ac aR A ar M n m ae ae _ _ _ (bY.cells {kind:=6,pos:=(G T s.at_).pos} (.ax x.next 0 2 11 (I 2))) w bT ?_ ?_ ay (ad.get_set_same (by simp only[ad.bb];omega)) ?_ a s' bz
    ·have:=bQ.rd;unfold bE at this ⊢;rw[o r ae ae];exact this
    ·rw[o _ ae ae];exact bg
    ·rw[gq];have bI:=bk.mut Q (by rintro⟨h,_⟩;exact ar h) λ_ h=>h
     have cd:=ad.aF aJ;have b4:=i.1;have b5:=j.1;refine⟨_,rfl,bW.sA (ro:=false) ?_ ⟨M _ ae,ae,ae⟩ (bI.aP (λl ro els z y=>⟨z,by rw[o l (ad.aF y) z.2.1];exact y⟩) e _) (ab.aP (λl ro els z y=> ?_) ap _)⟩
     ·rw[ad.get_set_other ae];exact ad.a_ _ _
     ·unfold aW at z;have bm:=aB.get (aZ.get y) ae;exact⟨⟨M _ ae,ae,ae⟩,by rw[o l (ad.aF bm) ae];exact bm⟩
  cases S:aS T s [46]with
  |true=>
   simp only[S,aK]at h;simp(disch:=try exact ah)only[ai];exact go H1 F (by rw[S];exact h)
  |false=>
   simp only[S,aH]at h;simp(disch:=try exact ah)only[ai];refine dZ (dD (q.av F) (O.ba.av F) [91] (by simp)) ?_;rintro _ a5 ⟨rfl,a0⟩;refine⟨a0.1,?_⟩;cases a7:aS T s [91]with
   |true=>
    simp only[a7,aK]at h;simp(disch:=try exact ah)only[ai];exact go a5 (F.trans a0) (by rw[S];exact h)
   |false=>
    simp only[a7,aH,aT]at h;simp(disch:=try exact ah)only[ai];exact fin a5 (F.trans a0) h.symm
def Qi{n:Nat}(y:∀k,k<=n->j9 k):zq (n+1):=by
 intro ok H r T af s e v i d w q j s' h;refine bt (λ_=>VT (n+2)) ?_;obtain⟨cs,rfl,p,x⟩:=d.cells;have m:∀l,cg l (.agg cs)=I (.ptr l 0 0,.row X 11 [cs]):=λl=>by rw[ei l cs x,p]
 simp(disch:=try exact ah)only[xh,CC,CB,de,ai,m];have c:=(aw.push H (.row X 11 [cs])).a1 (.row X 11 [[J U 0,J U 0,Z [],Z [],J U 0,.ag,J U 0,J U 0,J U 0,J U 0,J U 0]]);refine Ac (N:=n+2) (B:=n+1) (λk z=>y k ae) i w q (n+1) (n+2) ae ae _ s e cs [J U 0,J U 0,Z [],Z [],J U 0,.ag,J U 0,J U 0,J U 0,J U 0,J U 0] (c.mut _) (i.rd.av c) ?_ rfl ?_ ?_ j s' h
 ·simp(disch:=try exact ah)only[b7]
 ·simp(disch:=try exact ah)only[b7]
 ·exact d.aP (λl ro els o a=>⟨⟨o,by have:=ad.aF a;omega,by have:=ad.aF a;omega⟩,c.get a⟩) e _
def I8{T:List Tok}{s:am}{x:ay}(h:aS T s x=Y)(a:x≠[]):(G T s.at_).text≠[]:=by
 simp only[aS,a8,Bool.and_eq_true,beq_iff_eq]at h;rw[h.2.2];exact a
def MO{n:Nat}(N:j9 n){H0 H:ad}{r:Nat}{T:List Tok}{af:aa}{s:am}(c:bF H0 r T af s)(m:aw H0 H)(q:H.get H0.next=I (.row X 11 [[J U 0,J U 0,Z [],Z [],J U 0,.ag,J U 0,J U 0,J U 0,J U 0,J U 0]])){b:Nat}(Q:H0.next<b)(d:H.get b=I (.row X 4 [[J U (G T s.at_).kind,Z (G T s.at_).text,J U (G T s.at_).n,J U (G T s.at_).pos]]))(K:(G T s.at_).text≠[]){k:Int}
  {o:az} {s':am} (h:gZ T (n+1) k s=I (o,s')):W (pg (al P aj) (.ptr r 0 0) (.ptr H0.next 0 0) (.ptr b 0 0) (J U k) H) (dS H0 r T af o s'):=by
 have ak:=c.rd.lt;have aC:=c.ba.one;have L:=c.av m;have ao:=m.1;have V:=ad.aF d;have an:=ad.aF q;simp only[gZ,ct]at h;obtain⟨⟨ap,s1⟩,F,p⟩:=h;simp only[aT,bS]at p;obtain⟨rfl,rfl⟩:=p;simp(disch:=try exact ah)only[pg,ai,d];refine aA (rr L _ K) ?_;rintro _ H1 ⟨rfl,e,M⟩;refine⟨e.1,?_⟩;simp(disch:=try exact ah)only[ai];refine aA (N M 5 ae ap s1 F) ?_;rintro v E ⟨j,C,x⟩;refine⟨j.1,?_⟩;have ay:=e.1;have aB:=j.1;have i:=e.trans j;have w:=i.get q ae;have A:=i.get d ae;have R:=ad.aF w;have ab:=ad.aF A;obtain⟨cs,rfl,y,z⟩:=x.cells;have aq:lm 11 cs=cs:=ef ae;have au:∀l,b0 P l 96 1 [(0,.agg cs)]=I (.ax l 0 1 11 (I 1),.row X 11 [cs]):=λl=>fQ l cs y z
 have B:=C.rd;unfold bE at B;have ar:=C.rd.lt;have O:=(m.mut (· =r)).trans i;simp(disch:=try exact ah)only[de,fg,ai,y,z,gh,aq,au,B,w,A];refine aD.2 ?_;refine kU.fin (ok:=aW H0.next) (a:={kind:=k,pos:=(G T s.at_).pos}) (kv:= .ax (E.next+1) 0 1 11 (I 1)) (s':=dA s1) c ?_ ?_ (bW.jw (ro:=false) ?_ (by unfold aW;omega) (x.new ?_ λl h=>by unfold aW;omega))
 ·(repeat (first|exact O|refine bV.a1 ?_ _|refine bV.bH (S:=(· =r)) ?_ (.inl rfl) _|refine bV.bH ?_ (.inr (by(first|omega|(simp only[ad.bb,ad.cL];omega)))) _))
 ·(unfold bE;simp(disch:=try exact ah)only[b7,dA])
 ·simp(disch:=try exact ah)only[b7]
 ·exact bV.bH (S:=λl=>l<_) ((bV.bH (S:=λl=>l<_) ((bV.refl _ _).a1 _) (.inl ae) _).a1 _) (.inl ae) _
def abM{n:Nat}(K:∀k,k<=n->j9 k)(an:zy n)(am:zq n):zN (n+1):=by
 intro H r T af s a e s' h;refine bt (λ_=>VF 0) ?_;have ak:=a.rd.lt;simp only[gb]at h;have y:=aw.push H (.row X 11 [[J U 0,J U 0,Z [],Z [],J U 0,.ag,J U 0,J U 0,J U 0,J U 0,J U 0]]);simp(disch:=try exact ah)only[w6,Cv,de,ai];refine aA (im (a.rd.av y) (a.ba.av y)) ?_;rintro _ M ⟨rfl,A⟩;refine⟨A.1,?_⟩;have P:=A.get (ad.a_ H _);have az:=ad.aF P;simp(disch:=try exact ah)only[de,ai,Tok.v];have L:=A.a1 (.row X 4 [[J U (G T s.at_).kind,Z (G T s.at_).text,J U (G T s.at_).n,J U (G T s.at_).pos]]);have aa:=ad.a_ M (.row X 4 [[J U (G T s.at_).kind,Z (G T s.at_).text,J U (G T s.at_).n,J U (G T s.at_).pos]])
 have z:=y.trans L;refine aA (dD (a.rd.av z) (a.ba.av z) [45] (by simp)) ?_;rintro _ ao ⟨rfl,j⟩;refine⟨j.1,?_⟩;have d:=z.trans j;have F:=j.get aa;have B:=(L.trans j).get (ad.a_ H _);cases o:aS T s [45]with
 |true=>
  simp only[o,aK]at h;have w:(G T s.at_).text≠[]:=I8 o (by simp);simp(disch:=try exact ah)only[ai];cases n with
  |zero=>simp[gZ]at h
  |succ n=>exact MO (K n ae) a d B ae F w h
 |false=>
  simp only[o,aH]at h;simp(disch:=try exact ah)only[ai];refine aA (dD (a.rd.av d) (a.ba.av d) [33] (by simp)) ?_;rintro _ ar ⟨rfl,m⟩;refine⟨m.1,?_⟩;have i:=d.trans m;have ab:=m.get F;have q:=m.get B;cases p:aS T s [33]with
  |true=>
   simp only[p,aK]at h;have w:(G T s.at_).text≠[]:=I8 p (by simp);simp(disch:=try exact ah)only[ai];cases n with
   |zero=>simp[gZ]at h
   |succ n=>exact MO (K n ae) a i q ae ab w h
  |false=>
   simp only[p,aH,ct]at h;obtain⟨⟨ap,s1⟩,N,O⟩:=h;simp(disch:=try exact ah)only[ai];refine aA (an (a.av i) ap s1 N) ?_;rintro v au ⟨c,aj,R⟩;refine⟨c.1,?_⟩;have aG:=i.1;have aE:=c.1;have Q:=c.get q ae;simp(disch:=try exact ah)only[ai];have aB:=ad.aF q;refine aA (am (ok:=aW (H.next+1)) aj (R.aP (cH.av (aw.refl _) λl S=>by unfold aW at*;omega) ap _) (by unfold aW;omega) (λl S=>by unfold aW;omega) e s' O) ?_;rintro v ay ⟨x,al,E⟩;refine⟨x.1,?_⟩;have C:=x.get Q ae;have aC:=ad.aF C;obtain⟨cs,rfl,V,W⟩:=E.cells;have aq:lm 11 cs=cs:=ef ae;simp(disch:=try exact ah)only[ai,C,V,W,gh,aq]
   exact aD.2 (dS.ret a (((i.mut _).trans c).trans x) al.rd (aV _) E (ij _) _)
def Gk{N:Nat}{H0 H:ad}{r:Nat}{T:List Tok}{af:aa}{s0 s:am}(k:bF H0 r T af s0)(q:bs r H0 H)(j:bE H r af s){b3:Nat}{cs a:List aa}{e:az}(c:H.get H0.next=I (.row X 11 [a]))(z:a.length=11)(d:H.get b3=I (.row X 11 [cs]))(w:H0.next<b3)
  (i:cb H (λl=>H0.next<l/\l≠b3) e (.agg cs)):W (o_ (al P aj) N (.ptr H0.next 0 0) (.ptr b3 0 0) H) (dS H0 r T af e s):=by
 have ak:=k.rd.lt;have x:=ad.aF c;have y:=ad.aF d;obtain⟨v,m,o,p⟩:=i.cells;cases m;have aq:lm 11 cs=cs:=ef ae;have n:zA 11 a=[]:=rs ae;simp(disch:=try exact ah)only[o_,ai,c,d,o,p,gh,aq,n];have m':=q.bH (.inr (aV _)) (.row X 11 [cs]);refine aD.2 ⟨m',k.mut m' ?_,i.aP (cH.set _ ae λl h=>by unfold aW;omega) e _⟩;unfold bE at j ⊢;rw[ad.get_set_other ae];exact j
def Gl{N B:Nat}(aY:∀k,k<B->j9 k){H0:ad}{r:Nat}{T:List Tok}{af:aa}{s0:am}(p:bF H0 r T af s0){lev:Nat}(ay:lev<5){b3:Nat}(M:H0.next<b3):
  ∀(n m:Nat),n<=B->n<m->∀(H:ad) (s:am) (e:az) (cs A:List aa),bs r H0 H->bE H r af s->H.get H0.next=I (.row X 11 [A])->A.length=11->H.get b3=I (.row X 11 [cs])->
   cb H (λl=>H0.next<l/\l≠b3) e (.agg cs)->∀(w:az) (s':am),fL T n lev e s=I (w,s')->
   W (pa (al P aj) N m (.ptr r 0 0) (J U lev) (.ptr H0.next 0 0) (.ptr b3 0 0) H) (dS H0 r T af w s')
 |0,m,aG,aQ,H,s,e,cs,A,y,c,C,F,x,o,w,s',h=>by simp[fL]at h
 |n+1,0,aG,aQ,H,s,e,cs,A,y,c,C,F,x,o,w,s',h=>ae
 |n+1,m+1,aG,aQ,H,s,e,cs,A,y,c,C,F,x,o,w,s',h=>by
  have ak:=p.rd.lt;have aX:=p.mut y c;have bC:=ad.aF x;obtain⟨bz,a9,bf,bi⟩:=o.cells;cases a9;have aq:lm 11 cs=cs:=ef ae;have bc:zA 11 cs=[]:=rs ae;have bO:=p.ba.one;simp only[fL]at h;simp only[pa];rw[wU];refine aA (lj c) ?_;rintro _ H1 ⟨rfl,rfl⟩;refine⟨aV _,?_⟩;cases aM:s.an==0 with
  |false=>
   simp only[aM,hi,aH,aT,bS]at h;obtain⟨rfl,rfl⟩:=h;simp(disch:=try exact ah)only[ai];exact Gk p y c C F x M o
  |true=>
   simp only[aM,vw]at h;simp(disch:=try exact ah)only[ai];refine dZ (im c aX.ba) ?_;rintro _ H1 ⟨rfl,a2⟩;refine⟨a2.1,?_⟩;simp(disch:=try exact ah)only[ai];refine dZ (JL lev ay (G T s.at_)) ?_;rintro _ bx ⟨rfl,a3⟩;refine⟨a3.1,?_⟩;have d:=a2.trans a3;cases E:ey lev (G T s.at_) != 0 with
   |false=>
    simp only[E,aH,aT,bS]at h;obtain⟨rfl,rfl⟩:=h;simp(disch:=try exact ah)only[ai,E];exact Gk p (y.trans (d.mut _)) (c.av d) (d.get C) F (d.get x) M (o.aP (cH.av d λ_ h=>h) e _)
   |true=>
    simp only[E,aK,ct]at h;obtain⟨⟨ap,s1⟩,a5,a6⟩:=h;simp(disch:=try exact ah)only[ai,E];refine aA (im (c.av d) (aX.ba.av d)) ?_;rintro _ a4 ⟨rfl,aC⟩;refine⟨aC.1,?_⟩;have z:=(d.trans aC).a1 (.row X 4 [[J U (G T s.at_).kind,Z (G T s.at_).text,J U (G T s.at_).n,J U (G T s.at_).pos]]);have bj:=ad.a_ a4 (.row X 4 [[J U (G T s.at_).kind,Z (G T s.at_).text,J U (G T s.at_).n,J U (G T s.at_).pos]]);have V:=c.av (d.trans aC);have bp:=c.av z;have aU:=V;unfold bE at aU;have bL:=V.lt;obtain⟨K,bd⟩:=eL bp (ao s);have br:IntKind.i64.wrap ((lev:Int)+1)=((lev+1:Nat):Int):=by rw[wrap_i64 ae ae];simp
    simp(disch:=try exact ah)only[de,fg,ai,Tok.v,aU,br];have a0:=(y.trans (z.mut _)).trans K;have bt:=p.mut a0 bd;refine aA (aY n ae bt (lev+1) ae ap s1 a5) ?_;rintro v ab ⟨q,bu,O⟩;refine⟨q.1,?_⟩;have a7:=K.get (z.get x) ae;have ar:=q.get a7 ae;have bD:=ad.aF ar;have bk:=K.get bj (by have:=ad.aF V;omega);have S:=q.get bk (by have:=ad.aF V;omega);have bJ:=ad.aF S;have bh:=q.1;have bg:=z.1;simp only[ad.cL,ad.bb]at bh bg O;obtain⟨a,rfl,aO,aR⟩:=O.cells;have bq:lm 11 a=a:=ef ae;simp(disch:=try exact ah)only[de,ai,aO,aR,gh,S]
    have aD:=aw.push ab (.row X 11 [a]);refine aA (JL (H:=ab.push (.row X 11 [a])) lev ay (G T s.at_)) ?_;rintro _ i ⟨rfl,aE⟩;refine⟨aE.1,?_⟩;have j:=aD.trans aE;have aL:=aE.get (ad.a_ ab (.row X 11 [a]));have aJ:=j.get ar;have aS:=j.get S;have bN:=ad.aF aL;have bG:=ad.aF aJ;have bK:=ad.aF aS;have au:∀l,b0 P l 96 2 [(0,.agg cs),(1,.agg a)]=I (.ax l 0 2 11 (I 2),.row X 11 [cs,a]):=λl=>sv l cs a bf bi aO aR
    have bm:=o.same;have bn:=O.same;have bo:aZ (I (.agg [J U (G T s.at_).kind,Z (G T s.at_).text,J U (G T s.at_).n,J U (G T s.at_).pos])) (.agg [J U (G T s.at_).kind,Z (G T s.at_).text,J U (G T s.at_).n,J U (G T s.at_).pos])=true:=by simp[aZ,aa.beq,fK.beq]
    have a8:=aD.get ar;have bl:=aD.get S;simp(disch:=try exact ah)only[de,ai,aJ,aL,aS,aq,bq,bc,au,bm,bn,bo,a8,bl];rw[Cu];have bw:=((a0.trans q).trans (j.mut _));have bv:bs r H0 ((i.push (.row X 11 [cs,a])).set b3 (.row X 11 [[J U (ey lev (G T s.at_)),J U 0,Z [],Z [],J U 0,.ax i.next 0 2 11 (I 2),J U (G T s.at_).pos,J U 0,J U 0,J U 0,J U 0]])):=(bw.a1 _).bH (.inr (Nat.le_of_lt M)) _;have L:∀k,k<i.next->k≠b3->((i.push (.row X 11 [cs,a])).set b3 (.row X 11 [[J U (ey lev (G T s.at_)),J U 0,Z [],Z [],J U 0,.ax i.next 0 2 11 (I 2),J U (G T s.at_).pos,J U 0,J U 0,J U 0,J U 0]])).get k=i.get k:=λk E bA=>by
     rw[ad.get_set_other ae,ad.dv ae]
    have aI:=j.get (q.get (K.get (z.get C) ae) ae);have bB:=ad.aF aI;have aB:=bu.rd.av j;have bI:=aB.lt;have bM:=j.1;refine Gl aY p ay M n m ae ae _ s1 _ (bY.cells {kind:=ey lev (G T s.at_),pos:=(G T s.at_).pos} (.ax i.next 0 2 11 (I 2))) A bv ?_ ?_ F (ad.get_set_same (by simp only[ad.bb];omega)) ?_ w s' a6
    ·unfold bE at aB ⊢;rw[L r ae ae];exact aB
    ·rw[L _ ae ae];exact aI
    ·rw[gq];have be:cb i (λl=>H0.next<l/\l≠b3) e (.agg cs):=o.mut (((z.mut _).trans K).trans q|>.trans (j.mut _)) ae λ_ h=>h
     refine⟨_,rfl,bW.sA (ro:=false) ?_ ⟨ae,ae⟩ (be.aP (λl ro els R Q=>⟨R,by rw[L l (ad.aF Q) R.2];exact Q⟩) e _) (O.aP (λl ro els R Q=> ?_) ap _)⟩
     ·rw[ad.get_set_other ae];exact ad.a_ _ _
     ·unfold aW at R;have aN:=j.get Q;exact⟨⟨ae,ae⟩,by rw[L l (ad.aF aN) ae];exact aN⟩
def Rd{n:Nat}(C:∀k,k<=n->j9 k)(L:zN n):j9 (n+1):=by
 intro H r T af s d lev P e s' h;refine bt (λ_=>Vr (n+2)) ?_;have ak:=d.rd.lt;have j:=aw.push H (.row X 11 [[J U 0,J U 0,Z [],Z [],J U 0,.ag,J U 0,J U 0,J U 0,J U 0,J U 0]]);simp only[dm]at h;by_cases y:lev=5
 ·rw[if_pos y]at h;have p:((lev:Int)==5)=true:=by simp;omega
  simp(disch:=try exact ah)only[tZ,de,ai,p];refine aA (L (d.av j) e s' h) ?_;rintro v o ⟨a,x,c⟩;refine⟨a.1,?_⟩;have i:=a.get (ad.a_ H (.row X 11 [[J U 0,J U 0,Z [],Z [],J U 0,.ag,J U 0,J U 0,J U 0,J U 0,J U 0]])) ae;have O:=ad.aF i;obtain⟨cs,rfl,q,w⟩:=c.cells;have aq:lm 11 cs=cs:=ef ae;simp(disch:=try exact ah)only[ai,i,q,w,gh,aq];exact aD.2 (dS.ret d ((j.mut _).trans a) x.rd (aV _) c (ij _) _)
 ·rw[if_neg y,ct]at h;obtain⟨⟨ap,s1⟩,E,F⟩:=h;have p:((lev:Int)==5)=false:=by simp;omega
  have K:IntKind.i64.wrap ((lev:Int)+1)=((lev+1:Nat):Int):=by rw[wrap_i64 ae ae];simp
  simp(disch:=try exact ah)only[tZ,de,ai,p,K];refine aA (C n (aV _) (d.av j) (lev+1) ae ap s1 E) ?_;rintro v o ⟨a,x,c⟩;refine⟨a.1,?_⟩;have i:=a.get (ad.a_ H (.row X 11 [[J U 0,J U 0,Z [],Z [],J U 0,.ag,J U 0,J U 0,J U 0,J U 0,J U 0]])) ae;have G:=a.1;simp only[ad.bb]at G;obtain⟨cs,rfl,q,w⟩:=c.cells;simp(disch:=try exact ah)only[Ct,Cs,Cr,de,ai,q,w,gh];have m:=aw.push o (.row X 11 [cs]);refine Gl (N:=n+2) (B:=n) (λk M=>C k ae) d ae (b3:=o.next) ae n (n+2) ae ae _ s1 ap cs _ (((j.mut _).trans a).trans (m.mut _)) (x.rd.av m) (m.get i) rfl (ad.a_ _ _) ?_ e s' F
  exact c.aP (λl ro els A z=>by
   have:=ad.aF z;unfold aW at A;simp only[ad.bb]at A;exact⟨⟨ae,ae⟩,m.get z⟩) ap _
def Rt{n:Nat}(ab:sI n){H0 H:ad}{r:Nat}{T:List Tok}{af:aa}{s:am}(c:bF H0 r T af s)(A:aw H0 H)(F:H.get H0.next=I (.row X 11 [[J U 0,J U 0,Z [],Z [],J U 0,.ag,J U 0,J U 0,J U 0,J U 0,J U 0]])){b:Nat}(ap:H0.next<b)(L:H.get b=I (.row X 4 [[J U (G T s.at_).kind,Z (G T s.at_).text,J U (G T s.at_).n,J U (G T s.at_).pos]])){C:az}{s':am}(h:(bif aS T (bv T s).2 [40]then(fD T n (bv T s).2).bind λp=>I (.mk {kind:=7,name:=(bv T s).1,pos:=(G T s.at_).pos} p.1,p.2)else I (.mk {kind:=4,name:=(bv T s).1,pos:=(G T s.at_).pos} [],(bv T s).2))=I (C,s')):
  W (lq (al P aj) (.ptr r 0 0) (.ptr H0.next 0 0) (.ptr b 0 0) H) (dS H0 r T af C s'):=by
 have ak:=c.rd.lt;have aG:=c.ba.one;have V:=c.av A;have ay:=A.1;have aB:=ad.aF L;have aq:=ad.aF F;rw[lq];refine aA (np V) ?_;rintro _ H1 ⟨rfl,m,y⟩;refine⟨m.1,?_⟩;have Q:=m.get F ae;have R:=m.get L ae;simp(disch:=try exact ah)only[ai];refine aA (dD y.rd y.ba [40] (by simp)) ?_;rintro _ B ⟨rfl,j⟩;refine⟨j.1,?_⟩;have o:=j.get Q;have d:=j.get R;have ar:=ad.aF o;have aC:=ad.aF d;have M:=y.av j;have z:=((A.mut (· =r)).trans m).trans (j.mut _);cases K:aS T (bv T s).2 [40]with
 |false=>
  simp only[K,aH,aT,bS]at h;obtain⟨rfl,rfl⟩:=h;simp(disch:=try exact ah)only[de,ai,mn,o,d];exact aD.2 (dS.box (a:={kind:=4,name:=(bv T s).1,pos:=(G T s.at_).pos}) (kv:= .ag) (lo:=H0.next+1) c z M.rd (aV _) (ij _) (bW.nil _ _) _)
 |true=>
  simp only[K,aK,ct]at h;obtain⟨⟨an,s1⟩,O,E⟩:=h;simp only[aT,bS]at E;obtain⟨rfl,rfl⟩:=E;simp(disch:=try exact ah)only[ai,tu];refine aA (ab M an s1 O) ?_;rintro v ao ⟨e,N,w⟩;refine⟨e.1,?_⟩;have q:=e.get o ae;have x:=e.get d ae;have au:=ad.aF q;have aE:=ad.aF x;have S:v= .ag\/∃l i n cap,v= .ax l i n 11 cap:=by
   rcases w with⟨h,_⟩|⟨l,i,cap,ro,els,h,_⟩|⟨l,i,cap,h,_⟩
   ·exact .inl h
   ·exact .inr ⟨_,_,_,_,h⟩
   ·exact .inr ⟨_,_,_,_,h⟩
  rcases S with rfl|⟨l,i,k,cap,rfl⟩
  ·simp(disch:=try exact ah)only[de,ai,q,x,d];exact aD.2 (dS.box (a:={kind:=7,name:=(bv T s).1,pos:=(G T s.at_).pos}) (kv:= .ag) (lo:=B.next) c (z.trans e) N.rd (aV _) ae w _)
  ·simp(disch:=try exact ah)only[de,ai,q,x,d];exact aD.2 (dS.box (a:={kind:=7,name:=(bv T s).1,pos:=(G T s.at_).pos}) (kv:= .ax l i k 11 cap) (lo:=B.next) c (z.trans e) N.rd (aV _) ae w _)
def Rw{H0 H:ad}{r:Nat}{T:List Tok}{af:aa}{s:am}(c:bF H0 r T af s)(k:aw H0 H)(d:H.get H0.next=I (.row X 11 [[J U 0,J U 0,Z [],Z [],J U 0,.ag,J U 0,J U 0,J U 0,J U 0,J U 0]])){b:Nat}(w:H0.next<b)(e:H.get b=I (.row X 4 [[J U (G T s.at_).kind,Z (G T s.at_).text,J U (G T s.at_).n,J U (G T s.at_).pos]])){l:az}{s':am}(h:I (az.mk {kind:=1,n:=(G T s.at_).n,pos:=(G T s.at_).pos} [],ao s)=I (l,s')):
  W (xx (.ptr r 0 0) H (.ptr b 0 0) (.ptr H0.next 0 0)) (dS H0 r T af l s'):=by
 have ak:=c.rd.lt;have B:=c.ba.one;have q:=c.av k;have y:=k.1;have z:=ad.aF e;have x:=ad.aF d;have i:=q.rd;have o:=i;unfold bE at o;have A:=i.lt;obtain⟨j,m⟩:=eL i (ao s);have p:=(k.mut (· =r)).trans j;have E:=c.mut p m;have v:=j.get d ae;have C:=j.get e ae;simp only[aT,bS]at h;obtain⟨rfl,rfl⟩:=h;simp(disch:=try exact ah)only[xx,de,fg,ai,o,d,e];exact aD.2 (dS.box (a:={kind:=1,n:=(G T s.at_).n,pos:=(G T s.at_).pos}) (kv:= .ag) (lo:=H0.next+1) c p m (aV _) (ij _) (bW.nil _ _) _)
def HB{H0 H:ad}{r:Nat}{T:List Tok}{af:aa}{s:am}(c:bF H0 r T af s)(o:aw H0 H)(d:H.get H0.next=I (.row X 11 [[J U 0,J U 0,Z [],Z [],J U 0,.ag,J U 0,J U 0,J U 0,J U 0,J U 0]])){b:Nat}(w:H0.next<b)(e:H.get b=I (.row X 4 [[J U (G T s.at_).kind,Z (G T s.at_).text,J U (G T s.at_).n,J U (G T s.at_).pos]])){p:az}{s':am}(h:I (az.mk {kind:=2,n:=bif (G T s.at_).text==[116,114,117,101]then 1 else 0,pos:=(G T s.at_).pos} [],ao s)=I (p,s')):
  W (ug (al P aj) (.ptr r 0 0) H (.ptr b 0 0) (.ptr H0.next 0 0)) (dS H0 r T af p s'):=by
 have ak:=c.rd.lt;have B:=c.ba.one;have q:=c.av o;have y:=o.1;have z:=ad.aF e;have x:=ad.aF d;have j:=q.rd;have k:=j;unfold bE at k;have A:=j.lt;obtain⟨l,i⟩:=eL j (ao s);have m:=(o.mut (· =r)).trans l;have E:=c.mut m i;have v:=l.get d ae;have C:=l.get e ae;simp only[aT,bS]at h;obtain⟨rfl,rfl⟩:=h;cases aq:(G T s.at_).text==[116,114,117,101]with
 |true=>
  simp(disch:=try exact ah)only[pr,ug,de,fg,ai,k,d,e,aq];exact aD.2 (dS.box (a:={kind:=2,n:=1,pos:=(G T s.at_).pos}) (kv:= .ag) (lo:=H0.next+1) c m i (aV _) (ij _) (bW.nil _ _) _)
 |false=>
  simp(disch:=try exact ah)only[pr,ug,de,fg,ai,k,d,e,aq];exact aD.2 (dS.box (a:={kind:=2,n:=0,pos:=(G T s.at_).pos}) (kv:= .ag) (lo:=H0.next+1) c m i (aV _) (ij _) (bW.nil _ _) _)
def Rv{H0 H:ad}{r:Nat}{T:List Tok}{af:aa}{s:am}(c:bF H0 r T af s)(k:aw H0 H)(m:H.get H0.next=I (.row X 11 [[J U 0,J U 0,Z [],Z [],J U 0,.ag,J U 0,J U 0,J U 0,J U 0,J U 0]])){b:Nat}(E:H0.next<b)(e:H.get b=I (.row X 4 [[J U (G T s.at_).kind,Z (G T s.at_).text,J U (G T s.at_).n,J U (G T s.at_).pos]])){l:az}{s':am}(h:I (az.mk {kind:=3,b5:=(cz T (ao s)).1.1,ci:=(cz T (ao s)).1.2,pos:=(G T s.at_).pos} [],(cz T (ao s)).2)=I (l,s')):
  W (xz (al P aj) (.ptr r 0 0) H (.ptr b 0 0) (.ptr H0.next 0 0)) (dS H0 r T af l s'):=by
 have ak:=c.rd.lt;have Q:=c.ba.one;have z:=c.av k;have L:=k.1;have M:=ad.aF e;have F:=ad.aF m;have i:=z.rd;have q:=i;unfold bE at q;have O:=i.lt;obtain⟨j,x⟩:=eL i (ao s);have v:=(k.mut (· =r)).trans j;have A:=c.mut v x;have w:=j.get m ae;have y:=j.get e ae;simp only[aT,bS]at h;obtain⟨rfl,rfl⟩:=h;simp(disch:=try exact ah)only[xz,de,fg,ai,q];refine aA (tO A) ?_;rintro _ C ⟨rfl,d,B⟩;refine⟨d.1,?_⟩;have o:=d.get w ae;have p:=d.get y ae;have K:=ad.aF o;have N:=ad.aF p;simp(disch:=try exact ah)only[de,ai,o,p,e];exact aD.2 (dS.box (a:={kind:=3,b5:=(cz T (ao s)).1.1,ci:=(cz T (ao s)).1.2,pos:=(G T s.at_).pos}) (kv:= .ag) (lo:=H0.next+1) c (v.trans d) B.rd (aV _) (ij _) (bW.nil _ _) _)
def Ru{n:Nat}(E:sL n){H0 H:ad}{r:Nat}{T:List Tok}{af:aa}{s:am}(a:bF H0 r T af s)(k:aw H0 H)(l:H.get H0.next=I (.row X 11 [[J U 0,J U 0,Z [],Z [],J U 0,.ag,J U 0,J U 0,J U 0,J U 0,J U 0]])){b:Nat}(K:H0.next<b)(e:H.get b=I (.row X 4 [[J U (G T s.at_).kind,Z (G T s.at_).text,J U (G T s.at_).n,J U (G T s.at_).pos]])){d:az}{s':am}(h:fY T n (G T s.at_).pos (ao s)=I (d,s')):
  W (xA (al P aj) (.ptr r 0 0) H (.ptr b 0 0) (.ptr H0.next 0 0)) (dS H0 r T af d s'):=by
 have ak:=a.rd.lt;have S:=a.ba.one;have A:=a.av k;have N:=k.1;have O:=ad.aF e;have L:=ad.aF l;have i:=A.rd;have p:=i;unfold bE at p;have Q:=i.lt;obtain⟨c,x⟩:=eL i (ao s);have q:=(k.mut (· =r)).trans c;have B:=a.mut q x;have w:=c.get l ae;have V:=c.get e ae;simp(disch:=try exact ah)only[xA,de,fg,ai,p,e];refine aA (E B _ d s' h) ?_;rintro v F ⟨j,C,o⟩;refine⟨j.1,?_⟩;have m:=j.get w ae;have M:=ad.aF m;have R:=c.1;obtain⟨cs,rfl,y,z⟩:=o.cells;have aq:lm 11 cs=cs:=ef ae;simp(disch:=try exact ah)only[ai,m,y,z,gh,aq];exact aD.2 (dS.ret a (q.trans j) C.rd (aV _) o ae _)
def first_par{n:Nat}(x:oc n){H0 H:ad}{r:Nat}{T:List Tok}{af:aa}{s:am}(a:bF H0 r T af s)(e:aw H0 H)(i:H.get H0.next=I (.row X 11 [[J U 0,J U 0,Z [],Z [],J U 0,.ag,J U 0,J U 0,J U 0,J U 0,J U 0]])){b:Nat}(B:H0.next<b)(p:H.get b=I (.row X 4 [[J U (G T s.at_).kind,Z (G T s.at_).text,J U (G T s.at_).n,J U (G T s.at_).pos]])){c:az}{s':am}(h:eT T n s=I (c,s')):
  W (xm (al P aj) H (.ptr r 0 0) (.ptr H0.next 0 0)) (dS H0 r T af c s'):=by
 have ak:=a.rd.lt;have M:=a.ba.one;have q:=a.av e;have F:=e.1;have K:=ad.aF p;have C:=ad.aF i;have z:=e.mut (· =r);have y:=bV.refl (· =r) H;have l:=i;rw[xm];refine aA (x q c s' h) ?_;rintro v A ⟨d,w,k⟩;refine⟨d.1,?_⟩;have j:=d.get l ae;have E:=ad.aF j;have L:=y.1;obtain⟨cs,rfl,m,o⟩:=k.cells;have aq:lm 11 cs=cs:=ef ae;simp(disch:=try exact ah)only[ai,j,m,o,gh,aq];exact aD.2 (dS.ret a (z.trans d) w.rd (aV _) k ae _)
def Rx{H0 H:ad}{r:Nat}{T:List Tok}{af:aa}{s:am}(c:bF H0 r T af s)(k:aw H0 H)(m:H.get H0.next=I (.row X 11 [[J U 0,J U 0,Z [],Z [],J U 0,.ag,J U 0,J U 0,J U 0,J U 0,J U 0]])){b:Nat}(L:H0.next<b)(p:H.get b=I (.row X 4 [[J U (G T s.at_).kind,Z (G T s.at_).text,J U (G T s.at_).n,J U (G T s.at_).pos]])){l:az}{s':am}(h:I (az.mk {kind:=11,pos:=(G T s.at_).pos} [],cV T [41] (cl T [40] (ao s)))=I (l,s')):
  W (xl (al P aj) (.ptr r 0 0) H (.ptr b 0 0) (.ptr H0.next 0 0)) (dS H0 r T af l s'):=by
 have ak:=c.rd.lt;have V:=c.ba.one;have A:=c.av k;have O:=k.1;have Q:=ad.aF p;have M:=ad.aF m;have i:=A.rd;have v:=i;unfold bE at v;have S:=i.lt;obtain⟨j,y⟩:=eL i (ao s);have w:=(k.mut (· =r)).trans j;have B:=c.mut w y;have x:=j.get m ae;have z:=j.get p ae;simp only[aT,bS]at h;obtain⟨rfl,rfl⟩:=h;simp(disch:=try exact ah)only[xl,de,fg,ai,v];refine aA (rr B [40] (by simp)) ?_;rintro _ F ⟨rfl,d,C⟩;refine⟨d.1,?_⟩;simp(disch:=try exact ah)only[ai];refine aA (rn C [41] (by simp)) ?_;rintro _ K ⟨rfl,e,E⟩;refine⟨e.1,?_⟩;have o:=e.get (d.get x ae) ae;have q:=e.get (d.get z ae) ae
 have N:=ad.aF o;have R:=ad.aF q;simp(disch:=try exact ah)only[de,ai,o,q];exact aD.2 (dS.box (a:={kind:=11,pos:=(G T s.at_).pos}) (kv:= .ag) (lo:=H0.next+1) c ((w.trans d).trans e) E.rd (aV _) (ij _) (bW.nil _ _) _)
def Rs{n:Nat}(V:oc n){H0 H:ad}{r:Nat}{T:List Tok}{af:aa}{s:am}(d:bF H0 r T af s)(k:aw H0 H)(q:H.get H0.next=I (.row X 11 [[J U 0,J U 0,Z [],Z [],J U 0,.ag,J U 0,J U 0,J U 0,J U 0,J U 0]])){b:Nat}(an:H0.next<b)(j:H.get b=I (.row X 4 [[J U (G T s.at_).kind,Z (G T s.at_).text,J U (G T s.at_).n,J U (G T s.at_).pos]])){m:az}{s':am}(h:((eT T n (ao s)).bind λp=>I (az.mk {kind:=10,pos:=(G T s.at_).pos} [p.1],p.2))=I (m,s')):
  W (xB (al P aj) (.ptr r 0 0) H (.ptr b 0 0) (.ptr H0.next 0 0)) (dS H0 r T af m s'):=by
 have ak:=d.rd.lt;have aJ:=d.ba.one;have O:=d.av k;have aB:=k.1;have aC:=ad.aF j;have ar:=ad.aF q;have c:=O.rd;have z:=c;unfold bE at z;have aG:=c.lt;obtain⟨i,K⟩:=eL c (ao s);have B:=(k.mut (· =r)).trans i;have Q:=d.mut B K;have F:=i.get q ae;have N:=i.get j ae;simp only[ct]at h;obtain⟨⟨ap,s1⟩,E,o⟩:=h;simp only[aT,bS]at o;obtain⟨rfl,rfl⟩:=o;simp(disch:=try exact ah)only[xB,de,fg,ai,z];refine aA (V Q ap s1 E) ?_;rintro v C ⟨e,R,x⟩;refine⟨e.1,?_⟩;have w:=e.get F ae;have y:=e.get N ae;have ay:=ad.aF w;have aE:=ad.aF y;have aH:=i.1;have aI:=e.1;obtain⟨cs,rfl,L,M⟩:=x.cells;have aq:lm 11 cs=cs:=ef ae
 have au:∀l,b0 P l 96 1 [(0,.agg cs)]=I (.ax l 0 1 11 (I 1),.row X 11 [cs]):=λl=>fQ l cs L M
 have ab:=B.trans e;have A:=R.rd;unfold bE at A;have c:=A;simp(disch:=try exact ah)only[de,ai,au,w,y,j];refine aD.2 ?_;refine kU.fin (ok:=aW H0.next) (a:={kind:=10,pos:=(G T s.at_).pos}) (kv:= .ax C.next 0 1 11 (I 1)) (s':=s1) d ?_ ?_ (bW.jw (ro:=false) ?_ (by unfold aW;omega) (x.new ?_ λl h=>by unfold aW;omega))
 ·(repeat (first|exact ab|refine bV.a1 ?_ _|refine bV.bH (S:=(· =r)) ?_ (.inl rfl) _|refine bV.bH ?_ (.inr (by(first|omega|(simp only[ad.bb,ad.cL];omega)))) _))
 ·(unfold bE;simp(disch:=try exact ah)only[b7,c])
 ·simp(disch:=try exact ah)only[b7]
 ·exact bV.bH (S:=λl=>l<_) ((bV.refl _ _).a1 _) (.inl ae) _
def Ry{n:Nat}(ae:sL n)(Q:oc n)(ab:sI n){H0 H:ad}{r:Nat}{T:List Tok}{af:aa}{s:am}(a:bF H0 r T af s)(d:aw H0 H)(S:H.get H0.next=I (.row X 11 [[J U 0,J U 0,Z [],Z [],J U 0,.ag,J U 0,J U 0,J U 0,J U 0,J U 0]])){b:Nat}(c:H0.next<b)(V:H.get b=I (.row X 4 [[J U (G T s.at_).kind,Z (G T s.at_).text,J U (G T s.at_).n,J U (G T s.at_).pos]])){q:az}{s':am}(h:(bif aS T s [110,117,108,108]then I (.mk {kind:=3,b5:=(cz T (ao s)).1.1,ci:=(cz T (ao s)).1.2,pos:=(G T s.at_).pos} [],(cz T (ao s)).2)else(bif aS T s [110,101,119]then fY T n (G T s.at_).pos (ao s)else(bif aS T s [108,101,110]then(eT T n (ao s)).bind λp=>I (.mk {kind:=10,pos:=(G T s.at_).pos} [p.1],p.2)else(bif aS T s [114,101,97,100]then I (.mk {kind:=11,pos:=(G T s.at_).pos} [],cV T [41] (cl T [40] (ao s)))else(bif aS T s [40]then eT T n s else(bif aS T (bv T s).2 [40]then(fD T n (bv T s).2).bind λp=>I (.mk {kind:=7,name:=(bv T s).1,pos:=(G T s.at_).pos} p.1,p.2)else I (.mk {kind:=4,name:=(bv T s).1,pos:=(G T s.at_).pos} [],(bv T s).2)))))))=I (q,s')):
  W (xt (al P aj) H (.ptr r 0 0) (.ptr b 0 0) (.ptr H0.next 0 0)) (dS H0 r T af q s'):=by
 have aq:=a.av d;rw[xt];refine aA (dD (a.rd.av d) (a.ba.av d) [110,117,108,108] (by simp)) ?_;rintro _ ah ⟨rfl,iH⟩;refine⟨iH.1,?_⟩;have e:=d.trans iH;have A:=iH.get S;have K:=iH.get V;cases v:aS T s [110,117,108,108]with
 |true=>
  simp only[v,aK]at h;simp only[xr,e8,aK];exact Rv a e A c K h
 |false=>
  simp only[v,aH]at h;simp only[xr,e8,aH];rw[CI];refine aA (dD (a.rd.av e) (a.ba.av e) [110,101,119] (by simp)) ?_;rintro _ ai ⟨rfl,aX⟩;refine⟨aX.1,?_⟩;have i:=e.trans aX;have B:=aX.get A;have L:=aX.get K;cases w:aS T s [110,101,119]with
  |true=>
   simp only[w,aK]at h;simp only[xq,e8,aK];exact Ru ae a i B c L h
  |false=>
   simp only[w,aH]at h;simp only[xq,e8,aH];rw[CH];refine aA (dD (a.rd.av i) (a.ba.av i) [108,101,110] (by simp)) ?_;rintro _ ak ⟨rfl,l⟩;refine⟨l.1,?_⟩;have j:=i.trans l;have C:=l.get B;have M:=l.get L;cases x:aS T s [108,101,110]with
   |true=>
    simp only[x,aK]at h;simp only[xp,e8,aK];exact Rs Q a j C c M h
   |false=>
    simp only[x,aH]at h;simp only[xp,e8,aH];rw[CG];refine aA (dD (a.rd.av j) (a.ba.av j) [114,101,97,100] (by simp)) ?_;rintro _ an ⟨rfl,m⟩;refine⟨m.1,?_⟩;have k:=j.trans m;have E:=m.get C;have N:=m.get M;cases y:aS T s [114,101,97,100]with
    |true=>
     simp only[y,aK]at h;simp only[xo,e8,aK];exact Rx a k E c N h
    |false=>
     simp only[y,aH]at h;simp only[xo,e8,aH];rw[CF];refine aA (dD (a.rd.av k) (a.ba.av k) [40] (by simp)) ?_;rintro _ ap ⟨rfl,o⟩;refine⟨o.1,?_⟩;have R:=k.trans o;have F:=o.get E;have O:=o.get N;cases z:aS T s [40]with
     |true=>
      simp only[z,aK]at h;simp only[xn,e8,aK];exact first_par Q a R F c O h
     |false=>
      simp only[z,aH]at h;simp only[xn,e8,aH];rw[CE];exact Rt ab a R F c O h
def RA{n:Nat}(N:sL n)(O:oc n)(M:sI n):zy (n+1):=by
 intro H r T af s a e s' h;refine bt (λ_=>VU 0) ?_;have ak:=a.rd.lt;simp only[dL]at h;have o:=aw.push H (.row X 11 [[J U 0,J U 0,Z [],Z [],J U 0,.ag,J U 0,J U 0,J U 0,J U 0,J U 0]]);simp only[xk,CO,de,ai];refine aA (im (a.rd.av o) (a.ba.av o)) ?_;rintro _ l ⟨rfl,p⟩;refine⟨p.1,?_⟩;have K:=p.get (ad.a_ H _);have V:=ad.aF K;simp only[CN,CM,de,ai,Tok.v];have F:=p.a1 (.row X 4 [[J U (G T s.at_).kind,Z (G T s.at_).text,J U (G T s.at_).n,J U (G T s.at_).pos]]);have A:=ad.a_ l (.row X 4 [[J U (G T s.at_).kind,Z (G T s.at_).text,J U (G T s.at_).n,J U (G T s.at_).pos]])
 have x:=F.get (ad.a_ H _);have c:=o.trans F;rw[CL];refine aA (lj (a.rd.av c)) ?_;rintro _ Q ⟨rfl,rfl⟩;refine⟨aV _,?_⟩;have rest:(s.an==0&&(G T s.at_).kind==2)=X->W (xw (al P aj) (l.push (.row X 4 [[J U (G T s.at_).kind,Z (G T s.at_).text,J U (G T s.at_).n,J U (G T s.at_).pos]])) (.ptr r 0 0) (.ptr H.next 0 0) (.ptr l.next 0 0)) (dS H r T af e s'):=by
  intro L;simp only[L,aH]at h;rw[xw];refine aA (dD (a.rd.av c) (a.ba.av c) [116,114,117,101] (by simp)) ?_;rintro _ R ⟨rfl,j⟩;refine⟨j.1,?_⟩;have i:=c.trans j;have y:=j.get x;have B:=j.get A;cases q:aS T s [116,114,117,101]with
  |true=>
   simp only[q,Bool.true_or,aK]at h;simp only[xv,CJ,nC,e8,aK];exact HB a i y ae B h
  |false=>
   simp only[q,Bool.false_or]at h;simp only[xv,CK,e8,aH];refine aA (dD (a.rd.av i) (a.ba.av i) [102,97,108,115,101] (by simp)) ?_;rintro _ S ⟨rfl,k⟩;refine⟨k.1,?_⟩;have E:=i.trans k;have z:=k.get y;have C:=k.get B;cases w:aS T s [102,97,108,115,101]with
   |true=>
    simp only[w,aK]at h;simp only[xu,nC,e8,aK];exact HB a E z ae C h
   |false=>
    simp only[w,aH]at h;simp only[xu,nC,e8,aH];exact Ry N O M a E z ae C h
 cases m:s.an==0 with
 |false=>
  simp only[uf,ue,ud,uc,ub,ai];exact rest (by simp[m])
 |true=>
  cases d:(G T s.at_).kind==2 with
  |true=>
   simp only[m,d,uv,aK]at h;simp only[uf,ue,ud,uc,ub,ai,d];exact Rw a c x ae A h
  |false=>
   simp only[uf,ue,ud,uc,ub,ai,d];exact rest (by simp[m,d])
def El:∀n,n<=900000000->∀k,k<=n->OZ k
 |0,_,k,a=>by
  have:k=0:=ae;subst this;exact⟨λ_ _ _ _ _ h=>by simp[dm]at h,λ_ _ _ h=>by simp[gb]at h,λ_ _ _ _ _ _ h=>by simp[eG]at h,λ_ _ _ h=>by simp[eT]at h,λ_ _ _ h=>by simp[dL]at h,
   λ_ _ _ _ h=>by simp[fY]at h,λ_ _ _ h=>by simp[fD]at h⟩
 |n+1,d,k,a=>by
  have c:=El n ae;have i:=c n (aV _);rcases Nat.lt_or_ge k (n+1)with h|h
  ·exact c k ae
  ·have:k=n+1:=ae;subst this;exact⟨Rd (λk a=>(c k a).expr) i.unary,abM (λk a=>(c k a).expr) i.first i.behind,Qi λk a=>(c k a).expr,Ss i.expr,RA i.fresh i.inner i.args,RT i.inner,P2 ae λk a=>(c k a).expr⟩
section
set_option maxRecDepth 100000
noncomputable section
def lz(T:e)(F y:aa)(H:ad):O:=bO H (cg (H).next F) λa s=>bO s (cg (s).next y) λc o=>C (j P 103 a 0) λa0=>C (A P o 3 a0) λaJ=>C (j P 103 c 0) λa3=>C (A P o 3 a3) λa4=>C (w P .eql 3 X aJ a4) λn=>S n Y o (k (j P 103 a 1)) λav M=>S n Y M (qr (A P M 3 av)) λaw ap=>S n Y ap (k (j P 103 c 1)) λay Q=>S n Y Q (qr (A P Q 3 ay)) λaz aq=>S n Y aq (k (w P .eql 3 X aw az)) λaA ar=>C (bC n (I aA) (I (D X))) λd=>S d Y ar (k (j P 103 a 2)) λaB R=>S d Y R (qr (A P R 9 aB)) λaC au=>S d Y au (k (j P 103 c 2)) λaD v=>S d Y v (qr (A P v 9 aD)) λaE V=>S d Y V (k (w P .eql 9 X aC aE)) λaF W=>C (bC d (I aF) (I (D X))) λh=>S h Y W (k (j P 103 a 3)) λaG x=>S h Y x (qr (A P x 43 aG)) λaH ab=>S h Y ab (k (j P 103 c 3)) λaI z=>S h Y z (qr (A P z 43 aI)) λaK ae=>S h Y ae (k (w P .eql 43 X aH aK)) λaL af=>C (bC h (I aL) (I (D X))) λi=>S i Y af (k (j P 103 a 6)) λaM B=>S i Y B (qr (A P B 101 aM)) λaN ah=>S i Y ah (k (j P 103 c 6)) λaO E=>S i Y E (qr (A P E 101 aO)) λaP ai=>S i Y ai (k (w P .eql 101 X aN aP)) λaQ aj=>C (bC i (I aQ) (I (D X))) λl=>S l Y aj (k (j P 103 a 7)) λaR G=>S l Y G (qr (A P G 3 aR)) λaS ak=>S l Y ak (k (j P 103 c 7)) λaT K=>S l Y K (qr (A P K 3 aT)) λaU al=>S l Y al (k (w P .eql 3 X aS aU)) λaV am=>C (bC l (I aV) (I (D X))) λm=>S m Y am (k (j P 103 a 4)) λaW L=>S m Y L (qr (A P L 96 aW)) λaX an=>S m Y an (k (j P 103 c 4)) λaY N=>S m Y N (qr (A P N 96 aY)) λaZ p=>S m Y p (λq=>cZ p (T 91 [aX,aZ,(.func (.func 92) [] [])] p) q) λa1 ao=>C (bC m (I a1) (I (D X))) λa2=>I (a2,ao)
def XA(N:Nat){F y:aa}{H:ad}{r:aa×ad}(h:lz (al P aj) F y H=I r):al P aj 92 [F,y] H=I r:=bu N (S:=λa=>lz a F y H) Tryz.func92 (λ_=>by delta lz;kernel_rfl) h
def p5(a:e)(N:Nat)(H:ad):O:=some ((D Y),H)
def aah(a:e)(N:Nat):∀V H,a7 P a N (L (L (L (n Tryz.f91)))) (p Tryz.f91) [] (p Tryz.f91) V H=p5 a N H:=by
 refine bm (q _) λV H=> ?_
 delta p5;kernel_rfl
def sn(d:e)(N:Nat)(q:aa->aa->aa->aa->aa->ad->O)(y n:aa)(l m a:aa)(H:ad):O:=C (w P .lss 3 X a m) λs=>aO (I s) (C (bX P 96 l a) λv=>C (A P H 103 v) λx=>bn H [J U 0,J U 0,Z [],Z [],J U 0,aa.ag,J U 0,J U 0,J U 0,J U 0,J U 0] λo h=>aG h (aB P h 103 o x) λi=>C (bX P 96 y a) λz=>C (A P i 103 z) λB=>bn i [J U 0,J U 0,Z [],Z [],J U 0,aa.ag,J U 0,J U 0,J U 0,J U 0,J U 0] λp j=>aG j (aB P j 103 p B) λc=>C (A P c 103 o) λE=>C (A P c 103 p) λF=>jG d c n [E,F] λG k=>C (cI .not G) λK=>aO (I K) (I ((D X),k)) (C (w P .add 3 Y a (J U 1)) λL=>q y n l m L k)) (p5 d N H)
def mv(a:e)(N:Nat):Nat->aa->aa->aa->aa->aa->ad->O
 |0,_,_,_,_,_,_=>u
 |n+1,y,i,c,d,h,H=>sn a N (mv a N n) y i c d h H
def aag(a:e)(N:Nat)(h:aa->aa->aa->aa->aa->ad->O):∀V H,a7 P a N (d (d (L (d (L (L (n Tryz.f91))))))) (λV H=>h (V 1) (V 2) (V 15) (V 16) (V 17) H) [(0,(λV H=>p5 a N H))] (p Tryz.f91) V H=sn a N h (V 1) (V 2) (V 15) (V 16) (V 17) H:=by
 refine bm (q _) λV H=> ?_
 delta sn;generalize p5 a N=c;revert c;refine id ?_;intro c;kernel_rfl
def sl(a:e)(N:Nat)(F y j:aa)(H:ad):O:=bU P .len [96] [F] H λc=>bU P .len [96] [y] H λd=>C (w P .neq 3 X c d) λh=>aO (I h) (I ((D X),H)) (bU P .len [96] [F] H λi=>mv a N N y j F i (J U 0) H)
def Xz(N:Nat){F y c:aa}{H:ad}{r:aa×ad}(h:sl (al P aj) N F y c H=I r):al P aj 91 [F,y,c] H=I r:=bu N (S:=λa=>sl a N F y c H) Tryz.func91 (λa=>cG ((Q M ((Q M ((Q M (aah a N) ((Q M ((cn M ((cY (k:=λm V H=>mv a N m (V 1) (V 2) (V 15) (V 16) (V 17) H) M (λV H=>M) (λm=>aag a N (mv a N m)))))) (q _))))) (q _))) (q _))) (by delta sl;generalize mv a N N=d;revert d;refine id ?_;intro d;kernel_rfl)) h
end
end
section
set_option maxRecDepth 100000
noncomputable section
def ll(T:e)(F y:aa)(H:ad):O:=bO H (cg (H).next F) λa s=>bO s (cg (s).next y) λc o=>C (j P 103 a 0) λa0=>C (A P o 3 a0) λaJ=>C (j P 103 c 0) λa3=>C (A P o 3 a3) λa4=>C (w P .eql 3 X aJ a4) λn=>S n Y o (k (j P 103 a 1)) λav M=>S n Y M (qr (A P M 3 av)) λaw ap=>S n Y ap (k (j P 103 c 1)) λay Q=>S n Y Q (qr (A P Q 3 ay)) λaz aq=>S n Y aq (k (w P .eql 3 X aw az)) λaA ar=>C (bC n (I aA) (I (D X))) λd=>S d Y ar (k (j P 103 a 2)) λaB R=>S d Y R (qr (A P R 9 aB)) λaC au=>S d Y au (k (j P 103 c 2)) λaD v=>S d Y v (qr (A P v 9 aD)) λaE V=>S d Y V (k (w P .eql 9 X aC aE)) λaF W=>C (bC d (I aF) (I (D X))) λh=>S h Y W (k (j P 103 a 3)) λaG x=>S h Y x (qr (A P x 43 aG)) λaH ab=>S h Y ab (k (j P 103 c 3)) λaI z=>S h Y z (qr (A P z 43 aI)) λaK ae=>S h Y ae (k (w P .eql 43 X aH aK)) λaL af=>C (bC h (I aL) (I (D X))) λi=>S i Y af (k (j P 103 a 6)) λaM B=>S i Y B (qr (A P B 101 aM)) λaN ah=>S i Y ah (k (j P 103 c 6)) λaO E=>S i Y E (qr (A P E 101 aO)) λaP ai=>S i Y ai (k (w P .eql 101 X aN aP)) λaQ aj=>C (bC i (I aQ) (I (D X))) λl=>S l Y aj (k (j P 103 a 7)) λaR G=>S l Y G (qr (A P G 3 aR)) λaS ak=>S l Y ak (k (j P 103 c 7)) λaT K=>S l Y K (qr (A P K 3 aT)) λaU al=>S l Y al (k (w P .eql 3 X aS aU)) λaV am=>C (bC l (I aV) (I (D X))) λm=>S m Y am (k (j P 103 a 4)) λaW L=>S m Y L (qr (A P L 96 aW)) λaX an=>S m Y an (k (j P 103 c 4)) λaY N=>S m Y N (qr (A P N 96 aY)) λaZ p=>S m Y p (λq=>cZ p (T 86 [aX,aZ] p) q) λa1 ao=>C (bC m (I a1) (I (D X))) λa2=>I (a2,ao)
def Vt(N:Nat){F y:aa}{H:ad}{r:aa×ad}(h:ll (al P aj) F y H=I r):al P aj 111 [F,y] H=I r:=bu N (S:=λa=>ll a F y H) Tryz.func111 (λ_=>by delta ll;kernel_rfl) h
def p0(a:e)(N:Nat)(H:ad):O:=some ((D Y),H)
def Z5(a:e)(N:Nat):∀V H,a7 P a N (L (L (L (n Tryz.f86)))) (p Tryz.f86) [] (p Tryz.f86) V H=p0 a N H:=by
 refine bm (q _) λV H=> ?_
 delta p0;kernel_rfl
def sh(c:e)(N:Nat)(h:aa->aa->aa->ad->O)(F y a:aa)(H:ad):O:=bU P .len [96] [F] H λj=>C (w P .lss 3 X a j) λk=>aO (I k) (C (bX P 96 F a) λm=>C (A P H 103 m) λn=>C (bX P 96 y a) λo=>C (A P H 103 o) λp=>i H (c 111 [n,p] H) λq d=>C (cI .not q) λs=>aO (I s) (I ((D X),d)) (C (w P .add 3 Y a (J U 1)) λl=>h F y l d)) (p0 c N H)
def mu(a:e)(N:Nat):Nat->aa->aa->aa->ad->O
 |0,_,_,_,_=>u
 |n+1,F,y,c,H=>sh a N (mu a N n) F y c H
def Z4(a:e)(N:Nat)(h:aa->aa->aa->ad->O):∀V H,a7 P a N (d (d (L (d (L (L (n Tryz.f86))))))) (λV H=>h (V 0) (V 1) (V 5) H) [(0,(λV H=>p0 a N H))] (p Tryz.f86) V H=sh a N h (V 0) (V 1) (V 5) H:=by
 refine bm (q _) λV H=> ?_
 delta sh;generalize p0 a N=c;revert c;refine id ?_;intro c;kernel_rfl
def sg(a:e)(N:Nat)(F y:aa)(H:ad):O:=bU P .len [96] [F] H λd=>bU P .len [96] [y] H λh=>C (w P .neq 3 X d h) λc=>aO (I c) (I ((D X),H)) (mu a N N F y (J U 0) H)
def Xt(N:Nat){F y:aa}{H:ad}{r:aa×ad}(h:sg (al P aj) N F y H=I r):al P aj 86 [F,y] H=I r:=bu N (S:=λa=>sg a N F y H) Tryz.func86 (λa=>cG ((Q M ((Q M ((Q M (Z5 a N) ((Q M ((cn M ((cY (k:=λm V H=>mu a N m (V 0) (V 1) (V 5) H) M (λV H=>M) (λm=>Z4 a N (mu a N m)))))) (q _))))) (q _))) (q _))) (by delta sg;generalize mu a N N=c;revert c;refine id ?_;intro c;kernel_rfl)) h
end
end
def Tn(x y:Bool):yz aa.bool (bif x then(bif y then I Y else I X)else I X)=I (D (x&&y)):=by cases x<;>cases y<;>rfl
def To(x y z:Bool):yz aa.bool (bif x then(bif y then(bif z then I Y else I X)else I X)else I X)=I (D (x&&(y&&z))):=by cases x<;>cases y<;>cases z<;>rfl
def hT{c:Bool}(a bj:List UInt8)(b cN:Int):w P .eql 43 c (.agg [Z a,J U b]) (.agg [Z bj,J U cN])=I (D (a==bj&&b==cN)):=
 Eq.trans M (Tn (a==bj) (b==cN))
def qA{c:Bool}(a bj:Int)(b cN:Int)(d e:Int):w P .eql 101 c (.agg [J U a,J U b,J U d]) (.agg [J U bj,J U cN,J U e])=I (D (a==bj&&(b==cN&&d==e))):=
 Eq.trans M (To (a==bj) (b==cN) (d==e))
mutual
def iY:az->az->Bool
 | .mk a ks,.mk b c=>a.kind==b.kind&&(a.n==b.n&&(a.name==b.name&&((a.b5==b.b5&&a.ci==b.ci)&&((a.hJ==b.hJ&&(a.p_==b.p_&&a.kJ==b.kJ))&&(a.ref==b.ref&&eX ks c)))))
def eX:List az->List az->Bool
 |[],[]=>Y
 |[],_::_=>X
 |_::_,[]=>X
 |e::es,f::a=>iY e f&&eX es a
end
mutual
def c6(B:Nat):az->Prop
 | .mk _ ks=>ks.length<=B/\dF B ks
def dF(B:Nat):List az->Prop
 |[]=>True
 |e::es=>c6 B e/\dF B es
end
def C0:∀(es a:List az),es.length≠a.length->eX es a=X
 |[],[],h=>absurd rfl h
 |[],_::_,_=>by rw[eX]
 |_::_,[],_=>by rw[eX]
 |e::es,f::a,h=>by rw[eX,C0 es a (by simpa using h),jk]
def bW.db{H:ad}{ok:Nat->Prop}{ks:List az}{kv:aa}(h:bW H ok ks kv):kv.one=true:=by
 rcases h with⟨rfl,_⟩|⟨l,i,cap,ro,els,rfl,_⟩|⟨l,i,cap,rfl,_⟩<;>rfl
def bW.av{H H':ad}{ok:Nat->Prop}{ks:List az}{kv:aa}(h:bW H ok ks kv)(p:aw H H'):bW H' ok ks kv:=h.aP (cH.av p λ_ h=>h)
def cb.av{H H':ad}{ok:Nat->Prop}{e:az}{v:aa}(h:cb H ok e v)(p:aw H H'):cb H' ok e v:=cb.aP (cH.av p λ_ h=>h) e v h
def cU.cons{H:ad}{ok:Nat->Prop}{e:az}{es:List az}{els:List (List aa)}{k:Nat}(h:cU H ok (e::es) (els.drop k)):∃cs,els[k]? =I cs/\cb H ok e (.agg cs)/\cU H ok es (els.drop (k+1)):=by
 cases a:els.drop k with
 |nil=>rw[a,cU]at h;exact h.elim
 |cons cs css=>
  rw[a,cU]at h;have c:els[k]? =I cs:=by
   have:=List.getElem?_drop (xs:=els) (i:=k) (j:=0);rw[a]at this;simpa using this.symm
  have d:els.drop (k+1)=css:=by
   have:(els.drop k).drop 1=css:=by rw[a];rfl
   rwa[List.drop_drop]at this
  exact⟨cs,c,h.1,by rw[d];exact h.2⟩
def aan{H:ad}{a b:bY}{ks h:List az}{kv aM:aa}(k:kv.one=Y)(m:aM.one=Y)
  (ak:∀H',aw H H'->W (al P aj 86 [kv,aM] H') λr j=>r= D (eX ks h)/\aw H' j):
  W (al P aj 111 [.agg (a.cells kv),.agg (b.cells aM)] H) λr H'=>r= D (iY (.mk a ks) (.mk b h))/\aw H H':=by
 refine bt (λ_=>Vt 0) ?_;have d:∀l,cg l (.agg (a.cells kv))=I (.ptr l 0 0,.row X 11 [a.cells kv]):=λl=>ei l _ (by simp only[bY.cells,wx,xy,eO,fk,k,uv])
 have e:∀l,cg l (.agg (b.cells aM))=I (.ptr l 0 0,.row X 11 [b.cells aM]):=λl=>ei l _ (by simp only[bY.cells,wx,xy,eO,fk,m,uv])
 have c:=(aw.push H (.row X 11 [a.cells kv])).a1 (.row X 11 [b.cells aM]);rw[iY];simp only[bY.cells]at d e c ⊢;cases c0:a.kind==b.kind with
 |false=>
  simp(disch:=try exact ah)only[ll,ai,d,e,c0];exact aD.2 ⟨by simp only[hi],c⟩
 |true=>
  cases aQ:a.n==b.n with
  |false=>
   simp(disch:=try exact ah)only[ll,de,ai,d,e,c0,aQ];exact aD.2 ⟨by simp only[hi,jk],c⟩
  |true=>
   cases c2:a.name==b.name with
   |false=>
    simp(disch:=try exact ah)only[ll,de,ai,d,e,c0,aQ,c2];exact aD.2 ⟨by simp only[hi,jk],c⟩
   |true=>
    cases c3:(a.b5==b.b5&&a.ci==b.ci)with
    |false=>
     simp(disch:=try exact ah)only[ll,de,fg,ai,d,e,hT,c0,aQ,c2,c3];exact aD.2 ⟨by simp only[hi,jk],c⟩
    |true=>
     cases c4:(a.hJ==b.hJ&&(a.p_==b.p_&&a.kJ==b.kJ))with
     |false=>
      simp(disch:=try exact ah)only[ll,de,fg,ai,d,e,hT,qA,c0,aQ,c2,c3,c4];exact aD.2 ⟨by simp only[hi,jk],c⟩
     |true=>
      cases c5:a.ref==b.ref with
      |false=>
       simp(disch:=try exact ah)only[ll,de,fg,ai,d,e,hT,qA,c0,aQ,c2,c3,c4,c5];exact aD.2 ⟨by simp only[hi,jk],c⟩
      |true=>
       simp(disch:=try exact ah)only[ll,de,fg,ai,d,e,hT,qA,c0,aQ,c2,c3,c4,c5];refine dZ (ak _ c) ?_;rintro _ o ⟨rfl,i⟩;refine⟨i.1,?_⟩;simp(disch:=try exact ah)only[aR];exact aD.2 ⟨by simp only[vw],c.trans i⟩
def aao{H:ad}{a b:bY}{ks h:List az}{kv aM:aa}(k:kv.one=Y)(m:aM.one=Y)
  (ak:∀H',aw H H'->W (al P aj 91 [kv,aM,.func (.func 92) [] []] H') λr j=>r= D (eX ks h)/\aw H' j):
  W (al P aj 92 [.agg (a.cells kv),.agg (b.cells aM)] H) λr H'=>r= D (iY (.mk a ks) (.mk b h))/\aw H H':=by
 refine bt (λ_=>XA 0) ?_;have d:∀l,cg l (.agg (a.cells kv))=I (.ptr l 0 0,.row X 11 [a.cells kv]):=λl=>ei l _ (by simp only[bY.cells,wx,xy,eO,fk,k,uv])
 have e:∀l,cg l (.agg (b.cells aM))=I (.ptr l 0 0,.row X 11 [b.cells aM]):=λl=>ei l _ (by simp only[bY.cells,wx,xy,eO,fk,m,uv])
 have c:=(aw.push H (.row X 11 [a.cells kv])).a1 (.row X 11 [b.cells aM]);rw[iY];simp only[bY.cells]at d e c ⊢;cases c0:a.kind==b.kind with
 |false=>
  simp(disch:=try exact ah)only[lz,ai,d,e,c0];exact aD.2 ⟨by simp only[hi],c⟩
 |true=>
  cases aQ:a.n==b.n with
  |false=>
   simp(disch:=try exact ah)only[lz,de,ai,d,e,c0,aQ];exact aD.2 ⟨by simp only[hi,jk],c⟩
  |true=>
   cases c2:a.name==b.name with
   |false=>
    simp(disch:=try exact ah)only[lz,de,ai,d,e,c0,aQ,c2];exact aD.2 ⟨by simp only[hi,jk],c⟩
   |true=>
    cases c3:(a.b5==b.b5&&a.ci==b.ci)with
    |false=>
     simp(disch:=try exact ah)only[lz,de,fg,ai,d,e,hT,c0,aQ,c2,c3];exact aD.2 ⟨by simp only[hi,jk],c⟩
    |true=>
     cases c4:(a.hJ==b.hJ&&(a.p_==b.p_&&a.kJ==b.kJ))with
     |false=>
      simp(disch:=try exact ah)only[lz,de,fg,ai,d,e,hT,qA,c0,aQ,c2,c3,c4];exact aD.2 ⟨by simp only[hi,jk],c⟩
     |true=>
      cases c5:a.ref==b.ref with
      |false=>
       simp(disch:=try exact ah)only[lz,de,fg,ai,d,e,hT,qA,c0,aQ,c2,c3,c4,c5];exact aD.2 ⟨by simp only[hi,jk],c⟩
      |true=>
       simp(disch:=try exact ah)only[lz,de,fg,ai,d,e,hT,qA,c0,aQ,c2,c3,c4,c5];refine dZ (ak _ c) ?_;rintro _ o ⟨rfl,i⟩;refine⟨i.1,?_⟩;simp(disch:=try exact ah)only[aR];exact aD.2 ⟨by simp only[vw],c.trans i⟩
section
def bR.cells(a:bR)(ev c d:aa):List aa:=[J U a.kind,Z a.name,Z a.b5,J U a.ci,ev,c,d,J U a.pos,J U a.ref]
mutual
def fT(H:ad)(ok:Nat->Prop):a6->aa->Prop
 | .mk a es b c,v=>∃ev d e,v= .agg (a.cells ev d e)/\bW H ok es ev/\
  ((d= .ag/\b.length=0)\/(∃l i cap ro els,d= .ax l i b.length 9 (yz (· +b.length) cap)/\ok l/\H.get l=I (.row ro 9 els)/\dy H ok b (els.drop i))\/∃l i cap,d= .ax l i 0 9 cap/\b.length=0)/\
  ((e= .ag/\c.length=0)\/(∃l i cap ro els,e= .ax l i c.length 9 (yz (· +c.length) cap)/\ok l/\H.get l=I (.row ro 9 els)/\dy H ok c (els.drop i))\/∃l i cap,e= .ax l i 0 9 cap/\c.length=0)
def dy(H:ad)(ok:Nat->Prop):List a6->List (List aa)->Prop
 |[],_=>True
 |_::_,[]=>False
 |e::es,cs::css=>fT H ok e (.agg cs)/\dy H ok es css
end
def cj(H:ad)(ok:Nat->Prop)(b:List a6)(a:aa):Prop:=(a= .ag/\b.length=0)\/(∃l i cap ro els,a= .ax l i b.length 9 (yz (· +b.length) cap)/\ok l/\H.get l=I (.row ro 9 els)/\dy H ok b (els.drop i))\/∃l i cap,a= .ax l i 0 9 cap/\b.length=0
def mS{H:ad}{ok:Nat->Prop}{a:bR}{es:List az}{b c:List a6}{v:aa}:fT H ok (.mk a es b c) v↔∃ev d e,v= .agg (a.cells ev d e)/\bW H ok es ev/\cj H ok b d/\cj H ok c e:=by
 rw[fT];rfl
structure dc(H:ad)(ok:Nat->Prop)(H':ad)(ok':Nat->Prop):Prop where
 ex:cH H ok H' ok'
 st:∀l ro els,ok l->H.get l=some (.row ro 9 els)->ok' l/\H'.get l=some (.row ro 9 els)
section
variable {H H':ad}{ok ok':Nat->Prop}
mutual
def fT.aP(p:dc H ok H' ok'):∀(e:a6) (v:aa),fT H ok e v->fT H' ok' e v
 | .mk a es b c,v,h=>by
  rw[fT]at h ⊢;obtain⟨ev,k,m,n,o,d,q⟩:=h;refine⟨ev,k,m,n,o.aP p.ex,?_,?_⟩
  ·rcases d with d|⟨l,i,cap,ro,els,ap,aE,bB,cc⟩|d
   ·exact .inl d
   ·obtain⟨aX,j⟩:=p.st l ro els aE bB;exact .inr (.inl ⟨l,i,cap,ro,els,ap,aX,j,dy.aP p b _ cc⟩)
   ·exact .inr (.inr d)
  ·rcases q with d|⟨l,i,cap,ro,els,ap,aE,bB,cc⟩|d
   ·exact .inl d
   ·obtain⟨aX,j⟩:=p.st l ro els aE bB;exact .inr (.inl ⟨l,i,cap,ro,els,ap,aX,j,dy.aP p c _ cc⟩)
   ·exact .inr (.inr d)
def dy.aP(p:dc H ok H' ok'):∀(es:List a6) (cs:List (List aa)),dy H ok es cs->dy H' ok' es cs
 |[],_,_=>by rw[dy];trivial
 |e::es,[],h=>by rw[dy]at h;exact h.elim
 |e::es,cs::css,h=>by
  rw[dy]at h ⊢;exact⟨fT.aP p e _ h.1,dy.aP p es css h.2⟩
end
def cj.aP(p:dc H ok H' ok'){b:List a6}{v:aa}(h:cj H ok b v):cj H' ok' b v:=by
 rcases h with a|⟨l,i,cap,ro,els,ap,aE,bB,cc⟩|a
 ·exact .inl a
 ·obtain⟨aX,c⟩:=p.st l ro els aE bB;exact .inr (.inl ⟨l,i,cap,ro,els,ap,aX,c,dy.aP p b _ cc⟩)
 ·exact .inr (.inr a)
def dc.mut{r:Nat}(m:bs r H H')(a:¬ok r)(ak:∀l,ok l->ok' l):dc H ok H' ok':=⟨cH.mut m a ak,λl ro els h e=>⟨ak l h,m.get e (by rintro rfl;exact a h)⟩⟩
def dc.av(m:aw H H')(ak:∀l,ok l->ok' l):dc H ok H' ok':=⟨cH.av m ak,λl ro els h e=>⟨ak l h,m.get e⟩⟩
def dc.set{l:Nat}(b:b_)(h:¬ok l)(ak:∀l,ok l->ok' l):dc H ok (H.set l b) ok':=⟨cH.set b h ak,λj ro els a e=>⟨ak j a,by rw[ad.get_set_other (by rintro rfl;exact h a)];exact e⟩⟩
def dc.jt(h:∀l,ok l->ok' l):dc H ok H ok':=⟨cH.jt h,λl ro els ak e=>⟨h l ak,e⟩⟩
def cj.db{b:List a6}{v:aa}(h:cj H ok b v):v.one=true:=by
 rcases h with⟨rfl,_⟩|⟨l,i,cap,ro,els,rfl,_⟩|⟨l,i,cap,rfl,_⟩<;>rfl
def cj.nil(H:ad)(ok:Nat->Prop):cj H ok [] .ag:= .inl ⟨rfl,rfl⟩
def fT.cells{e:a6}{v:aa}(h:fT H ok e v):∃cs,v= .agg cs/\cs.length=9/\cs.all aa.one=true:=by
 cases e with|mk a es b c=>
 rw[mS]at h;obtain⟨ev,k,l,rfl,d,i,j⟩:=h;refine⟨_,rfl,rfl,?_⟩;simp only[bR.cells,wx,xy,eO,fk,d.db,i.db,j.db,uv]
end
def mQ(ok:Nat->Prop)(H:ad)(r:Nat)(T:List Tok)(af:aa)(e:a6)(s':am)(v:aa)(H':ad):Prop:=bs r H H'/\bF H' r T af s'/\fT H' ok e v
abbrev dx(H:ad):=mQ (aW H.next) H
def dx.fin{H b6:ad}{r:Nat}{T:List Tok}{af:aa}{s s':am}{a:bR}{es:List az}{b c:List a6}{ev e h:aa}{x lo:Nat}(j:bF H r T af s)(m:bs r H b6)(i:bE b6 r af s')(n:bW b6 (aW lo) es ev)(o:cj b6 (aW lo) b e)(p:cj b6 (aW lo) c h)(q:H.next<=x)(v:x<lo)(d:b_):
  dx H r T af (.mk a es b c) s' (.agg (a.cells ev e h)) (b6.set x d):=by
 have ak:=j.rd.lt;have m':=m.bH (.inr q) d;have k:dc b6 (aW lo) (b6.set x d) (aW H.next):=dc.set _ (by unfold aW;omega) λl ak=>by unfold aW at*;omega
 refine⟨m',j.mut m' ?_,mS.2 ⟨ev,e,h,rfl,n.aP k.ex,o.aP k,p.aP k⟩⟩;unfold bE at i ⊢;rw[ad.get_set_other ae];exact i
def dx.ret{H a:ad}{r:Nat}{T:List Tok}{af:aa}{s s':am}{e:a6}{v:aa}{b n:Nat}(h:bF H r T af s)(m:bs r H a)(d:bE a r af s')(i:H.next<=b)(j:fT a (aW n) e v)(k:b<n)(c:b_):dx H r T af e s' v (a.set b c):=by
 have ak:=h.rd.lt;have m':=m.bH (.inr i) c;refine⟨m',h.mut m' ?_,fT.aP (dc.set _ (by unfold aW;omega) λl ak=>by unfold aW at*;omega) e v j⟩;unfold bE at d ⊢;rw[ad.get_set_other ae];exact d
def fI:=B Dk (B sz (B Dj sy))
end
def bW.jM{H:ad}{ok:Nat->Prop}{ks:List az}{x:aa}(a:bW H ok ks x)(H':ad):bK P H' .len [96] [x]=I (J U ks.length):=by
 rcases a with⟨rfl,ap⟩|⟨d,c,aQ,h,e,rfl,_⟩|⟨d,c,aQ,rfl,ap⟩
 ·rw[ap];exact tm
 ·exact m9
 ·rw[ap];exact m9
def bW.row{H:ad}{ok:Nat->Prop}{ks:List az}{x:aa}(c:bW H ok ks x)(h:¬ks.length=0):∃l i cap ro els,x= .ax l i ks.length 11 cap/\ok l/\H.get l=I (.row ro 11 els)/\cU H ok ks (els.drop i):=by
 rcases c with⟨_,ap⟩|a|⟨_,_,_,_,ap⟩
 ·exact absurd ap h
 ·exact a
 ·exact absurd ap h
def mR(F:Nat)(B:Nat)(e:az):Prop:=c6 B e->∀(f:az) (v w:aa) (H:ad) (ok ok':Nat->Prop),cb H ok e v->cb H ok' f w->W (al P aj F [v,w] H) λr H'=>r= D (iY e f)/\aw H H'
def az.MR{a:bY}{ks:List az}{e:az}(h:e∈ks):SizeOf.sizeOf e<SizeOf.sizeOf (az.mk a ks):=by
 have:=List.sizeOf_lt_of_mem h;simp only[az.mk.sizeOf_spec];omega
def Kd{N B:Nat}{K G O M:Nat}{kc lc:Option Nat}{ak am:Bool}{F L:List (List aa)}{ok ok':Nat->Prop}:∀(es m:List az) (j a n:Nat) (H:ad),(∀e∈es,mR 111 B e)->dF B es->cU H ok es (F.drop (G+j))->cU H ok' m (L.drop (M+j))->es.length=m.length->a=j+es.length->a<=1000000000000->H.get K=I (.row ak 11 F)->H.get O=I (.row am 11 L)->es.length<n->
  W (mu (al P aj) N n (.ax K G a 11 kc) (.ax O M a 11 lc) (J U j) H) λr H'=>r= D (eX es m)/\aw H H'
 |_,_,_,_,0,_,_,_,_,_,_,_,_,_,_,p=>ae
 |[],[],j,a,n+1,H,au,l,s,w,d,o,x,i,k,p=>by
  have y:¬((j:Int)<(a:Int)):=by simp at o;omega
  simp(disch:=try exact ah)only[mu,p0,sh,ai,y,decide_false];exact aD.2 ⟨by rw[eX],.refl _⟩
 |[],_::_,j,a,n+1,H,au,l,s,w,d,o,x,i,k,p=>by simp at d
 |_::_,[],j,a,n+1,H,au,l,s,w,d,o,x,i,k,p=>by simp at d
 |e::es,f::m,j,a,n+1,H,au,l,s,w,d,o,x,i,k,p=>by
  simp only[AB]at d o p;have y:(j:Int)<(a:Int):=ae;have ar:(0:Int)<=(j:Int):=ae;have aq:((j:Int)).toNat=j:=ae;obtain⟨cs,S,A,T⟩:=s.cons;obtain⟨z,V,C,g6⟩:=w.cons;obtain⟨_,aX,aC,aE⟩:=A.cells;cases aX;obtain⟨_,an,aG,aH⟩:=C.cells;cases an;have ao:lm 11 cs=cs:=ef ae;have ap:lm 11 z=z:=ef ae;have ay:=ad.aF i;have aB:=ad.aF k;rw[dF]at l;have af:IntKind.i64.wrap ((j:Int)+1)=((j+1:Nat):Int):=by rw[wrap_i64 ae ae];omega
  simp(disch:=try exact ah)only[mu,sh,ai,y,decide_true,aq,i,k,S,V,ao,ap];refine aA (au e (by simp) l.1 f _ _ _ ok ok' A C) ?_;rintro _ Q ⟨rfl,c⟩;refine⟨c.1,?_⟩;cases E:iY e f with
  |false=>
   simp(disch:=try exact ah)only[aR,mn];exact aD.2 ⟨by rw[eX,E,hi],c⟩
  |true=>
   simp(disch:=try exact ah)only[aR,b8,tu,af];refine(Kd es m (j+1) a n Q (λR ab=>au R (by simp[ab])) l.2 (cU.aP (cH.av c λ_ h=>h) _ _ T) (cU.aP (cH.av c λ_ h=>h) _ _ g6) ae ae x (c.get i) (c.get k) ae).mono ?_;rintro v H' ⟨rfl,q⟩;exact⟨by rw[eX,E,vw],c.trans q⟩
def JQ{B:Nat}(A:B<=1000000000000){H:ad}{ok ok':Nat->Prop}{ks a:List az}{kv aM:aa}(au:∀e∈ks,mR 111 B e)(p:ks.length<=B/\dF B ks)(d:bW H ok ks kv)(i:bW H ok' a aM):W (al P aj 86 [kv,aM] H) λr H'=>r= D (eX ks a)/\aw H H':=by
 refine bt (λ_=>Xt (ks.length+1)) ?_;have s:∀m k:Nat,m≠k->((m:Int) != (k:Int))=true:=λm k h=>by simp;omega
 have v:∀m:Nat,((m:Int) != (m:Int))=false:=λm=>by simp
 have z0:((0:Nat):Int)=0:=rfl;have aQ:=d.jM;have c2:=i.jM;by_cases c:ks.length=a.length
 ·by_cases j:ks.length=0
  ·have q:a.length=0:=ae;obtain rfl:=pq.1 j;obtain rfl:=pq.1 q;simp only[mu,p0,sh,sg,ai,aQ,c2,z0,bne_self_eq_false,Int.lt_irrefl,decide_false];exact aD.2 ⟨by rw[eX],.refl _⟩
  ·obtain⟨G,C,E,L,y,rfl,br,l,w⟩:=d.row j;obtain⟨K,i2,F,M,z,rfl,bI,n,x⟩:=i.row ae;rw[<-c];simp only[sg,bU,aR,cX,b8,v ks.length];exact Kd ks a 0 ks.length (ks.length+1) H au p.2 w x c ae ae l n ae
 ·have o:=s _ _ c;simp only[sg,bU,aR,b8,aQ,c2,o];exact aD.2 ⟨by rw[C0 _ _ c],.refl _⟩
def M1{B:Nat}(h:B<=1000000000000):∀(e:az),mR 111 B e
 | .mk a ks=>by
  intro i f v w H ok ok' c d;cases f with|mk b k=>
  rw[gq]at c d;obtain⟨kv,rfl,c⟩:=c;obtain⟨aM,rfl,d⟩:=d;rw[c6]at i;have au:∀e∈ks,mR 111 B e:=λe j=>M1 h e
  exact aan c.db d.db λH' p=>JQ h au i (c.av p) (d.av p)
 termination_by e=>SizeOf.sizeOf e
 decreasing_by exact az.MR j
def Ke{N B:Nat}{L K Q O:Nat}{kc lc:Option Nat}{am an:Bool}{G M:List (List aa)}{ok ok':Nat->Prop}:∀(es m:List az) (j a n:Nat) (H:ad),(∀e∈es,mR 92 B e)->dF B es->cU H ok es (G.drop (K+j))->cU H ok' m (M.drop (O+j))->es.length=m.length->a=j+es.length->a<=1000000000000->H.get L=I (.row am 11 G)->H.get Q=I (.row an 11 M)->es.length<n->
  W (mv (al P aj) N n (.ax Q O a 11 lc) (.func (.func 92) [] []) (.ax L K a 11 kc) (J U a) (J U j) H) λr H'=>r= D (eX es m)/\aw H H'
 |_,_,_,_,0,_,_,_,_,_,_,_,_,_,_,p=>ae
 |[],[],j,a,n+1,H,au,l,s,w,d,o,x,i,k,p=>by
  have z:¬((j:Int)<(a:Int)):=by simp at o;omega
  simp(disch:=try exact ah)only[mv,p5,sn,ai,z,decide_false];exact aD.2 ⟨by rw[eX],.refl _⟩
 |[],_::_,j,a,n+1,H,au,l,s,w,d,o,x,i,k,p=>by simp at d
 |_::_,[],j,a,n+1,H,au,l,s,w,d,o,x,i,k,p=>by simp at d
 |e::es,f::m,j,a,n+1,H,au,l,s,w,d,o,x,i,k,p=>by
  simp only[AB]at d o p;have z:(j:Int)<(a:Int):=ae;have aG:(0:Int)<=(j:Int):=ae;have aq:((j:Int)).toNat=j:=ae;obtain⟨cs,T,C,V⟩:=s.cons;obtain⟨y,ab,E,g6⟩:=w.cons;obtain⟨_,aX,ao,ap⟩:=C.cells;cases aX;obtain⟨_,ar,ay,aB⟩:=E.cells;cases ar;have aC:lm 11 cs=cs:=ef ae;have aE:lm 11 y=y:=ef ae;have aH:=ad.aF i;have aI:=ad.aF k;rw[dF]at l;have ak:IntKind.i64.wrap ((j:Int)+1)=((j+1:Nat):Int):=by rw[wrap_i64 ae ae];omega
  simp(disch:=try exact ah)only[mv,sn,de,ai,z,decide_true,aq,i,k,T,ab,aC,aE,ao,ap,ay,aB,gh];have A:=(aw.push H (.row X 11 [cs])).a1 (.row X 11 [y]);refine Pc ?_;refine aA (au e (by simp) l.1 f _ _ _ ok ok' (C.av A) (E.av A)) ?_;rintro _ R ⟨rfl,c⟩;refine⟨c.1,?_⟩;replace c:=A.trans c;cases F:iY e f with
  |false=>
   simp(disch:=try exact ah)only[aR,mn];exact aD.2 ⟨by rw[eX,F,hi],c⟩
  |true=>
   simp(disch:=try exact ah)only[aR,b8,tu,ak];refine(Ke es m (j+1) a n R (λS af=>au S (by simp[af])) l.2 (cU.aP (cH.av c λ_ h=>h) _ _ V) (cU.aP (cH.av c λ_ h=>h) _ _ g6) ae ae x (c.get i) (c.get k) ae).mono ?_;rintro v H' ⟨rfl,q⟩;exact⟨by rw[eX,F,vw],c.trans q⟩
def JR{B:Nat}(A:B<=1000000000000){H:ad}{ok ok':Nat->Prop}{ks a:List az}{kv aM:aa}(au:∀e∈ks,mR 92 B e)(p:ks.length<=B/\dF B ks)(d:bW H ok ks kv)(i:bW H ok' a aM):W (al P aj 91 [kv,aM,.func (.func 92) [] []] H) λr H'=>r= D (eX ks a)/\aw H H':=by
 refine bt (λ_=>Xz (ks.length+1)) ?_;have s:∀m k:Nat,m≠k->((m:Int) != (k:Int))=true:=λm k h=>by simp;omega
 have v:∀m:Nat,((m:Int) != (m:Int))=false:=λm=>by simp
 have z0:((0:Nat):Int)=0:=rfl;have aQ:=d.jM;have c2:=i.jM;by_cases c:ks.length=a.length
 ·by_cases j:ks.length=0
  ·have q:a.length=0:=ae;obtain rfl:=pq.1 j;obtain rfl:=pq.1 q;simp only[mv,p5,sn,sl,ai,aQ,c2,z0,bne_self_eq_false,Int.lt_irrefl,decide_false];exact aD.2 ⟨by rw[eX],.refl _⟩
  ·obtain⟨G,C,E,L,y,rfl,br,l,w⟩:=d.row j;obtain⟨K,i2,F,M,z,rfl,bI,n,x⟩:=i.row ae;rw[<-c];simp only[sl,bU,aR,cX,b8,v ks.length];exact Ke ks a 0 ks.length (ks.length+1) H au p.2 w x c ae ae l n ae
 ·have o:=s _ _ c;simp only[sl,bU,aR,b8,aQ,c2,o];exact aD.2 ⟨by rw[C0 _ _ c],.refl _⟩
def M2{B:Nat}(h:B<=1000000000000):∀(e:az),mR 92 B e
 | .mk a ks=>by
  intro i f v w H ok ok' c d;cases f with|mk b k=>
  rw[gq]at c d;obtain⟨kv,rfl,c⟩:=c;obtain⟨aM,rfl,d⟩:=d;rw[c6]at i;have au:∀e∈ks,mR 92 B e:=λe j=>M2 h e
  exact aao c.db d.db λH' p=>JR h au i (c.av p) (d.av p)
 termination_by e=>SizeOf.sizeOf e
 decreasing_by exact az.MR j
def c6.leaf{B:Nat}(a:bY):c6 B (.mk a []):=by rw[c6,dF];exact⟨BC _,trivial⟩
def c6.one{B:Nat}(c:2<=B)(a:bY){e:az}(h:c6 B e):c6 B (.mk a [e]):=by
 rw[c6,dF,dF];exact⟨by simp;omega,h,trivial⟩
def c6.two{B:Nat}(c:2<=B)(a:bY){e f:az}(h:c6 B e)(aU:c6 B f):c6 B (.mk a [e,f]):=by
 rw[c6,dF,dF,dF];exact⟨by simp;omega,h,aU,trivial⟩
def dF.append{B:Nat}{e:az}(h:c6 B e):∀{l:List az},dF B l->dF B (l++[e])
 |[],_=>by simp only[List.nil_append];rw[dF,dF];exact⟨h,trivial⟩
 |x::xs,ak=>by
  rw[dF]at ak;simp only[List.cons_append];rw[dF];exact⟨ak.1,dF.append h ak.2⟩
structure O_(T:List Tok)(B n:Nat):Prop where
 row:∀lev s p,fl T n lev s=some p->c6 B p.1
 gW:∀lev e s p,c6 B e->gW T n lev e s=some p->c6 B p.1
 unary:∀s p,i1 T n s=some p->c6 B p.1
 sign:∀x k s p,j4 T n x k s=some p->c6 B p.1
 chain:∀s p,jL T n s=some p->c6 B p.1
 fs:∀e s p,c6 B e->fs T n e s=some p->c6 B p.1
 single:∀b c s p,gm T n b c s=some p->c6 B p.1
 first:∀s p,ic T n s=some p->c6 B p.1
 name:∀s p,k_ T n s=some p->c6 B p.1
 fresh:∀s p,kh T n s=some p->c6 B p.1
 list:∀s p,jZ T n s=some p->p.1.length<=B/\dF B p.1
 hg:∀l s p,l.length+n<=B->dF B l->hg T n l s=some p->p.1.length<=B/\dF B p.1
def ew{c d:Type}{x:Option c}{f:c->Option d}{b:d}(h:x.bind f=I b):∃a,x=I a/\f a=I b:=ct.1 h
def Dc(T:List Tok)(B:Nat):∀n,n+2<=B->O_ T B n
 |0,_=>by
  constructor<;>intros<;>rename_i h<;>cases h
 |n+1,v=>by
  have a:=Dc T B n ae;have m:2<=B:=ae;refine⟨?_,?_,?_,?_,?_,?_,?_,?_,?_,?_,?_,?_⟩
  ·intro lev s p h;simp only[fl]at h;split at h
   ·exact a.unary _ _ h
   ·obtain⟨q,d,i⟩:=ew h;exact a.gW _ _ _ _ (a.row _ _ _ d) i
  ·intro lev e s p j h;simp only[Go.Proofs.YtghmbpmaafnodaaGreatDoor.gW]at h;split at h
   ·cases h;exact j
   ·obtain⟨q,d,i⟩:=ew h;exact a.gW _ _ _ _ (c6.two m _ j (a.row _ _ _ d)) i
  ·intro s p h;simp only[i1,kl]at h;split at h
   ·exact a.sign _ _ _ _ h
   ·split at h
    ·exact a.sign _ _ _ _ h
    ·exact a.chain _ _ h
  ·intro x k s p h;simp only[j4,kl]at h;split at h
   ·obtain⟨q,d,i⟩:=ew h;cases i;exact c6.one m _ (a.unary _ _ d)
   ·cases h;exact c6.leaf _
  ·intro s p h;simp only[jL]at h;obtain⟨q,d,i⟩:=ew h;exact a.fs _ _ _ (a.first _ _ d) i
  ·intro e s p j h;simp only[Go.Proofs.YtghmbpmaafnodaaGreatDoor.fs,kl]at h;split at h
   ·split at h
    ·exact a.fs _ _ _ (c6.one m _ j) h
    ·split at h
     ·obtain⟨q,d,i⟩:=ew h;exact a.fs _ _ _ (c6.two m _ j (a.single _ _ _ _ d)) i
     ·cases h;exact j
   ·cases h;exact j
  ·intro b c s p h;simp only[gm,kl]at h;split at h
   ·obtain⟨q,d,i⟩:=ew h;cases i;exact a.row _ _ q d
   ·cases h;exact c6.leaf _
  ·intro s p h;simp only[ic,kl]at h;split at h
   ·cases h;exact c6.leaf _
   ·split at h
    ·cases h;exact c6.leaf _
    ·split at h
     ·exact a.name _ _ h
     ·split at h
      ·split at h
       ·split at h
        ·exact a.single _ _ _ _ h
        ·cases h;exact c6.leaf _
       ·split at h
        ·cases h;exact c6.leaf _
        ·split at h
         ·cases h;exact c6.leaf _
         ·split at h
          ·exact a.fresh _ _ h
          ·split at h
           ·obtain⟨q,d,i⟩:=ew h;cases i;exact c6.one m _ (a.single _ _ _ _ d)
           ·split at h
            ·cases h;exact c6.leaf _
            ·cases h;exact c6.leaf _
      ·cases h;exact c6.leaf _
  ·intro s p h;simp only[k_,kl]at h;split at h
   ·obtain⟨q,d,i⟩:=ew h;cases i;rw[c6];exact a.list _ _ d
   ·cases h;exact c6.leaf _
  ·intro s p h;simp only[kh,kl]at h;split at h
   ·obtain⟨q,d,i⟩:=ew h;cases i;exact c6.one m _ (a.single _ _ _ _ d)
   ·cases h;exact c6.leaf _
  ·intro s p h;simp only[jZ,kl]at h;split at h
   ·split at h
    ·cases h;exact⟨BC _,by rw[dF];trivial⟩
    ·obtain⟨q,d,i⟩:=ew h;exact a.hg _ _ _ (by simp;omega) (by rw[dF,dF];exact⟨a.row _ _ _ d,trivial⟩) i
   ·cases h;exact⟨BC _,by rw[dF];trivial⟩
  ·intro l s p ak o h;simp only[Go.Proofs.YtghmbpmaafnodaaGreatDoor.hg,kl]at h;split at h
   ·obtain⟨q,d,i⟩:=ew h;exact a.hg _ _ _ (by simp;omega) (dF.append (a.row _ _ _ d) o) i
   ·cases h;exact⟨by show l.length<=B;omega,o⟩
def tf(T:List Tok)(s:am):left T s<=T.length:=by unfold left;split<;>omega
def Qv{T:List Tok}(ar:T.length<=20000000)(at_ aY:Int):∃e s a s',fl T 800000000 0 (g1 at_ aY)=I (e,s)/\dm T 800000000 0 (g1 at_ aY)=I (a,s')/\gT a s'=gT e s/\c6 1000000000 (gT e s).1:=by
 obtain⟨p,q,c,i,j,l⟩:=wz (T:=T) ae T.length (g1 at_ aY) (tf _ _) 0 800000000 800000000 ae ae ae;refine⟨p.1,p.2,q.1,q.2,c,i,?_,?_⟩
 ·rcases j with⟨h,rfl⟩|⟨h,d,k⟩
  ·rfl
  ·have aU:¬q.2.an=0:=by rw[d];exact h
   simp only[gT,if_neg h,d,k]
 ·unfold gT;split
  ·exact(Dc T 1000000000 800000000 ae).row _ _ _ c
  ·exact c6.leaf _
section
set_option maxRecDepth 100000
noncomputable section
def pe(am:e)(F:aa)(H:ad):O:=bn H [J U 0,Z [],J U 0,J U 0] λh i=>C (bd F) λaj=>C (j P 112 aj 1) λak=>C (A P i 3 ak) λaJ=>C (w P .lss 3 Y aJ (J U 0)) λa=>S a X i (bP F) λal s=>S a X s (k (bd al)) λB v=>S a X v (k (j P 112 B 1)) λE l=>S a X l (qr (A P l 3 E)) λG x=>S a X x (bP F) λK y=>S a X y (k (bd K)) λL z=>S a X z (k (j P 112 L 0)) λM m=>S a X m (qr (A P m 50 M)) λo n=>S a X n (λq=>et (bK P .empty .len [50] [o]) (bK P n .len [50] [o]) q) λN p=>S a X p (k (w P .geq 3 X G N)) λQ c=>C (bC a (I (D Y)) (I Q)) λR=>aO (I R) (aG c (aB P c 57 h (.agg [J U 0,Z [],J U 0,J U 0])) λd=>C (A P d 57 h) λr=>I (r,d)) (C (bd F) λT=>C (j P 112 T 0) λV=>C (A P c 50 V) λW=>C (bd F) λab=>C (j P 112 ab 1) λae=>C (A P c 3 ae) λaf=>C (bX P 50 W af) λah=>C (A P c 57 ah) λai=>aG c (aB P c 57 h ai) λd=>C (A P d 57 h) λr=>I (r,d))
def VB(N:Nat){F:aa}{H:ad}{r:aa×ad}(h:pe (al P aj) F H=I r):al P aj 123 [F] H=I r:=bu N (S:=λa=>pe a F H) Tryz.func123 (λ_=>by delta pe;kernel_rfl) h
def yJ(i:e)(F:aa)(H:ad):O:=C (bd F) λa=>C (j P 112 a 3) λc=>C (j P 29 c 0) λaJ=>C (A P H 27 aJ) λd=>C (w P .neq 27 Y d (J U 0)) λh=>I (h,H)
def Xh(N:Nat){F:aa}{H:ad}{r:aa×ad}(h:yJ (al P aj) F H=I r):al P aj 75 [F] H=I r:=bu N (S:=λa=>yJ a F H) Tryz.func75 (λ_=>by delta yJ;kernel_rfl) h
def wO(c:e)(F y:aa)(H:ad):O:=i H (c 75 [F] H) λp a=>C (cI .not p) λaJ=>aO (I aJ) (i a (c 123 [F] a) λk d=>C (ca P 57 k 3) λl=>C (bA P 29 [(0,y),(1,l)]) λm=>C (bd F) λn=>C (j P 112 n 3) λo=>aG d (aB P d 29 o m) λh=>I (.tuple [],h)) (I (.tuple [],a))
def Vm(N:Nat){F y:aa}{H:ad}{r:aa×ad}(h:wO (al P aj) F y H=I r):al P aj 104 [F,y] H=I r:=bu N (S:=λa=>wO a F y H) Tryz.func104 (λ_=>by delta wO;kernel_rfl) h
def wN(h:e)(F y Q:aa)(H:ad):O:=i H (h 123 [F] H) λae p=>bn p [J U 0,Z [],J U 0,J U 0] λd l=>aG l (aB P l 57 d ae) λm=>i m (h 75 [F] m) λG x=>C (cI .not G) λa=>S a Y x (k (j P 57 d 0)) λK n=>S a Y n (qr (A P n 3 K)) λL z=>S a Y z (bP y) λM B=>S a Y B (k (w P .eql 3 X L M)) λN E=>C (bC a (I N) (I (D X))) λc=>S c Y E (k (j P 57 d 1)) λR o=>S c Y o (qr (A P o 9 R)) λT q=>S c Y q (bP Q) λV s=>S c Y s (k (w P .eql 9 X T V)) λW v=>C (bC c (I W) (I (D X))) λab=>I (ab,v)
def Vl(N:Nat){F y a:aa}{H:ad}{r:aa×ad}(h:wN (al P aj) F y a H=I r):al P aj 103 [F,y,a] H=I r:=bu N (S:=λc=>wN c F y a H) Tryz.func103 (λ_=>by delta wN;kernel_rfl) h
def w5(c:e)(F y s:aa)(H:ad):O:=i H (c 103 [F,y,s] H) λh a=>C (cI .not h) λk=>aO (I k) (I ((D X),a)) (C (bd F) λl=>C (j P 112 l 1) λm=>C (A P a 3 m) λn=>C (w P .add 3 Y n (J U 1)) λo=>C (bd F) λp=>C (j P 112 p 1) λq=>aG a (aB P a 3 q o) λd=>I ((D Y),d))
def VE(N:Nat){F y a:aa}{H:ad}{r:aa×ad}(h:w5 (al P aj) F y a H=I r):al P aj 126 [F,y,a] H=I r:=bu N (S:=λc=>w5 c F y a H) Tryz.func126 (λ_=>by delta w5;kernel_rfl) h
def wS(c:e)(F y:aa)(H:ad):O:=i H (c 126 [F,J U 4,y] H) λaJ a=>C (cI .not aJ) λh=>aO (I h) (i a (c 104 [F,J U 2] a) λj d=>I (.tuple [],d)) (I (.tuple [],a))
def Vp(N:Nat){F y:aa}{H:ad}{r:aa×ad}(h:wS (al P aj) F y H=I r):al P aj 107 [F,y] H=I r:=bu N (S:=λa=>wS a F y H) Tryz.func107 (λ_=>by delta wS;kernel_rfl) h
def uh(q:e)(F y n:aa)(H:ad):O:=bO H (cg (H).next n) λd a=>C (j P 29 d 0) λaJ=>C (A P a 27 aJ) λo=>C (w P .neq 27 Y o (J U 0)) λp=>aO (I p) (C (A P a 29 d) λh=>C (bd F) λi=>C (j P 112 i 3) λk=>aG a (aB P a 29 k h) λc=>I (.tuple [],c)) (C (bd F) λl=>C (j P 112 l 1) λm=>aG a (aB P a 3 m y) λc=>I (.tuple [],c))
def VX(N:Nat){F y a:aa}{H:ad}{r:aa×ad}(h:uh (al P aj) F y a H=I r):al P aj 154 [F,y,a] H=I r:=bu N (S:=λc=>uh c F y a H) Tryz.func154 (λ_=>by delta uh;kernel_rfl) h
def w_(h:e)(F:aa)(H:ad):O:=bn H [J U 0,J U 0,Z [],Z [],J U 0,aa.ag,J U 0,J U 0,J U 0,J U 0,J U 0] λd n=>i n (h 75 [F] n) λV a=>aO (I V) (aG a (aB P a 103 d (.agg [J U 0,J U 0,Z [],Z [],J U 0,aa.ag,J U 0,J U 0,J U 0,J U 0,J U 0])) λc=>C (A P c 103 d) λr=>I (r,c)) (C (bd F) λK=>C (j P 112 K 0) λs=>C (A P a 50 s) λv=>C (bd F) λL=>C (j P 112 L 1) λw=>C (A P a 3 w) λx=>C (bd F) λM=>C (j P 112 M 2) λy=>C (A P a 3 y) λz=>i a (h 153 [v,x,z] a) λm c=>C (dG m 0) λN=>bn c [J U 0,J U 0,Z [],Z [],J U 0,aa.ag,J U 0,J U 0,J U 0,J U 0,J U 0] λB G=>bn G [J U 0,J U 0] λE o=>aG o (aB P o 103 B N) λp=>C (dG m 1) λQ=>C (dG m 2) λR=>aG p (aB P p 29 E R) λk=>bif ((aZ (A P a 50 s) v&&Y)&&((aZ (A P a 3 w) x&&Y)&&((aZ (A P a 3 y) z&&Y)&&Y)))then(C (A P k 29 E) λS=>i k (h 154 [F,Q,S] k) λW l=>C (A P l 103 B) λT=>aG l (aB P l 103 d T) λq=>C (A P q 103 d) λr=>I (r,q))else u)
def VK(N:Nat){F:aa}{H:ad}{r:aa×ad}(h:w_ (al P aj) F H=I r):al P aj 137 [F] H=I r:=bu N (S:=λa=>w_ a F H) Tryz.func137 (λ_=>by delta w_;kernel_rfl) h
def nD(c:e)(F k af:aa)(H:ad):O:=C (bd F) λK=>C (j P 112 K 1) λL=>C (A P H 3 L) λM=>C (w P .add 3 Y M (J U 1)) λN=>C (bd F) λQ=>C (j P 112 Q 1) λR=>aG H (aB P H 3 R N) λn=>i n (c 107 [F,Z [58]] n) λal p=>i p (c 75 [F] p) λS a=>aO (I S) (aG a (aB P a 43 k (.agg [Z [],J U 0])) λd=>C (A P d 43 k) λr=>I (.tuple [Z [],r],d)) (C (bd F) λT=>C (j P 112 T 0) λv=>C (A P a 50 v) λx=>C (bd F) λV=>C (j P 112 V 1) λy=>C (A P a 3 y) λz=>i a (c 73 [x,z] a) λm d=>C (dG m 0) λW=>bn d [Z [],J U 0] λB G=>bn G [J U 0,J U 0] λE q=>aG q (aB P q 43 B W) λs=>C (dG m 1) λab=>C (dG m 2) λae=>aG s (aB P s 29 E ae) λl=>bif ((aZ (A P a 50 v) x&&Y)&&((aZ (A P a 3 y) z&&Y)&&Y))then(C (A P l 29 E) λah=>i l (c 154 [F,ab,ah] l) λam h=>C (j P 57 af 1) λai=>C (A P h 9 ai) λaj=>C (A P h 43 B) λak=>aG h (aB P h 43 k ak) λo=>C (A P o 43 k) λr=>I (.tuple [aj,r],o))else u)
def Yw(a:e)(N:Nat):∀V H,a7 P a N (L (L (L (n Tryz.f155)))) (p Tryz.f155) [] (p Tryz.f155) V H=nD a (V 0) (V 3) (V 4) H:=by
 refine bm (q _) λV H=> ?_
 delta nD;kernel_rfl
def xD(a:e)(F:aa)(H:ad):O:=bn H [Z [],J U 0] λl h=>i h (a 123 [F] h) λs m=>bn m [J U 0,Z [],J U 0,J U 0] λd k=>aG k (aB P k 57 d s) λc=>C (j P 57 d 0) λo=>C (A P c 3 o) λp=>C (w P .neq 3 Y p (J U 1)) λq=>aO (I q) (i c (a 104 [F,J U 2] c) λv n=>nD a F l d n) (nD a F l d c)
def VY(N:Nat){F:aa}{H:ad}{r:aa×ad}(h:xD (al P aj) F H=I r):al P aj 155 [F] H=I r:=bu N (S:=λa=>xD a F H) Tryz.func155 (λa=>cG ((Q M ((Q M ((Q M (Yw a N) (q _))) (q _))) (q _))) (by delta xD;generalize nD a=c;revert c;refine id ?_;intro c;kernel_rfl)) h
def o8(c:e)(N:Nat)(a:aa)(H:ad):O:=some (a,H)
def XR(a:e)(N:Nat):∀V H,a7 P a N (L (L (L (n Tryz.f105)))) (p Tryz.f105) [] (p Tryz.f105) V H=o8 a N (V 7) H:=by
 refine bm (q _) λV H=> ?_
 delta o8;kernel_rfl
def wQ(c:e)(N:Nat)(o:aa->aa->aa->aa->ad->O)(F y:aa)(m n:aa)(H:ad):O:=i H (c 75 [F] H) λM p=>C (cI .not M) λa=>S a Y p (bP F) λx s=>S a Y s (bP y) λz d=>S a Y d (λq=>cZ d (c 103 [x,J U 4,z] d) q) λA v=>S a Y v (k (cI .not A)) λB h=>C (bC a (I B) (I (D X))) λE=>aO (I E) (jG c h m [] λG j=>bO j (b0 P (j).next 44 1 [(0,G)]) λK l=>i l (c_ P l [44,44] n K) λL w=>o F y m L w) (o8 c N n h)
def o9(a:e)(N:Nat):Nat->aa->aa->aa->aa->ad->O
 |0,_,_,_,_,_=>u
 |n+1,F,y,c,d,H=>wQ a N (o9 a N n) F y c d H
def XQ(a:e)(N:Nat)(h:aa->aa->aa->aa->ad->O):∀V H,a7 P a N (d (d (d (L (L (n Tryz.f105)))))) (λV H=>h (V 0) (V 1) (V 2) (V 7) H) [(0,(λV H=>o8 a N (V 7) H))] (p Tryz.f105) V H=wQ a N h (V 0) (V 1) (V 2) (V 7) H:=by
 refine bm (q _) λV H=> ?_
 delta wQ;generalize o8 a N=c;revert c;refine id ?_;intro c;kernel_rfl
def wP(a:e)(N:Nat)(F y c:aa)(H:ad):O:=o9 a N N F y c aa.ag H
def Vn(N:Nat){F y c:aa}{H:ad}{r:aa×ad}(h:wP (al P aj) N F y c H=I r):al P aj 105 [F,y,c] H=I r:=bu N (S:=λa=>wP a N F y c H) Tryz.func105 (λa=>cG ((Q M ((Q M ((Q M (XR a N) ((cn M ((cY (k:=λm V H=>o9 a N m (V 0) (V 1) (V 2) (V 7) H) M (λV H=>M) (λm=>XQ a N (o9 a N m)))))))) (q _))) (q _))) (by delta wP;generalize o9 a N N=d;revert d;refine id ?_;intro d;kernel_rfl)) h
def yI(d:e)(F:aa)(H:ad):O:=i H (d 103 [F,J U 4,Z [123]] H) λaJ a=>C (cI .not aJ) λae=>aO (I ae) (i a (d 104 [F,J U 2] a) λai c=>I (aa.ag,c)) (C (bd F) λn=>C (j P 112 n 2) λo=>C (A P a 3 o) λp=>C (w P .geq 3 Y p (J U 50)) λq=>aO (I q) (i a (d 104 [F,J U 4] a) λaf c=>I (aa.ag,c)) (C (bd F) λs=>C (j P 112 s 1) λv=>C (A P a 3 v) λx=>C (w P .add 3 Y x (J U 1)) λy=>C (bd F) λz=>C (j P 112 z 1) λB=>aG a (aB P a 3 B y) λc=>C (bd F) λE=>C (j P 112 E 2) λG=>C (A P c 3 G) λK=>C (w P .add 3 Y K (J U 1)) λL=>C (bd F) λM=>C (j P 112 M 2) λN=>aG c (aB P c 3 N L) λk=>i k (d 105 [F,Z [125],(.func (.func 106) [F] [])] k) λQ h=>C (bd F) λR=>C (j P 112 R 2) λS=>C (A P h 3 S) λT=>C (w P .sub 3 Y T (J U 1)) λV=>C (bd F) λW=>C (j P 112 W 2) λab=>aG h (aB P h 3 ab V) λl=>i l (d 107 [F,Z [125]] l) λah m=>I (Q,m)))
def Xg(N:Nat){F:aa}{H:ad}{r:aa×ad}(h:yI (al P aj) F H=I r):al P aj 74 [F] H=I r:=bu N (S:=λa=>yI a F H) Tryz.func74 (λ_=>by delta yI;kernel_rfl) h
def nt(k:e)(F i:aa)(o v:aa)(H:ad):O:=jG k H v [F] λm l=>bn l [J U 0,Z [],Z [],J U 0,aa.ag,aa.ag,aa.ag,J U 0,J U 0] λaJ d=>aG d (aB P d 98 aJ m) λa=>C (j P 57 o 3) λn=>C (A P a 3 n) λp=>C (j P 98 aJ 6) λq=>aG a (aB P a 3 q p) λc=>C (A P c 98 aJ) λs=>aG c (aB P c 98 i s) λh=>C (A P h 98 i) λr=>I (r,h)
def XS(a:e)(N:Nat):∀V H,a7 P a N (L (L (L (L (n Tryz.f106))))) (p Tryz.f106) [] (p Tryz.f106) V H=nt a (V 0) (V 2) (V 3) (V 4) H:=by
 refine bm (q _) λV H=> ?_
 delta nt;kernel_rfl
def wR(d:e)(F:aa)(H:ad):O:=bn H [J U 0,Z [],Z [],J U 0,aa.ag,aa.ag,aa.ag,J U 0,J U 0] λm n=>i n (d 123 [F] n) λN q=>bn q [J U 0,Z [],J U 0,J U 0] λc o=>aG o (aB P o 57 c N) λh=>C (j P 57 c 0) λQ=>C (A P h 3 Q) λv=>C (w P .eql 3 Y v (J U 3)) λx=>aO (I x) (i h (d 125 [] h) λy a=>C (j P 57 c 1) λk=>C (A P a 9 k) λl=>C (h_ P a 144 y l X) λp=>bif ((aZ (A P h 9 k) l&&aZ (A P a 9 k) l)&&Y)then(C (w P .neq 143 Y p aa.nilFunc) λz=>aO (I z) (C (bd F) λB=>C (j P 112 B 1) λE=>C (A P a 3 E) λG=>C (w P .add 3 Y G (J U 1)) λK=>C (bd F) λL=>C (j P 112 L 1) λM=>aG a (aB P a 3 M K) λs=>nt d F m c p s) (nt d F m c (.func (.func 124) [] []) a))else u) (nt d F m c (.func (.func 124) [] []) h)
def Vo(N:Nat){F:aa}{H:ad}{r:aa×ad}(h:wR (al P aj) F H=I r):al P aj 106 [F] H=I r:=bu N (S:=λa=>wR a F H) Tryz.func106 (λa=>cG ((Q M ((Q M ((Q M ((Q M (XS a N) (q _))) (q _))) (q _))) (q _))) (by delta wR;generalize nt a=c;revert c;refine id ?_;intro c;kernel_rfl)) h
def w4(l:e)(H:ad):O:=bO H (I (.map (H).next,.map [])) λy a=>aG a (fr P a 144 y (Z [118,97,114]) (.func (.func 139) [] [])) λc=>aG c (fr P c 144 y (Z [108,101,116]) (.func (.func 140) [] [])) λd=>aG d (fr P d 144 y (Z [105,102]) (.func (.func 141) [] [])) λh=>aG h (fr P h 144 y (Z [119,104,105,108,101]) (.func (.func 142) [] [])) λi=>aG i (fr P i 144 y (Z [114,101,116,117,114,110]) (.func (.func 143) [] [])) λj=>aG j (fr P j 144 y (Z [112,114,105,110,116]) (.func (.func 144) [] [])) λk=>I (y,k)
def VD(N:Nat){H:ad}{r:aa×ad}(h:w4 (al P aj) H=I r):al P aj 125 [] H=I r:=bu N (S:=λa=>w4 a H) Tryz.func125 (λ_=>by delta w4;kernel_rfl) h
def xa(c:e)(F:aa)(H:ad):O:=bn H [J U 0,Z [],Z [],J U 0,aa.ag,aa.ag,aa.ag,J U 0,J U 0] λl d=>i d (c 155 [F] d) λn o=>C (dG n 0) λs=>C (dG n 1) λv=>bn o [Z [],J U 0] λm h=>aG h (aB P h 43 m v) λj=>i j (c 107 [F,Z [59]] j) λw a=>C (A P a 43 m) λp=>C (bA P 98 [(0,(J U 1)),(1,s),(2,p)]) λq=>aG a (aB P a 98 l q) λk=>C (A P k 98 l) λr=>I (r,k)
def VM(N:Nat){F:aa}{H:ad}{r:aa×ad}(h:xa (al P aj) F H=I r):al P aj 139 [F] H=I r:=bu N (S:=λa=>xa a F H) Tryz.func139 (λ_=>by delta xa;kernel_rfl) h
def xc(a:e)(F:aa)(H:ad):O:=bn H [J U 0,Z [],Z [],J U 0,aa.ag,aa.ag,aa.ag,J U 0,J U 0] λp d=>i d (a 155 [F] d) λv w=>C (dG v 0) λL=>C (dG v 1) λy=>bn w [Z [],J U 0] λq k=>aG k (aB P k 43 q y) λl=>i l (a 107 [F,Z [61]] l) λM m=>i m (a 137 [F] m) λz x=>bn x [J U 0,J U 0,Z [],Z [],J U 0,aa.ag,J U 0,J U 0,J U 0,J U 0,J U 0] λs n=>aG n (aB P n 103 s z) λo=>i o (a 107 [F,Z [59]] o) λN c=>C (A P c 43 q) λB=>C (A P c 103 s) λE=>bO c (b0 P (c).next 96 1 [(0,E)]) λG h=>C (bA P 98 [(0,(J U 2)),(1,L),(2,B),(3,G)]) λK=>aG h (aB P h 98 p K) λj=>C (A P j 98 p) λr=>I (r,j)
def VO(N:Nat){F:aa}{H:ad}{r:aa×ad}(h:xc (al P aj) F H=I r):al P aj 140 [F] H=I r:=bu N (S:=λa=>xc a F H) Tryz.func140 (λ_=>by delta xc;kernel_rfl) h
def pn(i:e)(c h:aa)(H:ad):O:=C (A P H 98 h) λd=>aG H (aB P H 98 c d) λa=>C (A P a 98 c) λr=>I (r,a)
def Yp(a:e)(N:Nat):∀V H,a7 P a N (L (L (L (n Tryz.f141)))) (p Tryz.f141) [] (p Tryz.f141) V H=pn a (V 2) (V 3) H:=by
 refine bm (q _) λV H=> ?_
 delta pn;kernel_rfl
def xd(a:e)(F:aa)(H:ad):O:=bn H [J U 0,Z [],Z [],J U 0,aa.ag,aa.ag,aa.ag,J U 0,J U 0] λp h=>i h (a 137 [F] h) λy k=>bO k (b0 P (k).next 96 1 [(0,y)]) λaJ l=>i l (a 74 [F] l) λz q=>C (bA P 98 [(0,(J U 5)),(3,aJ),(4,z)]) λA=>bn q [J U 0,Z [],Z [],J U 0,aa.ag,aa.ag,aa.ag,J U 0,J U 0] λc m=>aG m (aB P m 98 c A) λn=>i n (a 126 [F,J U 3,Z [101,108,115,101]] n) λv d=>aO (I v) (i d (a 74 [F] d) λw o=>C (j P 98 c 5) λx=>aG o (aB P o 44 x w) λs=>pn a p c s) (pn a p c d)
def VP(N:Nat){F:aa}{H:ad}{r:aa×ad}(h:xd (al P aj) F H=I r):al P aj 141 [F] H=I r:=bu N (S:=λa=>xd a F H) Tryz.func141 (λa=>cG ((Q M ((Q M ((Q M (Yp a N) (q _))) (q _))) (q _))) (by delta xd;generalize pn a=c;revert c;refine id ?_;intro c;kernel_rfl)) h
def xe(a:e)(F:aa)(H:ad):O:=bn H [J U 0,Z [],Z [],J U 0,aa.ag,aa.ag,aa.ag,J U 0,J U 0] λl c=>i c (a 137 [F] c) λm d=>bO d (b0 P (d).next 96 1 [(0,m)]) λn h=>i h (a 74 [F] h) λo j=>C (bA P 98 [(0,(J U 6)),(3,n),(4,o)]) λp=>aG j (aB P j 98 l p) λk=>C (A P k 98 l) λr=>I (r,k)
def VQ(N:Nat){F:aa}{H:ad}{r:aa×ad}(h:xe (al P aj) F H=I r):al P aj 142 [F] H=I r:=bu N (S:=λa=>xe a F H) Tryz.func142 (λ_=>by delta xe;kernel_rfl) h
def po(h:e)(F d k:aa)(H:ad):O:=i H (h 107 [F,Z [59]] H) λl a=>C (A P a 98 k) λj=>aG a (aB P a 98 d j) λc=>C (A P c 98 d) λr=>I (r,c)
def Yq(a:e)(N:Nat):∀V H,a7 P a N (L (L (L (n Tryz.f143)))) (p Tryz.f143) [] (p Tryz.f143) V H=po a (V 0) (V 2) (V 3) H:=by
 refine bm (q _) λV H=> ?_
 delta po;kernel_rfl
def xf(a:e)(F:aa)(H:ad):O:=bn H [J U 0,Z [],Z [],J U 0,aa.ag,aa.ag,aa.ag,J U 0,J U 0] λn o=>bn o [J U 0,Z [],Z [],J U 0,aa.ag,aa.ag,aa.ag,J U 0,J U 0] λc h=>aG h (aB P h 98 c (.agg [J U 7,Z [],Z [],J U 0,aa.ag,aa.ag,aa.ag,J U 0,J U 0])) λk=>i k (a 103 [F,J U 4,Z [59]] k) λaJ d=>C (cI .not aJ) λv=>aO (I v) (i d (a 137 [F] d) λw l=>bO l (b0 P (l).next 96 1 [(0,w)]) λq m=>C (j P 98 c 3) λs=>aG m (aB P m 96 s q) λp=>po a F n c p) (po a F n c d)
def VR(N:Nat){F:aa}{H:ad}{r:aa×ad}(h:xf (al P aj) F H=I r):al P aj 143 [F] H=I r:=bu N (S:=λa=>xf a F H) Tryz.func143 (λa=>cG ((Q M ((Q M ((Q M (Yq a N) (q _))) (q _))) (q _))) (by delta xf;generalize po a=c;revert c;refine id ?_;intro c;kernel_rfl)) h
def xg(c:e)(F:aa)(H:ad):O:=bn H [J U 0,Z [],Z [],J U 0,aa.ag,aa.ag,aa.ag,J U 0,J U 0] λm d=>i d (c 137 [F] d) λq o=>bn o [J U 0,J U 0,Z [],Z [],J U 0,aa.ag,J U 0,J U 0,J U 0,J U 0,J U 0] λn h=>aG h (aB P h 103 n q) λj=>i j (c 107 [F,Z [59]] j) λw a=>C (A P a 103 n) λs=>bO a (b0 P (a).next 96 1 [(0,s)]) λv k=>C (bA P 98 [(0,(J U 8)),(3,v)]) λp=>aG k (aB P k 98 m p) λl=>C (A P l 98 m) λr=>I (r,l)
def VS(N:Nat){F:aa}{H:ad}{r:aa×ad}(h:xg (al P aj) F H=I r):al P aj 144 [F] H=I r:=bu N (S:=λa=>xg a F H) Tryz.func144 (λ_=>by delta xg;kernel_rfl) h
def pf(j:e)(F h n:aa)(H:ad):O:=i H (j 107 [F,Z [59]] H) λo a=>C (A P a 103 n) λk=>bO a (b0 P (a).next 96 1 [(0,k)]) λl c=>C (bA P 98 [(0,(J U 9)),(3,l)]) λm=>aG c (aB P c 98 h m) λd=>C (A P d 98 h) λr=>I (r,d)
def X4(a:e)(N:Nat):∀V H,a7 P a N (L (L (L (L (n Tryz.f124))))) (p Tryz.f124) [] (p Tryz.f124) V H=pf a (V 0) (V 2) (V 3) H:=by
 refine bm (q _) λV H=> ?_
 delta pf;kernel_rfl
def w3(a:e)(F:aa)(H:ad):O:=bn H [J U 0,Z [],Z [],J U 0,aa.ag,aa.ag,aa.ag,J U 0,J U 0] λn p=>i p (a 137 [F] p) λL x=>bn x [J U 0,J U 0,Z [],Z [],J U 0,aa.ag,J U 0,J U 0,J U 0,J U 0,J U 0] λh q=>aG q (aB P q 103 h L) λs=>i s (a 103 [F,J U 4,Z [61]] s) λM c=>aO (I M) (C (A P c 103 h) λN=>i c (a 138 [F,N] c) λz l=>aG l (aB P l 98 n z) λd=>C (A P d 98 n) λr=>I (r,d)) (i c (a 103 [F,J U 4,Z [59]] c) λm l=>S m Y l (k (j P 103 h 0)) λB d=>S m Y d (qr (A P d 3 B)) λE y=>S m Y y (k (w P .neq 3 Y E (J U 7))) λG o=>C (bC m (I G) (I (D X))) λK=>aO (I K) (i o (a 104 [F,J U 2] o) λQ v=>pf a F n h v) (pf a F n h o))
def VC(N:Nat){F:aa}{H:ad}{r:aa×ad}(h:w3 (al P aj) F H=I r):al P aj 124 [F] H=I r:=bu N (S:=λa=>w3 a F H) Tryz.func124 (λa=>cG ((Q M ((Q M ((Q M ((Q M (X4 a N) (q _))) (q _))) (q _))) (q _))) (by delta w3;generalize pf a=c;revert c;refine id ?_;intro c;kernel_rfl)) h
def nx(k:e)(F l h:aa)(H:ad):O:=i H (k 107 [F,Z [61]] H) λR n=>i n (k 137 [F] n) λs q=>bn q [J U 0,J U 0,Z [],Z [],J U 0,aa.ag,J U 0,J U 0,J U 0,J U 0,J U 0] λm o=>aG o (aB P o 103 m s) λp=>i p (k 107 [F,Z [59]] p) λS a=>C (j P 103 l 0) λv=>C (A P a 3 v) λx=>C (w P .eql 3 Y x (J U 4)) λy=>aO (I y) (C (j P 103 l 2) λz=>C (A P a 9 z) λB=>C (A P a 103 m) λE=>bO a (b0 P (a).next 96 1 [(0,E)]) λG c=>C (bA P 98 [(0,(J U 3)),(1,B),(3,G)]) λK=>aG c (aB P c 98 h K) λd=>C (A P d 98 h) λr=>I (r,d)) (C (A P a 103 l) λL=>C (A P a 103 m) λM=>bO a (b0 P (a).next 96 2 [(0,L),(1,M)]) λN c=>C (bA P 98 [(0,(J U 4)),(3,N)]) λQ=>aG c (aB P c 98 h Q) λd=>C (A P d 98 h) λr=>I (r,d))
def X_(a:e)(N:Nat):∀V H,a7 P a N (L (L (n Tryz.f138))) (p Tryz.f138) [] (p Tryz.f138) V H=nx a (V 0) (V 3) (V 4) H:=by
 refine bm (q _) λV H=> ?_
 delta nx;kernel_rfl
def ph(h:e)(F y:aa)(H:ad):O:=bO H (cg (H).next y) λa q=>bn q [J U 0,Z [],Z [],J U 0,aa.ag,aa.ag,aa.ag,J U 0,J U 0] λp m=>C (j P 103 a 0) λaJ=>C (A P m 3 aJ) λQ=>C (w P .neq 3 Y Q (J U 4)) λd=>S d Y m (k (j P 103 a 0)) λB n=>S d Y n (qr (A P n 3 B)) λE s=>S d Y s (k (w P .neq 3 Y E (J U 5))) λG v=>C (bC d (I G) (I (D X))) λc=>S c Y v (k (j P 103 a 0)) λK o=>S c Y o (qr (A P o 3 K)) λL x=>S c Y x (k (w P .neq 3 Y L (J U 6))) λM l=>C (bC c (I M) (I (D X))) λN=>aO (I N) (i l (h 104 [F,J U 2] l) λR z=>nx h F a p z) (nx h F a p l)
def VL(N:Nat){F y:aa}{H:ad}{r:aa×ad}(h:ph (al P aj) F y H=I r):al P aj 138 [F,y] H=I r:=bu N (S:=λa=>ph a F y H) Tryz.func138 (λa=>cG ((Q M ((Q M (X_ a N) (q _))) (q _))) (by delta ph;generalize nx a=c;revert c;refine id ?_;intro c;kernel_rfl)) h
def ys(l:e)(F y s:aa)(H:ad):O:=bn H [J U 0,J U 0] λh k=>bU P .max [3,3] [s,J U 0] k λo=>C (bA P 112 [(0,F),(1,y),(2,o)]) λp=>bO k (cg (k).next p) λd m=>i m (l 74 [d] m) λq n=>i n (l 75 [d] n) λv a=>aO (I v) (C (bd d) λw=>C (j P 112 w 3) λx=>C (A P a 29 x) λz=>aG a (aB P a 29 h z) λc=>C (A P c 29 h) λr=>I (.tuple [aa.ag,J U 0,r],c)) (C (bd d) λB=>C (j P 112 B 1) λE=>C (A P a 3 E) λG=>aG a (aB P a 29 h (.agg [J U 0,J U 0])) λc=>C (A P c 29 h) λr=>I (.tuple [q,G,r],c))
def WZ(N:Nat){F y a:aa}{H:ad}{r:aa×ad}(h:ys (al P aj) F y a H=I r):al P aj 55 [F,y,a] H=I r:=bu N (S:=λc=>ys c F y a H) Tryz.func55 (λ_=>by delta ys;kernel_rfl) h
end
end
def vK{H:ad}{r:Nat}{af:aa}{s:am}{T:List Tok}(d:bE H r af s)(aq:eR H af T):W (al P aj 123 [.ptr r 0 0] H) λv H'=>v=(G T s.at_).v/\aw H H':=by
 unfold bE at d;have ak:=ad.aF d;refine bt (λ_=>VB 0) ?_;by_cases a:s.at_<0
 ·simp(disch:=try exact ah)only[pe,de,ai,d,a,decide_true,aD];exact⟨by simp[G,a,Tok.v,Tok.none],aw.push _ _⟩
 ·rcases aq with⟨rfl,rfl⟩|⟨l,i,cap,rfl,k⟩
  ·have c:(0:Int)<=s.at_:=ae;simp(disch:=try exact ah)only[pe,de,ai,d,a,c,decide_true,decide_false,aD];exact⟨by simp[G,a,Tok.v,Tok.none,c],aw.push _ _⟩
  ·by_cases c:(T.length:Int)<=s.at_
   ·simp(disch:=try exact ah)only[pe,de,ai,d,a,c,decide_true,decide_false,aD];exact⟨by simp[G,a,Tok.v,Tok.none,c],aw.push _ _⟩
   ·have e:s.at_.toNat<T.length:=ae;obtain⟨ro,els,h,m⟩:=k.resolve_left (by rintro rfl;simp at e);have n:=ad.aF h;have j:=m s.at_.toNat T[s.at_.toNat] (by simp[e]);simp only[Tok.cells]at j;simp(disch:=try exact ah)only[pe,de,ai,d,a,c,decide_false,aD,h,j];refine⟨?_,aw.push _ _⟩;simp[G,a,c,Tok.v,e]
def qP{H:ad}{r:Nat}{af:aa}{s:am}(a:bE H r af s):W (al P aj 75 [.ptr r 0 0] H) λv H'=>v= D (s.an != 0)/\H'=H:=by
 unfold bE at a;refine bt (λ_=>Xh 0) ?_;simp only[yJ,ai,a];exact aD.2 ⟨rfl,rfl⟩
def qO{H:ad}{r:Nat}{T:List Tok}{af:aa}{s:am}(a:bF H r T af s)(e:Int):W (al P aj 104 [.ptr r 0 0,J U e] H) λv H'=>v= .tuple []/\bs r H H'/\bF H' r T af (bx T e s):=by
 refine bt (λ_=>Vm 0) ?_;have h:=a.rd;have o:=a.ba.one;rw[wO];refine aA (qP h) ?_;rintro _ H1 ⟨rfl,rfl⟩;refine⟨aV _,?_⟩;by_cases c:s.an=0
 ·rw[show bx T e s={s with an:=e,bl:=(G T s.at_).pos} by simp[bx,c]];simp only[aR,c,bne_self_eq_false];refine aA (vK h a.ba) ?_;rintro _ k ⟨rfl,d⟩;refine⟨d.1,?_⟩;have i:bE k r af s:=h.av d;have j:=i;unfold bE at j;simp only[de,ai,Tok.v,j];obtain⟨m,n⟩:=eL i {s with an:=e,bl:=(G T s.at_).pos};exact aD.2 ⟨rfl,(d.mut _).trans m,a.mut ((d.mut _).trans m) n⟩
 ·have l:(s.an != 0)=true:=by simpa using c
  rw[show bx T e s=s by simp[bx,c]];simp only[aR,l];exact aD.2 ⟨rfl,bV.refl _ _,a⟩
def qS{H:ad}{r:Nat}{af:aa}{s:am}{T:List Tok}(e:bE H r af s)(aq:eR H af T)(k:Int)(x:List UInt8):W (al P aj 103 [.ptr r 0 0,J U k,Z x] H) λv H'=>v= D (a8 T s k x)/\aw H H':=by
 refine bt (λ_=>Vl 0) ?_;rw[wN];refine aA (vK e aq) ?_;rintro _ H1 ⟨rfl,c⟩;refine⟨c.1,?_⟩;simp only[de,ai,Tok.v];refine aA (qP (e.av (c.a1 _))) ?_;rintro _ j ⟨rfl,rfl⟩;refine⟨aV _,?_⟩;by_cases a:s.an=0
 ·by_cases d:(G T s.at_).kind=k
  ·simp only[ai,aD,a,d,bne_self_eq_false,mn,beq_self_eq_true];exact⟨by simp[a8,a,d],c.a1 _⟩
  ·have i:((G T s.at_).kind==k)=false:=by simpa using d
   simp only[ai,aD,a,i,bne_self_eq_false,mn];exact⟨by simp[a8,d],c.a1 _⟩
 ·have h:(s.an != 0)=true:=by simpa using a
  simp only[ai,aD,h,tu];exact⟨by simp[a8,a],c.a1 _⟩
def Jo{H:ad}{r:Nat}{T:List Tok}{af:aa}{s:am}(a:bF H r T af s)(k:Int)(x:List UInt8):W (al P aj 126 [.ptr r 0 0,J U k,Z x] H) λv H'=>v= D (cK T k x s).1/\bs r H H'/\bF H' r T af (cK T k x s).2:=by
 refine bt (λ_=>VE 0) ?_;have j:=a.ba.one;rw[w5];refine aA (qS a.rd a.ba k x) ?_;rintro _ H1 ⟨rfl,c⟩;refine⟨c.1,?_⟩;have e:=a.rd.av c;have h:=e;unfold bE at h;cases d:a8 T s k x with
 |false=>
  rw[show cK T k x s=(X,s) by simp[cK,d]];simp only[ai,mn];exact aD.2 ⟨rfl,c.mut _,a.av c⟩
 |true=>
  rw[show cK T k x s=(Y,ao s) by simp[cK,d]];simp only[de,fg,ai,h,tu];obtain⟨m,i⟩:=eL e (ao s);exact aD.2 ⟨rfl,(c.mut _).trans m,a.mut ((c.mut _).trans m) i⟩
def k7{H:ad}{r:Nat}{T:List Tok}{af:aa}{s:am}(h:bF H r T af s)(x:List UInt8):W (al P aj 107 [.ptr r 0 0,Z x] H) λv H'=>v= .tuple []/\bs r H H'/\bF H' r T af (bD T x s).2:=by
 refine bt (λ_=>Vp 0) ?_;rw[wS];refine aA (Jo h 4 x) ?_;rintro _ H1 ⟨rfl,d,c⟩;refine⟨d.1,?_⟩;cases a:a8 T s 4 x with
 |false=>
  rw[show cK T 4 x s=(X,s) by simp[cK,a]]at c ⊢;rw[show bD T x s=(X,bx T 2 s) by simp[bD,a]];simp only[ai,mn];refine aA (qO c 2) ?_;rintro _ j ⟨rfl,e,i⟩;refine⟨e.1,?_⟩;exact aD.2 ⟨rfl,d.trans e,i⟩
 |true=>
  rw[show cK T 4 x s=(Y,ao s) by simp[cK,a]]at c ⊢;rw[show bD T x s=(Y,ao s) by simp[bD,a]];simp only[ai,tu];exact aD.2 ⟨rfl,d,c⟩
def ki(at_ e a:Int)(s:am):am:=if e≠0 then {s with an:=e,bl:=a}else {s with at_:=at_}
def Jf{H:ad}{r:Nat}{T:List Tok}{af:aa}{s:am}(c:bF H r T af s)(at_ e a:Int):W (al P aj 154 [.ptr r 0 0,J U at_,.agg [J U e,J U a]] H) λv H'=>v= .tuple []/\bs r H H'/\bF H' r T af (ki at_ e a s):=by
 refine bt (λ_=>VX 0) ?_;have p:=c.ba.one;have ak:=c.rd.lt;have o:∀l,cg l (.agg [J U e,J U a])=I (.ptr l 0 0,.row X 2 [[J U e,J U a]]):=λl=>ei l _ rfl
 have d:=aw.push H (.row X 2 [[J U e,J U a]]);have k:=c.rd.av d;have n:=k;unfold bE at n;by_cases h:e=0
 ·have i:(e != 0)=false:=by simp[h]
  rw[show ki at_ e a s={s with at_:=at_} by simp[ki,h]];obtain⟨m,j⟩:=eL k {s with at_:=at_};simp only[uh,de,fg,ai,o,i,n];exact aD.2 ⟨rfl,(d.mut _).trans m,c.mut ((d.mut _).trans m) j⟩
 ·have i:(e != 0)=true:=by simpa using h
  rw[show ki at_ e a s={s with an:=e,bl:=a} by simp[ki,h]];obtain⟨m,j⟩:=eL k {s with an:=e,bl:=a};simp only[uh,de,ai,o,i,n];exact aD.2 ⟨rfl,(d.mut _).trans m,c.mut ((d.mut _).trans m) j⟩
def eR.same{H:ad}{v:aa}{T:List Tok}(h:eR H v T):aZ (I v) v=true:=by
 rcases h with⟨rfl,_⟩|⟨l,i,cap,rfl,_⟩
 ·exact B_
 ·exact l3 _ _ _ _ _
def Rb{T:List Tok}{s a:am}{e:az}(d:s.an=0)(h:fl T 800000000 0 (g1 s.at_ s.aY)=I (e,a)):cv T s=((gT e a).1,ki (gT e a).2.1 (gT e a).2.2.1 (gT e a).2.2.2 s):=by
 unfold cv;rw[if_neg (by simp[d]),h];by_cases c:a.an=0
 ·simp[gT,ki,c]
 ·simp[gT,ki,c]
def oH{H:ad}{r:Nat}{T:List Tok}{af:aa}{s:am}(ar:T.length<=20000000)(a:bF H r T af s):W (al P aj 137 [.ptr r 0 0] H) (dS H r T af (cv T s).1 (cv T s).2):=by
 refine bt (λ_=>VK 0) ?_;have ak:=a.rd.lt;have K:=a.ba.one;have j:=aw.push H (.row X 11 [[J U 0,J U 0,Z [],Z [],J U 0,.ag,J U 0,J U 0,J U 0,J U 0,J U 0]]);simp(disch:=try exact ah)only[w_,de,ai];refine aA (qP (a.rd.av j)) ?_;rintro _ H1 ⟨rfl,rfl⟩;refine⟨aV _,?_⟩;have i:=a.av j;by_cases h:s.an=0
 ·obtain⟨e,F,-,-,x,-,-,-⟩:=Qv ar s.at_ s.aY;rw[Rb h x];have m:=i.rd;unfold bE at m;simp(disch:=try exact ah)only[ai,h,bne_self_eq_false,m];refine aA (Uh ae i.ba s.at_ s.aY x) ?_;rintro _ p ⟨v,rfl,o,d⟩;refine⟨d.1,?_⟩;have bo:=d.1;simp only[ad.bb]at bo;obtain⟨cs,rfl,y,br⟩:=o.cells;have C:=a.ba.same;generalize gT e F=q at o ⊢;have t1:lm 11 cs=cs:=ef ae;simp(disch:=try exact ah)only[de,ai,ad.gU,y,br,gh,m,C];have k:=(aw.push p (.row X 11 [cs])).a1 (.row X 2 [[J U q.2.2.1,J U q.2.2.2]]);refine aA (Jf ((i.av d).av k) q.2.1 q.2.2.1 q.2.2.2) ?_
  rintro _ z ⟨rfl,c,E⟩;refine⟨c.1,?_⟩;have b3:=c.1;simp only[ad.bb]at b3;have A:z.get p.next=I (.row X 11 [cs]):=c.get (by simp(disch:=try exact ah)only[b7]) ae
  have w:=c.get (k.get (d.get (ad.a_ H (.row X 11 [[J U 0,J U 0,Z [],Z [],J U 0,.ag,J U 0,J U 0,J U 0,J U 0,J U 0]])))) ae;have L:=ad.aF w;simp(disch:=try exact ah)only[ai,w,A,y,br,t1,gh];refine aD.2 (dS.ret a ((((j.trans d).trans k).mut _).trans c) E.rd (aV _) (n:=H.next+1) ((o.mut (r:=r) (ok':=aW (H.next+1)) ((k.mut _).trans c) (by unfold aW;simp only[ad.bb];omega) λl ak=>by unfold aW at*;simp only[ad.bb]at ak;omega)) (ij _) _)
 ·have B:(s.an != 0)=true:=by simpa using h
  have G:=ad.a_ H (.row X 11 [[J U 0,J U 0,Z [],Z [],J U 0,.ag,J U 0,J U 0,J U 0,J U 0,J U 0]]);rw[show cv T s=(.zero,s) by simp[cv,h]];simp(disch:=try exact ah)only[de,ai,B];exact aD.2 ⟨j.mut _,i,cb.leaf _ _ {kind:=0}⟩
def TW(T:List Tok)(s:am):hj T s=((YtghmbpmaafnodaaGreatDoor.h0 (cq T ⟨s.at_,0,0,0⟩)).1,ki (YtghmbpmaafnodaaGreatDoor.h0 (cq T ⟨s.at_,0,0,0⟩)).2.1 (YtghmbpmaafnodaaGreatDoor.h0 (cq T ⟨s.at_,0,0,0⟩)).2.2.1 (YtghmbpmaafnodaaGreatDoor.h0 (cq T ⟨s.at_,0,0,0⟩)).2.2.2 s):=by
 generalize c:cq T ⟨s.at_,0,0,0⟩=q;by_cases a:q.2.an=0
 ·simp[hj,c,YtghmbpmaafnodaaGreatDoor.h0,ki,a]
 ·simp[hj,c,YtghmbpmaafnodaaGreatDoor.h0,ki,a]
def abC{H0 H:ad}{r:Nat}{T:List Tok}{af:aa}{s0 s:am}(i:bF H0 r T af s0)(K:bs r H0 H)(A:bE H r af s){b:Nat}{x:ay}{k n q:Int}(F:H.get H0.next=I (.row X 2 [[Z [],J U 0]]))(E:H.get b=I (.row X 4 [[J U k,Z x,J U n,J U q]]))(ar:H0.next<b):
  W (nD (al P aj) (.ptr r 0 0) (.ptr H0.next 0 0) (.ptr b 0 0) H) λv H'=>v= .tuple [Z (if(bD T [58] (ao s)).2.an≠0 then[]else x),.agg [Z (if(bD T [58] (ao s)).2.an≠0 then([],0)else(hj T (bD T [58] (ao s)).2).1).1,J U (if(bD T [58] (ao s)).2.an≠0 then([],0)else(hj T (bD T [58] (ao s)).2).1).2]]/\bs r H0 H'/\bF H' r T af (if(bD T [58] (ao s)).2.an≠0 then(bD T [58] (ao s)).2 else(hj T (bD T [58] (ao s)).2).2):=by
 have ak:=i.rd.lt;have az:=i.ba.one;have G:=A;unfold bE at G;have jv:=ad.aF F;have aB:=ad.aF E;have au:=A.lt;obtain⟨m,O⟩:=eL A (ao s);simp(disch:=try exact ah)only[de,fg,ai,nD,G];refine aA (k7 (i.mut (K.trans m) O) [58]) ?_;rintro _ ap ⟨rfl,o,c⟩;refine⟨o.1,?_⟩;generalize (bD T [58] (ao s)).2=j at c ⊢;have w:=o.get (m.get F ae) ae;have bo:=o.get (m.get E ae) ae;have B:=(K.trans m).trans o;simp(disch:=try exact ah)only[ai];refine aA (qP c.rd) ?_;rintro _ aq ⟨rfl,rfl⟩;refine⟨aV _,?_⟩;have aE:=ad.aF w;have aC:=ad.aF bo;by_cases l:j.an=0
 ·have z:=c.rd;unfold bE at z;simp(disch:=try exact ah)only[ai,l,bne_self_eq_false,z];refine aA (D6 c.ba j.at_) ?_;rintro _ C ⟨rfl,e⟩;refine⟨e.1,?_⟩;have y:=TW T j;generalize YtghmbpmaafnodaaGreatDoor.h0 (cq T ⟨j.at_,0,0,0⟩)=a at y ⊢;have R:=c.ba.same;have aH:=e.1;simp(disch:=try exact ah)only[de,ai,ad.gU,gh,z,R];have p:=(aw.push C (.row X 2 [[Z a.1.1,J U a.1.2]])).a1 (.row X 2 [[J U a.2.2.1,J U a.2.2.2]]);refine aA (Jf ((c.av e).av p) a.2.1 a.2.2.1 a.2.2.2) ?_;rintro _ M ⟨rfl,d,S⟩;refine⟨d.1,?_⟩;have V:=d.1;simp only[ad.bb]at V;have g6:=d.get (p.get (e.get w)) ae
  have N:=d.get (p.get (e.get bo)) ae;have ab:M.get C.next=I (.row X 2 [[Z a.1.1,J U a.1.2]]):=d.get (by simp(disch:=try exact ah)only[b7]) ae
  have aG:=ad.aF g6;simp(disch:=try exact ah)only[de,ai,g6,N,ab];have L:=((B.trans (e.mut _)).trans (p.mut _)).trans d;have h:=S.rd;refine aD.2 ⟨by rw[y];rfl,L.bH (.inr (aV _)) _,i.mut (L.bH (.inr (aV _)) _) ?_⟩;simp only[ne_eq,not_true_eq_false,if_false,y];unfold bE at h ⊢;rw[ad.get_set_other ae];exact h
 ·have Q:(j.an != 0)=true:=by simpa using l
  simp(disch:=try exact ah)only[de,ai,Q,w];have h:=c.rd;refine aD.2 ⟨by simp[l],B.bH (.inr (aV _)) _,i.mut (B.bH (.inr (aV _)) _) ?_⟩;simp only[ne_eq,l,not_false_eq_true,if_true];unfold bE at h ⊢;rw[ad.get_set_other ae];exact h
def Jp{H:ad}{r:Nat}{T:List Tok}{af:aa}{s:am}(e:bF H r T af s):W (al P aj 155 [.ptr r 0 0] H) λv H'=>v= .tuple [Z (fJ T s).1.1,.agg [Z (fJ T s).1.2.1,J U (fJ T s).1.2.2]]/\bs r H H'/\bF H' r T af (fJ T s).2:=by
 refine bt (λ_=>VY 0) ?_;have ak:=e.rd.lt;have h:=aw.push H (.row X 2 [[Z [],J U 0]]);simp only[xD,de,ai];refine aA (vK (e.rd.av h) (e.ba.av h)) ?_;rintro _ j ⟨rfl,d⟩;refine⟨d.1,?_⟩;have n2:=d.1;simp only[ad.bb]at n2;have l:=aw.push j (.row X 4 [[J U (G T s.at_).kind,Z (G T s.at_).text,J U (G T s.at_).n,J U (G T s.at_).pos]]);have m:=l.get (d.get (ad.a_ H (.row X 2 [[Z [],J U 0]])));have b3:=ad.a_ j (.row X 4 [[J U (G T s.at_).kind,Z (G T s.at_).text,J U (G T s.at_).n,J U (G T s.at_).pos]]);have o:=e.av ((h.trans d).trans l)
 have fin:∀(a:ad) (s1:am),s1=(bif (G T s.at_).kind != 1 then bx T 2 s else s)->bs r H a->bE a r af s1->a.get H.next=I (.row X 2 [[Z [],J U 0]])->a.get j.next=I (.row X 4 [[J U (G T s.at_).kind,Z (G T s.at_).text,J U (G T s.at_).n,J U (G T s.at_).pos]])->
   W (nD (al P aj) (.ptr r 0 0) (.ptr H.next 0 0) (.ptr j.next 0 0) a) λv H'=>v= .tuple [Z (fJ T s).1.1,.agg [Z (fJ T s).1.2.1,J U (fJ T s).1.2.2]]/\bs r H H'/\bF H' r T af (fJ T s).2:=by
  intro a s1 z c x y q;refine(abC e c x y q ae).mono ?_;rintro v H' ⟨rfl,aX,i⟩;have w:(bD T [58] (ao s1)).2=colonS T s:=by rw[z];rfl
  rw[w]at i ⊢;unfold fJ;by_cases p:(colonS T s).an≠0
  ·simp only[if_pos p]at i ⊢;exact⟨trivial,aX,i⟩
  ·simp only[if_neg p]at i ⊢;exact⟨trivial,aX,i⟩
 cases k:((G T s.at_).kind != 1)with
 |true=>
  simp only[de,ai,Tok.v,k];refine aA (qO o 2) ?_;rintro _ a ⟨rfl,c,A⟩;refine⟨c.1,?_⟩;exact fin a _ (by rw[k];rfl) ((((h.trans d).trans l).mut _).trans c) A.rd (c.get m ae) (c.get b3 ae)
 |false=>
  simp only[de,ai,Tok.v,k];exact fin _ _ (by rw[k];rfl) (((h.trans d).trans l).mut _) o.rd m b3
