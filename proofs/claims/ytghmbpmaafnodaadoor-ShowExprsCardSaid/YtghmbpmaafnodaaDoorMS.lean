/-
  Texts of one proof, laid together: V3 Rh Ri Rj Rk Rl Rm Rn Qj Ro N1b Qk ShPb.
-/
import Derived.Test.YtghmbpmaafnodaaDoorMR
set_option linter.unusedVariables false
set_option linter.unusedSimpArgs false
set_option linter.defProp false
open Option renaming some→D,none→C
open Bool renaming true→X,false→U
open Go.bs.aa renaming int→I,str→Z,bool→Y
open Go.IntKind renaming i64→J
namespace Go.Proofs.YtghmbpmaafnodaaDoor
open Go.bs
open Nat (reduceAdd reduceLeDiff)
section
variable {H0 H:ad}{r b3 cY:Nat}{T:List Tok}{ao:aa}{s0 s:au}{t:Tok}
def Pb{a:b9}{cc bv c v:aa}(g:H.get cY=D (.row U 9 [a.cells cc bv c]))(o:v.one=X):aU P H 71 (.ptr cY 0 5) v=D (H.set cY (.row U 9 [a.cells cc v c])):=by
 rw[FI so g rfl (by rw[iB o];rfl) (by rw[iB o,List.all_cons,o];rfl) bf,iB o];rfl
def Pc{a:b9}{cc bv c v:aa}(g:H.get cY=D (.row U 9 [a.cells cc bv c]))(o:v.one=X):aU P H 71 (.ptr cY 0 6) v=D (H.set cY (.row U 9 [a.cells cc bv v])):=by
 rw[FI so g rfl (by rw[iB o];rfl) (by rw[iB o,List.all_cons,o];rfl) bf,iB o];rfl
def MZ(aK:T.length<=20000000)(c:bQ H0 r T ao s0)(b:ff H0 H r b3 cY ao t s (b9.cells {kind:=0,pos:=t.pos} .ar .ar .ar))(bJ:eS H0 ao T):
  W (l3 (aD P ay) (.ptr r 0 0) (.ptr H0.next 0 0) (.ptr b3 0 0) (.ptr cY 0 0) (Y X) H) (fz H0 r T ao ((bif t.text==[108,101,116]then rr T (aF s)else q2 T (aF s)).1.at t.pos) (bif t.text==[108,101,116]then rr T (aF s)else q2 T (aF s)).2):=by
 have a:=c.rd.lt;have M:=c.bJ.one;have ai:=b.dV;have ak:=b.fk;obtain⟨m1,d1⟩:=e7 b.rd (aF s);have i:=(b.mut a m1 d1).set a (b9.cells {kind:=1,pos:=t.pos} .ar .ar .ar);have y:=b.rd;unfold bH at y;have g4:=b.g4;have gT:=b.rd.lt;have fk:=ad.aS g4;simp only[b9.cells]at g4;simp-implicitDefEqProofs(disch:=try exact aj)only[l3,reduceAdd,reduceLeDiff,reduceIte,aw,fe,y,M,g4];refine aP (mM (c.mut i.m i.rd)) ?_;rintro _ S ⟨rfl,m3,N⟩;refine⟨m3.1,?_⟩;have q:=i.mut a m3 N.rd;have j:=q.set a (b9.cells {kind:=1,name:=(bA T (aF s)).1,pos:=t.pos} .ar .ar .ar);have n:=q.g4;have af:=ad.aS n;simp only[b9.cells]at n
 simp-implicitDefEqProofs(disch:=try exact aj)only[reduceAdd,reduceLeDiff,reduceIte,aw,fe,n];refine aP (gO (c.mut j.m j.rd) [58] (by simp)) ?_;rintro _ V ⟨rfl,m5,A⟩;refine⟨m5.1,?_⟩;have G:=j.mut a m5 A.rd;refine aP (rY A) ?_;rintro _ aa ⟨rfl,m6,O⟩;refine⟨m6.1,?_⟩;have k:=G.mut a m6 O.rd;have u:=k.set a (b9.cells {kind:=1,name:=(bA T (aF s)).1,cf:=(cI T (bo T [58] (bA T (aF s)).2)).1.1,cS:=(cI T (bo T [58] (bA T (aF s)).2)).1.2,pos:=t.pos} .ar .ar .ar);have e:=k.g4;have E:=k.g3;have ag:=ad.aS e;simp only[b9.cells]at e;unfold rr q2 et;generalize cI T (bo T [58] (bA T (aF s)).2)=o at*;generalize bA T (aF s)=cp at*
 cases z:t.text==[108,101,116]with
 |false=>
  simp-implicitDefEqProofs(disch:=try exact aj)only[reduceAdd,reduceLeDiff,reduceIte,aw,fe,e,E,z];exact EB c u (cg.nil _ _)
 |true=>
  have d:=u.set a (b9.cells {kind:=2,name:=cp.1,cf:=o.1.1,cS:=o.1.2,pos:=t.pos} .ar .ar .ar);rw[ad.set_set]at d;simp-implicitDefEqProofs(disch:=try exact aj)only[reduceAdd,reduceLeDiff,reduceIte,aw,fe,e,E,z];refine aP (gO (c.mut d.m d.rd) [61] (by simp)) ?_;rintro _ ab ⟨rfl,m8,B⟩;refine⟨m8.1,?_⟩;have w:=d.mut a m8 B.rd;refine aP (pX aK B) ?_;rintro v F ⟨m9,Q,he⟩;refine⟨m9.1,?_⟩;have x:=w.mut a m9 Q.rd;obtain⟨cs,rfl,L,bO⟩:=he.cells;have ax:∀l,b5 P l 41 1 [(0,.agg cs)]=D (.aB l 0 1 11 (D 1),.row U 11 [cs]):=λl=>jM l cs L bO
  have p:=x.g4;have ah:=ad.aS p;have ae:=ad.aS w.g4;obtain⟨K,R⟩:=ff.expr a (c':=b9.cells {kind:=2,name:=cp.1,cf:=o.1.1,cS:=o.1.2,pos:=t.pos} (.aB F.next 0 1 11 (D 1)) .ar .ar) x (cw.a1 (c9.lB λl h=>by unfold bk at*;first|omega|(simp only[ad.ds]at*;omega)) _ _ he) rfl;simp only[b9.cells]at p;simp-implicitDefEqProofs(disch:=try exact aj)only[reduceAdd,reduceLeDiff,reduceIte,aw,fe,ax,p,ad.gd];exact EB c K R
def EP{n:Nat}(ah:sw n)(aK:T.length<=20000000)(q:bQ H0 r T ao s0)(b:ff H0 H r b3 cY ao t s (b9.cells {kind:=0,pos:=t.pos} .ar .ar .ar)){a:Int}{e:aA}{i:List bM}{s1 s2:au}(aQ:a=5\/a=6)(ab:bK T (aF s)=(e,s1))(V:jv T n s1=D (i,s2))
  {Q:aa->ad->Prop} {k:aa->ad->O} (af:∀(bR:ad) (cc bv:aa),ff H0 bR r b3 cY ao t s2 (b9.cells {kind:=a,pos:=t.pos} cc bv .ar)->cg bR (bk (cY+1)) [e] cc->c_ bR (bk (cY+1)) i bv->W (k (.tuple []) bR) Q):
  W (j (b6 (.ptr r 0 0)) λan=>j (aH P 59 an 1) λap=>j (ak P H 3 ap) λav=>j (aq P .add 3 X av (I J 1)) λaz=>j (b6 (.ptr r 0 0)) λaC=>j (aH P 59 aC 1) λaE=>
   a8 H (aU P H 3 aE az) λz=>j (aH P 112 (.ptr cY 0 0) 0) λaG=>a8 z (aU P z 3 aG (I J a)) λA=>aJ A (aD P ay 40 [.ptr r 0 0,I J 0] A) λaI B=>bZ B (b5 P B.next 41 1 [(0,aI)]) λaL E=>
   j (aH P 112 (.ptr cY 0 0) 3) λaM=>a8 E (aU P E 41 aM aL) λF=>aJ F (aD P ay 56 [.ptr r 0 0] F) λaN G=>j (aH P 112 (.ptr cY 0 0) 4) λaO=>a8 G (aU P G 71 aO aN) λS=>k (.tuple []) S) Q:=by
 have c:=q.rd.lt;have ae:=q.bJ.one;have aW:=b.dV;have aX:=b.fk;obtain⟨m1,d1⟩:=e7 b.rd (aF s);have o:=(b.mut c m1 d1).set c (b9.cells {kind:=a,pos:=t.pos} .ar .ar .ar);have L:=b.rd;unfold bH at L;have g4:=b.g4;have gT:=b.rd.lt;have fk:=ad.aS g4;simp only[b9.cells]at g4;simp-implicitDefEqProofs(disch:=try exact aj)only[reduceAdd,reduceLeDiff,reduceIte,aw,fe,L,ae,g4];refine aP (pX aK (q.mut o.m o.rd)) ?_;rintro v d ⟨m4,M,he⟩;refine⟨m4.1,?_⟩;rw[ab]at M he;have y:=o.mut c m4 M.rd;obtain⟨cs,rfl,R,bO⟩:=he.cells;have ax:∀l,b5 P l 41 1 [(0,.agg cs)]=D (.aB l 0 1 11 (D 1),.row U 11 [cs]):=λl=>jM l cs R bO
 have x:=y.g4;have aT:=ad.aS x;have aR:=ad.aS o.g4;obtain⟨p,ai⟩:=ff.expr c (c':=b9.cells {kind:=a,pos:=t.pos} (.aB d.next 0 1 11 (D 1)) .ar .ar) y (cw.a1 (c9.lB λl h=>by unfold bk at*;first|omega|(simp only[ad.ds]at*;omega)) _ _ he) rfl;have am:cY<((d.set cY (.row U 9 [b9.cells {kind:=a,pos:=t.pos} (.aB d.next 0 1 11 (D 1)) .ar .ar])).push (.row U 11 [cs])).next:=ad.aS p.g4
 simp only[b9.cells]at x am;simp-implicitDefEqProofs(disch:=try exact aj)only[reduceAdd,reduceLeDiff,reduceIte,aw,fe,ax,x,ad.gd];refine aP (ah aK (q.mut p.m p.rd) i s2 V) ?_;rintro bv u ⟨m7,ag,K⟩;refine⟨m7.1,?_⟩;have w:=p.mut c m7 ag.rd;have al:=ai.a1 (c9.mut m7 (ok':=bk (cY+1)) (by unfold bk;omega) λ_ h=>h);have N:c_ u (bk (cY+1)) i bv:=K.a1 (en.lB λl h=>by unfold bk at*;simp only[b9.cells]at h;omega);have je:=K.ej;have st:=Pb w.g4 je;have aV:=ad.aS w.g4;simp-implicitDefEqProofs(disch:=try exact aj)only[bh,bx,ec,Nat.zero_add];rw[st,uR (by simp only[ad.ds];omega)];have ks:en u (bk (cY+1)) (u.set cY (.row U 9 [b9.cells {kind:=a,pos:=t.pos} (.aB d.next 0 1 11 (D 1)) bv .ar])) (bk (cY+1)):=en.set _ (by unfold bk;omega) λ_ h=>h
 exact af _ _ _ (w.set c _) (al.a1 ks.ex) (N.a1 ks)
end
def L2{n:Nat}(am:sw n):sB (n+1):=by
 intro H r T ao s aK a e s' h;refine cF (λ_=>MM 0) ?_;have i:=a.rd.lt;have ab:=a.bJ.one;have az:=aO.push H (.row U 9 [[I J 0,Z [],Z [],I J 0,.ar,.ar,.ar,I J 0,I J 0]]);simp-implicitDefEqProofs(disch:=try exact aj)only[r5,reduceAdd,reduceLeDiff,reduceIte,aw,fe];refine aP (hY (a.rd.aM az) (a.bJ.aM az)) ?_;rintro _ o ⟨rfl,N⟩;refine⟨N.1,?_⟩;have n2:=N.1;simp only[ad.bX]at n2;generalize bn:al T s.at_=t;have a_:=((az.trans N).bE (.row U 4 [[I J t.kind,Z t.text,I J t.n,I J t.pos]])).bE (.row U 9 [b9.cells {kind:=0,pos:=t.pos} .ar .ar .ar])
 have bs:=(aO.push o (.row U 4 [[I J t.kind,Z t.text,I J t.n,I J t.pos]])).bE (.row U 9 [b9.cells {kind:=0,pos:=t.pos} .ar .ar .ar]);have b:ff H ((o.push (.row U 4 [[I J t.kind,Z t.text,I J t.n,I J t.pos]])).push (.row U 9 [b9.cells {kind:=0,pos:=t.pos} .ar .ar .ar])) r o.next (o.next+1) ao t s (b9.cells {kind:=0,pos:=t.pos} .ar .ar .ar):=
  ⟨a_.mut _,a.rd.aM a_,bs.get (N.get (ad.bI H _)),by simp-implicitDefEqProofs(disch:=try exact aj)only[dE],ad.bI (o.push _) _,af,af⟩
 simp-implicitDefEqProofs(disch:=try exact aj)only[r5,reduceAdd,reduceLeDiff,reduceIte,aw,fe,Tok.v];simp only[b9.cells]at b;generalize (o.push (.row U 4 [[I J t.kind,Z t.text,I J t.n,I J t.pos]])).push (.row U 9 [[I J 0,Z [],Z [],I J 0,.ar,.ar,.ar,I J t.pos,I J 0]])=aG at b ⊢;have u:ff H aG r o.next (o.next+1) ao t s (b9.cells {kind:=0,pos:=t.pos} .ar .ar .ar):=b
 generalize o.next=b3 at u ⊢
 clear b;simp only[qn,bn,cZ]at h;obtain⟨⟨an,s1⟩,c,aN⟩:=h;simp only[aV,b4]at aN;obtain⟨rfl,rfl⟩:=aN;have F:=a.mut u.m u.rd;have bd:∀(H':ad),aO aG H'->(aY T s [118,97,114]||aY T s [108,101,116])=X->W (l3 (aD P ay) (.ptr r 0 0) (.ptr H.next 0 0) (.ptr b3 0 0) (.ptr (b3+1) 0 0) (Y X) H') (fz H r T ao (an.at t.pos) s1):=by
  intro H' a9 M;rw[M,aW,aV]at c;have:=MZ aK a (u.mut i (a9.mut _) (u.rd.aM a9)) a.bJ;rw[c]at this;exact this
 refine aP (du F.rd F.bJ [118,97,114] (by simp)) ?_;rintro _ be ⟨rfl,K⟩;refine⟨K.1,?_⟩;cases M:aY T s [118,97,114]with
 |true=>
  simp-implicitDefEqProofs(disch:=try exact aj)only[reduceAdd,reduceLeDiff,reduceIte,aw];exact bd be K (by rw[M];rfl)
 |false=>
  simp-implicitDefEqProofs(disch:=try exact aj)only[reduceAdd,reduceLeDiff,reduceIte,aw];refine aP (du (F.aM K).rd (F.aM K).bJ [108,101,116] (by simp)) ?_;rintro _ bf ⟨rfl,bc⟩;refine⟨bc.1,?_⟩;have aA:=K.trans bc;cases hle:aY T s [108,101,116]with
  |true=>exact bd bf aA (by rw[hle,Bool.or_true])
  |false=>
   rw[M,hle,Bool.or_false,aR]at c;simp-implicitDefEqProofs(disch:=try exact aj)only[l3,reduceAdd,reduceLeDiff,reduceIte,aw];have ae:=F.aM aA;refine aP (du ae.rd ae.bJ [105,102] (by simp)) ?_;rintro _ bt ⟨rfl,aC⟩;refine⟨aC.1,?_⟩;have bb:=aA.trans aC;have ag:=ae.aM aC;have R:=u.mut i (bb.mut _) (u.rd.aM bb);have bM:=u.dV;cases aZ:aY T s [105,102]with
   |true=>
    simp only[aZ,aW,cZ]at c;obtain⟨⟨y,s2⟩,aa,z⟩:=c;simp-implicitDefEqProofs(disch:=try exact aj)only[eH,aW];refine EP am aK a R (.inl rfl) (e:=(bK T (aF s)).1) (s1:=(bK T (aF s)).2) rfl aa (k:=λ_ L=>aJ L (aD P ay 23 [.ptr r 0 0,Z [101,108,115,101]] L) _) ?_;intro bR cc bv iW ap aq;have a5:=a.mut iW.m iW.rd;refine aP (du a5.rd a5.bJ [101,108,115,101] (by simp)) ?_;rintro _ aH ⟨rfl,j⟩;refine⟨j.1,?_⟩;have d:=iW.mut i (j.mut _) (iW.rd.aM j);have a6:=ap.aM j;have a7:=aq.a1 (en.aM j λ_ h=>h);cases aX:aY T s2 [101,108,115,101]with
    |false=>
     simp only[aX,aR,aV,b4]at z;obtain⟨rfl,rfl⟩:=z;simp-implicitDefEqProofs(disch:=try exact aj)only[reduceAdd,reduceLeDiff,reduceIte,aw];exact pZ a d a6 a7 (c_.nil _ _)
    |true=>
     simp only[aX,aW,cZ]at z;obtain⟨⟨bi,fc⟩,bm,aQ⟩:=z;simp only[aV,b4]at aQ;obtain⟨rfl,rfl⟩:=aQ;obtain⟨B,V⟩:=e7 d.rd (aF s2);have fC:=d.mut i B V;have E:=d.rd;unfold bH at E;have br:=d.rd.lt;simp-implicitDefEqProofs(disch:=try exact aj)only[reduceAdd,reduceLeDiff,reduceIte,aw,E,ab];refine aP (am aK (a.mut fC.m fC.rd) bi fc bm) ?_;rintro bl w ⟨q,G,aU⟩;refine⟨q.1,?_⟩;have p:=fC.mut i q G.rd;have bF:=ad.aS p.g4;have bG:=ad.aS fC.g4;have st:=Pc p.g4 aU.ej;simp-implicitDefEqProofs(disch:=try exact aj)only[bh,bx,ec,Nat.zero_add];rw[st,uR (by simp only[ad.ds];omega)];have a8:en aH (bk (b3+1+1)) w (bk (b3+1+1)):=en.mut (B.trans q) (by unfold bk;omega) λ_ h=>h
     have ks:en w (bk (b3+1+1)) (w.set (b3+1) (.row U 9 [b9.cells {kind:=5,pos:=t.pos} cc bv bl])) (bk (b3+1+1)):=en.set _ (by unfold bk;omega) λ_ h=>h
     exact pZ a (p.set i _) ((a6.a1 a8.ex).a1 ks.ex) ((a7.a1 a8).a1 ks) ((aU.a1 (en.lB λl h=>by unfold bk at*;omega)).a1 ks)
   |false=>
    simp only[aZ,aR]at c;simp-implicitDefEqProofs(disch:=try exact aj)only[reduceAdd,reduceLeDiff,reduceIte,aw];refine aP (du ag.rd ag.bJ [119,104,105,108,101] (by simp)) ?_;rintro _ bu ⟨rfl,O⟩;refine⟨O.1,?_⟩;have ah:=ag.aM O;have S:=R.mut i (O.mut _) (R.rd.aM O);cases a4:aY T s [119,104,105,108,101]with
    |true=>
     simp only[a4,aW,cZ]at c;obtain⟨⟨y,s2⟩,aa,z⟩:=c;simp only[aV,b4]at z;obtain⟨rfl,rfl⟩:=z;simp-implicitDefEqProofs(disch:=try exact aj)only[eH,aW];refine EP am aK a S (.inr rfl) (e:=(bK T (aF s)).1) (s1:=(bK T (aF s)).2) rfl aa (k:=λ_ L=>gL (aD P ay) (.ptr H.next 0 0) (.ptr (b3+1) 0 0) L) ?_;exactλbR cc bv iW ap aq=>pZ a iW ap aq (c_.nil _ _)
    |false=>
     simp only[a4,aR]at c;simp-implicitDefEqProofs(disch:=try exact aj)only[reduceAdd,reduceLeDiff,reduceIte,aw];refine aP (du ah.rd ah.bJ [114,101,116,117,114,110] (by simp)) ?_;rintro _ bw ⟨rfl,Q⟩;refine⟨Q.1,?_⟩;have ai:=ah.aM Q;have x:=S.mut i (Q.mut _) (S.rd.aM Q);cases a3:aY T s [114,101,116,117,114,110]with
     |true=>
      simp only[a3,aW,aV]at c;obtain⟨m9,d9⟩:=e7 x.rd (aF s);have d:=(x.mut i m9 d9).set i (b9.cells {kind:=7,pos:=t.pos} .ar .ar .ar);have a2:=x.rd;unfold bH at a2;have g8:=x.g4;have bL:=x.rd.lt;have bB:=ad.aS g8;simp only[b9.cells]at g8;simp-implicitDefEqProofs(disch:=try exact aj)only[reduceAdd,reduceLeDiff,reduceIte,aw,fe,a2,ab,g8];refine aP (du d.rd (a.mut d.m d.rd).bJ [59] (by simp)) ?_;rintro _ bg ⟨rfl,aE⟩;refine⟨aE.1,?_⟩;have fC:=d.mut i (aE.mut _) (d.rd.aM aE);unfold xo at c;cases aT:aY T (aF s) [59]with
      |true=>
       simp only[aT,aW,b4]at c;obtain⟨rfl,rfl⟩:=c;simp-implicitDefEqProofs(disch:=try exact aj)only[reduceAdd,reduceLeDiff,reduceIte,aw,Bool.not_true];exact E2 a fC (cg.nil _ _)
      |false=>
       simp only[aT,aR,b4]at c;obtain⟨rfl,rfl⟩:=c;simp-implicitDefEqProofs(disch:=try exact aj)only[reduceAdd,reduceLeDiff,reduceIte,aw,Bool.not_false];refine aP (pX aK (a.mut fC.m fC.rd)) ?_;rintro v w ⟨q,G,he⟩;refine⟨q.1,?_⟩;have p:=fC.mut i q G.rd;obtain⟨cs,rfl,y,bO⟩:=he.cells;have ax:∀l,b5 P l 41 1 [(0,.agg cs)]=D (.aB l 0 1 11 (D 1),.row U 11 [cs]):=λl=>jM l cs y bO
       have A:=p.g4;have bq:=ad.aS A;have bp:=ad.aS fC.g4;obtain⟨nF,au⟩:=ff.expr i (c':=b9.cells {kind:=7,pos:=t.pos} (.aB w.next 0 1 11 (D 1)) .ar .ar) p (cw.a1 (c9.lB λl h=>by unfold bk at*;first|omega|(simp only[ad.ds]at*;omega)) _ _ he) rfl;simp only[b9.cells]at A;simp-implicitDefEqProofs(disch:=try exact aj)only[reduceAdd,reduceLeDiff,reduceIte,aw,fe,ax,A,ad.gd];exact E2 a nF au
     |false=>
      simp only[a3,aR]at c;simp-implicitDefEqProofs(disch:=try exact aj)only[reduceAdd,reduceLeDiff,reduceIte,aw];refine aP (du ai.rd ai.bJ [112,114,105,110,116] (by simp)) ?_;rintro _ aH ⟨rfl,j⟩;refine⟨j.1,?_⟩;have bA:=ai.aM j;have d:=x.mut i (j.mut _) (x.rd.aM j);have g9:=d.g4;have br:=d.rd.lt;have bC:=ad.aS g9;cases a0:aY T s [112,114,105,110,116]with
      |true=>
       simp only[a0,aW,aV]at c;obtain⟨B,V⟩:=e7 d.rd (aF s);have fC:=(d.mut i B V).set i (b9.cells {kind:=8,pos:=t.pos} .ar .ar .ar);have E:=d.rd;unfold bH at E;simp only[b9.cells]at g9;unfold xh at c;simp only[b4]at c;obtain⟨rfl,rfl⟩:=c;simp-implicitDefEqProofs(disch:=try exact aj)only[reduceAdd,reduceLeDiff,reduceIte,aw,fe,E,ab,g9];refine aP (pX aK (a.mut fC.m fC.rd)) ?_;rintro v w ⟨q,G,he⟩;refine⟨q.1,?_⟩;have p:=fC.mut i q G.rd;obtain⟨cs,rfl,y,bO⟩:=he.cells;have ax:∀l,b5 P l 41 1 [(0,.agg cs)]=D (.aB l 0 1 11 (D 1),.row U 11 [cs]):=λl=>jM l cs y bO
       have A:=p.g4;have bq:=ad.aS A;have bp:=ad.aS fC.g4;obtain⟨nF,au⟩:=ff.expr i (c':=b9.cells {kind:=8,pos:=t.pos} (.aB w.next 0 1 11 (D 1)) .ar .ar) p (cw.a1 (c9.lB λl h=>by unfold bk at*;first|omega|(simp only[ad.ds]at*;omega)) _ _ he) rfl;simp only[b9.cells]at A;simp-implicitDefEqProofs(disch:=try exact aj)only[reduceAdd,reduceLeDiff,reduceIte,aw,fe,ax,A,ad.gd];refine aP (gO (a.mut nF.m nF.rd) [59] (by simp)) ?_;rintro _ bz ⟨rfl,av,bo⟩;refine⟨av.1,?_⟩;exact pZ a (nF.mut i av bo.rd) (au.a1 (c9.mut av (by unfold bk;omega) λ_ h=>h)) (c_.nil _ _) (c_.nil _ _)
      |false=>
       simp only[a0,aR,aV]at c;have aI:=g9;simp only[b9.cells]at aI;simp-implicitDefEqProofs(disch:=try exact aj)only[reduceAdd,reduceLeDiff,reduceIte,aw,fe,aI];refine aP (LZ aK (a.mut d.m d.rd) t.pos) ?_;rintro v bg ⟨B,ak,he⟩;refine⟨B.1,?_⟩;have fC:=d.mut i B ak.rd;obtain⟨cs,rfl,y,bO⟩:=he.cells;have ld:List.take 9 cs=cs:=List.take_of_length_le af;have aL:=fC.g2;have bD:=ad.aS aL;rw[c]at he ak;simp-implicitDefEqProofs(disch:=try exact aj)only[reduceAdd,reduceLeDiff,reduceIte,aw,fe,aL,y,bO,ld,List.append_nil];exact ba.2 (fz.ret a fC.m ak.rd (bj _) he af _)
structure Hi(n:Nat):Prop where
 stmt:sB n
 block:sw n
def HN:∀n,n<=900000000->Hi n:=by
 intro n
 induction n using Nat.strongRecOn with
 |_ n a=>
  intro d;cases n with
  |zero=>exact⟨λ_ _ _ _ h=>by simp[qn]at h,λ_ _ _ _ h=>by simp[jv]at h⟩
  |succ n=>
   have i:=a n af af;exact⟨L2 i.block,LB af λk c=>(a k af af).stmt⟩
section
variable {H H' H1:ad}{r:Nat}{T:List Tok}{ao:aa}{s s':au}
variable {b c n2 esz:Nat}{z:List aa}{x:aa}{rest:List aa}{l:List ch}{v:aa}
def fX.xv(h:fX H1 H r b c n2 esz T ao z x rest l v s){s0:au}(i:bQ H1 r T ao s0)(a:List aa):fX H1 (H.set c (.row U esz [x::v::a])) r b c n2 esz T ao z x a l v s:=by
 have bO:=h.bO;have b2:=h.b2;have cz:=h.cz;have dz:=h.dz;have je:=h.je;have lc:=ad.aS h.cell;have e:iw r H1.next H1 (H.set c (.row U esz [x::v::a])):=h.m.cE (.inr af) _
 exact⟨i.nQ e (by unfold bH;rw[ad.get_set_other af];exact h.cN.rd),by rw[ad.get_set_other af];exact h.two,ad.get_set_same lc,h.gR.a1 λk x d g=>⟨d,by unfold bk at d;rw[ad.get_set_other af];exact g⟩,e,bO,b2,je,cz,by simp;omega⟩
def fX.LF(h:fX H1 H r b c n2 esz T ao z x rest l v s)(s2:au):fX H1 (H.set r (.row U 5 [[ao,I J s2.at_,I J s2.bU,I J s2.aG,I J s2.cP]])) r b c n2 esz T ao z x rest l v s2:=by
 obtain⟨m,a⟩:=e7 h.cN.rd s2;exact h.mut m (h.cN.mut m a)
def tK{N:Nat}{Q:aa->ad->Prop}{cp:aC}{s0:au}(x:bQ H1 r T ao s0){l':List ch}
  (k:∀H v,fX H1 H r b c n2 7 T ao z (Z cp) rest l' v s'->W (kZ (aD P ay) N (.ptr r 0 0) (.ptr b 0 0) (.ptr c 0 0) H) Q):
  ∀(n m:Nat) (H:ad) (s:au) (l:List ch) (v:aa),n<m->l.length+n<=1000000000->fX H1 H r b c n2 7 T ao z (Z cp) rest l v s->pR T n l s=D (l',s')->W (k0 (aD P ay) N m (.ptr r 0 0) (.ptr b 0 0) (.ptr c 0 0) H) Q
 |_,0,_,_,_,_,a0,_,_,_=>af
 |0,m+1,_,_,_,_,_,_,_,a=>by cases a
 |n+1,m+1,H,s,l,v,a0,bm,h,a=>by
  rw[pR]at a;rw[k0];unfold tW;refine aP (kf h.cN.rd) ?_;rintro _ be ⟨rfl,rfl⟩;refine⟨bj _,?_⟩;by_cases aq:s.aG=0
  ·have i:(s.aG==0)=true:=by simpa using aq
   simp-implicitDefEqProofs(disch:=try exact aj)only[bh,bx,i];refine iA (du h.cN.rd h.cN.bJ [41] (by simp)) ?_;rintro _ bf ⟨rfl,ae⟩;refine⟨ae.1,?_⟩;have u:=h.mut (ae.mut _) (h.cN.aM ae);rw[i,Bool.true_and]at a;cases aI:aY T s [41]with
   |true=>
    rw[aI]at a;cases a;simp-implicitDefEqProofs(disch:=try exact aj)only[bh,bx,i,Bool.not_true];exact k _ _ u
   |false=>
    rw[aI,Bool.not_false,aW]at a;simp-implicitDefEqProofs(disch:=try exact aj)only[bh,bx,i,Bool.not_false];refine aP (hY u.cN.rd u.cN.bJ) ?_;rintro _ o ⟨rfl,ag⟩;refine⟨ag.1,?_⟩;have e:=u.mut (ag.mut _) (u.cN.aM ag);have V:=λH'=>e.gR.nW H'
    have bn:=e.gR.rd;have E:=e.cell;have bp:=e.gR.one;have go:((al T s.at_).kind==1&&l.length==6)=X->W (aJ o (aD P ay 24 [.ptr r 0 0,I J 4] o) λbq d=>kZ (aD P ay) N (.ptr r 0 0) (.ptr b 0 0) (.ptr c 0 0) d) Q:=λhm=>by
     rw[hm,aW]at a;cases a;refine aP (ke e.cN 4) ?_;rintro _ bg ⟨rfl,m5,a4⟩;exact⟨m5.1,k _ _ (e.mut m5 a4)⟩
    have on:((al T s.at_).kind==1&&l.length==6)=U->W (aJ o (aD P ay 26 [.ptr r 0 0] o) λa7 d=>
      j (aH P 73 (.ptr c 0 0) 1) λG=>j (ak P d 23 G) λK=>bZ d (b5 P (d).next 23 1 [(0,a7)]) λa9 L=>aJ L (c1 P L [23,23] K a9) λa_ av=>j (aH P 73 (.ptr c 0 0) 1) λba=>a8 av (aU P av 23 ba a_) λax=>
      bif ((bl (ak P o 23 G) K&&(bl (ak P d 23 G) K&&(bl (ak P L 23 G) K&&X)))&&X)then(aJ ax (aD P ay 23 [.ptr r 0 0,Z [41]] ax) λbb M=>
      j (fq .not bb) λbc=>
      aX (D bc) (aJ M (aD P ay 27 [.ptr r 0 0,Z [44]] M) λbr az=>
      aJ az (aD P ay 23 [.ptr r 0 0,Z [41]] az) λbd O=>
      aX (D bd) (aJ O (aD P ay 24 [.ptr r 0 0,I J 2] O) λbs aV=>
      k0 (aD P ay) N m (.ptr r 0 0) (.ptr b 0 0) (.ptr c 0 0) aV) (k0 (aD P ay) N m (.ptr r 0 0) (.ptr b 0 0) (.ptr c 0 0) O)) (k0 (aD P ay) N m (.ptr r 0 0) (.ptr b 0 0) (.ptr c 0 0) M))else C) Q:=λhm=>by
     rw[hm,aR]at a;refine aP (xt e.cN) ?_;rintro _ am ⟨rfl,m6,a5⟩;refine⟨m6.1,?_⟩;have y:=e.mut m6 a5;have aZ:=y.cell;have a1:=y.gR.rd;generalize dQ T s=q at y a;obtain⟨p,aK⟩:=q;obtain⟨ai,aO,aS,aT,ap,an,aE,A⟩:=y.add x af p;have a2:=sg rD am.next (cs:=p.cells) rfl rfl
     have bk:(am.push (.row U 4 [p.cells])).next<=aO.next:=by simp only[ad.bX];exact aT
     have aA:=iB ap;simp only[aa.cells]at aA;simp-implicitDefEqProofs(disch:=try exact aj)only[bh,bx,ec,ak,cO,aU,cO,Nat.reduceAdd,Nat.reduceLeDiff,reduceIte,aa.cells,cW,dL,dE,aA,aZ,a2,aS,eZ,an,aE,ap,a1,E];refine aP (du A.cN.rd A.cN.bJ [41] (by simp)) ?_;rintro _ aQ ⟨rfl,ah⟩;refine⟨ah.1,?_⟩;have R:=A.mut (ah.mut _) (A.cN.aM ah);simp only at a;cases aF:aY T aK [41]with
     |true=>
      rw[aF,aW]at a;simp-implicitDefEqProofs(disch:=try exact aj)only[bh,bx,Bool.not_true];exact tK x k n m aQ _ _ ai af (by simp;omega) R a
     |false=>
      rw[aF,aR]at a;simp-implicitDefEqProofs(disch:=try exact aj)only[bh,bx,Bool.not_false];refine aP (gO R.cN [44] (by simp)) ?_;rintro _ bi ⟨rfl,m9,a6⟩;refine⟨m9.1,?_⟩;have B:=R.mut m9 a6;refine aP (du B.cN.rd B.cN.bJ [41] (by simp)) ?_;rintro _ aL ⟨rfl,ab⟩;refine⟨ab.1,?_⟩;have d:=B.mut (ab.mut _) (B.cN.aM ab);unfold mm at a;cases he:aY T (bo T [44] aK) [41]with
      |true=>
       rw[he,aW]at a;simp-implicitDefEqProofs(disch:=try exact aj)only[bh,bx];refine aP (ke d.cN 2) ?_;rintro _ aN ⟨rfl,m11,a3⟩;refine⟨m11.1,?_⟩;exact tK x k n m aN _ _ ai af (by simp;omega) (d.mut m11 a3) a
      |false=>
       rw[he,aR]at a;simp-implicitDefEqProofs(disch:=try exact aj)only[bh,bx];exact tK x k n m aL _ _ ai af (by simp;omega) d a
    cases w:(al T s.at_).kind==1 with
    |true=>
     rw[w]at go on;cases F:l.length==6 with
     |true=>
      have S:((l.length:Int)==6)=true:=by
       have:l.length=6:=by simpa using F
       simp;omega
      rw[F]at go;simp-implicitDefEqProofs(disch:=try exact aj)only[reduceAdd,reduceLeDiff,reduceIte,aw,Tok.v,E,V,w,S];exact go rfl
     |false=>
      have S:((l.length:Int)==6)=false:=by
       have:l.length≠6:=by simpa using F
       simp;omega
      rw[F]at on;simp-implicitDefEqProofs(disch:=try exact aj)only[reduceAdd,reduceLeDiff,reduceIte,aw,Tok.v,E,V,w,S];exact on rfl
    |false=>
     rw[w]at on;simp-implicitDefEqProofs(disch:=try exact aj)only[reduceAdd,reduceLeDiff,reduceIte,aw,Tok.v,E,V,w];exact on rfl
  ·have i:(s.aG==0)=false:=by simpa using aq
   rw[i]at a;cases a;simp-implicitDefEqProofs(disch:=try exact aj)only[bh,bx,i];exact k _ _ h
end
section
variable {H H' H1:ad}{r:Nat}{T:List Tok}{ao:aa}{s s' s0:au}
abbrev o0:List aa:=[Z [],.ar,Y U,Z [],I J 0,.ar,I J 0]
abbrev fH(has:Bool)(dS:aC)(rd a:Int):List aa:=[Y has,Z dS,I J rd,.ar,I J a]
def uV(H1:ad)(r:Nat)(T:List Tok)(ao:aa)(f:Fn)(s':au)(w:aa)(H':ad):Prop:=(∃cs,w= .agg cs/\ia.V H' (bk H1.next) f cs)/\cb r H1 H'/\bQ H' r T ao s'
def EO{N n:Nat}(Q:n<=900000000)(aK:T.length<=20000000)(p:bQ H1 r T ao s0){c n2:Nat}{cp dS:aC}{has:Bool}{rd e:Int}{l:List ch}{v:aa}{i:List bM}
  (h:fX H1 H r H1.next c n2 7 T ao o0 (Z cp) (fH has dS rd e) l v s) (O:jv T n s=D (i,s')):
  W (ow (aD P ay) N (.ptr r 0 0) (.ptr H1.next 0 0) (.ptr c 0 0) H) (uV H1 r T ao ⟨cp,l,has,dS,rd,i,e⟩ s'):=by
 unfold ow;refine aP ((HN n Q).block aK h.cN i s' O) ?_;rintro w o ⟨m2,R,q⟩;refine⟨m2.1,?_⟩;have a:=h.mut m2 R;have bO:=a.bO;have b2:=a.b2;have je:=a.je;have cz:=a.cz;have dz:=a.dz;have V:=h.dz;have K:=a.cell;have A:=a.gR.one;have B:=q.ej;have M:=iB A;have y:=iB B;simp only[aa.cells]at M y;have j:=a.xv p [Y has,Z dS,I J rd,w,I J e];have u:=j.two;have L:=j.cell;have S:=ad.aS u;have z:iw r H1.next H1 ((o.set c (.row U 7 [Z cp::v::[Y has,Z dS,I J rd,w,I J e]])).set H1.next (.row U 7 [Z cp::v::[Y has,Z dS,I J rd,w,I J e]])):=j.m.cE (.inr (bj _)) _
 have d:dp o (bk n2) ((o.set c (.row U 7 [Z cp::v::[Y has,Z dS,I J rd,w,I J e]])).set H1.next (.row U 7 [Z cp::v::[Y has,Z dS,I J rd,w,I J e]])) (bk H1.next):=λk x d g=>⟨by unfold bk at d ⊢;omega,by unfold bk at d;rw[ad.get_set_other af,ad.get_set_other af];exact g⟩
 have G:=a.gR.a1 d;have F:c_ _ (bk H1.next) i w:=q.a1 (dp.trans (dp.le (ok':=bk n2) λk d=>by unfold bk at d ⊢;omega) d).s;have E:=p.nQ z (s':=s') (by unfold bH;rw[ad.get_set_other af];exact j.cN.rd);simp-implicitDefEqProofs(disch:=try exact aj)only[bh,bx,ec,ak,cO,aU,cO,Nat.reduceAdd,Nat.reduceLeDiff,reduceIte,aa.cells,cW,dL,dE,K,L,u,A,B,y];exact ba.2 ⟨⟨_,rfl,v,w,rfl,G.aB,F⟩,z.mt,E⟩
def LQ{N n:Nat}(x:n<=900000000)(aK:T.length<=20000000)(j:bQ H1 r T ao s0){c n2:Nat}{cp:aC}{i:Int}{l:List ch}{v:aa}{q:List bM}
  (h:fX H1 H r H1.next c n2 7 T ao o0 (Z cp) (fH U [] 0 i) l v s) (a:jv T n (gW T (bo T [41] s)).2=D (q,s')):
  W (kZ (aD P ay) N (.ptr r 0 0) (.ptr H1.next 0 0) (.ptr c 0 0) H) (uV H1 r T ao ⟨cp,l,(gW T (bo T [41] s)).1.1,(gW T (bo T [41] s)).1.2.1,(gW T (bo T [41] s)).1.2.2,q,i⟩ s'):=by
 unfold kZ;refine aP (gO h.cN [41] (by simp)) ?_;rintro _ Q ⟨rfl,m2,M⟩;refine⟨m2.1,?_⟩;have e:=h.mut m2 M;generalize bo T [41] s=s2 at e a ⊢;refine aP (du e.cN.rd e.cN.bJ [58] (by simp)) ?_;rintro _ B ⟨rfl,p⟩;refine⟨p.1,?_⟩;have k:=e.mut (p.mut _) (e.cN.aM p);unfold gW at a ⊢;cases A:aY T s2 [58]with
 |false=>
  rw[A,aR]at a;simp-implicitDefEqProofs(disch:=try exact aj)only[bh,bx];exact EO x aK j k a
 |true=>
  rw[A,aW]at a;have u:fX H1 (B.set r (.row U 5 [[ao,I J (aF s2).at_,I J s2.bU,I J s2.aG,I J s2.cP]])) r H1.next c n2 7 T ao o0 (Z cp) (fH U [] 0 i) l v (aF s2):=k.LF (aF s2)
  have z:=k.cN.rd;unfold bH at z;have w:=u.xv j (fH X [] 0 i);have F:=u.cell;have L:=k.cN.bJ.one;have K:IntKind.i64.wrap (s2.at_+1)=(aF s2).at_:=rfl;simp-implicitDefEqProofs(disch:=try exact aj)only[bh,bx,ec,da,ak,cO,aU,cO,Nat.reduceAdd,Nat.reduceLeDiff,reduceIte,aa.cells,cW,dL,z,L,K,F];refine aP (rY w.cN) ?_;rintro _ R ⟨rfl,m6,O⟩;refine⟨m6.1,?_⟩;have m:=w.mut m6 O;have G:=m.cell;generalize cI T (aF s2)=o at m a ⊢;obtain⟨⟨y,d⟩,S⟩:=o;have E:=m.xv j (fH X y d i);simp-implicitDefEqProofs(disch:=try exact aj)only[bh,bx,ec,da,ak,cO,aU,cO,Nat.reduceAdd,Nat.reduceLeDiff,reduceIte,aa.cells,cW,dL,G]
  exact EO x aK j E a
end
section
variable {H H' H1:ad}{r:Nat}{T:List Tok}{ao:aa}{s s' s0:au}
def LR{n:Nat}(ag:n<=900000000)(aK:T.length<=20000000)(h:bQ H r T ao s){f:Fn}(w:nS T n s=D (f,s')):W (aD P ay 28 [.ptr r 0 0] H) (uV H r T ao f s'):=by
 refine cF (λ_=>Mg (n+1)) ?_;have ae:=h.rd.lt;unfold nS at w;obtain⟨⟨l',kk⟩,i,ab⟩:=cZ.1 w;obtain⟨⟨aq,r8⟩,y,A⟩:=cZ.1 ab;simp only[aV,b4]at A;obtain⟨rfl,rfl⟩:=A;simp only at y;have c:=aO.push H (.row U 7 [o0]);have L:=ad.bI H (.row U 7 [o0]);simp-implicitDefEqProofs(disch:=try exact aj)only[tV,bh,bx,List.length_cons,List.length_nil,Nat.zero_add,Nat.reduceAdd];refine aP (hY (h.rd.aM c) (h.aM c).bJ) ?_;rintro _ H1 ⟨rfl,a⟩;refine⟨a.1,?_⟩;have ai:=a.1;simp only[ad.bX]at ai;have E:=(h.aM c).aM a;have M:=a.get L;generalize al T s.at_=q;obtain⟨k,x,z,p⟩:=q;have j:=aO.push H1 (.row U 7 [Z []:: .ar::fH U [] 0 p])
 have R:=ad.bI H1 (.row U 7 [Z []:: .ar::fH U [] 0 p]);simp-implicitDefEqProofs(disch:=try exact aj)only[bh,bx,ec,ak,cO,aU,cO,Nat.reduceAdd,Nat.reduceLeDiff,reduceIte,aa.cells,cW,dL,dE,ad.gd,Tok.v];refine aP (mM (E.aM j)) ?_;rintro _ m ⟨rfl,m3,e⟩;refine⟨m3.1,?_⟩;have am:=m3.1;simp only[ad.bX]at am;have N:=m3.get (j.get M) af;have u:=m3.get R af;have dV:=ad.aS u;generalize bA T s=o at e i ⊢;obtain⟨cp,fc⟩:=o;simp only at e i ⊢;have ah:=((((c.mut (· =r)).trans (a.mut _)).trans (j.mut _)).trans m3);have B:=ah.cE (l:=H1.next) (.inr af) (.row U 7 [Z cp:: .ar::fH U [] 0 p]);have F:=h.mut B (show bH _ r ao fc by unfold bH;rw[ad.get_set_other af];exact e.rd)
 have O:(m.set H1.next (.row U 7 [Z cp:: .ar::fH U [] 0 p])).get H.next=D (.row U 7 [o0]):=by rw[ad.get_set_other af];exact N
 have S:(m.set H1.next (.row U 7 [Z cp:: .ar::fH U [] 0 p])).get H1.next=D (.row U 7 [Z cp:: .ar::fH U [] 0 p]):=ad.get_set_same dV
 simp-implicitDefEqProofs(disch:=try exact aj)only[bh,bx,ec,ak,cO,aU,cO,Nat.reduceAdd,Nat.reduceLeDiff,reduceIte,aa.cells,cW,dL,dE,u];refine aP (gO F [40] (by simp)) ?_;rintro _ d ⟨rfl,m5,G⟩;refine⟨m5.1,?_⟩;have an:=m5.1;simp only[ad.ds]at an;have Q:=m5.get O af;have V:=m5.get S af;have gT:fX H d r H.next H1.next d.next 7 T ao o0 (Z cp) (fH U [] 0 p) [] .ar (bo T [40] fc):=⟨G,Q,V,.nil,cb.tl (B.trans m5),ae,bj _,af,af,bj _⟩
 refine tK h (s':=kk) (l':=l') (λap v K=> ?_) n (n+1) d _ [] .ar (Nat.lt_succ_self _) (by simp only[List.length_nil];omega) gT i;exact LQ ag aK h K y
end
section
variable {H H' H0 H1:ad}{r a c:Nat}{T:List Tok}{ao:aa}{s s' s0:au}{g hn:dv}
def vX{α:Type}{K:h4 α}{t e:Nat}(y:ku t e K.esz){j:Nat->Prop}{l:List α}{v:aa}{a:bW}(F:c7 K j H1 l v)(m:cb r H1 H)(M:H.get r=D a)(u:r<H1.next)(O:r<c)(L:c<H1.next)(s:∀k,j k->c<k){x:α}{cs:List aa}(he:K.V H (bk H1.next) x cs)(N:l.length<=1000000000):
  ∃n H',c1 P (H.push (.row U K.esz [cs])) [t,t] v (.aB H.next 0 1 K.esz (D 1))=D (n,H')/\n.one=X/\H.next+1<=H'.next/\H'.get c=H.get c/\∀b,c7 K (λk=>j k\/H1.next<=k) (H'.set c b) (l++[x]) n/\
   (∀k z,¬j k->k<H1.next->k≠c->k≠r->H1.get k=D z->(H'.set c b).get k=D z)/\(H'.set c b).get r=D a/\(H'.set c b).next=H'.next/\c0 (λk=>k=r\/c<=k) H1 (H'.set c b):=by
 have i:(H1.set r a).next=H1.next:=ad.ds _ _ _
 have pu:aO (H1.set r a) H:=⟨by rw[i];exact m.1,λk d=>by
  rw[i]at d;by_cases e:k=r
  ·rw[e,ad.get_set_same u];exact M
  ·rw[ad.get_set_other (Ne.symm e)];exact m.2 k d e⟩
 have G:c7 K j (H1.set r a) l v:=F.a1 λk x d g=>⟨d,by have:=s k d;rw[ad.get_set_other af];exact g⟩
 obtain⟨n,H',aT,a2,a3,a4,a5,o,w⟩:=grow (r:=c) y G ((pu.mut λk=>k=c\/(H1.set r a).next<=k)) s (by rw[i];exact L) (n2:=(H1.set r a).next) (by rw[i];exact he) (bj _) N;rw[i]at a3 o;refine⟨n,H',aT,a2,a4,a5,λb=>⟨a3 b,λk z p q A B E=>o k z p q A (by rw[ad.get_set_other (Ne.symm B)];exact E) b,?_,ad.ds _ _ _,?_⟩⟩
 ·exact o r a (λh=>by have:=s r h;omega) u af (ad.get_set_same u) b
 ·have m7:=w b;refine⟨by have:=m7.1;rw[i]at this;exact this,λk d ax=> ?_⟩;have p:k≠r:=λe=>ax (.inl e)
  have q:¬c<=k:=λe=>ax (.inr e)
  rw[m7.2 k (by rw[i];exact d) q,ad.get_set_other (Ne.symm p)]
def eJ(H0:ad)(r c:Nat)(T:List Tok)(ao:aa)(H:ad)(g:dv)(s:au):Prop:=∃bL bT bP,∃h d a:Nat->Prop,bQ H r T ao s/\(∀l i n e z,ao= .aB l i n e z->l<r)/\H.get H0.next=D (.row U 3 [[.ar,.ar,.ar]])/\H.get (H0.next+1)=D (.row U 2 [[I J 0,I J 0]])/\H.get c=D (.row U 3 [[bL,bT,bP]])/\ c7 jc h H g.dk bL/\c7 f_ d H g.globals bT/\c7 ia a H g.funcs bP/\(∀k,h k->c<k/\¬d k/\¬a k)/\(∀k,d k->c<k/\¬a k)/\(∀k,a k->c<k)/\H0.next+1<r/\r<c/\c0 (λk=>H0.next<=k) H0 H
def eJ.mt(h:eJ H0 r c T ao H g s)(m:cb r H H')(cN:bQ H' r T ao s'):eJ H0 r c T ao H' g s':=by
 obtain⟨bL,bT,bP,o,p,q,av,u,v,w,x,l,n,b3,d,e,i,bO,b2,j⟩:=h;refine⟨bL,bT,bP,o,p,q,cN,u,m.get v af,m.get w af,m.get x af,l.a1 (dp.mut m λk a=>by have:=(d k a).1;omega),n.a1 (dp.mut m λk a=>by have:=(e k a).1;omega),b3.a1 (dp.mut m λk a=>by have:=i k a;omega),d,e,i,bO,b2,?_⟩;have y:=j.1;exact⟨by have:=m.1;omega,λk a ax=>by rw[m.2 k af af];exact j.2 k a ax⟩
def eJ.ei(h:eJ H0 r c T ao H g s):bQ H r T ao s:=by
 obtain⟨bL,bT,bP,a,d,e,av,-⟩:=h;exact av
def eJ.aM(h:eJ H0 r c T ao H g s)(p:aO H H'):eJ H0 r c T ao H' g s:=h.mt (p.mut _) (h.ei.aM p)
end
section
variable {H H' H0 H1:ad}{r c:Nat}{T:List Tok}{ao:aa}{s s' s0:au}{g hn:dv}
def xY(h:eS H ao T)(d:∀l i n e z,ao= .aB l i n e z->l<r)(c:∀k,k<r->∀z,H.get k=D z->H'.get k=D z):eS H' ao T:=by
 rcases h with a|⟨l,i,cap,rfl,a⟩
 ·exact .inl a
 ·exact .inr ⟨l,i,cap,rfl,a.imp id λ⟨ro,els,a6,j⟩=>⟨ro,els,c l (d _ _ _ _ _ rfl) _ a6,j⟩⟩
def LX(h:bQ H r T ao s){x:ch}(e:dQ T s=(x,s')):W (aD P ay 26 [.ptr r 0 0] H) λv H'=>(∃cs,v= .agg cs/\f_.V H' (bk H.next) x cs)/\cb r H H'/\bQ H' r T ao s':=by
 refine(xt h).mono ?_;rintro v H' ⟨a,d,c⟩;rw[e]at a c;exact⟨⟨_,a,rfl⟩,d,c⟩
def M3{M:Nat}(be:M<=900000000)(aK:T.length<=20000000)(h:eJ H0 r c T ao H g s)(bf:g.dk.length<=900000000){x:fo}(aL:ob T M (aF s)=D (x,s')){L:ad->O}{Q:aa->ad->Prop}(aE:∀H',eJ H0 r c T ao H' {g with dk:=g.dk++[x]} s'->W (L H') Q):
  W (j (b6 (.ptr r 0 0)) λa2=>j (aH P 59 a2 1) λa3=>j (ak P H 3 a3) λa4=>j (aq P .add 3 X a4 (I J 1)) λa5=>j (b6 (.ptr r 0 0)) λa7=>j (aH P 59 a7 1) λa9=>a8 H (aU P H 3 a9 a5) λd=>
   aJ d (aD P ay 25 [.ptr r 0 0] d) λa_ l=>j (aH P 26 (.ptr c 0 0) 0) λv=>j (ak P l 22 v) λw=>bZ l (b5 P (l).next 22 1 [(0,a_)]) λba n=>aJ n (c1 P n [22,22] w ba) λbb o=>
   j (aH P 26 (.ptr c 0 0) 0) λbc=>a8 o (aU P o 22 bc bb) λaC=>bif ((bl (ak P d 22 v) w&&(bl (ak P l 22 v) w&&(bl (ak P n 22 v) w&&X)))&&X)then L aC else C) Q:=by
 have ag:=h.ei.rd;have aN:=h.ei.bJ.one;unfold bH at ag;have aM:IntKind.i64.wrap (s.at_+1)=(aF s).at_:=rfl;obtain⟨m,aI⟩:=e7 h.ei.rd (aF s);have d:eJ H0 r c T ao (H.set r (.row U 5 [[ao,I J (aF s).at_,I J s.bU,I J s.aG,I J s.cP]])) g (aF s):=h.mt m (h.ei.mut m aI);simp-implicitDefEqProofs(disch:=try exact aj)only[bh,bx,ec,da,ak,cO,aU,cO,Nat.reduceAdd,Nat.reduceLeDiff,reduceIte,aa.cells,cW,dL,ag,aN,aM];generalize H.set r (.row U 5 [[ao,I J (aF s).at_,I J s.bU,I J s.aG,I J s.cP]])=q at d ⊢;refine aP (L0 af d.ei aL) ?_;rintro _ y ⟨⟨cs,rfl,he⟩,m3,a0⟩
 refine⟨m3.1,?_⟩;obtain⟨bL,bT,bP,ah,aT,aV,av,ap,au,aw,G,A,R,b3,i,u,B,bO,b2,al⟩:=d;have gT:=av.rd.lt;have lc:=ad.aS G;have bi:=m3.1;have bo:=m3.get au af;have bp:=m3.get aw af;have K:=m3.get G af;obtain⟨F,N,S,V,aA,an,az⟩:=vX (c:=c) Dp A m3 a0.rd gT b2 lc (λk a=>(i k a).1) he af;have ai:=jc.len he;have aR:=sg Dp y.next (cs:=cs) ai.1 ai.2
 have aW:jc.esz=3:=rfl;rw[aW]at S;have aQ:=A.rd;have ae:=iB V;simp only[aa.cells]at ae;rw[K]at an;have z5:=(aO.push y (.row U 3 [cs])).get K;have bd:(y.push (.row U 3 [cs])).next<=N.next:=by simp only[ad.bX];exact aA
 have bk:=A.one;have bm:=R.one;have bn:=b3.one;simp-implicitDefEqProofs(disch:=try exact aj)only[bh,bx,ec,ak,cO,aU,cO,Nat.reduceAdd,Nat.reduceLeDiff,reduceIte,aa.cells,cW,dL,K,G,z5,an,aR,S,eZ,aQ,ae,V];obtain⟨a6,aY,aZ,bj,am⟩:=az (.row U 3 [[F,bT,bP]]);have aX:=ad.aS an;have p:∀k,k<q.next->k≠c->k≠r->¬ah k->∀z,q.get k=D z->(N.set c (.row U 3 [[F,bT,bP]])).get k=D z:=λk ab d l n z o=>aY k z n ab d l o
 have E:∀k,ah k->c<k:=λk a=>(i k a).1
 refine aE _ ⟨F,bT,bP,_,(λk=>aT k/\k<q.next),(λk=>aV k/\k<q.next),⟨aZ,xY av.bJ ap λk a z e=>p k (ad.aS e) af af (λh=>by have:=E k h;omega) z e⟩,ap,?_,?_,ad.get_set_same aX,a6,(R.a1 λk b a g=>⟨⟨a,ad.aS g⟩,p k (ad.aS g) (by have:=(u k a).1;omega) (by have:=(u k a).1;omega) (λh=>(i k h).2.1 a) b g⟩),(b3.a1 λk b a g=>⟨⟨a,ad.aS g⟩,p k (ad.aS g) (by have:=B k a;omega) (by have:=B k a;omega) (λh=>(i k h).2.2 a) b g⟩),?_,?_,?_,bO,b2,?_⟩
 ·exact p _ af af af (λa=>by have:=E _ a;omega) _ au
 ·exact p _ af af af (λa=>by have:=E _ a;omega) _ aw
 ·rintro k (a|a)
  ·exact⟨(i k a).1,λh=>(i k a).2.1 h.1,λh=>(i k a).2.2 h.1⟩
  ·exact⟨af,λh=>by have:=h.2;omega,λh=>by have:=h.2;omega⟩
 ·exactλk a=>⟨(u k a.1).1,λh=>(u k a.1).2 h.1⟩
 ·exactλk a=>B k a.1
 ·have ab:=al.1;have o:=am.1;refine⟨af,λk a ax=> ?_⟩;have bg:k<H0.next:=by simpa using ax
  rw[am.2 k af af];exact al.2 k a ax
def M1{M:Nat}(be:M<=900000000)(aK:T.length<=20000000)(h:eJ H0 r c T ao H g s)(bf:g.globals.length<=900000000){x:ch}(aL:dQ T (aF s)=(x,s')){L:ad->O}{Q:aa->ad->Prop}(aE:∀H',eJ H0 r c T ao H' {g with globals:=g.globals++[x]} s'->W (L H') Q):
  W (j (b6 (.ptr r 0 0)) λa2=>j (aH P 59 a2 1) λa3=>j (ak P H 3 a3) λa4=>j (aq P .add 3 X a4 (I J 1)) λa5=>j (b6 (.ptr r 0 0)) λa7=>j (aH P 59 a7 1) λa9=>a8 H (aU P H 3 a9 a5) λd=>
   aJ d (aD P ay 26 [.ptr r 0 0] d) λa_ l=>j (aH P 26 (.ptr c 0 0) 1) λv=>j (ak P l 23 v) λw=>bZ l (b5 P (l).next 23 1 [(0,a_)]) λba o=>aJ o (c1 P o [23,23] w ba) λbb p=>
   j (aH P 26 (.ptr c 0 0) 1) λbc=>a8 p (aU P p 23 bc bb) λaC=>bif ((bl (ak P d 23 v) w&&(bl (ak P l 23 v) w&&(bl (ak P o 23 v) w&&X)))&&X)then L aC else C) Q:=by
 have ag:=h.ei.rd;have aN:=h.ei.bJ.one;unfold bH at ag;have aM:IntKind.i64.wrap (s.at_+1)=(aF s).at_:=rfl;obtain⟨m,aI⟩:=e7 h.ei.rd (aF s);have d:eJ H0 r c T ao (H.set r (.row U 5 [[ao,I J (aF s).at_,I J s.bU,I J s.aG,I J s.cP]])) g (aF s):=h.mt m (h.ei.mut m aI);simp-implicitDefEqProofs(disch:=try exact aj)only[bh,bx,ec,da,ak,cO,aU,cO,Nat.reduceAdd,Nat.reduceLeDiff,reduceIte,aa.cells,cW,dL,ag,aN,aM];generalize H.set r (.row U 5 [[ao,I J (aF s).at_,I J s.bU,I J s.aG,I J s.cP]])=u at d ⊢;refine aP (LX d.ei aL) ?_;rintro _ y ⟨⟨cs,rfl,he⟩,m3,a0⟩
 refine⟨m3.1,?_⟩;obtain⟨bL,bT,bP,aT,ah,aV,av,ap,au,aw,G,R,A,b3,i,n,B,bO,b2,al⟩:=d;have gT:=av.rd.lt;have lc:=ad.aS G;have bi:=m3.1;have bo:=m3.get au af;have bp:=m3.get aw af;have K:=m3.get G af;obtain⟨F,N,S,V,aA,an,az⟩:=vX (c:=c) rD A m3 a0.rd gT b2 lc (λk a=>(n k a).1) he af;have ai:=f_.len he;have aR:=sg rD y.next (cs:=cs) ai.1 ai.2
 have aW:f_.esz=4:=rfl;rw[aW]at S;have aQ:=A.rd;have ae:=iB V;simp only[aa.cells]at ae;rw[K]at an;have z5:=(aO.push y (.row U 4 [cs])).get K;have bd:(y.push (.row U 4 [cs])).next<=N.next:=by simp only[ad.bX];exact aA
 have bk:=R.one;have bm:=A.one;have bn:=b3.one;simp-implicitDefEqProofs(disch:=try exact aj)only[bh,bx,ec,ak,cO,aU,cO,Nat.reduceAdd,Nat.reduceLeDiff,reduceIte,aa.cells,cW,dL,K,G,z5,an,aR,S,eZ,aQ,ae,V];obtain⟨a6,aY,aZ,bj,am⟩:=az (.row U 3 [[bL,F,bP]]);have aX:=ad.aS an;have q:∀k,k<u.next->k≠c->k≠r->¬ah k->∀z,u.get k=D z->(N.set c (.row U 3 [[bL,F,bP]])).get k=D z:=λk ab d l o z p=>aY k z o ab d l p
 have E:∀k,ah k->c<k:=λk a=>(n k a).1
 refine aE _ ⟨bL,F,bP,(λk=>aT k/\k<u.next),_,(λk=>aV k/\k<u.next),⟨aZ,xY av.bJ ap λk a z e=>q k (ad.aS e) af af (λh=>by have:=E k h;omega) z e⟩,ap,?_,?_,ad.get_set_same aX,(R.a1 λk b a g=>⟨⟨a,ad.aS g⟩,q k (ad.aS g) (by have:=(i k a).1;omega) (by have:=(i k a).1;omega) (λh=>(i k a).2.1 h) b g⟩),a6,(b3.a1 λk b a g=>⟨⟨a,ad.aS g⟩,q k (ad.aS g) (by have:=B k a;omega) (by have:=B k a;omega) (λh=>(n k h).2 a) b g⟩),?_,?_,?_,bO,b2,?_⟩
 ·exact q _ af af af (λa=>by have:=E _ a;omega) _ au
 ·exact q _ af af af (λa=>by have:=E _ a;omega) _ aw
 ·refineλk a=>⟨(i k a.1).1,λh=> ?_,λh=>(i k a.1).2.2 h.1⟩
  rcases h with h|h
  ·exact(i k a.1).2.1 h
  ·have:=a.2;omega
 ·rintro k (a|a)
  ·exact⟨(n k a).1,λh=>(n k a).2 h.1⟩
  ·exact⟨af,λh=>by have:=h.2;omega⟩
 ·exactλk a=>B k a.1
 ·have ab:=al.1;have p:=am.1;refine⟨af,λk a ax=> ?_⟩;have bg:k<H0.next:=by simpa using ax
  rw[am.2 k af af];exact al.2 k a ax
def M0{M:Nat}(aI:M<=900000000)(aK:T.length<=20000000)(h:eJ H0 r c T ao H g s)(bf:g.funcs.length<=900000000){x:Fn}(aM:nS T M (aF s)=D (x,s')){L:ad->O}{Q:aa->ad->Prop}(aE:∀H',eJ H0 r c T ao H' {g with funcs:=g.funcs++[x]} s'->W (L H') Q):
  W (j (b6 (.ptr r 0 0)) λa3=>j (aH P 59 a3 1) λa4=>j (ak P H 3 a4) λa5=>j (aq P .add 3 X a5 (I J 1)) λa7=>j (b6 (.ptr r 0 0)) λa9=>j (aH P 59 a9 1) λa_=>a8 H (aU P H 3 a_ a7) λd=>
   aJ d (aD P ay 28 [.ptr r 0 0] d) λba l=>j (aH P 26 (.ptr c 0 0) 2) λv=>j (ak P l 24 v) λw=>bZ l (b5 P (l).next 24 1 [(0,ba)]) λbb o=>aJ o (c1 P o [24,24] w bb) λbc p=>
   j (aH P 26 (.ptr c 0 0) 2) λbd=>a8 p (aU P p 24 bd bc) λaC=>bif ((bl (ak P d 24 v) w&&(bl (ak P l 24 v) w&&(bl (ak P o 24 v) w&&X)))&&X)then L aC else C) Q:=by
 have ag:=h.ei.rd;have aQ:=h.ei.bJ.one;unfold bH at ag;have aN:IntKind.i64.wrap (s.at_+1)=(aF s).at_:=rfl;obtain⟨m,aL⟩:=e7 h.ei.rd (aF s);have d:eJ H0 r c T ao (H.set r (.row U 5 [[ao,I J (aF s).at_,I J s.bU,I J s.aG,I J s.cP]])) g (aF s):=h.mt m (h.ei.mut m aL);simp-implicitDefEqProofs(disch:=try exact aj)only[bh,bx,ec,da,ak,cO,aU,cO,Nat.reduceAdd,Nat.reduceLeDiff,reduceIte,aa.cells,cW,dL,ag,aQ,aN];generalize H.set r (.row U 5 [[ao,I J (aF s).at_,I J s.bU,I J s.aG,I J s.cP]])=u at d ⊢;refine aP (LR aI aK d.ei aM) ?_;rintro _ y ⟨⟨cs,rfl,he⟩,m3,a2⟩
 refine⟨m3.1,?_⟩;obtain⟨bL,bT,bP,aV,aW,ah,av,ap,au,aw,F,N,R,b3,i,n,A,bO,b2,al⟩:=d;have gT:=av.rd.lt;have lc:=ad.aS F;have bi:=m3.1;have bo:=m3.get au af;have bp:=m3.get aw af;have G:=m3.get F af;obtain⟨E,K,S,V,aA,an,az⟩:=vX (c:=c) Dn b3 m3 a2.rd gT b2 lc (λk a=>A k a) he af;have ai:=ia.len he;have aT:=sg Dn y.next (cs:=cs) ai.1 ai.2
 have aX:ia.esz=7:=rfl;rw[aX]at S;have aR:=b3.rd;have ae:=iB V;simp only[aa.cells]at ae;rw[G]at an;have z5:=(aO.push y (.row U 7 [cs])).get G;have be:(y.push (.row U 7 [cs])).next<=K.next:=by simp only[ad.bX];exact aA
 have bk:=N.one;have bm:=R.one;have bn:=b3.one;simp-implicitDefEqProofs(disch:=try exact aj)only[bh,bx,ec,ak,cO,aU,cO,Nat.reduceAdd,Nat.reduceLeDiff,reduceIte,aa.cells,cW,dL,G,F,z5,an,aT,S,eZ,aR,ae,V];obtain⟨a6,aZ,a0,bj,am⟩:=az (.row U 3 [[bL,bT,E]]);have aY:=ad.aS an;have q:∀k,k<u.next->k≠c->k≠r->¬ah k->∀z,u.get k=D z->(K.set c (.row U 3 [[bL,bT,E]])).get k=D z:=λk ab d l o z p=>aZ k z o ab d l p
 have B:∀k,ah k->c<k:=λk a=>A k a
 refine aE _ ⟨bL,bT,E,(λk=>aV k/\k<u.next),(λk=>aW k/\k<u.next),_,⟨a0,xY av.bJ ap λk a z e=>q k (ad.aS e) af af (λh=>by have:=B k h;omega) z e⟩,ap,?_,?_,ad.get_set_same aY,(N.a1 λk b a g=>⟨⟨a,ad.aS g⟩,q k (ad.aS g) (by have:=(i k a).1;omega) (by have:=(i k a).1;omega) (λh=>(i k a).2.2 h) b g⟩),(R.a1 λk b a g=>⟨⟨a,ad.aS g⟩,q k (ad.aS g) (by have:=(n k a).1;omega) (by have:=(n k a).1;omega) (λh=>(n k a).2 h) b g⟩),a6,?_,?_,?_,bO,b2,?_⟩
 ·exact q _ af af af (λa=>by have:=B _ a;omega) _ au
 ·exact q _ af af af (λa=>by have:=B _ a;omega) _ aw
 ·refineλk a=>⟨(i k a.1).1,λh=>(i k a.1).2.1 h.1,λh=> ?_⟩
  rcases h with h|h
  ·exact(i k a.1).2.2 h
  ·have:=a.2;omega
 ·refineλk a=>⟨(n k a.1).1,λh=> ?_⟩
  rcases h with h|h
  ·exact(n k a.1).2 h
  ·have:=a.2;omega
 ·rintro k (a|a)
  ·exact A k a
  ·omega
 ·have ab:=al.1;have p:=am.1;refine⟨af,λk a ax=> ?_⟩;have bg:k<H0.next:=by simpa using ax
  rw[am.2 k af af];exact al.2 k a ax
end
section
variable {H H' H0 H1:ad}{r c:Nat}{T:List Tok}{ao:aa}{s s' s0:au}{g hn:dv}
def LU{N:Nat}{a:aa->aa->aa->aa->ad->O}{d e:aa}{Q:aa->ad->Prop}(h:eJ H0 r c T ao H g s)(i:∀H',eJ H0 r c T ao H' g (cQ T 4 s)->W (a d e (.ptr r 0 0) (.ptr c 0 0) H') Q):W (jK (aD P ay) N a d e (.ptr r 0 0) (.ptr c 0 0) (Y X) H) Q:=by
 unfold jK;simp only[eH,aW,aR];refine aP (ke h.ei 4) ?_;rintro _ k ⟨rfl,m5,j⟩;exact⟨m5.1,i _ (h.mt m5 j)⟩
def LS{N M n:Nat}(o:M<=900000000)(aK:T.length<=20000000){d:aa->aa->aa->aa->ad->O}{e i:aa}{Q:aa->ad->Prop}(h:eJ H0 r c T ao H g s)(A:g.dk.length<=900000000)(B:g.globals.length<=900000000)(dV:g.funcs.length<=900000000)
  (a:(bif isRec T s then(ob T M (aF s)).bind λp=>hG T M n {g with dk:=g.dk++[p.1]} p.2
   else bif j6 T s then hG T M n {g with globals:=g.globals++[(dQ T (aF s)).1]} (bo T [59] (dQ T (aF s)).2)
   else bif isFun T s then(nS T M (aF s)).bind λp=>hG T M n {g with funcs:=g.funcs++[p.1]} p.2
   else hG T M n g (cQ T 2 s))=D (hn,s'))
  (l:∀H' g1 s1,eJ H0 r c T ao H' g1 s1->g1.dk.length<=g.dk.length+1->g1.globals.length<=g.globals.length+1->g1.funcs.length<=g.funcs.length+1->hG T M n g1 s1=D (hn,s')->W (d e i (.ptr r 0 0) (.ptr c 0 0) H') Q):W (jK (aD P ay) N d e i (.ptr r 0 0) (.ptr c 0 0) (Y U) H) Q:=by
 unfold isRec j6 isFun at a;unfold jK;simp only[eH,aW,aR];refine aP (du h.ei.rd h.ei.bJ [114,101,99,111,114,100] (by simp)) ?_;rintro _ E ⟨rfl,u⟩;refine⟨u.1,?_⟩;have j:=h.aM u;cases an:aY T s [114,101,99,111,114,100]with
 |true=>
  rw[an,aW]at a;obtain⟨⟨x,s1⟩,f1,f2⟩:=cZ.1 a;simp only[eH,aW,aR];exact M3 o aK j A f1 (L:=λH'=>d e i (.ptr r 0 0) (.ptr c 0 0) H') λH' aZ=>l H' _ _ aZ (by simp) (by simp) (by simp) f2
 |false=>
  rw[an,aR]at a;simp only[eH,aW,aR];refine aP (du j.ei.rd j.ei.bJ [103,108,111,98,97,108] (by simp)) ?_;rintro _ F ⟨rfl,v⟩;refine⟨v.1,?_⟩;have k:=j.aM v;cases aE:aY T s [103,108,111,98,97,108]with
  |true=>
   rw[aE,aW]at a;simp only[eH,aW,aR];refine M1 o aK k B (x:=(dQ T (aF s)).1) (s':=(dQ T (aF s)).2) rfl (L:=λH'=>aJ H' (aD P ay 27 [.ptr r 0 0,Z [59]] H') λK z=>d e i (.ptr r 0 0) (.ptr c 0 0) z) λH' aZ=> ?_
   refine aP (gO aZ.ei [59] (by simp)) ?_;rintro _ y ⟨rfl,m5,q⟩;exact⟨m5.1,l _ _ _ (aZ.mt m5 q) (by simp) (by simp) (by simp) a⟩
  |false=>
   rw[aE,aR]at a;simp only[eH,aW,aR];refine aP (du k.ei.rd k.ei.bJ [102,117,110,99] (by simp)) ?_;rintro _ G ⟨rfl,w⟩;refine⟨w.1,?_⟩;have m:=k.aM w;cases bn:aY T s [102,117,110,99]with
   |true=>
    rw[bn,aW]at a;obtain⟨⟨x,s1⟩,f1,f2⟩:=cZ.1 a;simp only[eH,aW,aR];exact M0 o aK m dV f1 (L:=λH'=>d e i (.ptr r 0 0) (.ptr c 0 0) H') λH' aZ=>l H' _ _ aZ (by simp) (by simp) (by simp) f2
   |false=>
    rw[bn,aR]at a;simp only[eH,aW,aR];refine aP (ke m.ei 2) ?_;rintro _ y ⟨rfl,m5,q⟩;exact⟨m5.1,l _ _ _ (m.mt m5 q) (by simp) (by simp) (by simp) a⟩
end
section
variable {H H' H0 H1:ad}{r c:Nat}{T:List Tok}{ao bL bT bP:aa}{s s' s0:au}{g hn:dv}
def vZ{n:Nat}(k:H.get c=D (.row U 3 [[bL,bT,bP]]))(l:∀H',b_ P H' .len [22] [bL]=D (I J n))(u:bL.one=X)(b:Bool)(F:aa->ad->O):
  (aN (Y b) X H (bu (aH P 26 (.ptr c 0 0) 0)) λm a=>aN (Y b) X a (qr (ak P a 22 m)) λe d=>aN (Y b) X d (λq=>ha (b_ P .empty .len [22] [e]) (b_ P d .len [22] [e]) q) λo i=>aN (Y b) X i (bu (aq P .eql 3 X o (I J 12))) λp h=>j (cu (Y b) (D p) (D (Y U))) λs=>F s h)=F (Y (b&&((n:Int)==12))) H:=by
 cases b
 ·simp-implicitDefEqProofs(disch:=try exact aj)only[reduceAdd,reduceLeDiff,reduceIte,aw,Bool.false_and]
 ·simp-implicitDefEqProofs(disch:=try exact aj)only[reduceAdd,reduceLeDiff,reduceIte,aw,k,l,Bool.true_and]
def v7{n:Nat}(k:H.get c=D (.row U 3 [[bL,bT,bP]]))(l:∀H',b_ P H' .len [23] [bT]=D (I J n))(u:bT.one=X)(b:Bool)(F:aa->ad->O):
  (aN (Y b) X H (bu (aH P 26 (.ptr c 0 0) 1)) λm a=>aN (Y b) X a (qr (ak P a 23 m)) λe d=>aN (Y b) X d (λq=>ha (b_ P .empty .len [23] [e]) (b_ P d .len [23] [e]) q) λo i=>aN (Y b) X i (bu (aq P .eql 3 X o (I J 8))) λp h=>j (cu (Y b) (D p) (D (Y U))) λs=>F s h)=F (Y (b&&((n:Int)==8))) H:=by
 cases b
 ·simp-implicitDefEqProofs(disch:=try exact aj)only[reduceAdd,reduceLeDiff,reduceIte,aw,Bool.false_and]
 ·simp-implicitDefEqProofs(disch:=try exact aj)only[reduceAdd,reduceLeDiff,reduceIte,aw,k,l,Bool.true_and]
def JP{n:Nat}(k:H.get c=D (.row U 3 [[bL,bT,bP]]))(l:∀H',b_ P H' .len [24] [bP]=D (I J n))(u:bP.one=X)(b:Bool)(F:aa->ad->O):
  (aN (Y b) X H (bu (aH P 26 (.ptr c 0 0) 2)) λm a=>aN (Y b) X a (qr (ak P a 24 m)) λe d=>aN (Y b) X d (λq=>ha (b_ P .empty .len [24] [e]) (b_ P d .len [24] [e]) q) λo i=>aN (Y b) X i (bu (aq P .eql 3 X o (I J 16))) λp h=>j (cu (Y b) (D p) (D (Y U))) λs=>F s h)=F (Y (b&&((n:Int)==16))) H:=by
 cases b
 ·simp-implicitDefEqProofs(disch:=try exact aj)only[reduceAdd,reduceLeDiff,reduceIte,aw,Bool.false_and]
 ·simp-implicitDefEqProofs(disch:=try exact aj)only[reduceAdd,reduceLeDiff,reduceIte,aw,k,l,Bool.true_and]
def eJ.cells(h:eJ H0 r c T ao H g s):∃bL bT bP,H.get c=D (.row U 3 [[bL,bT,bP]])/\(∀H',b_ P H' .len [22] [bL]=D (I J g.dk.length))/\(∀H',b_ P H' .len [23] [bT]=D (I J g.globals.length))/\(∀H',b_ P H' .len [24] [bP]=D (I J g.funcs.length))/\bL.one=X/\bT.one=X/\bP.one=true:=by
 obtain⟨bL,bT,bP,i,j,k,av,l,m,n,e,a,d,b3,-⟩:=h;exact⟨bL,bT,bP,e,a.wC,d.nW,b3.wD,a.one,d.one,b3.one⟩
def vu(n m:Nat):((n:Int)==(m:Int))=(n==m):=by
 by_cases h:n=m
 ·subst h;simp
 ·have:(n:Int)≠(m:Int):=af;rw[show(n==m)=U by simpa using h];exact beq_eq_false_iff_ne.2 this
def xu{N M:Nat}(z:M<=900000000)(aK:T.length<=20000000){x y:aa}{Q:aa->ad->Prop}
  (q:∀H,eJ H0 r c T ao H hn s'->W (nm (aD P ay) N x y (.ptr r 0 0) (.ptr c 0 0) H) Q):
  ∀(n m:Nat) (H:ad) (s:au) (g:dv),n<m->g.dk.length+n<=900000000->g.globals.length+n<=900000000->g.funcs.length+n<=900000000->eJ H0 r c T ao H g s->hG T M n g s=D (hn,s')->W (l4 (aD P ay) N m x y (.ptr r 0 0) (.ptr c 0 0) H) Q
 |_,0,_,_,_,ag,_,_,_,_,_=>af
 |0,m+1,_,_,_,_,_,_,_,_,a=>by cases a
 |n+1,m+1,H,s,g,ag,am,an,dV,h,a=>by
  rw[hG]at a;rw[l4];unfold ux;refine aP (kf h.ei.rd) ?_;rintro _ ah ⟨rfl,rfl⟩;refine⟨bj _,?_⟩;by_cases O:s.aG=0
  ·have i:(s.aG==0)=true:=by simpa using O
   rw[i,Bool.true_and]at a;simp-implicitDefEqProofs(disch:=try exact aj)only[bh,bx,i];refine iA (hY h.ei.rd h.ei.bJ) ?_;rintro _ ai ⟨rfl,R⟩;refine⟨R.1,?_⟩;have p:=h.aM R;cases u:((al T s.at_).kind != 0)with
   |false=>
    rw[u,aR]at a;cases a;simp-implicitDefEqProofs(disch:=try exact aj)only[bh,bx,da,ec,Tok.v,u,i];exact q _ p
   |true=>
    rw[u,aW]at a;simp-implicitDefEqProofs(disch:=try exact aj)only[bh,bx,da,ec,Tok.v,u,i];have full:∀e,eJ H0 r c T ao e g s->((isRec T s&&g.dk.length==12)||((j6 T s&&g.globals.length==8)||(isFun T s&&g.funcs.length==16)))=X->W (jK (aD P ay) N (l4 (aD P ay) N m) x y (.ptr r 0 0) (.ptr c 0 0) (Y X) e) Q:=λe d A=>by
     rw[A,aW]at a;exact LU d λo j=>xu z aK q n m o _ _ af af af af j a
    have free:∀e,eJ H0 r c T ao e g s->((isRec T s&&g.dk.length==12)||((j6 T s&&g.globals.length==8)||(isFun T s&&g.funcs.length==16)))=U->W (jK (aD P ay) N (l4 (aD P ay) N m) x y (.ptr r 0 0) (.ptr c 0 0) (Y U) e) Q:=λe d A=>by
     rw[A,aR]at a;exact LS z aK d af af af a λo g1 s1 j a6 w F ae=>xu z aK q n m o _ _ af af af af j ae
    refine aP (du p.ei.rd p.ei.bJ [114,101,99,111,114,100] (by simp)) ?_;rintro _ ak ⟨rfl,S⟩;refine⟨S.1,?_⟩;have k:=p.aM S;obtain⟨bL,bT,bP,l,B,n2,E,G,K,L⟩:=k.cells;rw[vZ l B G,show(12:Int)=((12:Nat):Int)from rfl,vu];cases a6:aY T s [114,101,99,111,114,100]&&g.dk.length==12 with
    |true=>
     simp only[eH,aW];exact full _ k (by rw[show(isRec T s&&g.dk.length==12)=X from a6];rfl)
    |false=>
     simp only[eH,aR];refine aP (du k.ei.rd k.ei.bJ [103,108,111,98,97,108] (by simp)) ?_;rintro _ e ⟨rfl,V⟩;refine⟨V.1,?_⟩;have d:=k.aM V;obtain⟨bL,bT,bP,l,B,n2,E,G,K,L⟩:=d.cells;rw[v7 l n2 K,show(8:Int)=((8:Nat):Int)from rfl,vu];cases w:aY T s [103,108,111,98,97,108]&&g.globals.length==8 with
     |true=>
      simp only[eH,aW];exact full _ d (by rw[show(isRec T s&&g.dk.length==12)=U from a6,show(j6 T s&&g.globals.length==8)=X from w];rfl)
     |false=>
      simp only[eH,aR];refine aP (du d.ei.rd d.ei.bJ [102,117,110,99] (by simp)) ?_;rintro _ o ⟨rfl,ab⟩;refine⟨ab.1,?_⟩;have j:=d.aM ab;obtain⟨bL,bT,bP,l,B,n2,E,G,K,L⟩:=j.cells;rw[JP l E L,show(16:Int)=((16:Nat):Int)from rfl,vu];cases F:aY T s [102,117,110,99]&&g.funcs.length==16 with
      |true=>exact full _ j (by rw[show(isRec T s&&g.dk.length==12)=U from a6,show(j6 T s&&g.globals.length==8)=U from w,show(isFun T s&&g.funcs.length==16)=X from F];rfl)
      |false=>exact free _ j (by rw[show(isRec T s&&g.dk.length==12)=U from a6,show(j6 T s&&g.globals.length==8)=U from w,show(isFun T s&&g.funcs.length==16)=U from F];rfl)
  ·have i:(s.aG==0)=false:=by simpa using O
   rw[i,Bool.false_and,aR]at a;cases a;simp-implicitDefEqProofs(disch:=try exact aj)only[bh,bx,i];exact q _ h
end
def Hr(H0:ad)(x:dv×Int×Int)(v:aa)(H':ad):Prop:=∃bL bT bP,v= .tuple [.agg [bL,bT,bP],.agg [I J x.2.1,I J x.2.2]]/\dU jc H' (bk H0.next) x.1.dk bL/\dU f_ H' (bk H0.next) x.1.globals bT/\dU ia H' (bk H0.next) x.1.funcs bP/\aO H0 H'
def tE(s:aC)(g:dv)(s':au):dv×Int×Int:=if(dx s).2.1=0 then xi g s' else(.none,(dx s).2.1,(dx s).2.2)
def Ew(a b:Int):bl (D (.agg [I J a,I J b])) (.agg [I J a,I J b])=true:=by simp[bl,aa.beq,fV.beq]
section
variable {H:ad}
end
def Iw{ao:aa}{T:List Tok}{H:ad}(h:eS H ao T):cy P 59 [(0,ao)]=D (.agg [ao,I J 0,I J 0,I J 0,I J 0]):=by
 rcases h with⟨rfl,_⟩|⟨l,i,cap,rfl,_⟩<;>kernel_rfl
section
variable {H:ad}
def LA(s:aC){hn:dv}{s':au}{M n:Nat}(a2:M<=800000000)(a3:n<=800000000)(aI:(dx s).2.1=0->hG (dx s).1 M n .none ⟨0,0,0,0⟩=D (hn,s')):W (aD P ay 9 [Z s] H) (Hr H (tE s hn s')):=by
 refine cF (λ_=>MT (n+1)) ?_;have al:=(aO.push H (.row U 3 [[.ar,.ar,.ar]])).bE (.row U 2 [[I J 0,I J 0]]);unfold r8;simp-implicitDefEqProofs(disch:=try exact aj)only[bh,bx,List.length_cons,List.length_nil,Nat.zero_add,Nat.reduceAdd];refine aP (u4 s) ?_;rintro _ j ⟨ao,rfl,L,d⟩;refine⟨d.1,?_⟩;have y:=d.get ((aO.push (H.push (.row U 3 [[.ar,.ar,.ar]])) (.row U 2 [[I J 0,I J 0]])).get (ad.bI H (.row U 3 [[.ar,.ar,.ar]])));have v:=d.get (ad.bI (H.push (.row U 3 [[.ar,.ar,.ar]])) (.row U 2 [[I J 0,I J 0]]));have aW:=d.1;simp only[ad.bX]at aW v
 have N:= @uF s;unfold tE;generalize dx s=bJ at L aI N ⊢;obtain⟨T,aG,cP⟩:=bJ;simp only at L aI N ⊢;have q:=aO.push j (.row U 2 [[I J aG,I J cP]]);have gc:=ad.bI j (.row U 2 [[I J aG,I J cP]]);have z:=q.get y;have B:=q.get v;have aX:(j.push (.row U 2 [[I J aG,I J cP]])).next=j.next+1:=by simp only[ad.bX]
 have am:=(al.trans d).trans q;have p:=L.aM q;by_cases G:aG=0
 ·subst G;have z0:((0:Int) != 0)=false:=rfl;simp-implicitDefEqProofs(disch:=try exact aj)only[bh,bx,ec,ak,cO,aU,cO,Nat.reduceAdd,Nat.reduceLeDiff,reduceIte,aa.cells,cW,dL,dE,da,ad.gd,z0];generalize j.push (.row U 2 [[I J 0,I J cP]])=a at q gc z B aX am p ⊢;obtain⟨aK,K⟩:=N rfl;have aE:=Iw p;have aL:=p.one;have aF:∀l,dO l (.agg [ao,I J 0,I J 0,I J 0,I J 0])=D (.ptr l 0 0,.row U 5 [[ao,I J 0,I J 0,I J 0,I J 0]]):=λl=>hk l _ (by simp only[List.all_cons,List.all_nil,gF,aL,Bool.and_self])
  have x:=aO.push a (.row U 5 [[ao,I J 0,I J 0,I J 0,I J 0]]);have u:=aO.push (a.push (.row U 5 [[ao,I J 0,I J 0,I J 0,I J 0]])) (.row U 3 [[.ar,.ar,.ar]]);have V:=ad.bI (a.push (.row U 5 [[ao,I J 0,I J 0,I J 0,I J 0]])) (.row U 3 [[.ar,.ar,.ar]]);have ai:(a.push (.row U 5 [[ao,I J 0,I J 0,I J 0,I J 0]])).next=a.next+1:=by simp only[ad.bX]
  rw[ai]at V;have a0:=(am.trans x).trans u;have rs:eJ H a.next (a.next+1) T ao ((a.push (.row U 5 [[ao,I J 0,I J 0,I J 0,I J 0]])).push (.row U 3 [[.ar,.ar,.ar]])) .none ⟨0,0,0,0⟩:=by
   refine⟨.ar,.ar,.ar,(λ_=>False),(λ_=>False),(λ_=>False),⟨u.get (ad.bI _ _),(p.aM x).aM u⟩,?_,u.get (x.get z),u.get (x.get B),V,c7.nil,c7.nil,c7.nil,λ_ h=>h.elim,λ_ h=>h.elim,λ_ h=>h.elim,af,af,a0.mut _⟩;intro l i m e c ag;rcases p with⟨rfl,_⟩|⟨l',a4,cap,rfl,aH⟩
   ·cases ag
   ·cases ag;obtain⟨ro,els,a6,-⟩:=aH.resolve_left (by rintro rfl;simp at K);exact ad.aS a6
  simp-implicitDefEqProofs(disch:=try exact aj)only[bh,bx,aE,aF,ai];refine xu (M:=M) af aK.n (λap aA=> ?_) n (n+1) _ _ .none af (by simp only[dv.none,List.length_nil];omega) (by simp only[dv.none,List.length_nil];omega) (by simp only[dv.none,List.length_nil];omega) rs (aI rfl);obtain⟨bL,bT,bP,aN,aQ,aR,av,a9,A,E,ab,R,S,b3,aq,ax,az,bO,b2,ah⟩:=aA;have ae:=av.rd;unfold bH at ae;have cz:=R.one;have dz:=S.one;have aY:=b3.one;have aT:=ad.aS A;have aV:=ad.aS E;have a8:=ad.aS ab;have an:aO H ap:=⟨ah.1,λl K=>ah.2 l K af⟩;unfold nm;refine aP (kf av.rd) ?_;rintro _ Q ⟨rfl,rfl⟩;refine⟨bj _,?_⟩;unfold xi;by_cases w:s'.aG=0
  ·have F:(s'.aG==0)=true:=by simpa using w
   simp-implicitDefEqProofs(disch:=try exact aj)only[reduceAdd,reduceLeDiff,reduceIte,aw,F,Bool.not_true,ab,A,E,cz,dz,aY];rw[if_pos w];have O:∀ok:Nat->Prop,(∀k,ok k->a.next+1<k)->dp Q ok ((Q.set H.next (.row U 3 [[bL,bT,bP]])).set (H.next+1) (.row U 2 [[I J 0,I J 0]])) (bk H.next):=λok o k b aJ g=>by
    have:=o k aJ;exact⟨by unfold bk;omega,by rw[ad.get_set_other af,ad.get_set_other af];exact g⟩
   exact ba.2 ⟨bL,bT,bP,rfl,(R.aB).a1 (O aN λk o=>(aq k o).1),(S.aB).a1 (O aQ λk o=>(ax k o).1),(b3.aB).a1 (O aR az),(an.cE (bj _) _).cE af _⟩
  ·have F:(s'.aG==0)=false:=by simpa using w
   simp-implicitDefEqProofs(disch:=try exact aj)only[reduceAdd,reduceLeDiff,reduceIte,aw,F,Bool.not_false,ae,A,E,Ew];rw[if_neg w];exact ba.2 ⟨.ar,.ar,.ar,rfl,dU.nil,dU.nil,dU.nil,(an.cE (bj _) _).cE af _⟩
 ·have z0:(aG != 0)=true:=by simpa using G
  have a5:=ad.aS z;have a7:=ad.aS B;rw[if_neg G];have aT:=ad.aS y;have aV:=ad.aS v;have aZ:=al.trans d;simp-implicitDefEqProofs(disch:=try exact aj)only[reduceAdd,reduceLeDiff,reduceIte,aw,ad.gd,z0,y,v,Ew];refine ba.2 ⟨.ar,.ar,.ar,rfl,dU.nil,dU.nil,dU.nil,?_⟩
  repeat (first|exact aZ|refine aO.bE ?_ _|refine aO.cE ?_ af _)
end
section
variable {α:Type}{K:h4 α}{H:ad}{ok:Nat->Prop}
def dU.row{l:List α}{v:aa}(h:dU K H ok l v)(c:¬l.length=0):∃L i cap ro els,v= .aB L i l.length K.esz cap/\H.get L=D (.row ro K.esz els)/\∀(j:Nat) (a:α),l[j]? =D a->∃cs,els[i+j]? =D cs/\K.V H ok a cs:=by
 rcases h with⟨rfl,h⟩|⟨L,i,cap,ro,els,an,aE,bn,b8⟩|⟨L,i,cap,rfl,h⟩
 ·rw[h]at c;exact absurd rfl c
 ·exact⟨L,i,_,ro,els,an,bn,b8⟩
 ·rw[h]at c;exact absurd rfl c
end
def dU.nW{H:ad}{ok:Nat->Prop}{l:List ch}{v:aa}(h:dU f_ H ok l v)(H':ad):b_ P H' .len [23] [v]=D (I J l.length):=by
 rcases h with⟨rfl,rfl⟩|⟨L,i,cap,ro,els,rfl,_⟩|⟨L,i,cap,rfl,rfl⟩
 ·exact tf
 ·exact ry
 ·exact ry
def dU.wC{H:ad}{ok:Nat->Prop}{l:List fo}{v:aa}(h:dU jc H ok l v)(H':ad):b_ P H' .len [22] [v]=D (I J l.length):=by
 rcases h with⟨rfl,rfl⟩|⟨L,i,cap,ro,els,rfl,_⟩|⟨L,i,cap,rfl,rfl⟩
 ·exact te
 ·exact rv
 ·exact rv
def dU.wD{H:ad}{ok:Nat->Prop}{l:List Fn}{v:aa}(h:dU ia H ok l v)(H':ad):b_ P H' .len [24] [v]=D (I J l.length):=by
 rcases h with⟨rfl,rfl⟩|⟨L,i,cap,ro,els,rfl,_⟩|⟨L,i,cap,rfl,rfl⟩
 ·exact tg
 ·exact rz
 ·exact rz
section
set_option maxRecDepth 100000
noncomputable section
