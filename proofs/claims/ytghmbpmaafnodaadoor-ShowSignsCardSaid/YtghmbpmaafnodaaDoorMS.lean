/-
  Texts of one proof, laid together: V3 Rh Ri Rj Rk Rl Rm Rn Qj Ro N1b Qk ShPb.
-/
import Derived.Test.YtghmbpmaafnodaaDoorMR
set_option linter.unusedVariables false
set_option linter.unusedSimpArgs false
set_option linter.defProp false
open Option renaming some→D,none→Z
open Bool renaming true→X,false→U
open Go.b9.aa renaming int→I,str→Y,bool→C
open Go.IntKind renaming i64→J
namespace Go.Proofs.YtghmbpmaafnodaaDoor
open Go.b9
open Nat (reduceAdd reduceLeDiff)
section
variable {H0 H:ad}{r b3 cK:Nat}{T:List Tok}{ao:aa}{s0 s:av}{t:Tok}
def Mi{a:b2}{b6 bv c v:aa}(g:H.get cK=D (.row U 9 [a.cells b6 bv c]))(ai:v.one=X):aV P H 71 (.ptr cK 0 5) v=D (H.set cK (.row U 9 [a.cells b6 v c])):=by
 rw[Dr q0 g rfl (by rw[h2 ai];rfl) (by rw[h2 ai,List.all_cons,ai];rfl) cu,h2 ai];rfl
def Mj{a:b2}{b6 bv c v:aa}(g:H.get cK=D (.row U 9 [a.cells b6 bv c]))(ai:v.one=X):aV P H 71 (.ptr cK 0 6) v=D (H.set cK (.row U 9 [a.cells b6 bv v])):=by
 rw[Dr q0 g rfl (by rw[h2 ai];rfl) (by rw[h2 ai,List.all_cons,ai];rfl) cu,h2 ai];rfl
def Kh(aE:T.length<=20000000)(c:bI H0 r T ao s0)(b:eW H0 H r b3 cK ao t s (b2.cells {kind:=0,pos:=t.pos} .ar .ar .ar))(bA:eC H0 ao T):
  W (k_ (aC P ay) (.ptr r 0 0) (.ptr H0.next 0 0) (.ptr b3 0 0) (.ptr cK 0 0) (C X) H) (fb H0 r T ao ((bif t.text==[108,101,116]then p9 T (aD s)else pO T (aD s)).1.at t.pos) (bif t.text==[108,101,116]then p9 T (aD s)else pO T (aD s)).2):=by
 have a:=c.rd.lt;have L:=c.bA.one;have ah:=b.dI;have aj:=b.eY;obtain⟨m1,d1⟩:=eQ b.rd (aD s);have i:=(b.mut a m1 d1).set a (b2.cells {kind:=1,pos:=t.pos} .ar .ar .ar);have x:=b.rd;unfold bw at x;have g4:=b.g4;have gn:=b.rd.lt;have eY:=ad.aR g4;simp only[b2.cells]at g4;simp-implicitDefEqProofs(disch:=try exact al)only[k_,reduceAdd,reduceLeDiff,reduceIte,ax,eV,x,L,g4];refine aN (lL (c.mut i.m i.rd)) ?_;rintro _ R ⟨rfl,m3,M⟩;refine⟨m3.1,?_⟩;have p:=i.mut a m3 M.rd;have j:=p.set a (b2.cells {kind:=1,name:=(bu T (aD s)).1,pos:=t.pos} .ar .ar .ar);have n:=p.g4;have ae:=ad.aR n;simp only[b2.cells]at n
 simp-implicitDefEqProofs(disch:=try exact al)only[reduceAdd,reduceLeDiff,reduceIte,ax,eV,n];refine aN (gi (c.mut j.m j.rd) [58] (by simp)) ?_;rintro _ S ⟨rfl,m5,z⟩;refine⟨m5.1,?_⟩;have F:=j.mut a m5 z.rd;refine aN (qG z) ?_;rintro _ V ⟨rfl,m6,N⟩;refine⟨m6.1,?_⟩;have k:=F.mut a m6 N.rd;have q:=k.set a (b2.cells {kind:=1,name:=(bu T (aD s)).1,cc:=(cM T (bl T [58] (bu T (aD s)).2)).1.1,c4:=(cM T (bl T [58] (bu T (aD s)).2)).1.2,pos:=t.pos} .ar .ar .ar);have e:=k.g4;have B:=k.g3;have af:=ad.aR e;simp only[b2.cells]at e;unfold p9 pO dX;generalize cM T (bl T [58] (bu T (aD s)).2)=ai at*;generalize bu T (aD s)=cg at*
 cases y:t.text==[108,101,116]with
 |false=>
  simp-implicitDefEqProofs(disch:=try exact al)only[reduceAdd,reduceLeDiff,reduceIte,ax,eV,e,B,y];exact Cy c q (b8.nil _ _)
 |true=>
  have d:=q.set a (b2.cells {kind:=2,name:=cg.1,cc:=ai.1.1,c4:=ai.1.2,pos:=t.pos} .ar .ar .ar);rw[ad.set_set]at d;simp-implicitDefEqProofs(disch:=try exact al)only[reduceAdd,reduceLeDiff,reduceIte,ax,eV,e,B,y];refine aN (gi (c.mut d.m d.rd) [61] (by simp)) ?_;rintro _ aa ⟨rfl,m8,A⟩;refine⟨m8.1,?_⟩;have u:=d.mut a m8 A.rd;refine aN (oI aE A) ?_;rintro v E ⟨m9,O,he⟩;refine⟨m9.1,?_⟩;have w:=u.mut a m9 O.rd;obtain⟨cs,rfl,K,bH⟩:=he.cells;have aB:∀l,bV P l 41 1 [(0,.agg cs)]=D (.aA l 0 1 11 (D 1),.row U 11 [cs]):=λl=>jf l cs K bH
  have o:=w.g4;have ag:=ad.aR o;have ab:=ad.aR u.g4;obtain⟨G,Q⟩:=eW.expr a (c':=b2.cells {kind:=2,name:=cg.1,cc:=ai.1.1,c4:=ai.1.2,pos:=t.pos} (.aA E.next 0 1 11 (D 1)) .ar .ar) w (cr.aX (c9.kL λl h=>by unfold bf at*;first|omega|(simp only[ad.dj]at*;omega)) _ _ he) rfl;simp only[b2.cells]at o;simp-implicitDefEqProofs(disch:=try exact al)only[reduceAdd,reduceLeDiff,reduceIte,ax,eV,aB,o,ad.hr];exact Cy c G Q
def CK{n:Nat}(ah:q8 n)(aE:T.length<=20000000)(q:bI H0 r T ao s0)(b:eW H0 H r b3 cK ao t s (b2.cells {kind:=0,pos:=t.pos} .ar .ar .ar)){a:Int}{e:aL}{i:List bE}{s1 s2:av}(aQ:a=5\/a=6)(ab:bB T (aD s)=(e,s1))(V:iS T n s1=D (i,s2))
  {Q:aa->ad->Prop} {k:aa->ad->O} (af:∀(bJ:ad) (b6 bv:aa),eW H0 bJ r b3 cK ao t s2 (b2.cells {kind:=a,pos:=t.pos} b6 bv .ar)->b8 bJ (bf (cK+1)) [e] b6->c1 bJ (bf (cK+1)) i bv->W (k (.tuple []) bJ) Q):
  W (j (bW (.ptr r 0 0)) λam=>j (aI P 59 am 1) λap=>j (an P H 3 ap) λau=>j (aq P .add 3 X au (I J 1)) λaw=>j (bW (.ptr r 0 0)) λaz=>j (aI P 59 az 1) λaF=>
   a7 H (aV P H 3 aF aw) λz=>j (aI P 112 (.ptr cK 0 0) 0) λaG=>a7 z (aV P z 3 aG (I J a)) λA=>aH A (aC P ay 40 [.ptr r 0 0,I J 0] A) λaJ B=>bS B (bV P B.next 41 1 [(0,aJ)]) λaK E=>
   j (aI P 112 (.ptr cK 0 0) 3) λaM=>a7 E (aV P E 41 aM aK) λF=>aH F (aC P ay 56 [.ptr r 0 0] F) λaO G=>j (aI P 112 (.ptr cK 0 0) 4) λaP=>a7 G (aV P G 71 aP aO) λS=>k (.tuple []) S) Q:=by
 have c:=q.rd.lt;have ae:=q.bA.one;have aW:=b.dI;have aY:=b.eY;obtain⟨m1,d1⟩:=eQ b.rd (aD s);have o:=(b.mut c m1 d1).set c (b2.cells {kind:=a,pos:=t.pos} .ar .ar .ar);have L:=b.rd;unfold bw at L;have g4:=b.g4;have gn:=b.rd.lt;have eY:=ad.aR g4;simp only[b2.cells]at g4;simp-implicitDefEqProofs(disch:=try exact al)only[reduceAdd,reduceLeDiff,reduceIte,ax,eV,L,ae,g4];refine aN (oI aE (q.mut o.m o.rd)) ?_;rintro v d ⟨m4,M,he⟩;refine⟨m4.1,?_⟩;rw[ab]at M he;have y:=o.mut c m4 M.rd;obtain⟨cs,rfl,R,bH⟩:=he.cells;have aB:∀l,bV P l 41 1 [(0,.agg cs)]=D (.aA l 0 1 11 (D 1),.row U 11 [cs]):=λl=>jf l cs R bH
 have x:=y.g4;have aT:=ad.aR x;have aS:=ad.aR o.g4;obtain⟨p,ai⟩:=eW.expr c (c':=b2.cells {kind:=a,pos:=t.pos} (.aA d.next 0 1 11 (D 1)) .ar .ar) y (cr.aX (c9.kL λl h=>by unfold bf at*;first|omega|(simp only[ad.dj]at*;omega)) _ _ he) rfl;have ak:cK<((d.set cK (.row U 9 [b2.cells {kind:=a,pos:=t.pos} (.aA d.next 0 1 11 (D 1)) .ar .ar])).push (.row U 11 [cs])).next:=ad.aR p.g4
 simp only[b2.cells]at x ak;simp-implicitDefEqProofs(disch:=try exact al)only[reduceAdd,reduceLeDiff,reduceIte,ax,eV,aB,x,ad.hr];refine aN (ah aE (q.mut p.m p.rd) i s2 V) ?_;rintro bv u ⟨m7,ag,K⟩;refine⟨m7.1,?_⟩;have w:=p.mut c m7 ag.rd;have aj:=ai.aX (c9.mut m7 (ok':=bf (cK+1)) (by unfold bf;omega) λ_ h=>h);have N:c1 u (bf (cK+1)) i bv:=K.aX (dU.kL λl h=>by unfold bf at*;simp only[b2.cells]at h;omega);have iE:=K.eb;have st:=Mi w.g4 iE;have aU:=ad.aR w.g4;simp-implicitDefEqProofs(disch:=try exact al)only[bg,br,dR,Nat.zero_add];rw[st,s8 (by simp only[ad.dj];omega)];have ks:dU u (bf (cK+1)) (u.set cK (.row U 9 [b2.cells {kind:=a,pos:=t.pos} (.aA d.next 0 1 11 (D 1)) bv .ar])) (bf (cK+1)):=dU.set _ (by unfold bf;omega) λ_ h=>h
 exact af _ _ _ (w.set c _) (aj.aX ks.ex) (N.aX ks)
end
def Jm{n:Nat}(ak:q8 n):rf (n+1):=by
 intro H r T ao s aE a e s' h;refine cz (λ_=>J6 0) ?_;have i:=a.rd.lt;have ab:=a.bA.one;have av:=aO.push H (.row U 9 [[I J 0,Y [],Y [],I J 0,.ar,.ar,.ar,I J 0,I J 0]]);simp-implicitDefEqProofs(disch:=try exact al)only[qN,reduceAdd,reduceLeDiff,reduceIte,ax,eV];refine aN (hv (a.rd.aM av) (a.bA.aM av)) ?_;rintro _ o ⟨rfl,N⟩;refine⟨N.1,?_⟩;have n2:=N.1;simp only[ad.bT]at n2;generalize bn:au T s.at_=t;have a9:=((av.trans N).bt (.row U 4 [[I J t.kind,Y t.text,I J t.n,I J t.pos]])).bt (.row U 9 [b2.cells {kind:=0,pos:=t.pos} .ar .ar .ar])
 have bu:=(aO.push o (.row U 4 [[I J t.kind,Y t.text,I J t.n,I J t.pos]])).bt (.row U 9 [b2.cells {kind:=0,pos:=t.pos} .ar .ar .ar]);have b:eW H ((o.push (.row U 4 [[I J t.kind,Y t.text,I J t.n,I J t.pos]])).push (.row U 9 [b2.cells {kind:=0,pos:=t.pos} .ar .ar .ar])) r o.next (o.next+1) ao t s (b2.cells {kind:=0,pos:=t.pos} .ar .ar .ar):=
  ⟨a9.mut _,a.rd.aM a9,bu.get (N.get (ad.bC H _)),by simp-implicitDefEqProofs(disch:=try exact al)only[du],ad.bC (o.push _) _,af,af⟩
 simp-implicitDefEqProofs(disch:=try exact al)only[qN,reduceAdd,reduceLeDiff,reduceIte,ax,eV,Tok.v];simp only[b2.cells]at b;generalize (o.push (.row U 4 [[I J t.kind,Y t.text,I J t.n,I J t.pos]])).push (.row U 9 [[I J 0,Y [],Y [],I J 0,.ar,.ar,.ar,I J t.pos,I J 0]])=aG at b ⊢;have u:eW H aG r o.next (o.next+1) ao t s (b2.cells {kind:=0,pos:=t.pos} .ar .ar .ar):=b
 generalize o.next=b3 at u ⊢
 clear b;simp only[o9,bn,cR]at h;obtain⟨⟨bl,s1⟩,c,aL⟩:=h;simp only[aU,bY]at aL;obtain⟨rfl,rfl⟩:=aL;have F:=a.mut u.m u.rd;have bc:∀(H':ad),aO aG H'->(a1 T s [118,97,114]||a1 T s [108,101,116])=X->W (k_ (aC P ay) (.ptr r 0 0) (.ptr H.next 0 0) (.ptr b3 0 0) (.ptr (b3+1) 0 0) (C X) H') (fb H r T ao (bl.at t.pos) s1):=by
  intro H' a8 M;rw[M,aZ,aU]at c;have:=Kh aE a (u.mut i (a8.mut _) (u.rd.aM a8)) a.bA;rw[c]at this;exact this
 refine aN (dk F.rd F.bA [118,97,114] (by simp)) ?_;rintro _ bd ⟨rfl,K⟩;refine⟨K.1,?_⟩;cases M:a1 T s [118,97,114]with
 |true=>
  simp-implicitDefEqProofs(disch:=try exact al)only[reduceAdd,reduceLeDiff,reduceIte,ax];exact bc bd K (by rw[M];rfl)
 |false=>
  simp-implicitDefEqProofs(disch:=try exact al)only[reduceAdd,reduceLeDiff,reduceIte,ax];refine aN (dk (F.aM K).rd (F.aM K).bA [108,101,116] (by simp)) ?_;rintro _ be ⟨rfl,ba⟩;refine⟨ba.1,?_⟩;have aw:=K.trans ba;cases hle:a1 T s [108,101,116]with
  |true=>exact bc be aw (by rw[hle,Bool.or_true])
  |false=>
   rw[M,hle,Bool.or_false,aT]at c;simp-implicitDefEqProofs(disch:=try exact al)only[k_,reduceAdd,reduceLeDiff,reduceIte,ax];have ae:=F.aM aw;refine aN (dk ae.rd ae.bA [105,102] (by simp)) ?_;rintro _ bx ⟨rfl,az⟩;refine⟨az.1,?_⟩;have a_:=aw.trans az;have ag:=ae.aM az;have R:=u.mut i (a_.mut _) (u.rd.aM a_);have bO:=u.dI;cases aW:a1 T s [105,102]with
   |true=>
    simp only[aW,aZ,cR]at c;obtain⟨⟨y,s2⟩,aa,z⟩:=c;simp-implicitDefEqProofs(disch:=try exact al)only[ek,aZ];refine CK ak aE a R (.inl rfl) (e:=(bB T (aD s)).1) (s1:=(bB T (aD s)).2) rfl aa (k:=λ_ L=>aH L (aC P ay 23 [.ptr r 0 0,Y [101,108,115,101]] L) _) ?_;intro bJ b6 bv iu am an;have a4:=a.mut iu.m iu.rd;refine aN (dk a4.rd a4.bA [101,108,115,101] (by simp)) ?_;rintro _ aI ⟨rfl,j⟩;refine⟨j.1,?_⟩;have d:=iu.mut i (j.mut _) (iu.rd.aM j);have a5:=am.aM j;have a6:=an.aX (dU.aM j λ_ h=>h);cases aV:a1 T s2 [101,108,115,101]with
    |false=>
     simp only[aV,aT,aU,bY]at z;obtain⟨rfl,rfl⟩:=z;simp-implicitDefEqProofs(disch:=try exact al)only[reduceAdd,reduceLeDiff,reduceIte,ax];exact oK a d a5 a6 (c1.nil _ _)
    |true=>
     simp only[aV,aZ,cR]at z;obtain⟨⟨bi,e4⟩,bm,aP⟩:=z;simp only[aU,bY]at aP;obtain⟨rfl,rfl⟩:=aP;obtain⟨B,V⟩:=eQ d.rd (aD s2);have fh:=d.mut i B V;have E:=d.rd;unfold bw at E;have bs:=d.rd.lt;simp-implicitDefEqProofs(disch:=try exact al)only[reduceAdd,reduceLeDiff,reduceIte,ax,E,ab];refine aN (ak aE (a.mut fh.m fh.rd) bi e4 bm) ?_;rintro bk w ⟨q,G,aS⟩;refine⟨q.1,?_⟩;have p:=fh.mut i q G.rd;have bL:=ad.aR p.g4;have bM:=ad.aR fh.g4;have st:=Mj p.g4 aS.eb;simp-implicitDefEqProofs(disch:=try exact al)only[bg,br,dR,Nat.zero_add];rw[st,s8 (by simp only[ad.dj];omega)];have a7:dU aI (bf (b3+1+1)) w (bf (b3+1+1)):=dU.mut (B.trans q) (by unfold bf;omega) λ_ h=>h
     have ks:dU w (bf (b3+1+1)) (w.set (b3+1) (.row U 9 [b2.cells {kind:=5,pos:=t.pos} b6 bv bk])) (bf (b3+1+1)):=dU.set _ (by unfold bf;omega) λ_ h=>h
     exact oK a (p.set i _) ((a5.aX a7.ex).aX ks.ex) ((a6.aX a7).aX ks) ((aS.aX (dU.kL λl h=>by unfold bf at*;omega)).aX ks)
   |false=>
    simp only[aW,aT]at c;simp-implicitDefEqProofs(disch:=try exact al)only[reduceAdd,reduceLeDiff,reduceIte,ax];refine aN (dk ag.rd ag.bA [119,104,105,108,101] (by simp)) ?_;rintro _ bz ⟨rfl,O⟩;refine⟨O.1,?_⟩;have ah:=ag.aM O;have S:=R.mut i (O.mut _) (R.rd.aM O);cases a3:a1 T s [119,104,105,108,101]with
    |true=>
     simp only[a3,aZ,cR]at c;obtain⟨⟨y,s2⟩,aa,z⟩:=c;simp only[aU,bY]at z;obtain⟨rfl,rfl⟩:=z;simp-implicitDefEqProofs(disch:=try exact al)only[ek,aZ];refine CK ak aE a S (.inr rfl) (e:=(bB T (aD s)).1) (s1:=(bB T (aD s)).2) rfl aa (k:=λ_ L=>gg (aC P ay) (.ptr H.next 0 0) (.ptr (b3+1) 0 0) L) ?_;exactλbJ b6 bv iu am an=>oK a iu am an (c1.nil _ _)
    |false=>
     simp only[a3,aT]at c;simp-implicitDefEqProofs(disch:=try exact al)only[reduceAdd,reduceLeDiff,reduceIte,ax];refine aN (dk ah.rd ah.bA [114,101,116,117,114,110] (by simp)) ?_;rintro _ bD ⟨rfl,Q⟩;refine⟨Q.1,?_⟩;have ai:=ah.aM Q;have x:=S.mut i (Q.mut _) (S.rd.aM Q);cases a2:a1 T s [114,101,116,117,114,110]with
     |true=>
      simp only[a2,aZ,aU]at c;obtain⟨m9,d9⟩:=eQ x.rd (aD s);have d:=(x.mut i m9 d9).set i (b2.cells {kind:=7,pos:=t.pos} .ar .ar .ar);have a0:=x.rd;unfold bw at a0;have g8:=x.g4;have bN:=x.rd.lt;have bG:=ad.aR g8;simp only[b2.cells]at g8;simp-implicitDefEqProofs(disch:=try exact al)only[reduceAdd,reduceLeDiff,reduceIte,ax,eV,a0,ab,g8];refine aN (dk d.rd (a.mut d.m d.rd).bA [59] (by simp)) ?_;rintro _ bh ⟨rfl,aF⟩;refine⟨aF.1,?_⟩;have fh:=d.mut i (aF.mut _) (d.rd.aM aF);unfold vD at c;cases aQ:a1 T (aD s) [59]with
      |true=>
       simp only[aQ,aZ,bY]at c;obtain⟨rfl,rfl⟩:=c;simp-implicitDefEqProofs(disch:=try exact al)only[reduceAdd,reduceLeDiff,reduceIte,ax,Bool.not_true];exact CW a fh (b8.nil _ _)
      |false=>
       simp only[aQ,aT,bY]at c;obtain⟨rfl,rfl⟩:=c;simp-implicitDefEqProofs(disch:=try exact al)only[reduceAdd,reduceLeDiff,reduceIte,ax,Bool.not_false];refine aN (oI aE (a.mut fh.m fh.rd)) ?_;rintro v w ⟨q,G,he⟩;refine⟨q.1,?_⟩;have p:=fh.mut i q G.rd;obtain⟨cs,rfl,y,bH⟩:=he.cells;have aB:∀l,bV P l 41 1 [(0,.agg cs)]=D (.aA l 0 1 11 (D 1),.row U 11 [cs]):=λl=>jf l cs y bH
       have A:=p.g4;have bq:=ad.aR A;have bp:=ad.aR fh.g4;obtain⟨mx,ap⟩:=eW.expr i (c':=b2.cells {kind:=7,pos:=t.pos} (.aA w.next 0 1 11 (D 1)) .ar .ar) p (cr.aX (c9.kL λl h=>by unfold bf at*;first|omega|(simp only[ad.dj]at*;omega)) _ _ he) rfl;simp only[b2.cells]at A;simp-implicitDefEqProofs(disch:=try exact al)only[reduceAdd,reduceLeDiff,reduceIte,ax,eV,aB,A,ad.hr];exact CW a mx ap
     |false=>
      simp only[a2,aT]at c;simp-implicitDefEqProofs(disch:=try exact al)only[reduceAdd,reduceLeDiff,reduceIte,ax];refine aN (dk ai.rd ai.bA [112,114,105,110,116] (by simp)) ?_;rintro _ aI ⟨rfl,j⟩;refine⟨j.1,?_⟩;have bF:=ai.aM j;have d:=x.mut i (j.mut _) (x.rd.aM j);have g9:=d.g4;have bs:=d.rd.lt;have bI:=ad.aR g9;cases aY:a1 T s [112,114,105,110,116]with
      |true=>
       simp only[aY,aZ,aU]at c;obtain⟨B,V⟩:=eQ d.rd (aD s);have fh:=(d.mut i B V).set i (b2.cells {kind:=8,pos:=t.pos} .ar .ar .ar);have E:=d.rd;unfold bw at E;simp only[b2.cells]at g9;unfold vt at c;simp only[bY]at c;obtain⟨rfl,rfl⟩:=c;simp-implicitDefEqProofs(disch:=try exact al)only[reduceAdd,reduceLeDiff,reduceIte,ax,eV,E,ab,g9];refine aN (oI aE (a.mut fh.m fh.rd)) ?_;rintro v w ⟨q,G,he⟩;refine⟨q.1,?_⟩;have p:=fh.mut i q G.rd;obtain⟨cs,rfl,y,bH⟩:=he.cells;have aB:∀l,bV P l 41 1 [(0,.agg cs)]=D (.aA l 0 1 11 (D 1),.row U 11 [cs]):=λl=>jf l cs y bH
       have A:=p.g4;have bq:=ad.aR A;have bp:=ad.aR fh.g4;obtain⟨mx,ap⟩:=eW.expr i (c':=b2.cells {kind:=8,pos:=t.pos} (.aA w.next 0 1 11 (D 1)) .ar .ar) p (cr.aX (c9.kL λl h=>by unfold bf at*;first|omega|(simp only[ad.dj]at*;omega)) _ _ he) rfl;simp only[b2.cells]at A;simp-implicitDefEqProofs(disch:=try exact al)only[reduceAdd,reduceLeDiff,reduceIte,ax,eV,aB,A,ad.hr];refine aN (gi (a.mut mx.m mx.rd) [59] (by simp)) ?_;rintro _ bE ⟨rfl,aq,bo⟩;refine⟨aq.1,?_⟩;exact oK a (mx.mut i aq bo.rd) (ap.aX (c9.mut aq (by unfold bf;omega) λ_ h=>h)) (c1.nil _ _) (c1.nil _ _)
      |false=>
       simp only[aY,aT,aU]at c;have aJ:=g9;simp only[b2.cells]at aJ;simp-implicitDefEqProofs(disch:=try exact al)only[reduceAdd,reduceLeDiff,reduceIte,ax,eV,aJ];refine aN (Jj aE (a.mut d.m d.rd) t.pos) ?_;rintro v bh ⟨B,aj,he⟩;refine⟨B.1,?_⟩;have fh:=d.mut i B aj.rd;obtain⟨cs,rfl,y,bH⟩:=he.cells;have pa:List.take 9 cs=cs:=List.take_of_length_le af;have aK:=fh.g2;have bK:=ad.aR aK;rw[c]at he aj;simp-implicitDefEqProofs(disch:=try exact al)only[reduceAdd,reduceLeDiff,reduceIte,ax,eV,aK,y,bH,pa,List.append_nil];exact bb.2 (fb.ret a fh.m aj.rd (bj _) he af _)
structure E5(n:Nat):Prop where
 stmt:rf n
 block:q8 n
def FC:∀n,n<=900000000->E5 n:=by
 intro n
 induction n using Nat.strongRecOn with
 |_ n a=>
  intro d;cases n with
  |zero=>exact⟨λ_ _ _ _ h=>by simp[o9]at h,λ_ _ _ _ h=>by simp[iS]at h⟩
  |succ n=>
   have i:=a n af af;exact⟨Jm i.block,I0 af λk c=>(a k af af).stmt⟩
section
variable {H H' H1:ad}{r:Nat}{T:List Tok}{ao:aa}{s s':av}
variable {b c n2 esz:Nat}{z:List aa}{x:aa}{rest:List aa}{l:List b7}{v:aa}
def fC.vJ(h:fC H1 H r b c n2 esz T ao z x rest l v s){s0:av}(i:bI H1 r T ao s0)(a:List aa):fC H1 (H.set c (.row U esz [x::v::a])) r b c n2 esz T ao z x a l v s:=by
 have bH:=h.bH;have bX:=h.bX;have cj:=h.cj;have dq:=h.dq;have iE:=h.iE;have lc:=ad.aR h.cell;have e:hY r H1.next H1 (H.set c (.row U esz [x::v::a])):=h.m.cv (.inr af) _
 exact⟨i.mG e (by unfold bw;rw[ad.get_set_other af];exact h.cC.rd),by rw[ad.get_set_other af];exact h.two,ad.get_set_same lc,h.gl.aX λk x d g=>⟨d,by unfold bf at d;rw[ad.get_set_other af];exact g⟩,e,bH,bX,iE,cj,by simp;omega⟩
def fC.I2(h:fC H1 H r b c n2 esz T ao z x rest l v s)(s2:av):fC H1 (H.set r (.row U 5 [[ao,I J s2.at_,I J s2.bP,I J s2.aF,I J s2.cS]])) r b c n2 esz T ao z x rest l v s2:=by
 obtain⟨m,a⟩:=eQ h.cC.rd s2;exact h.mut m (h.cC.mut m a)
def se{N:Nat}{Q:aa->ad->Prop}{cg:aK}{s0:av}(x:bI H1 r T ao s0){l':List b7}
  (k:∀H v,fC H1 H r b c n2 7 T ao z (Y cg) rest l' v s'->W (kh (aC P ay) N (.ptr r 0 0) (.ptr b 0 0) (.ptr c 0 0) H) Q):
  ∀(n m:Nat) (H:ad) (s:av) (l:List b7) (v:aa),n<m->l.length+n<=1000000000->fC H1 H r b c n2 7 T ao z (Y cg) rest l v s->oC T n l s=D (l',s')->W (ki (aC P ay) N m (.ptr r 0 0) (.ptr b 0 0) (.ptr c 0 0) H) Q
 |_,0,_,_,_,_,aY,_,_,_=>af
 |0,m+1,_,_,_,_,_,_,_,a=>by cases a
 |n+1,m+1,H,s,l,v,aY,bn,h,a=>by
  rw[oC]at a;rw[ki];unfold ss;refine aN (jH h.cC.rd) ?_;rintro _ be ⟨rfl,rfl⟩;refine⟨bj _,?_⟩;by_cases am:s.aF=0
  ·have i:(s.aF==0)=true:=by simpa using am
   simp-implicitDefEqProofs(disch:=try exact al)only[bg,br,i];refine iP (dk h.cC.rd h.cC.bA [41] (by simp)) ?_;rintro _ bf ⟨rfl,ae⟩;refine⟨ae.1,?_⟩;have u:=h.mut (ae.mut _) (h.cC.aM ae);rw[i,Bool.true_and]at a;cases aD:a1 T s [41]with
   |true=>
    rw[aD]at a;cases a;simp-implicitDefEqProofs(disch:=try exact al)only[bg,br,i,Bool.not_true];exact k _ _ u
   |false=>
    rw[aD,Bool.not_false,aZ]at a;simp-implicitDefEqProofs(disch:=try exact al)only[bg,br,i,Bool.not_false];refine aN (hv u.cC.rd u.cC.bA) ?_;rintro _ o ⟨rfl,ag⟩;refine⟨ag.1,?_⟩;have e:=u.mut (ag.mut _) (u.cC.aM ag);have V:=λH'=>e.gl.mM H'
    have bo:=e.gl.rd;have E:=e.cell;have bp:=e.gl.one;have go:((au T s.at_).kind==1&&l.length==6)=X->W (aH o (aC P ay 24 [.ptr r 0 0,I J 4] o) λbq d=>kh (aC P ay) N (.ptr r 0 0) (.ptr b 0 0) (.ptr c 0 0) d) Q:=λhm=>by
     rw[hm,aZ]at a;cases a;refine aN (jG e.cC 4) ?_;rintro _ bi ⟨rfl,m5,a4⟩;exact⟨m5.1,k _ _ (e.mut m5 a4)⟩
    have on:((au T s.at_).kind==1&&l.length==6)=U->W (aH o (aC P ay 26 [.ptr r 0 0] o) λa8 d=>
      j (aI P 73 (.ptr c 0 0) 1) λG=>j (an P d 23 G) λK=>bS d (bV P (d).next 23 1 [(0,a8)]) λa9 L=>aH L (cQ P L [23,23] K a9) λa_ ap=>j (aI P 73 (.ptr c 0 0) 1) λba=>a7 ap (aV P ap 23 ba a_) λaq=>
      bif ((bh (an P o 23 G) K&&(bh (an P d 23 G) K&&(bh (an P L 23 G) K&&X)))&&X)then(aH aq (aC P ay 23 [.ptr r 0 0,Y [41]] aq) λbb M=>
      j (ff .not bb) λbc=>
      aW (D bc) (aH M (aC P ay 27 [.ptr r 0 0,Y [44]] M) λbs aw=>
      aH aw (aC P ay 23 [.ptr r 0 0,Y [41]] aw) λbd O=>
      aW (D bd) (aH O (aC P ay 24 [.ptr r 0 0,I J 2] O) λbt aU=>
      ki (aC P ay) N m (.ptr r 0 0) (.ptr b 0 0) (.ptr c 0 0) aU) (ki (aC P ay) N m (.ptr r 0 0) (.ptr b 0 0) (.ptr c 0 0) O)) (ki (aC P ay) N m (.ptr r 0 0) (.ptr b 0 0) (.ptr c 0 0) M))else Z) Q:=λhm=>by
     rw[hm,aT]at a;refine aN (vH e.cC) ?_;rintro _ aj ⟨rfl,m6,a5⟩;refine⟨m6.1,?_⟩;have y:=e.mut m6 a5;have aX:=y.cell;have a0:=y.gl.rd;generalize dD T s=q at y a;obtain⟨p,aE⟩:=q;obtain⟨ai,aL,aR,aS,ak,aP,aQ,A⟩:=y.add x af p;have a2:=qV qh aj.next (cs:=p.cells) rfl rfl
     have bm:(aj.push (.row U 4 [p.cells])).next<=aL.next:=by simp only[ad.bT];exact aS
     have az:=h2 ak;simp only[aa.cells]at az;simp-implicitDefEqProofs(disch:=try exact al)only[bg,br,dR,an,cy,aV,cy,Nat.reduceAdd,Nat.reduceLeDiff,reduceIte,aa.cells,cE,dz,du,az,aX,a2,aR,eK,aP,aQ,ak,a0,E];refine aN (dk A.cC.rd A.cC.bA [41] (by simp)) ?_;rintro _ aO ⟨rfl,ah⟩;refine⟨ah.1,?_⟩;have R:=A.mut (ah.mut _) (A.cC.aM ah);simp only at a;cases aB:a1 T aE [41]with
     |true=>
      rw[aB,aZ]at a;simp-implicitDefEqProofs(disch:=try exact al)only[bg,br,Bool.not_true];exact se x k n m aO _ _ ai af (by simp;omega) R a
     |false=>
      rw[aB,aT]at a;simp-implicitDefEqProofs(disch:=try exact al)only[bg,br,Bool.not_false];refine aN (gi R.cC [44] (by simp)) ?_;rintro _ bk ⟨rfl,m9,a6⟩;refine⟨m9.1,?_⟩;have B:=R.mut m9 a6;refine aN (dk B.cC.rd B.cC.bA [41] (by simp)) ?_;rintro _ aG ⟨rfl,ab⟩;refine⟨ab.1,?_⟩;have d:=B.mut (ab.mut _) (B.cC.aM ab);unfold lx at a;cases he:a1 T (bl T [44] aE) [41]with
      |true=>
       rw[he,aZ]at a;simp-implicitDefEqProofs(disch:=try exact al)only[bg,br];refine aN (jG d.cC 2) ?_;rintro _ aJ ⟨rfl,m11,a3⟩;refine⟨m11.1,?_⟩;exact se x k n m aJ _ _ ai af (by simp;omega) (d.mut m11 a3) a
      |false=>
       rw[he,aT]at a;simp-implicitDefEqProofs(disch:=try exact al)only[bg,br];exact se x k n m aG _ _ ai af (by simp;omega) d a
    cases w:(au T s.at_).kind==1 with
    |true=>
     rw[w]at go on;cases F:l.length==6 with
     |true=>
      have S:((l.length:Int)==6)=true:=by
       have:l.length=6:=by simpa using F
       simp;omega
      rw[F]at go;simp-implicitDefEqProofs(disch:=try exact al)only[reduceAdd,reduceLeDiff,reduceIte,ax,Tok.v,E,V,w,S];exact go rfl
     |false=>
      have S:((l.length:Int)==6)=false:=by
       have:l.length≠6:=by simpa using F
       simp;omega
      rw[F]at on;simp-implicitDefEqProofs(disch:=try exact al)only[reduceAdd,reduceLeDiff,reduceIte,ax,Tok.v,E,V,w,S];exact on rfl
    |false=>
     rw[w]at on;simp-implicitDefEqProofs(disch:=try exact al)only[reduceAdd,reduceLeDiff,reduceIte,ax,Tok.v,E,V,w];exact on rfl
  ·have i:(s.aF==0)=false:=by simpa using am
   rw[i]at a;cases a;simp-implicitDefEqProofs(disch:=try exact al)only[bg,br,i];exact k _ _ h
end
section
variable {H H' H1:ad}{r:Nat}{T:List Tok}{ao:aa}{s s' s0:av}
abbrev nN:List aa:=[Y [],.ar,C U,Y [],I J 0,.ar,I J 0]
abbrev gL(has:Bool)(dF:aK)(rd a:Int):List aa:=[C has,Y dF,I J rd,.ar,I J a]
def tc(H1:ad)(r:Nat)(T:List Tok)(ao:aa)(f:Fn)(s':av)(w:aa)(H':ad):Prop:=(∃cs,w= .agg cs/\hL.V H' (bf H1.next) f cs)/\b5 r H1 H'/\bI H' r T ao s'
def CJ{N n:Nat}(Q:n<=900000000)(aE:T.length<=20000000)(p:bI H1 r T ao s0){c n2:Nat}{cg dF:aK}{has:Bool}{rd e:Int}{l:List b7}{v:aa}{i:List bE}
  (h:fC H1 H r H1.next c n2 7 T ao nN (Y cg) (gL has dF rd e) l v s) (O:iS T n s=D (i,s')):
  W (nm (aC P ay) N (.ptr r 0 0) (.ptr H1.next 0 0) (.ptr c 0 0) H) (tc H1 r T ao ⟨cg,l,has,dF,rd,i,e⟩ s'):=by
 unfold nm;refine aN ((FC n Q).block aE h.cC i s' O) ?_;rintro w o ⟨m2,R,q⟩;refine⟨m2.1,?_⟩;have a:=h.mut m2 R;have bH:=a.bH;have bX:=a.bX;have iE:=a.iE;have cj:=a.cj;have dq:=a.dq;have V:=h.dq;have K:=a.cell;have A:=a.gl.one;have B:=q.eb;have M:=h2 A;have y:=h2 B;simp only[aa.cells]at M y;have j:=a.vJ p [C has,Y dF,I J rd,w,I J e];have u:=j.two;have L:=j.cell;have S:=ad.aR u;have z:hY r H1.next H1 ((o.set c (.row U 7 [Y cg::v::[C has,Y dF,I J rd,w,I J e]])).set H1.next (.row U 7 [Y cg::v::[C has,Y dF,I J rd,w,I J e]])):=j.m.cv (.inr (bj _)) _
 have d:df o (bf n2) ((o.set c (.row U 7 [Y cg::v::[C has,Y dF,I J rd,w,I J e]])).set H1.next (.row U 7 [Y cg::v::[C has,Y dF,I J rd,w,I J e]])) (bf H1.next):=λk x d g=>⟨by unfold bf at d ⊢;omega,by unfold bf at d;rw[ad.get_set_other af,ad.get_set_other af];exact g⟩
 have G:=a.gl.aX d;have F:c1 _ (bf H1.next) i w:=q.aX (df.trans (df.le (ok':=bf n2) λk d=>by unfold bf at d ⊢;omega) d).s;have E:=p.mG z (s':=s') (by unfold bw;rw[ad.get_set_other af];exact j.cC.rd);simp-implicitDefEqProofs(disch:=try exact al)only[bg,br,dR,an,cy,aV,cy,Nat.reduceAdd,Nat.reduceLeDiff,reduceIte,aa.cells,cE,dz,du,K,L,u,A,B,y];exact bb.2 ⟨⟨_,rfl,v,w,rfl,G.aA,F⟩,z.mt,E⟩
def Jb{N n:Nat}(w:n<=900000000)(aE:T.length<=20000000)(j:bI H1 r T ao s0){c n2:Nat}{cg:aK}{i:Int}{l:List b7}{v:aa}{p:List bE}
  (h:fC H1 H r H1.next c n2 7 T ao nN (Y cg) (gL U [] 0 i) l v s) (a:iS T n (gu T (bl T [41] s)).2=D (p,s')):
  W (kh (aC P ay) N (.ptr r 0 0) (.ptr H1.next 0 0) (.ptr c 0 0) H) (tc H1 r T ao ⟨cg,l,(gu T (bl T [41] s)).1.1,(gu T (bl T [41] s)).1.2.1,(gu T (bl T [41] s)).1.2.2,p,i⟩ s'):=by
 unfold kh;refine aN (gi h.cC [41] (by simp)) ?_;rintro _ O ⟨rfl,m2,L⟩;refine⟨m2.1,?_⟩;have e:=h.mut m2 L;generalize bl T [41] s=s2 at e a ⊢;refine aN (dk e.cC.rd e.cC.bA [58] (by simp)) ?_;rintro _ A ⟨rfl,o⟩;refine⟨o.1,?_⟩;have k:=e.mut (o.mut _) (e.cC.aM o);unfold gu at a ⊢;cases z:a1 T s2 [58]with
 |false=>
  rw[z,aT]at a;simp-implicitDefEqProofs(disch:=try exact al)only[bg,br];exact CJ w aE j k a
 |true=>
  rw[z,aZ]at a;have q:fC H1 (A.set r (.row U 5 [[ao,I J (aD s2).at_,I J s2.bP,I J s2.aF,I J s2.cS]])) r H1.next c n2 7 T ao nN (Y cg) (gL U [] 0 i) l v (aD s2):=k.I2 (aD s2)
  have x:=k.cC.rd;unfold bw at x;have u:=q.vJ j (gL X [] 0 i);have E:=q.cell;have K:=k.cC.bA.one;have G:IntKind.i64.wrap (s2.at_+1)=(aD s2).at_:=rfl;simp-implicitDefEqProofs(disch:=try exact al)only[bg,br,dR,c5,an,cy,aV,cy,Nat.reduceAdd,Nat.reduceLeDiff,reduceIte,aa.cells,cE,dz,x,K,G,E];refine aN (qG u.cC) ?_;rintro _ Q ⟨rfl,m6,M⟩;refine⟨m6.1,?_⟩;have m:=u.mut m6 M;have F:=m.cell;generalize cM T (aD s2)=ai at m a ⊢;obtain⟨⟨y,d⟩,R⟩:=ai;have B:=m.vJ j (gL X y d i);simp-implicitDefEqProofs(disch:=try exact al)only[bg,br,dR,c5,an,cy,aV,cy,Nat.reduceAdd,Nat.reduceLeDiff,reduceIte,aa.cells,cE,dz,F]
  exact CJ w aE j B a
end
section
variable {H H' H1:ad}{r:Nat}{T:List Tok}{ao:aa}{s s' s0:av}
def Jc{n:Nat}(ae:n<=900000000)(aE:T.length<=20000000)(h:bI H r T ao s){f:Fn}(u:mI T n s=D (f,s')):W (aC P ay 28 [.ptr r 0 0] H) (tc H r T ao f s'):=by
 refine cz (λ_=>JA (n+1)) ?_;have ab:=h.rd.lt;unfold mI at u;obtain⟨⟨l',am⟩,i,V⟩:=cR.1 u;obtain⟨⟨aq,qQ⟩,w,y⟩:=cR.1 V;simp only[aU,bY]at y;obtain⟨rfl,rfl⟩:=y;simp only at w;have c:=aO.push H (.row U 7 [nN]);have K:=ad.bC H (.row U 7 [nN]);simp-implicitDefEqProofs(disch:=try exact al)only[sr,bg,br,List.length_cons,List.length_nil,Nat.zero_add,Nat.reduceAdd];refine aN (hv (h.rd.aM c) (h.aM c).bA) ?_;rintro _ H1 ⟨rfl,a⟩;refine⟨a.1,?_⟩;have ah:=a.1;simp only[ad.bT]at ah;have B:=(h.aM c).aM a;have L:=a.get K;generalize au T s.at_=q;obtain⟨k,x,z,p⟩:=q;have j:=aO.push H1 (.row U 7 [Y []:: .ar::gL U [] 0 p])
 have Q:=ad.bC H1 (.row U 7 [Y []:: .ar::gL U [] 0 p]);simp-implicitDefEqProofs(disch:=try exact al)only[bg,br,dR,an,cy,aV,cy,Nat.reduceAdd,Nat.reduceLeDiff,reduceIte,aa.cells,cE,dz,du,ad.hr,Tok.v];refine aN (lL (B.aM j)) ?_;rintro _ m ⟨rfl,m3,e⟩;refine⟨m3.1,?_⟩;have aj:=m3.1;simp only[ad.bT]at aj;have M:=m3.get (j.get L) af;have o:=m3.get Q af;have dI:=ad.aR o;generalize bu T s=ai at e i ⊢;obtain⟨cg,e4⟩:=ai;simp only at e i ⊢;have ag:=((((c.mut (· =r)).trans (a.mut _)).trans (j.mut _)).trans m3);have A:=ag.cv (l:=H1.next) (.inr af) (.row U 7 [Y cg:: .ar::gL U [] 0 p]);have E:=h.mut A (show bw _ r ao e4 by unfold bw;rw[ad.get_set_other af];exact e.rd)
 have N:(m.set H1.next (.row U 7 [Y cg:: .ar::gL U [] 0 p])).get H.next=D (.row U 7 [nN]):=by rw[ad.get_set_other af];exact M
 have R:(m.set H1.next (.row U 7 [Y cg:: .ar::gL U [] 0 p])).get H1.next=D (.row U 7 [Y cg:: .ar::gL U [] 0 p]):=ad.get_set_same dI
 simp-implicitDefEqProofs(disch:=try exact al)only[bg,br,dR,an,cy,aV,cy,Nat.reduceAdd,Nat.reduceLeDiff,reduceIte,aa.cells,cE,dz,du,o];refine aN (gi E [40] (by simp)) ?_;rintro _ d ⟨rfl,m5,F⟩;refine⟨m5.1,?_⟩;have ak:=m5.1;simp only[ad.dj]at ak;have O:=m5.get N af;have S:=m5.get R af;have gn:fC H d r H.next H1.next d.next 7 T ao nN (Y cg) (gL U [] 0 p) [] .ar (bl T [40] e4):=⟨F,O,S,.nil,b5.rX (A.trans m5),ab,bj _,af,af,bj _⟩
 refine se h (s':=am) (l':=l') (λap v G=> ?_) n (n+1) d _ [] .ar (Nat.lt_succ_self _) (by simp only[List.length_nil];omega) gn i;exact Jb ae aE h G w
end
section
variable {H H' H0 H1:ad}{r a c:Nat}{T:List Tok}{ao:aa}{s s' s0:av}{g gG:dm}
def uz{α:Type}{K:hD α}{t e:Nat}(y:jT t e K.esz){j:Nat->Prop}{l:List α}{v:aa}{a:bO}(F:c0 K j H1 l v)(m:b5 r H1 H)(M:H.get r=D a)(u:r<H1.next)(O:r<c)(L:c<H1.next)(s:∀k,j k->c<k){x:α}{cs:List aa}(he:K.V H (bf H1.next) x cs)(N:l.length<=1000000000):
  ∃n H',cQ P (H.push (.row U K.esz [cs])) [t,t] v (.aA H.next 0 1 K.esz (D 1))=D (n,H')/\n.one=X/\H.next+1<=H'.next/\H'.get c=H.get c/\∀b,c0 K (λk=>j k\/H1.next<=k) (H'.set c b) (l++[x]) n/\
   (∀k z,¬j k->k<H1.next->k≠c->k≠r->H1.get k=D z->(H'.set c b).get k=D z)/\(H'.set c b).get r=D a/\(H'.set c b).next=H'.next/\cP (λk=>k=r\/c<=k) H1 (H'.set c b):=by
 have i:(H1.set r a).next=H1.next:=ad.dj _ _ _
 have pu:aO (H1.set r a) H:=⟨by rw[i];exact m.1,λk d=>by
  rw[i]at d;by_cases e:k=r
  ·rw[e,ad.get_set_same u];exact M
  ·rw[ad.get_set_other (Ne.symm e)];exact m.2 k d e⟩
 have G:c0 K j (H1.set r a) l v:=F.aX λk x d g=>⟨d,by have:=s k d;rw[ad.get_set_other af];exact g⟩
 obtain⟨n,H',aS,a2,a3,a4,a5,o,w⟩:=grow (r:=c) y G ((pu.mut λk=>k=c\/(H1.set r a).next<=k)) s (by rw[i];exact L) (n2:=(H1.set r a).next) (by rw[i];exact he) (bj _) N;rw[i]at a3 o;refine⟨n,H',aS,a2,a4,a5,λb=>⟨a3 b,λk z p q A B E=>o k z p q A (by rw[ad.get_set_other (Ne.symm B)];exact E) b,?_,ad.dj _ _ _,?_⟩⟩
 ·exact o r a (λh=>by have:=s r h;omega) u af (ad.get_set_same u) b
 ·have m7:=w b;refine⟨by have:=m7.1;rw[i]at this;exact this,λk d aB=> ?_⟩;have p:k≠r:=λe=>aB (.inl e)
  have q:¬c<=k:=λe=>aB (.inr e)
  rw[m7.2 k (by rw[i];exact d) q,ad.get_set_other (Ne.symm p)]
def ep(H0:ad)(r c:Nat)(T:List Tok)(ao:aa)(H:ad)(g:dm)(s:av):Prop:=∃bD bK bG,∃h d a:Nat->Prop,bI H r T ao s/\(∀l i n e z,ao= .aA l i n e z->l<r)/\H.get H0.next=D (.row U 3 [[.ar,.ar,.ar]])/\H.get (H0.next+1)=D (.row U 2 [[I J 0,I J 0]])/\H.get c=D (.row U 3 [[bD,bK,bG]])/\ c0 iC h H g.da bD/\c0 fF d H g.globals bK/\c0 hL a H g.funcs bG/\(∀k,h k->c<k/\¬d k/\¬a k)/\(∀k,d k->c<k/\¬a k)/\(∀k,a k->c<k)/\H0.next+1<r/\r<c/\cP (λk=>H0.next<=k) H0 H
def ep.mt(h:ep H0 r c T ao H g s)(m:b5 r H H')(cC:bI H' r T ao s'):ep H0 r c T ao H' g s':=by
 obtain⟨bD,bK,bG,o,p,q,aw,u,v,w,x,l,n,b3,d,e,i,bH,bX,j⟩:=h;refine⟨bD,bK,bG,o,p,q,cC,u,m.get v af,m.get w af,m.get x af,l.aX (df.mut m λk a=>by have:=(d k a).1;omega),n.aX (df.mut m λk a=>by have:=(e k a).1;omega),b3.aX (df.mut m λk a=>by have:=i k a;omega),d,e,i,bH,bX,?_⟩;have y:=j.1;exact⟨by have:=m.1;omega,λk a aB=>by rw[m.2 k af af];exact j.2 k a aB⟩
def ep.dQ(h:ep H0 r c T ao H g s):bI H r T ao s:=by
 obtain⟨bD,bK,bG,a,d,e,aw,-⟩:=h;exact aw
def ep.aM(h:ep H0 r c T ao H g s)(p:aO H H'):ep H0 r c T ao H' g s:=h.mt (p.mut _) (h.dQ.aM p)
end
section
variable {H H' H0 H1:ad}{r c:Nat}{T:List Tok}{ao:aa}{s s' s0:av}{g gG:dm}
def wg(h:eC H ao T)(d:∀l i n e z,ao= .aA l i n e z->l<r)(c:∀k,k<r->∀z,H.get k=D z->H'.get k=D z):eC H' ao T:=by
 rcases h with a|⟨l,i,cap,rfl,a⟩
 ·exact .inl a
 ·exact .inr ⟨l,i,cap,rfl,a.imp id λ⟨ro,els,aY,j⟩=>⟨ro,els,c l (d _ _ _ _ _ rfl) _ aY,j⟩⟩
def Jh(h:bI H r T ao s){x:b7}(e:dD T s=(x,s')):W (aC P ay 26 [.ptr r 0 0] H) λv H'=>(∃cs,v= .agg cs/\fF.V H' (bf H.next) x cs)/\b5 r H H'/\bI H' r T ao s':=by
 refine(vH h).mono ?_;rintro v H' ⟨a,d,c⟩;rw[e]at a c;exact⟨⟨_,a,rfl⟩,d,c⟩
def Kk{M:Nat}(be:M<=900000000)(aE:T.length<=20000000)(h:ep H0 r c T ao H g s)(bf:g.da.length<=900000000){x:e1}(aL:mY T M (aD s)=D (x,s')){L:ad->O}{Q:aa->ad->Prop}(aJ:∀H',ep H0 r c T ao H' {g with da:=g.da++[x]} s'->W (L H') Q):
  W (j (bW (.ptr r 0 0)) λa3=>j (aI P 59 a3 1) λa4=>j (an P H 3 a4) λa5=>j (aq P .add 3 X a5 (I J 1)) λa6=>j (bW (.ptr r 0 0)) λa8=>j (aI P 59 a8 1) λa9=>a7 H (aV P H 3 a9 a6) λd=>
   aH d (aC P ay 25 [.ptr r 0 0] d) λa_ l=>j (aI P 26 (.ptr c 0 0) 0) λv=>j (an P l 22 v) λw=>bS l (bV P (l).next 22 1 [(0,a_)]) λba n=>aH n (cQ P n [22,22] w ba) λbb o=>
   j (aI P 26 (.ptr c 0 0) 0) λbc=>a7 o (aV P o 22 bc bb) λaG=>bif ((bh (an P d 22 v) w&&(bh (an P l 22 v) w&&(bh (an P n 22 v) w&&X)))&&X)then L aG else Z) Q:=by
 have ah:=h.dQ.rd;have aP:=h.dQ.bA.one;unfold bw at ah;have aM:IntKind.i64.wrap (s.at_+1)=(aD s).at_:=rfl;obtain⟨m,aK⟩:=eQ h.dQ.rd (aD s);have d:ep H0 r c T ao (H.set r (.row U 5 [[ao,I J (aD s).at_,I J s.bP,I J s.aF,I J s.cS]])) g (aD s):=h.mt m (h.dQ.mut m aK);simp-implicitDefEqProofs(disch:=try exact al)only[bg,br,dR,c5,an,cy,aV,cy,Nat.reduceAdd,Nat.reduceLeDiff,reduceIte,aa.cells,cE,dz,ah,aP,aM];generalize H.set r (.row U 5 [[ao,I J (aD s).at_,I J s.bP,I J s.aF,I J s.cS]])=q at d ⊢;refine aN (Jk af d.dQ aL) ?_;rintro _ y ⟨⟨cs,rfl,he⟩,m3,a2⟩
 refine⟨m3.1,?_⟩;obtain⟨bD,bK,bG,ai,aT,aU,aw,ap,au,av,K,A,S,b3,i,u,B,bH,bX,ak⟩:=d;have gn:=aw.rd.lt;have lc:=ad.aR K;have bj:=m3.1;have bo:=m3.get au af;have bp:=m3.get av af;have N:=m3.get K af;obtain⟨G,R,V,ab,az,E,ax⟩:=uz (c:=c) BE A m3 a2.rd gn bX lc (λk a=>(i k a).1) he af;have aj:=iC.len he;have aS:=qV BE y.next (cs:=cs) aj.1 aj.2
 have aW:iC.esz=3:=rfl;rw[aW]at V;have aQ:=A.rd;have ag:=h2 ab;simp only[aa.cells]at ag;rw[N]at E;have z5:=(aO.push y (.row U 3 [cs])).get N;have bd:(y.push (.row U 3 [cs])).next<=R.next:=by simp only[ad.bT];exact az
 have bl:=A.one;have bm:=S.one;have bn:=b3.one;simp-implicitDefEqProofs(disch:=try exact al)only[bg,br,dR,an,cy,aV,cy,Nat.reduceAdd,Nat.reduceLeDiff,reduceIte,aa.cells,cE,dz,N,K,z5,E,aS,V,eK,aQ,ag,ab];obtain⟨aY,a0,a1,bk,am⟩:=ax (.row U 3 [[G,bK,bG]]);have aZ:=ad.aR E;have p:∀k,k<q.next->k≠c->k≠r->¬ai k->∀z,q.get k=D z->(R.set c (.row U 3 [[G,bK,bG]])).get k=D z:=λk ae d l n z o=>a0 k z n ae d l o
 have F:∀k,ai k->c<k:=λk a=>(i k a).1
 refine aJ _ ⟨G,bK,bG,_,(λk=>aT k/\k<q.next),(λk=>aU k/\k<q.next),⟨a1,wg aw.bA ap λk a z e=>p k (ad.aR e) af af (λh=>by have:=F k h;omega) z e⟩,ap,?_,?_,ad.get_set_same aZ,aY,(S.aX λk b a g=>⟨⟨a,ad.aR g⟩,p k (ad.aR g) (by have:=(u k a).1;omega) (by have:=(u k a).1;omega) (λh=>(i k h).2.1 a) b g⟩),(b3.aX λk b a g=>⟨⟨a,ad.aR g⟩,p k (ad.aR g) (by have:=B k a;omega) (by have:=B k a;omega) (λh=>(i k h).2.2 a) b g⟩),?_,?_,?_,bH,bX,?_⟩
 ·exact p _ af af af (λa=>by have:=F _ a;omega) _ au
 ·exact p _ af af af (λa=>by have:=F _ a;omega) _ av
 ·rintro k (a|a)
  ·exact⟨(i k a).1,λh=>(i k a).2.1 h.1,λh=>(i k a).2.2 h.1⟩
  ·exact⟨af,λh=>by have:=h.2;omega,λh=>by have:=h.2;omega⟩
 ·exactλk a=>⟨(u k a.1).1,λh=>(u k a.1).2 h.1⟩
 ·exactλk a=>B k a.1
 ·have ae:=ak.1;have o:=am.1;refine⟨af,λk a aB=> ?_⟩;have bi:k<H0.next:=by simpa using aB
  rw[am.2 k af af];exact ak.2 k a aB
def Kj{M:Nat}(be:M<=900000000)(aE:T.length<=20000000)(h:ep H0 r c T ao H g s)(bf:g.globals.length<=900000000){x:b7}(aL:dD T (aD s)=(x,s')){L:ad->O}{Q:aa->ad->Prop}(aJ:∀H',ep H0 r c T ao H' {g with globals:=g.globals++[x]} s'->W (L H') Q):
  W (j (bW (.ptr r 0 0)) λa3=>j (aI P 59 a3 1) λa4=>j (an P H 3 a4) λa5=>j (aq P .add 3 X a5 (I J 1)) λa6=>j (bW (.ptr r 0 0)) λa8=>j (aI P 59 a8 1) λa9=>a7 H (aV P H 3 a9 a6) λd=>
   aH d (aC P ay 26 [.ptr r 0 0] d) λa_ l=>j (aI P 26 (.ptr c 0 0) 1) λv=>j (an P l 23 v) λw=>bS l (bV P (l).next 23 1 [(0,a_)]) λba o=>aH o (cQ P o [23,23] w ba) λbb p=>
   j (aI P 26 (.ptr c 0 0) 1) λbc=>a7 p (aV P p 23 bc bb) λaG=>bif ((bh (an P d 23 v) w&&(bh (an P l 23 v) w&&(bh (an P o 23 v) w&&X)))&&X)then L aG else Z) Q:=by
 have ah:=h.dQ.rd;have aP:=h.dQ.bA.one;unfold bw at ah;have aM:IntKind.i64.wrap (s.at_+1)=(aD s).at_:=rfl;obtain⟨m,aK⟩:=eQ h.dQ.rd (aD s);have d:ep H0 r c T ao (H.set r (.row U 5 [[ao,I J (aD s).at_,I J s.bP,I J s.aF,I J s.cS]])) g (aD s):=h.mt m (h.dQ.mut m aK);simp-implicitDefEqProofs(disch:=try exact al)only[bg,br,dR,c5,an,cy,aV,cy,Nat.reduceAdd,Nat.reduceLeDiff,reduceIte,aa.cells,cE,dz,ah,aP,aM];generalize H.set r (.row U 5 [[ao,I J (aD s).at_,I J s.bP,I J s.aF,I J s.cS]])=u at d ⊢;refine aN (Jh d.dQ aL) ?_;rintro _ y ⟨⟨cs,rfl,he⟩,m3,a2⟩
 refine⟨m3.1,?_⟩;obtain⟨bD,bK,bG,aT,ai,aU,aw,ap,au,av,K,S,A,b3,i,n,B,bH,bX,ak⟩:=d;have gn:=aw.rd.lt;have lc:=ad.aR K;have bj:=m3.1;have bo:=m3.get au af;have bp:=m3.get av af;have N:=m3.get K af;obtain⟨G,R,V,ab,az,E,ax⟩:=uz (c:=c) qh A m3 a2.rd gn bX lc (λk a=>(n k a).1) he af;have aj:=fF.len he;have aS:=qV qh y.next (cs:=cs) aj.1 aj.2
 have aW:fF.esz=4:=rfl;rw[aW]at V;have aQ:=A.rd;have ag:=h2 ab;simp only[aa.cells]at ag;rw[N]at E;have z5:=(aO.push y (.row U 4 [cs])).get N;have bd:(y.push (.row U 4 [cs])).next<=R.next:=by simp only[ad.bT];exact az
 have bl:=S.one;have bm:=A.one;have bn:=b3.one;simp-implicitDefEqProofs(disch:=try exact al)only[bg,br,dR,an,cy,aV,cy,Nat.reduceAdd,Nat.reduceLeDiff,reduceIte,aa.cells,cE,dz,N,K,z5,E,aS,V,eK,aQ,ag,ab];obtain⟨aY,a0,a1,bk,am⟩:=ax (.row U 3 [[bD,G,bG]]);have aZ:=ad.aR E;have q:∀k,k<u.next->k≠c->k≠r->¬ai k->∀z,u.get k=D z->(R.set c (.row U 3 [[bD,G,bG]])).get k=D z:=λk ae d l o z p=>a0 k z o ae d l p
 have F:∀k,ai k->c<k:=λk a=>(n k a).1
 refine aJ _ ⟨bD,G,bG,(λk=>aT k/\k<u.next),_,(λk=>aU k/\k<u.next),⟨a1,wg aw.bA ap λk a z e=>q k (ad.aR e) af af (λh=>by have:=F k h;omega) z e⟩,ap,?_,?_,ad.get_set_same aZ,(S.aX λk b a g=>⟨⟨a,ad.aR g⟩,q k (ad.aR g) (by have:=(i k a).1;omega) (by have:=(i k a).1;omega) (λh=>(i k a).2.1 h) b g⟩),aY,(b3.aX λk b a g=>⟨⟨a,ad.aR g⟩,q k (ad.aR g) (by have:=B k a;omega) (by have:=B k a;omega) (λh=>(n k h).2 a) b g⟩),?_,?_,?_,bH,bX,?_⟩
 ·exact q _ af af af (λa=>by have:=F _ a;omega) _ au
 ·exact q _ af af af (λa=>by have:=F _ a;omega) _ av
 ·refineλk a=>⟨(i k a.1).1,λh=> ?_,λh=>(i k a.1).2.2 h.1⟩
  rcases h with h|h
  ·exact(i k a.1).2.1 h
  ·have:=a.2;omega
 ·rintro k (a|a)
  ·exact⟨(n k a).1,λh=>(n k a).2 h.1⟩
  ·exact⟨af,λh=>by have:=h.2;omega⟩
 ·exactλk a=>B k a.1
 ·have ae:=ak.1;have p:=am.1;refine⟨af,λk a aB=> ?_⟩;have bi:k<H0.next:=by simpa using aB
  rw[am.2 k af af];exact ak.2 k a aB
def Ki{M:Nat}(aK:M<=900000000)(aE:T.length<=20000000)(h:ep H0 r c T ao H g s)(bf:g.funcs.length<=900000000){x:Fn}(aM:mI T M (aD s)=D (x,s')){L:ad->O}{Q:aa->ad->Prop}(aJ:∀H',ep H0 r c T ao H' {g with funcs:=g.funcs++[x]} s'->W (L H') Q):
  W (j (bW (.ptr r 0 0)) λa4=>j (aI P 59 a4 1) λa5=>j (an P H 3 a5) λa6=>j (aq P .add 3 X a6 (I J 1)) λa8=>j (bW (.ptr r 0 0)) λa9=>j (aI P 59 a9 1) λa_=>a7 H (aV P H 3 a_ a8) λd=>
   aH d (aC P ay 28 [.ptr r 0 0] d) λba l=>j (aI P 26 (.ptr c 0 0) 2) λv=>j (an P l 24 v) λw=>bS l (bV P (l).next 24 1 [(0,ba)]) λbb o=>aH o (cQ P o [24,24] w bb) λbc p=>
   j (aI P 26 (.ptr c 0 0) 2) λbd=>a7 p (aV P p 24 bd bc) λaG=>bif ((bh (an P d 24 v) w&&(bh (an P l 24 v) w&&(bh (an P o 24 v) w&&X)))&&X)then L aG else Z) Q:=by
 have ah:=h.dQ.rd;have aQ:=h.dQ.bA.one;unfold bw at ah;have aP:IntKind.i64.wrap (s.at_+1)=(aD s).at_:=rfl;obtain⟨m,aL⟩:=eQ h.dQ.rd (aD s);have d:ep H0 r c T ao (H.set r (.row U 5 [[ao,I J (aD s).at_,I J s.bP,I J s.aF,I J s.cS]])) g (aD s):=h.mt m (h.dQ.mut m aL);simp-implicitDefEqProofs(disch:=try exact al)only[bg,br,dR,c5,an,cy,aV,cy,Nat.reduceAdd,Nat.reduceLeDiff,reduceIte,aa.cells,cE,dz,ah,aQ,aP];generalize H.set r (.row U 5 [[ao,I J (aD s).at_,I J s.bP,I J s.aF,I J s.cS]])=u at d ⊢;refine aN (Jc aK aE d.dQ aM) ?_;rintro _ y ⟨⟨cs,rfl,he⟩,m3,a3⟩
 refine⟨m3.1,?_⟩;obtain⟨bD,bK,bG,aU,aW,ai,aw,ap,au,av,G,R,S,b3,i,n,A,bH,bX,ak⟩:=d;have gn:=aw.rd.lt;have lc:=ad.aR G;have bj:=m3.1;have bo:=m3.get au af;have bp:=m3.get av af;have K:=m3.get G af;obtain⟨F,N,V,ab,az,B,ax⟩:=uz (c:=c) BD b3 m3 a3.rd gn bX lc (λk a=>A k a) he af;have aj:=hL.len he;have aT:=qV BD y.next (cs:=cs) aj.1 aj.2
 have aZ:hL.esz=7:=rfl;rw[aZ]at V;have aS:=b3.rd;have ag:=h2 ab;simp only[aa.cells]at ag;rw[K]at B;have z5:=(aO.push y (.row U 7 [cs])).get K;have be:(y.push (.row U 7 [cs])).next<=N.next:=by simp only[ad.bT];exact az
 have bl:=R.one;have bm:=S.one;have bn:=b3.one;simp-implicitDefEqProofs(disch:=try exact al)only[bg,br,dR,an,cy,aV,cy,Nat.reduceAdd,Nat.reduceLeDiff,reduceIte,aa.cells,cE,dz,K,G,z5,B,aT,V,eK,aS,ag,ab];obtain⟨aY,a1,a2,bk,am⟩:=ax (.row U 3 [[bD,bK,F]]);have a0:=ad.aR B;have q:∀k,k<u.next->k≠c->k≠r->¬ai k->∀z,u.get k=D z->(N.set c (.row U 3 [[bD,bK,F]])).get k=D z:=λk ae d l o z p=>a1 k z o ae d l p
 have E:∀k,ai k->c<k:=λk a=>A k a
 refine aJ _ ⟨bD,bK,F,(λk=>aU k/\k<u.next),(λk=>aW k/\k<u.next),_,⟨a2,wg aw.bA ap λk a z e=>q k (ad.aR e) af af (λh=>by have:=E k h;omega) z e⟩,ap,?_,?_,ad.get_set_same a0,(R.aX λk b a g=>⟨⟨a,ad.aR g⟩,q k (ad.aR g) (by have:=(i k a).1;omega) (by have:=(i k a).1;omega) (λh=>(i k a).2.2 h) b g⟩),(S.aX λk b a g=>⟨⟨a,ad.aR g⟩,q k (ad.aR g) (by have:=(n k a).1;omega) (by have:=(n k a).1;omega) (λh=>(n k a).2 h) b g⟩),aY,?_,?_,?_,bH,bX,?_⟩
 ·exact q _ af af af (λa=>by have:=E _ a;omega) _ au
 ·exact q _ af af af (λa=>by have:=E _ a;omega) _ av
 ·refineλk a=>⟨(i k a.1).1,λh=>(i k a.1).2.1 h.1,λh=> ?_⟩
  rcases h with h|h
  ·exact(i k a.1).2.2 h
  ·have:=a.2;omega
 ·refineλk a=>⟨(n k a.1).1,λh=> ?_⟩
  rcases h with h|h
  ·exact(n k a.1).2 h
  ·have:=a.2;omega
 ·rintro k (a|a)
  ·exact A k a
  ·omega
 ·have ae:=ak.1;have p:=am.1;refine⟨af,λk a aB=> ?_⟩;have bi:k<H0.next:=by simpa using aB
  rw[am.2 k af af];exact ak.2 k a aB
end
section
variable {H H' H0 H1:ad}{r c:Nat}{T:List Tok}{ao:aa}{s s' s0:av}{g gG:dm}
def Je{N:Nat}{a:aa->aa->aa->aa->ad->O}{d e:aa}{Q:aa->ad->Prop}(h:ep H0 r c T ao H g s)(i:∀H',ep H0 r c T ao H' g (cL T 4 s)->W (a d e (.ptr r 0 0) (.ptr c 0 0) H') Q):W (je (aC P ay) N a d e (.ptr r 0 0) (.ptr c 0 0) (C X) H) Q:=by
 unfold je;simp only[ek,aZ,aT];refine aN (jG h.dQ 4) ?_;rintro _ k ⟨rfl,m5,j⟩;exact⟨m5.1,i _ (h.mt m5 j)⟩
def Jd{N M n:Nat}(o:M<=900000000)(aE:T.length<=20000000){d:aa->aa->aa->aa->ad->O}{e i:aa}{Q:aa->ad->Prop}(h:ep H0 r c T ao H g s)(F:g.da.length<=900000000)(G:g.globals.length<=900000000)(dI:g.funcs.length<=900000000)
  (a:(bif isRec T s then(mY T M (aD s)).bind λp=>gY T M n {g with da:=g.da++[p.1]} p.2
   else bif jz T s then gY T M n {g with globals:=g.globals++[(dD T (aD s)).1]} (bl T [59] (dD T (aD s)).2)
   else bif isFun T s then(mI T M (aD s)).bind λp=>gY T M n {g with funcs:=g.funcs++[p.1]} p.2
   else gY T M n g (cL T 2 s))=D (gG,s'))
  (l:∀H' g1 s1,ep H0 r c T ao H' g1 s1->g1.da.length<=g.da.length+1->g1.globals.length<=g.globals.length+1->g1.funcs.length<=g.funcs.length+1->gY T M n g1 s1=D (gG,s')->W (d e i (.ptr r 0 0) (.ptr c 0 0) H') Q):W (je (aC P ay) N d e i (.ptr r 0 0) (.ptr c 0 0) (C U) H) Q:=by
 unfold isRec jz isFun at a;unfold je;simp only[ek,aZ,aT];refine aN (dk h.dQ.rd h.dQ.bA [114,101,99,111,114,100] (by simp)) ?_;rintro _ K ⟨rfl,y⟩;refine⟨y.1,?_⟩;have j:=h.aM y;cases u:a1 T s [114,101,99,111,114,100]with
 |true=>
  rw[u,aZ]at a;obtain⟨⟨x,s1⟩,f1,f2⟩:=cR.1 a;simp only[ek,aZ,aT];exact Kk o aE j F f1 (L:=λH'=>d e i (.ptr r 0 0) (.ptr c 0 0) H') λH' ba=>l H' _ _ ba (by simp) (by simp) (by simp) f2
 |false=>
  rw[u,aT]at a;simp only[ek,aZ,aT];refine aN (dk j.dQ.rd j.dQ.bA [103,108,111,98,97,108] (by simp)) ?_;rintro _ R ⟨rfl,z⟩;refine⟨z.1,?_⟩;have k:=j.aM z;cases v:a1 T s [103,108,111,98,97,108]with
  |true=>
   rw[v,aZ]at a;simp only[ek,aZ,aT];refine Kj o aE k G (x:=(dD T (aD s)).1) (s':=(dD T (aD s)).2) rfl (L:=λH'=>aH H' (aC P ay 27 [.ptr r 0 0,Y [59]] H') λV E=>d e i (.ptr r 0 0) (.ptr c 0 0) E) λH' ba=> ?_
   refine aN (gi ba.dQ [59] (by simp)) ?_;rintro _ B ⟨rfl,m5,q⟩;exact⟨m5.1,l _ _ _ (ba.mt m5 q) (by simp) (by simp) (by simp) a⟩
  |false=>
   rw[v,aT]at a;simp only[ek,aZ,aT];refine aN (dk k.dQ.rd k.dQ.bA [102,117,110,99] (by simp)) ?_;rintro _ S ⟨rfl,A⟩;refine⟨A.1,?_⟩;have m:=k.aM A;cases w:a1 T s [102,117,110,99]with
   |true=>
    rw[w,aZ]at a;obtain⟨⟨x,s1⟩,f1,f2⟩:=cR.1 a;simp only[ek,aZ,aT];exact Ki o aE m dI f1 (L:=λH'=>d e i (.ptr r 0 0) (.ptr c 0 0) H') λH' ba=>l H' _ _ ba (by simp) (by simp) (by simp) f2
   |false=>
    rw[w,aT]at a;simp only[ek,aZ,aT];refine aN (jG m.dQ 2) ?_;rintro _ B ⟨rfl,m5,q⟩;exact⟨m5.1,l _ _ _ (m.mt m5 q) (by simp) (by simp) (by simp) a⟩
end
section
variable {H H' H0 H1:ad}{r c:Nat}{T:List Tok}{ao bD bK bG:aa}{s s' s0:av}{g gG:dm}
def uB{n:Nat}(k:H.get c=D (.row U 3 [[bD,bK,bG]]))(l:∀H',bZ P H' .len [22] [bD]=D (I J n))(u:bD.one=X)(b:Bool)(F:aa->ad->O):
  (aQ (C b) X H (bz (aI P 26 (.ptr c 0 0) 0)) λm a=>aQ (C b) X a (qr (an P a 22 m)) λe d=>aQ (C b) X d (λq=>gj (bZ P .empty .len [22] [e]) (bZ P d .len [22] [e]) q) λo i=>aQ (C b) X i (bz (aq P .eql 3 X o (I J 12))) λp h=>j (cD (C b) (D p) (D (C U))) λs=>F s h)=F (C (b&&((n:Int)==12))) H:=by
 cases b
 ·simp-implicitDefEqProofs(disch:=try exact al)only[reduceAdd,reduceLeDiff,reduceIte,ax,Bool.false_and]
 ·simp-implicitDefEqProofs(disch:=try exact al)only[reduceAdd,reduceLeDiff,reduceIte,ax,k,l,Bool.true_and]
def uC{n:Nat}(k:H.get c=D (.row U 3 [[bD,bK,bG]]))(l:∀H',bZ P H' .len [23] [bK]=D (I J n))(u:bK.one=X)(b:Bool)(F:aa->ad->O):
  (aQ (C b) X H (bz (aI P 26 (.ptr c 0 0) 1)) λm a=>aQ (C b) X a (qr (an P a 23 m)) λe d=>aQ (C b) X d (λq=>gj (bZ P .empty .len [23] [e]) (bZ P d .len [23] [e]) q) λo i=>aQ (C b) X i (bz (aq P .eql 3 X o (I J 8))) λp h=>j (cD (C b) (D p) (D (C U))) λs=>F s h)=F (C (b&&((n:Int)==8))) H:=by
 cases b
 ·simp-implicitDefEqProofs(disch:=try exact al)only[reduceAdd,reduceLeDiff,reduceIte,ax,Bool.false_and]
 ·simp-implicitDefEqProofs(disch:=try exact al)only[reduceAdd,reduceLeDiff,reduceIte,ax,k,l,Bool.true_and]
def Hp{n:Nat}(k:H.get c=D (.row U 3 [[bD,bK,bG]]))(l:∀H',bZ P H' .len [24] [bG]=D (I J n))(u:bG.one=X)(b:Bool)(F:aa->ad->O):
  (aQ (C b) X H (bz (aI P 26 (.ptr c 0 0) 2)) λm a=>aQ (C b) X a (qr (an P a 24 m)) λe d=>aQ (C b) X d (λq=>gj (bZ P .empty .len [24] [e]) (bZ P d .len [24] [e]) q) λo i=>aQ (C b) X i (bz (aq P .eql 3 X o (I J 16))) λp h=>j (cD (C b) (D p) (D (C U))) λs=>F s h)=F (C (b&&((n:Int)==16))) H:=by
 cases b
 ·simp-implicitDefEqProofs(disch:=try exact al)only[reduceAdd,reduceLeDiff,reduceIte,ax,Bool.false_and]
 ·simp-implicitDefEqProofs(disch:=try exact al)only[reduceAdd,reduceLeDiff,reduceIte,ax,k,l,Bool.true_and]
def ep.cells(h:ep H0 r c T ao H g s):∃bD bK bG,H.get c=D (.row U 3 [[bD,bK,bG]])/\(∀H',bZ P H' .len [22] [bD]=D (I J g.da.length))/\(∀H',bZ P H' .len [23] [bK]=D (I J g.globals.length))/\(∀H',bZ P H' .len [24] [bG]=D (I J g.funcs.length))/\bD.one=X/\bK.one=X/\bG.one=true:=by
 obtain⟨bD,bK,bG,i,j,k,aw,l,m,n,e,a,d,b3,-⟩:=h;exact⟨bD,bK,bG,e,a.uU,d.mM,b3.uV,a.one,d.one,b3.one⟩
def tT(n m:Nat):((n:Int)==(m:Int))=(n==m):=by
 by_cases h:n=m
 ·subst h;simp
 ·have:(n:Int)≠(m:Int):=af;rw[show(n==m)=U by simpa using h];exact beq_eq_false_iff_ne.2 this
def vI{N M:Nat}(z:M<=900000000)(aE:T.length<=20000000){x y:aa}{Q:aa->ad->Prop}
  (q:∀H,ep H0 r c T ao H gG s'->W (l_ (aC P ay) N x y (.ptr r 0 0) (.ptr c 0 0) H) Q):
  ∀(n m:Nat) (H:ad) (s:av) (g:dm),n<m->g.da.length+n<=900000000->g.globals.length+n<=900000000->g.funcs.length+n<=900000000->ep H0 r c T ao H g s->gY T M n g s=D (gG,s')->W (la (aC P ay) N m x y (.ptr r 0 0) (.ptr c 0 0) H) Q
 |_,0,_,_,_,ag,_,_,_,_,_=>af
 |0,m+1,_,_,_,_,_,_,_,_,a=>by cases a
 |n+1,m+1,H,s,g,ag,ak,am,dI,h,a=>by
  rw[gY]at a;rw[la];unfold sQ;refine aN (jH h.dQ.rd) ?_;rintro _ ah ⟨rfl,rfl⟩;refine⟨bj _,?_⟩;by_cases O:s.aF=0
  ·have i:(s.aF==0)=true:=by simpa using O
   rw[i,Bool.true_and]at a;simp-implicitDefEqProofs(disch:=try exact al)only[bg,br,i];refine iP (hv h.dQ.rd h.dQ.bA) ?_;rintro _ ai ⟨rfl,R⟩;refine⟨R.1,?_⟩;have p:=h.aM R;cases u:((au T s.at_).kind != 0)with
   |false=>
    rw[u,aT]at a;cases a;simp-implicitDefEqProofs(disch:=try exact al)only[bg,br,c5,dR,Tok.v,u,i];exact q _ p
   |true=>
    rw[u,aZ]at a;simp-implicitDefEqProofs(disch:=try exact al)only[bg,br,c5,dR,Tok.v,u,i];have full:∀e,ep H0 r c T ao e g s->((isRec T s&&g.da.length==12)||((jz T s&&g.globals.length==8)||(isFun T s&&g.funcs.length==16)))=X->W (je (aC P ay) N (la (aC P ay) N m) x y (.ptr r 0 0) (.ptr c 0 0) (C X) e) Q:=λe d A=>by
     rw[A,aZ]at a;exact Je d λo j=>vI z aE q n m o _ _ af af af af j a
    have free:∀e,ep H0 r c T ao e g s->((isRec T s&&g.da.length==12)||((jz T s&&g.globals.length==8)||(isFun T s&&g.funcs.length==16)))=U->W (je (aC P ay) N (la (aC P ay) N m) x y (.ptr r 0 0) (.ptr c 0 0) (C U) e) Q:=λe d A=>by
     rw[A,aT]at a;exact Jd z aE d af af af a λo g1 s1 j aY w F ae=>vI z aE q n m o _ _ af af af af j ae
    refine aN (dk p.dQ.rd p.dQ.bA [114,101,99,111,114,100] (by simp)) ?_;rintro _ aj ⟨rfl,S⟩;refine⟨S.1,?_⟩;have k:=p.aM S;obtain⟨bD,bK,bG,l,B,n2,E,G,K,L⟩:=k.cells;rw[uB l B G,show(12:Int)=((12:Nat):Int)from rfl,tT];cases aY:a1 T s [114,101,99,111,114,100]&&g.da.length==12 with
    |true=>
     simp only[ek,aZ];exact full _ k (by rw[show(isRec T s&&g.da.length==12)=X from aY];rfl)
    |false=>
     simp only[ek,aT];refine aN (dk k.dQ.rd k.dQ.bA [103,108,111,98,97,108] (by simp)) ?_;rintro _ e ⟨rfl,V⟩;refine⟨V.1,?_⟩;have d:=k.aM V;obtain⟨bD,bK,bG,l,B,n2,E,G,K,L⟩:=d.cells;rw[uC l n2 K,show(8:Int)=((8:Nat):Int)from rfl,tT];cases w:a1 T s [103,108,111,98,97,108]&&g.globals.length==8 with
     |true=>
      simp only[ek,aZ];exact full _ d (by rw[show(isRec T s&&g.da.length==12)=U from aY,show(jz T s&&g.globals.length==8)=X from w];rfl)
     |false=>
      simp only[ek,aT];refine aN (dk d.dQ.rd d.dQ.bA [102,117,110,99] (by simp)) ?_;rintro _ o ⟨rfl,ab⟩;refine⟨ab.1,?_⟩;have j:=d.aM ab;obtain⟨bD,bK,bG,l,B,n2,E,G,K,L⟩:=j.cells;rw[Hp l E L,show(16:Int)=((16:Nat):Int)from rfl,tT];cases F:a1 T s [102,117,110,99]&&g.funcs.length==16 with
      |true=>exact full _ j (by rw[show(isRec T s&&g.da.length==12)=U from aY,show(jz T s&&g.globals.length==8)=U from w,show(isFun T s&&g.funcs.length==16)=X from F];rfl)
      |false=>exact free _ j (by rw[show(isRec T s&&g.da.length==12)=U from aY,show(jz T s&&g.globals.length==8)=U from w,show(isFun T s&&g.funcs.length==16)=U from F];rfl)
  ·have i:(s.aF==0)=false:=by simpa using O
   rw[i,Bool.false_and,aT]at a;cases a;simp-implicitDefEqProofs(disch:=try exact al)only[bg,br,i];exact q _ h
end
def Fc(H0:ad)(x:dm×Int×Int)(v:aa)(H':ad):Prop:=∃bD bK bG,v= .tuple [.agg [bD,bK,bG],.agg [I J x.2.1,I J x.2.2]]/\dH iC H' (bf H0.next) x.1.da bD/\dH fF H' (bf H0.next) x.1.globals bK/\dH hL H' (bf H0.next) x.1.funcs bG/\aO H0 H'
def r9(s:aK)(g:dm)(s':av):dm×Int×Int:=if(dy s).2.1=0 then vu g s' else(.none,(dy s).2.1,(dy s).2.2)
def Cu(a b:Int):bh (D (.agg [I J a,I J b])) (.agg [I J a,I J b])=true:=by simp[bh,aa.beq,fY.beq]
section
variable {H:ad}
end
def Gi{ao:aa}{T:List Tok}{H:ad}(h:eC H ao T):ch P 59 [(0,ao)]=D (.agg [ao,I J 0,I J 0,I J 0,I J 0]):=by
 rcases h with⟨rfl,_⟩|⟨l,i,cap,rfl,_⟩<;>kernel_rfl
section
variable {H:ad}
def IZ(s:aK){gG:dm}{s':av}{M n:Nat}(a3:M<=800000000)(a4:n<=800000000)(aG:(dy s).2.1=0->gY (dy s).1 M n .none ⟨0,0,0,0⟩=D (gG,s')):W (aC P ay 9 [Y s] H) (Fc H (r9 s gG s')):=by
 refine cz (λ_=>Kb (n+1)) ?_;have aj:=(aO.push H (.row U 3 [[.ar,.ar,.ar]])).bt (.row U 2 [[I J 0,I J 0]]);unfold qQ;simp-implicitDefEqProofs(disch:=try exact al)only[bg,br,List.length_cons,List.length_nil,Nat.zero_add,Nat.reduceAdd];refine aN (wY s) ?_;rintro _ j ⟨ao,rfl,L,d⟩;refine⟨d.1,?_⟩;have y:=d.get ((aO.push (H.push (.row U 3 [[.ar,.ar,.ar]])) (.row U 2 [[I J 0,I J 0]])).get (ad.bC H (.row U 3 [[.ar,.ar,.ar]])));have v:=d.get (ad.bC (H.push (.row U 3 [[.ar,.ar,.ar]])) (.row U 2 [[I J 0,I J 0]]));have aW:=d.1;simp only[ad.bT]at aW v
 have N:= @qZ s;unfold r9;generalize dy s=bA at L aG N ⊢;obtain⟨T,aF,cS⟩:=bA;simp only at L aG N ⊢;have q:=aO.push j (.row U 2 [[I J aF,I J cS]]);have gc:=ad.bC j (.row U 2 [[I J aF,I J cS]]);have z:=q.get y;have B:=q.get v;have aZ:(j.push (.row U 2 [[I J aF,I J cS]])).next=j.next+1:=by simp only[ad.bT]
 have ak:=(aj.trans d).trans q;have p:=L.aM q;by_cases G:aF=0
 ·subst G;have z0:((0:Int) != 0)=false:=rfl;simp-implicitDefEqProofs(disch:=try exact al)only[bg,br,dR,an,cy,aV,cy,Nat.reduceAdd,Nat.reduceLeDiff,reduceIte,aa.cells,cE,dz,du,c5,ad.hr,z0];generalize j.push (.row U 2 [[I J 0,I J cS]])=a at q gc z B aZ ak p ⊢;obtain⟨aE,K⟩:=N rfl;have aD:=Gi p;have aL:=p.one;have aH:∀l,dS l (.agg [ao,I J 0,I J 0,I J 0,I J 0])=D (.ptr l 0 0,.row U 5 [[ao,I J 0,I J 0,I J 0,I J 0]]):=λl=>hh l _ (by simp only[List.all_cons,List.all_nil,gJ,aL,Bool.and_self])
  have x:=aO.push a (.row U 5 [[ao,I J 0,I J 0,I J 0,I J 0]]);have u:=aO.push (a.push (.row U 5 [[ao,I J 0,I J 0,I J 0,I J 0]])) (.row U 3 [[.ar,.ar,.ar]]);have V:=ad.bC (a.push (.row U 5 [[ao,I J 0,I J 0,I J 0,I J 0]])) (.row U 3 [[.ar,.ar,.ar]]);have ai:(a.push (.row U 5 [[ao,I J 0,I J 0,I J 0,I J 0]])).next=a.next+1:=by simp only[ad.bT]
  rw[ai]at V;have a2:=(ak.trans x).trans u;have rs:ep H a.next (a.next+1) T ao ((a.push (.row U 5 [[ao,I J 0,I J 0,I J 0,I J 0]])).push (.row U 3 [[.ar,.ar,.ar]])) .none ⟨0,0,0,0⟩:=by
   refine⟨.ar,.ar,.ar,(λ_=>False),(λ_=>False),(λ_=>False),⟨u.get (ad.bC _ _),(p.aM x).aM u⟩,?_,u.get (x.get z),u.get (x.get B),V,c0.nil,c0.nil,c0.nil,λ_ h=>h.elim,λ_ h=>h.elim,λ_ h=>h.elim,af,af,a2.mut _⟩;intro l i m e c ag;rcases p with⟨rfl,_⟩|⟨l',a5,cap,rfl,aI⟩
   ·cases ag
   ·cases ag;obtain⟨ro,els,aY,-⟩:=aI.resolve_left (by rintro rfl;simp at K);exact ad.aR aY
  simp-implicitDefEqProofs(disch:=try exact al)only[bg,br,aD,aH,ai];refine vI (M:=M) af aE.n (λap aB=> ?_) n (n+1) _ _ .none af (by simp only[dm.none,List.length_nil];omega) (by simp only[dm.none,List.length_nil];omega) (by simp only[dm.none,List.length_nil];omega) rs (aG rfl);obtain⟨bD,bK,bG,aP,aQ,aS,aw,a9,A,E,ab,R,S,b3,aq,au,az,bH,bX,ah⟩:=aB;have ae:=aw.rd;unfold bw at ae;have cj:=R.one;have dq:=S.one;have a0:=b3.one;have aT:=ad.aR A;have aU:=ad.aR E;have a8:=ad.aR ab;have am:aO H ap:=⟨ah.1,λl K=>ah.2 l K af⟩;unfold l_;refine aN (jH aw.rd) ?_;rintro _ Q ⟨rfl,rfl⟩;refine⟨bj _,?_⟩;unfold vu;by_cases w:s'.aF=0
  ·have F:(s'.aF==0)=true:=by simpa using w
   simp-implicitDefEqProofs(disch:=try exact al)only[reduceAdd,reduceLeDiff,reduceIte,ax,F,Bool.not_true,ab,A,E,cj,dq,a0];rw[if_pos w];have O:∀ok:Nat->Prop,(∀k,ok k->a.next+1<k)->df Q ok ((Q.set H.next (.row U 3 [[bD,bK,bG]])).set (H.next+1) (.row U 2 [[I J 0,I J 0]])) (bf H.next):=λok o k b aJ g=>by
    have:=o k aJ;exact⟨by unfold bf;omega,by rw[ad.get_set_other af,ad.get_set_other af];exact g⟩
   exact bb.2 ⟨bD,bK,bG,rfl,(R.aA).aX (O aP λk o=>(aq k o).1),(S.aA).aX (O aQ λk o=>(au k o).1),(b3.aA).aX (O aS az),(am.cv (bj _) _).cv af _⟩
  ·have F:(s'.aF==0)=false:=by simpa using w
   simp-implicitDefEqProofs(disch:=try exact al)only[reduceAdd,reduceLeDiff,reduceIte,ax,F,Bool.not_false,ae,A,E,Cu];rw[if_neg w];exact bb.2 ⟨.ar,.ar,.ar,rfl,dH.nil,dH.nil,dH.nil,(am.cv (bj _) _).cv af _⟩
 ·have z0:(aF != 0)=true:=by simpa using G
  have a6:=ad.aR z;have a7:=ad.aR B;rw[if_neg G];have aT:=ad.aR y;have aU:=ad.aR v;have a1:=aj.trans d;simp-implicitDefEqProofs(disch:=try exact al)only[reduceAdd,reduceLeDiff,reduceIte,ax,ad.hr,z0,y,v,Cu];refine bb.2 ⟨.ar,.ar,.ar,rfl,dH.nil,dH.nil,dH.nil,?_⟩
  repeat (first|exact a1|refine aO.bt ?_ _|refine aO.cv ?_ af _)
end
section
variable {α:Type}{K:hD α}{H:ad}{ok:Nat->Prop}
def dH.row{l:List α}{v:aa}(h:dH K H ok l v)(c:¬l.length=0):∃L i cap ro els,v= .aA L i l.length K.esz cap/\H.get L=D (.row ro K.esz els)/\∀(j:Nat) (a:α),l[j]? =D a->∃cs,els[i+j]? =D cs/\K.V H ok a cs:=by
 rcases h with⟨rfl,h⟩|⟨L,i,cap,ro,els,d,m,e,k⟩|⟨L,i,cap,rfl,h⟩
 ·rw[h]at c;exact absurd rfl c
 ·exact⟨L,i,_,ro,els,d,e,k⟩
 ·rw[h]at c;exact absurd rfl c
end
def dH.mM{H:ad}{ok:Nat->Prop}{l:List b7}{v:aa}(h:dH fF H ok l v)(H':ad):bZ P H' .len [23] [v]=D (I J l.length):=by
 rcases h with⟨rfl,rfl⟩|⟨L,i,cap,ro,els,rfl,_⟩|⟨L,i,cap,rfl,rfl⟩
 ·exact rR
 ·exact qc
 ·exact qc
def dH.uU{H:ad}{ok:Nat->Prop}{l:List e1}{v:aa}(h:dH iC H ok l v)(H':ad):bZ P H' .len [22] [v]=D (I J l.length):=by
 rcases h with⟨rfl,rfl⟩|⟨L,i,cap,ro,els,rfl,_⟩|⟨L,i,cap,rfl,rfl⟩
 ·exact rQ
 ·exact qb
 ·exact qb
def dH.uV{H:ad}{ok:Nat->Prop}{l:List Fn}{v:aa}(h:dH hL H ok l v)(H':ad):bZ P H' .len [24] [v]=D (I J l.length):=by
 rcases h with⟨rfl,rfl⟩|⟨L,i,cap,ro,els,rfl,_⟩|⟨L,i,cap,rfl,rfl⟩
 ·exact rS
 ·exact qd
 ·exact qd
section
set_option maxRecDepth 100000
noncomputable section
