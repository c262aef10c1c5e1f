/-
  Texts of one proof, laid together: V3 Rh Ri Rj Rk Rl Rm Rn Qj Ro N1b Qk ShPb.
-/
import Derived.Test.YtghmbpmaafnodaaDoorMR
set_option linter.unusedVariables false
set_option linter.unusedSimpArgs false
set_option linter.defProp false
open Option renaming some→D,none→Z
open Bool renaming true→X,false→U
open Go.b9.aa renaming int→I,str→Y,bool→C
open Go.IntKind renaming i64→J
namespace Go.Proofs.YtghmbpmaafnodaaDoor
open Go.b9
open Nat (reduceAdd reduceLeDiff)
section
variable {H0 H:ae}{r b3 cK:Nat}{T:List Tok}{ao:aa}{s0 s:aw}{t:Tok}
def Mk{a:b1}{b6 bv c v:aa}(g:H.get cK=D (.row U 9 [a.cells b6 bv c]))(ai:v.one=X):aV P H 71 (.ptr cK 0 5) v=D (H.set cK (.row U 9 [a.cells b6 v c])):=by
 rw[Dx qZ g rfl (by rw[h2 ai];rfl) (by rw[h2 ai,List.all_cons,ai];rfl) cp,h2 ai];rfl
def Ml{a:b1}{b6 bv c v:aa}(g:H.get cK=D (.row U 9 [a.cells b6 bv c]))(ai:v.one=X):aV P H 71 (.ptr cK 0 6) v=D (H.set cK (.row U 9 [a.cells b6 bv v])):=by
 rw[Dx qZ g rfl (by rw[h2 ai];rfl) (by rw[h2 ai,List.all_cons,ai];rfl) cp,h2 ai];rfl
def Kk(aE:T.length<=20000000)(c:bI H0 r T ao s0)(b:eX H0 H r b3 cK ao t s (b1.cells {kind:=0,pos:=t.pos} .ar .ar .ar))(bx:eS H0 ao T):
  W (ld (aC P az) (.ptr r 0 0) (.ptr H0.next 0 0) (.ptr b3 0 0) (.ptr cK 0 0) (C X) H) (fb H0 r T ao ((bif t.text==[108,101,116]then qa T (aD s)else pQ T (aD s)).1.at t.pos) (bif t.text==[108,101,116]then qa T (aD s)else pQ T (aD s)).2):=by
 have a:=c.rd.lt;have L:=c.bx.one;have ah:=b.dI;have aj:=b.eZ;obtain⟨m1,d1⟩:=eO b.rd (aD s);have i:=(b.mut a m1 d1).set a (b1.cells {kind:=1,pos:=t.pos} .ar .ar .ar);have x:=b.rd;unfold bw at x;have g4:=b.g4;have gl:=b.rd.lt;have eZ:=ae.aS g4;simp only[b1.cells]at g4;simp-implicitDefEqProofs(disch:=try exact al)only[ld,reduceAdd,reduceLeDiff,reduceIte,ax,eW,x,L,g4];refine aN (lN (c.mut i.m i.rd)) ?_;rintro _ R ⟨rfl,m3,M⟩;refine⟨m3.1,?_⟩;have p:=i.mut a m3 M.rd;have j:=p.set a (b1.cells {kind:=1,name:=(bu T (aD s)).1,pos:=t.pos} .ar .ar .ar);have n:=p.g4;have ad:=ae.aS n;simp only[b1.cells]at n
 simp-implicitDefEqProofs(disch:=try exact al)only[reduceAdd,reduceLeDiff,reduceIte,ax,eW,n];refine aN (gf (c.mut j.m j.rd) [58] (by simp)) ?_;rintro _ S ⟨rfl,m5,z⟩;refine⟨m5.1,?_⟩;have F:=j.mut a m5 z.rd;refine aN (qH z) ?_;rintro _ V ⟨rfl,m6,N⟩;refine⟨m6.1,?_⟩;have k:=F.mut a m6 N.rd;have q:=k.set a (b1.cells {kind:=1,name:=(bu T (aD s)).1,cf:=(cM T (bl T [58] (bu T (aD s)).2)).1.1,c4:=(cM T (bl T [58] (bu T (aD s)).2)).1.2,pos:=t.pos} .ar .ar .ar);have e:=k.g4;have B:=k.g3;have af:=ae.aS e;simp only[b1.cells]at e;unfold qa pQ dX;generalize cM T (bl T [58] (bu T (aD s)).2)=ai at*;generalize bu T (aD s)=ch at*
 cases y:t.text==[108,101,116]with
 |false=>
  simp-implicitDefEqProofs(disch:=try exact al)only[reduceAdd,reduceLeDiff,reduceIte,ax,eW,e,B,y];exact CE c q (b8.nil _ _)
 |true=>
  have d:=q.set a (b1.cells {kind:=2,name:=ch.1,cf:=ai.1.1,c4:=ai.1.2,pos:=t.pos} .ar .ar .ar);rw[ae.set_set]at d;simp-implicitDefEqProofs(disch:=try exact al)only[reduceAdd,reduceLeDiff,reduceIte,ax,eW,e,B,y];refine aN (gf (c.mut d.m d.rd) [61] (by simp)) ?_;rintro _ aa ⟨rfl,m8,A⟩;refine⟨m8.1,?_⟩;have u:=d.mut a m8 A.rd;refine aN (oI aE A) ?_;rintro v E ⟨m9,O,he⟩;refine⟨m9.1,?_⟩;have w:=u.mut a m9 O.rd;obtain⟨cs,rfl,K,bH⟩:=he.cells;have aB:∀l,bV P l 41 1 [(0,.agg cs)]=D (.aA l 0 1 11 (D 1),.row U 11 [cs]):=λl=>jh l cs K bH
  have o:=w.g4;have ag:=ae.aS o;have ab:=ae.aS u.g4;obtain⟨G,Q⟩:=eX.expr a (c':=b1.cells {kind:=2,name:=ch.1,cf:=ai.1.1,c4:=ai.1.2,pos:=t.pos} (.aA E.next 0 1 11 (D 1)) .ar .ar) w (cu.aX (c9.kO λl h=>by unfold bg at*;first|omega|(simp only[ae.dj]at*;omega)) _ _ he) rfl;simp only[b1.cells]at o;simp-implicitDefEqProofs(disch:=try exact al)only[reduceAdd,reduceLeDiff,reduceIte,ax,eW,aB,o,ae.hr];exact CE c G Q
def CP{n:Nat}(ah:q6 n)(aE:T.length<=20000000)(q:bI H0 r T ao s0)(b:eX H0 H r b3 cK ao t s (b1.cells {kind:=0,pos:=t.pos} .ar .ar .ar)){a:Int}{e:aL}{i:List bE}{s1 s2:aw}(aQ:a=5\/a=6)(ab:bB T (aD s)=(e,s1))(V:iU T n s1=D (i,s2))
  {Q:aa->ae->Prop} {k:aa->ae->O} (af:∀(bJ:ae) (b6 bv:aa),eX H0 bJ r b3 cK ao t s2 (b1.cells {kind:=a,pos:=t.pos} b6 bv .ar)->b8 bJ (bg (cK+1)) [e] b6->c1 bJ (bg (cK+1)) i bv->W (k (.tuple []) bJ) Q):
  W (j (bW (.ptr r 0 0)) λam=>j (aK P 59 am 1) λap=>j (an P H 3 ap) λau=>j (aq P .add 3 X au (I J 1)) λav=>j (bW (.ptr r 0 0)) λay=>j (aK P 59 ay 1) λaF=>
   a7 H (aV P H 3 aF av) λz=>j (aK P 112 (.ptr cK 0 0) 0) λaG=>a7 z (aV P z 3 aG (I J a)) λA=>aI A (aC P az 40 [.ptr r 0 0,I J 0] A) λaH B=>bS B (bV P B.next 41 1 [(0,aH)]) λaJ E=>
   j (aK P 112 (.ptr cK 0 0) 3) λaM=>a7 E (aV P E 41 aM aJ) λF=>aI F (aC P az 56 [.ptr r 0 0] F) λaO G=>j (aK P 112 (.ptr cK 0 0) 4) λaP=>a7 G (aV P G 71 aP aO) λS=>k (.tuple []) S) Q:=by
 have c:=q.rd.lt;have ad:=q.bx.one;have aW:=b.dI;have aY:=b.eZ;obtain⟨m1,d1⟩:=eO b.rd (aD s);have o:=(b.mut c m1 d1).set c (b1.cells {kind:=a,pos:=t.pos} .ar .ar .ar);have L:=b.rd;unfold bw at L;have g4:=b.g4;have gl:=b.rd.lt;have eZ:=ae.aS g4;simp only[b1.cells]at g4;simp-implicitDefEqProofs(disch:=try exact al)only[reduceAdd,reduceLeDiff,reduceIte,ax,eW,L,ad,g4];refine aN (oI aE (q.mut o.m o.rd)) ?_;rintro v d ⟨m4,M,he⟩;refine⟨m4.1,?_⟩;rw[ab]at M he;have y:=o.mut c m4 M.rd;obtain⟨cs,rfl,R,bH⟩:=he.cells;have aB:∀l,bV P l 41 1 [(0,.agg cs)]=D (.aA l 0 1 11 (D 1),.row U 11 [cs]):=λl=>jh l cs R bH
 have x:=y.g4;have aT:=ae.aS x;have aR:=ae.aS o.g4;obtain⟨p,ai⟩:=eX.expr c (c':=b1.cells {kind:=a,pos:=t.pos} (.aA d.next 0 1 11 (D 1)) .ar .ar) y (cu.aX (c9.kO λl h=>by unfold bg at*;first|omega|(simp only[ae.dj]at*;omega)) _ _ he) rfl;have ak:cK<((d.set cK (.row U 9 [b1.cells {kind:=a,pos:=t.pos} (.aA d.next 0 1 11 (D 1)) .ar .ar])).push (.row U 11 [cs])).next:=ae.aS p.g4
 simp only[b1.cells]at x ak;simp-implicitDefEqProofs(disch:=try exact al)only[reduceAdd,reduceLeDiff,reduceIte,ax,eW,aB,x,ae.hr];refine aN (ah aE (q.mut p.m p.rd) i s2 V) ?_;rintro bv u ⟨m7,ag,K⟩;refine⟨m7.1,?_⟩;have w:=p.mut c m7 ag.rd;have aj:=ai.aX (c9.mut m7 (ok':=bg (cK+1)) (by unfold bg;omega) λ_ h=>h);have N:c1 u (bg (cK+1)) i bv:=K.aX (dU.kO λl h=>by unfold bg at*;simp only[b1.cells]at h;omega);have iF:=K.eb;have st:=Mk w.g4 iF;have aU:=ae.aS w.g4;simp-implicitDefEqProofs(disch:=try exact al)only[bf,br,dR,Nat.zero_add];rw[st,s8 (by simp only[ae.dj];omega)];have ks:dU u (bg (cK+1)) (u.set cK (.row U 9 [b1.cells {kind:=a,pos:=t.pos} (.aA d.next 0 1 11 (D 1)) bv .ar])) (bg (cK+1)):=dU.set _ (by unfold bg;omega) λ_ h=>h
 exact af _ _ _ (w.set c _) (aj.aX ks.ex) (N.aX ks)
end
def Jp{n:Nat}(ak:q6 n):rb (n+1):=by
 intro H r T ao s aE a e s' h;refine cz (λ_=>J9 0) ?_;have i:=a.rd.lt;have ab:=a.bx.one;have av:=aO.push H (.row U 9 [[I J 0,Y [],Y [],I J 0,.ar,.ar,.ar,I J 0,I J 0]]);simp-implicitDefEqProofs(disch:=try exact al)only[qO,reduceAdd,reduceLeDiff,reduceIte,ax,eW];refine aN (hv (a.rd.aM av) (a.bx.aM av)) ?_;rintro _ o ⟨rfl,N⟩;refine⟨N.1,?_⟩;have n2:=N.1;simp only[ae.bT]at n2;generalize bn:au T s.at_=t;have a9:=((av.trans N).bt (.row U 4 [[I J t.kind,Y t.text,I J t.n,I J t.pos]])).bt (.row U 9 [b1.cells {kind:=0,pos:=t.pos} .ar .ar .ar])
 have bu:=(aO.push o (.row U 4 [[I J t.kind,Y t.text,I J t.n,I J t.pos]])).bt (.row U 9 [b1.cells {kind:=0,pos:=t.pos} .ar .ar .ar]);have b:eX H ((o.push (.row U 4 [[I J t.kind,Y t.text,I J t.n,I J t.pos]])).push (.row U 9 [b1.cells {kind:=0,pos:=t.pos} .ar .ar .ar])) r o.next (o.next+1) ao t s (b1.cells {kind:=0,pos:=t.pos} .ar .ar .ar):=
  ⟨a9.mut _,a.rd.aM a9,bu.get (N.get (ae.bC H _)),by simp-implicitDefEqProofs(disch:=try exact al)only[dq],ae.bC (o.push _) _,af,af⟩
 simp-implicitDefEqProofs(disch:=try exact al)only[qO,reduceAdd,reduceLeDiff,reduceIte,ax,eW,Tok.v];simp only[b1.cells]at b;generalize (o.push (.row U 4 [[I J t.kind,Y t.text,I J t.n,I J t.pos]])).push (.row U 9 [[I J 0,Y [],Y [],I J 0,.ar,.ar,.ar,I J t.pos,I J 0]])=aG at b ⊢;have u:eX H aG r o.next (o.next+1) ao t s (b1.cells {kind:=0,pos:=t.pos} .ar .ar .ar):=b
 generalize o.next=b3 at u ⊢
 clear b;simp only[o9,bn,cR]at h;obtain⟨⟨bl,s1⟩,c,aL⟩:=h;simp only[aU,bY]at aL;obtain⟨rfl,rfl⟩:=aL;have F:=a.mut u.m u.rd;have bc:∀(H':ae),aO aG H'->(a1 T s [118,97,114]||a1 T s [108,101,116])=X->W (ld (aC P az) (.ptr r 0 0) (.ptr H.next 0 0) (.ptr b3 0 0) (.ptr (b3+1) 0 0) (C X) H') (fb H r T ao (bl.at t.pos) s1):=by
  intro H' a8 M;rw[M,aY,aU]at c;have:=Kk aE a (u.mut i (a8.mut _) (u.rd.aM a8)) a.bx;rw[c]at this;exact this
 refine aN (dk F.rd F.bx [118,97,114] (by simp)) ?_;rintro _ bd ⟨rfl,K⟩;refine⟨K.1,?_⟩;cases M:a1 T s [118,97,114]with
 |true=>
  simp-implicitDefEqProofs(disch:=try exact al)only[reduceAdd,reduceLeDiff,reduceIte,ax];exact bc bd K (by rw[M];rfl)
 |false=>
  simp-implicitDefEqProofs(disch:=try exact al)only[reduceAdd,reduceLeDiff,reduceIte,ax];refine aN (dk (F.aM K).rd (F.aM K).bx [108,101,116] (by simp)) ?_;rintro _ be ⟨rfl,ba⟩;refine⟨ba.1,?_⟩;have aw:=K.trans ba;cases hle:a1 T s [108,101,116]with
  |true=>exact bc be aw (by rw[hle,Bool.or_true])
  |false=>
   rw[M,hle,Bool.or_false,aT]at c;simp-implicitDefEqProofs(disch:=try exact al)only[ld,reduceAdd,reduceLeDiff,reduceIte,ax];have ad:=F.aM aw;refine aN (dk ad.rd ad.bx [105,102] (by simp)) ?_;rintro _ bz ⟨rfl,ay⟩;refine⟨ay.1,?_⟩;have a_:=aw.trans ay;have ag:=ad.aM ay;have R:=u.mut i (a_.mut _) (u.rd.aM a_);have bO:=u.dI;cases aW:a1 T s [105,102]with
   |true=>
    simp only[aW,aY,cR]at c;obtain⟨⟨y,s2⟩,aa,z⟩:=c;simp-implicitDefEqProofs(disch:=try exact al)only[ek,aY];refine CP ak aE a R (.inl rfl) (e:=(bB T (aD s)).1) (s1:=(bB T (aD s)).2) rfl aa (k:=λ_ L=>aI L (aC P az 23 [.ptr r 0 0,Y [101,108,115,101]] L) _) ?_;intro bJ b6 bv iu am an;have a4:=a.mut iu.m iu.rd;refine aN (dk a4.rd a4.bx [101,108,115,101] (by simp)) ?_;rintro _ aH ⟨rfl,j⟩;refine⟨j.1,?_⟩;have d:=iu.mut i (j.mut _) (iu.rd.aM j);have a5:=am.aM j;have a6:=an.aX (dU.aM j λ_ h=>h);cases aV:a1 T s2 [101,108,115,101]with
    |false=>
     simp only[aV,aT,aU,bY]at z;obtain⟨rfl,rfl⟩:=z;simp-implicitDefEqProofs(disch:=try exact al)only[reduceAdd,reduceLeDiff,reduceIte,ax];exact oK a d a5 a6 (c1.nil _ _)
    |true=>
     simp only[aV,aY,cR]at z;obtain⟨⟨bi,e4⟩,bm,aP⟩:=z;simp only[aU,bY]at aP;obtain⟨rfl,rfl⟩:=aP;obtain⟨B,V⟩:=eO d.rd (aD s2);have ff:=d.mut i B V;have E:=d.rd;unfold bw at E;have bs:=d.rd.lt;simp-implicitDefEqProofs(disch:=try exact al)only[reduceAdd,reduceLeDiff,reduceIte,ax,E,ab];refine aN (ak aE (a.mut ff.m ff.rd) bi e4 bm) ?_;rintro bj w ⟨q,G,aR⟩;refine⟨q.1,?_⟩;have p:=ff.mut i q G.rd;have bL:=ae.aS p.g4;have bM:=ae.aS ff.g4;have st:=Ml p.g4 aR.eb;simp-implicitDefEqProofs(disch:=try exact al)only[bf,br,dR,Nat.zero_add];rw[st,s8 (by simp only[ae.dj];omega)];have a7:dU aH (bg (b3+1+1)) w (bg (b3+1+1)):=dU.mut (B.trans q) (by unfold bg;omega) λ_ h=>h
     have ks:dU w (bg (b3+1+1)) (w.set (b3+1) (.row U 9 [b1.cells {kind:=5,pos:=t.pos} b6 bv bj])) (bg (b3+1+1)):=dU.set _ (by unfold bg;omega) λ_ h=>h
     exact oK a (p.set i _) ((a5.aX a7.ex).aX ks.ex) ((a6.aX a7).aX ks) ((aR.aX (dU.kO λl h=>by unfold bg at*;omega)).aX ks)
   |false=>
    simp only[aW,aT]at c;simp-implicitDefEqProofs(disch:=try exact al)only[reduceAdd,reduceLeDiff,reduceIte,ax];refine aN (dk ag.rd ag.bx [119,104,105,108,101] (by simp)) ?_;rintro _ bA ⟨rfl,O⟩;refine⟨O.1,?_⟩;have ah:=ag.aM O;have S:=R.mut i (O.mut _) (R.rd.aM O);cases a3:a1 T s [119,104,105,108,101]with
    |true=>
     simp only[a3,aY,cR]at c;obtain⟨⟨y,s2⟩,aa,z⟩:=c;simp only[aU,bY]at z;obtain⟨rfl,rfl⟩:=z;simp-implicitDefEqProofs(disch:=try exact al)only[ek,aY];refine CP ak aE a S (.inr rfl) (e:=(bB T (aD s)).1) (s1:=(bB T (aD s)).2) rfl aa (k:=λ_ L=>gd (aC P az) (.ptr H.next 0 0) (.ptr (b3+1) 0 0) L) ?_;exactλbJ b6 bv iu am an=>oK a iu am an (c1.nil _ _)
    |false=>
     simp only[a3,aT]at c;simp-implicitDefEqProofs(disch:=try exact al)only[reduceAdd,reduceLeDiff,reduceIte,ax];refine aN (dk ah.rd ah.bx [114,101,116,117,114,110] (by simp)) ?_;rintro _ bD ⟨rfl,Q⟩;refine⟨Q.1,?_⟩;have ai:=ah.aM Q;have x:=S.mut i (Q.mut _) (S.rd.aM Q);cases a2:a1 T s [114,101,116,117,114,110]with
     |true=>
      simp only[a2,aY,aU]at c;obtain⟨m9,d9⟩:=eO x.rd (aD s);have d:=(x.mut i m9 d9).set i (b1.cells {kind:=7,pos:=t.pos} .ar .ar .ar);have a0:=x.rd;unfold bw at a0;have g8:=x.g4;have bN:=x.rd.lt;have bG:=ae.aS g8;simp only[b1.cells]at g8;simp-implicitDefEqProofs(disch:=try exact al)only[reduceAdd,reduceLeDiff,reduceIte,ax,eW,a0,ab,g8];refine aN (dk d.rd (a.mut d.m d.rd).bx [59] (by simp)) ?_;rintro _ bh ⟨rfl,aF⟩;refine⟨aF.1,?_⟩;have ff:=d.mut i (aF.mut _) (d.rd.aM aF);unfold vA at c;cases aQ:a1 T (aD s) [59]with
      |true=>
       simp only[aQ,aY,bY]at c;obtain⟨rfl,rfl⟩:=c;simp-implicitDefEqProofs(disch:=try exact al)only[reduceAdd,reduceLeDiff,reduceIte,ax,Bool.not_true];exact C1 a ff (b8.nil _ _)
      |false=>
       simp only[aQ,aT,bY]at c;obtain⟨rfl,rfl⟩:=c;simp-implicitDefEqProofs(disch:=try exact al)only[reduceAdd,reduceLeDiff,reduceIte,ax,Bool.not_false];refine aN (oI aE (a.mut ff.m ff.rd)) ?_;rintro v w ⟨q,G,he⟩;refine⟨q.1,?_⟩;have p:=ff.mut i q G.rd;obtain⟨cs,rfl,y,bH⟩:=he.cells;have aB:∀l,bV P l 41 1 [(0,.agg cs)]=D (.aA l 0 1 11 (D 1),.row U 11 [cs]):=λl=>jh l cs y bH
       have A:=p.g4;have bq:=ae.aS A;have bp:=ae.aS ff.g4;obtain⟨mv,ap⟩:=eX.expr i (c':=b1.cells {kind:=7,pos:=t.pos} (.aA w.next 0 1 11 (D 1)) .ar .ar) p (cu.aX (c9.kO λl h=>by unfold bg at*;first|omega|(simp only[ae.dj]at*;omega)) _ _ he) rfl;simp only[b1.cells]at A;simp-implicitDefEqProofs(disch:=try exact al)only[reduceAdd,reduceLeDiff,reduceIte,ax,eW,aB,A,ae.hr];exact C1 a mv ap
     |false=>
      simp only[a2,aT]at c;simp-implicitDefEqProofs(disch:=try exact al)only[reduceAdd,reduceLeDiff,reduceIte,ax];refine aN (dk ai.rd ai.bx [112,114,105,110,116] (by simp)) ?_;rintro _ aH ⟨rfl,j⟩;refine⟨j.1,?_⟩;have bF:=ai.aM j;have d:=x.mut i (j.mut _) (x.rd.aM j);have g9:=d.g4;have bs:=d.rd.lt;have bI:=ae.aS g9;cases aZ:a1 T s [112,114,105,110,116]with
      |true=>
       simp only[aZ,aY,aU]at c;obtain⟨B,V⟩:=eO d.rd (aD s);have ff:=(d.mut i B V).set i (b1.cells {kind:=8,pos:=t.pos} .ar .ar .ar);have E:=d.rd;unfold bw at E;simp only[b1.cells]at g9;unfold vr at c;simp only[bY]at c;obtain⟨rfl,rfl⟩:=c;simp-implicitDefEqProofs(disch:=try exact al)only[reduceAdd,reduceLeDiff,reduceIte,ax,eW,E,ab,g9];refine aN (oI aE (a.mut ff.m ff.rd)) ?_;rintro v w ⟨q,G,he⟩;refine⟨q.1,?_⟩;have p:=ff.mut i q G.rd;obtain⟨cs,rfl,y,bH⟩:=he.cells;have aB:∀l,bV P l 41 1 [(0,.agg cs)]=D (.aA l 0 1 11 (D 1),.row U 11 [cs]):=λl=>jh l cs y bH
       have A:=p.g4;have bq:=ae.aS A;have bp:=ae.aS ff.g4;obtain⟨mv,ap⟩:=eX.expr i (c':=b1.cells {kind:=8,pos:=t.pos} (.aA w.next 0 1 11 (D 1)) .ar .ar) p (cu.aX (c9.kO λl h=>by unfold bg at*;first|omega|(simp only[ae.dj]at*;omega)) _ _ he) rfl;simp only[b1.cells]at A;simp-implicitDefEqProofs(disch:=try exact al)only[reduceAdd,reduceLeDiff,reduceIte,ax,eW,aB,A,ae.hr];refine aN (gf (a.mut mv.m mv.rd) [59] (by simp)) ?_;rintro _ bE ⟨rfl,aq,bo⟩;refine⟨aq.1,?_⟩;exact oK a (mv.mut i aq bo.rd) (ap.aX (c9.mut aq (by unfold bg;omega) λ_ h=>h)) (c1.nil _ _) (c1.nil _ _)
      |false=>
       simp only[aZ,aT,aU]at c;have aJ:=g9;simp only[b1.cells]at aJ;simp-implicitDefEqProofs(disch:=try exact al)only[reduceAdd,reduceLeDiff,reduceIte,ax,eW,aJ];refine aN (Jm aE (a.mut d.m d.rd) t.pos) ?_;rintro v bh ⟨B,aj,he⟩;refine⟨B.1,?_⟩;have ff:=d.mut i B aj.rd;obtain⟨cs,rfl,y,bH⟩:=he.cells;have pa:List.take 9 cs=cs:=List.take_of_length_le af;have aK:=ff.g2;have bK:=ae.aS aK;rw[c]at he aj;simp-implicitDefEqProofs(disch:=try exact al)only[reduceAdd,reduceLeDiff,reduceIte,ax,eW,aK,y,bH,pa,List.append_nil];exact bb.2 (fb.ret a ff.m aj.rd (bk _) he af _)
structure E6(n:Nat):Prop where
 stmt:rb n
 block:q6 n
def FC:∀n,n<=900000000->E6 n:=by
 intro n
 induction n using Nat.strongRecOn with
 |_ n a=>
  intro d;cases n with
  |zero=>exact⟨λ_ _ _ _ h=>by simp[o9]at h,λ_ _ _ _ h=>by simp[iU]at h⟩
  |succ n=>
   have i:=a n af af;exact⟨Jp i.block,I3 af λk c=>(a k af af).stmt⟩
section
variable {H H' H1:ae}{r:Nat}{T:List Tok}{ao:aa}{s s':aw}
variable {b c n2 esz:Nat}{z:List aa}{x:aa}{rest:List aa}{l:List b7}{v:aa}
def fB.vG(h:fB H1 H r b c n2 esz T ao z x rest l v s){s0:aw}(i:bI H1 r T ao s0)(a:List aa):fB H1 (H.set c (.row U esz [x::v::a])) r b c n2 esz T ao z x a l v s:=by
 have bH:=h.bH;have bX:=h.bX;have ck:=h.ck;have dr:=h.dr;have iF:=h.iF;have lc:=ae.aS h.cell;have e:hX r H1.next H1 (H.set c (.row U esz [x::v::a])):=h.m.cw (.inr af) _
 exact⟨i.mC e (by unfold bw;rw[ae.get_set_other af];exact h.cC.rd),by rw[ae.get_set_other af];exact h.two,ae.get_set_same lc,h.gj.aX λk x d g=>⟨d,by unfold bg at d;rw[ae.get_set_other af];exact g⟩,e,bH,bX,iF,ck,by simp;omega⟩
def fB.I5(h:fB H1 H r b c n2 esz T ao z x rest l v s)(s2:aw):fB H1 (H.set r (.row U 5 [[ao,I J s2.at_,I J s2.bP,I J s2.aF,I J s2.cS]])) r b c n2 esz T ao z x rest l v s2:=by
 obtain⟨m,a⟩:=eO h.cC.rd s2;exact h.mut m (h.cC.mut m a)
def sd{N:Nat}{Q:aa->ae->Prop}{ch:aJ}{s0:aw}(x:bI H1 r T ao s0){l':List b7}
  (k:∀H v,fB H1 H r b c n2 7 T ao z (Y ch) rest l' v s'->W (kj (aC P az) N (.ptr r 0 0) (.ptr b 0 0) (.ptr c 0 0) H) Q):
  ∀(n m:Nat) (H:ae) (s:aw) (l:List b7) (v:aa),n<m->l.length+n<=1000000000->fB H1 H r b c n2 7 T ao z (Y ch) rest l v s->oC T n l s=D (l',s')->W (kk (aC P az) N m (.ptr r 0 0) (.ptr b 0 0) (.ptr c 0 0) H) Q
 |_,0,_,_,_,_,aX,_,_,_=>af
 |0,m+1,_,_,_,_,_,_,_,a=>by cases a
 |n+1,m+1,H,s,l,v,aX,bm,h,a=>by
  rw[oC]at a;rw[kk];unfold sr;refine aN (jJ h.cC.rd) ?_;rintro _ bd ⟨rfl,rfl⟩;refine⟨bk _,?_⟩;by_cases am:s.aF=0
  ·have i:(s.aF==0)=true:=by simpa using am
   simp-implicitDefEqProofs(disch:=try exact al)only[bf,br,i];refine iR (dk h.cC.rd h.cC.bx [41] (by simp)) ?_;rintro _ be ⟨rfl,ad⟩;refine⟨ad.1,?_⟩;have u:=h.mut (ad.mut _) (h.cC.aM ad);rw[i,Bool.true_and]at a;cases aD:a1 T s [41]with
   |true=>
    rw[aD]at a;cases a;simp-implicitDefEqProofs(disch:=try exact al)only[bf,br,i,Bool.not_true];exact k _ _ u
   |false=>
    rw[aD,Bool.not_false,aY]at a;simp-implicitDefEqProofs(disch:=try exact al)only[bf,br,i,Bool.not_false];refine aN (hv u.cC.rd u.cC.bx) ?_;rintro _ o ⟨rfl,ag⟩;refine⟨ag.1,?_⟩;have e:=u.mut (ag.mut _) (u.cC.aM ag);have V:=λH'=>e.gj.mI H'
    have bn:=e.gj.rd;have E:=e.cell;have bo:=e.gj.one;have go:((au T s.at_).kind==1&&l.length==6)=X->W (aI o (aC P az 24 [.ptr r 0 0,I J 4] o) λbp d=>kj (aC P az) N (.ptr r 0 0) (.ptr b 0 0) (.ptr c 0 0) d) Q:=λhm=>by
     rw[hm,aY]at a;cases a;refine aN (jI e.cC 4) ?_;rintro _ bg ⟨rfl,m5,a3⟩;exact⟨m5.1,k _ _ (e.mut m5 a3)⟩
    have on:((au T s.at_).kind==1&&l.length==6)=U->W (aI o (aC P az 26 [.ptr r 0 0] o) λa6 d=>
      j (aK P 73 (.ptr c 0 0) 1) λG=>j (an P d 23 G) λK=>bS d (bV P (d).next 23 1 [(0,a6)]) λa8 L=>aI L (cQ P L [23,23] K a8) λa9 ap=>j (aK P 73 (.ptr c 0 0) 1) λa_=>a7 ap (aV P ap 23 a_ a9) λaq=>
      bif ((bj (an P o 23 G) K&&(bj (an P d 23 G) K&&(bj (an P L 23 G) K&&X)))&&X)then(aI aq (aC P az 23 [.ptr r 0 0,Y [41]] aq) λba M=>
      j (e2 .not ba) λbb=>
      aW (D bb) (aI M (aC P az 27 [.ptr r 0 0,Y [44]] M) λbq av=>
      aI av (aC P az 23 [.ptr r 0 0,Y [41]] av) λbc O=>
      aW (D bc) (aI O (aC P az 24 [.ptr r 0 0,I J 2] O) λbs aS=>
      kk (aC P az) N m (.ptr r 0 0) (.ptr b 0 0) (.ptr c 0 0) aS) (kk (aC P az) N m (.ptr r 0 0) (.ptr b 0 0) (.ptr c 0 0) O)) (kk (aC P az) N m (.ptr r 0 0) (.ptr b 0 0) (.ptr c 0 0) M))else Z) Q:=λhm=>by
     rw[hm,aT]at a;refine aN (vE e.cC) ?_;rintro _ aj ⟨rfl,m6,a4⟩;refine⟨m6.1,?_⟩;have y:=e.mut m6 a4;have aU:=y.cell;have aZ:=y.gj.rd;generalize dD T s=q at y a;obtain⟨p,km⟩:=q;obtain⟨ai,aH,aQ,aR,ak,aO,aP,A⟩:=y.add x af p;have a0:=qV qi aj.next (cs:=p.cells) rfl rfl
     have bi:(aj.push (.row U 4 [p.cells])).next<=aH.next:=by simp only[ae.bT];exact aR
     have ay:=h2 ak;simp only[aa.cells]at ay;simp-implicitDefEqProofs(disch:=try exact al)only[bf,br,dR,an,cD,aV,cD,Nat.reduceAdd,Nat.reduceLeDiff,reduceIte,aa.cells,cI,dA,dq,ay,aU,a0,aQ,eI,aO,aP,ak,aZ,E];refine aN (dk A.cC.rd A.cC.bx [41] (by simp)) ?_;rintro _ aL ⟨rfl,ah⟩;refine⟨ah.1,?_⟩;have R:=A.mut (ah.mut _) (A.cC.aM ah);simp only at a;cases aB:a1 T km [41]with
     |true=>
      rw[aB,aY]at a;simp-implicitDefEqProofs(disch:=try exact al)only[bf,br,Bool.not_true];exact sd x k n m aL _ _ ai af (by simp;omega) R a
     |false=>
      rw[aB,aT]at a;simp-implicitDefEqProofs(disch:=try exact al)only[bf,br,Bool.not_false];refine aN (gf R.cC [44] (by simp)) ?_;rintro _ bh ⟨rfl,m9,a5⟩;refine⟨m9.1,?_⟩;have B:=R.mut m9 a5;refine aN (dk B.cC.rd B.cC.bx [41] (by simp)) ?_;rintro _ aE ⟨rfl,ab⟩;refine⟨ab.1,?_⟩;have d:=B.mut (ab.mut _) (B.cC.aM ab);unfold lA at a;cases he:a1 T (bl T [44] km) [41]with
      |true=>
       rw[he,aY]at a;simp-implicitDefEqProofs(disch:=try exact al)only[bf,br];refine aN (jI d.cC 2) ?_;rintro _ aG ⟨rfl,m11,a2⟩;refine⟨m11.1,?_⟩;exact sd x k n m aG _ _ ai af (by simp;omega) (d.mut m11 a2) a
      |false=>
       rw[he,aT]at a;simp-implicitDefEqProofs(disch:=try exact al)only[bf,br];exact sd x k n m aE _ _ ai af (by simp;omega) d a
    cases w:(au T s.at_).kind==1 with
    |true=>
     rw[w]at go on;cases F:l.length==6 with
     |true=>
      have S:((l.length:Int)==6)=true:=by
       have:l.length=6:=by simpa using F
       simp;omega
      rw[F]at go;simp-implicitDefEqProofs(disch:=try exact al)only[reduceAdd,reduceLeDiff,reduceIte,ax,Tok.v,E,V,w,S];exact go rfl
     |false=>
      have S:((l.length:Int)==6)=false:=by
       have:l.length≠6:=by simpa using F
       simp;omega
      rw[F]at on;simp-implicitDefEqProofs(disch:=try exact al)only[reduceAdd,reduceLeDiff,reduceIte,ax,Tok.v,E,V,w,S];exact on rfl
    |false=>
     rw[w]at on;simp-implicitDefEqProofs(disch:=try exact al)only[reduceAdd,reduceLeDiff,reduceIte,ax,Tok.v,E,V,w];exact on rfl
  ·have i:(s.aF==0)=false:=by simpa using am
   rw[i]at a;cases a;simp-implicitDefEqProofs(disch:=try exact al)only[bf,br,i];exact k _ _ h
end
section
variable {H H' H1:ae}{r:Nat}{T:List Tok}{ao:aa}{s s' s0:aw}
abbrev nL:List aa:=[Y [],.ar,C U,Y [],I J 0,.ar,I J 0]
abbrev gJ(has:Bool)(dF:aJ)(rd a:Int):List aa:=[C has,Y dF,I J rd,.ar,I J a]
def tc(H1:ae)(r:Nat)(T:List Tok)(ao:aa)(f:Fn)(s':aw)(w:aa)(H':ae):Prop:=(∃cs,w= .agg cs/\hK.V H' (bg H1.next) f cs)/\b5 r H1 H'/\bI H' r T ao s'
def CO{N n:Nat}(Q:n<=900000000)(aE:T.length<=20000000)(p:bI H1 r T ao s0){c n2:Nat}{ch dF:aJ}{has:Bool}{rd e:Int}{l:List b7}{v:aa}{i:List bE}
  (h:fB H1 H r H1.next c n2 7 T ao nL (Y ch) (gJ has dF rd e) l v s) (O:iU T n s=D (i,s')):
  W (nh (aC P az) N (.ptr r 0 0) (.ptr H1.next 0 0) (.ptr c 0 0) H) (tc H1 r T ao ⟨ch,l,has,dF,rd,i,e⟩ s'):=by
 unfold nh;refine aN ((FC n Q).block aE h.cC i s' O) ?_;rintro w o ⟨m2,R,q⟩;refine⟨m2.1,?_⟩;have a:=h.mut m2 R;have bH:=a.bH;have bX:=a.bX;have iF:=a.iF;have ck:=a.ck;have dr:=a.dr;have V:=h.dr;have K:=a.cell;have A:=a.gj.one;have B:=q.eb;have M:=h2 A;have y:=h2 B;simp only[aa.cells]at M y;have j:=a.vG p [C has,Y dF,I J rd,w,I J e];have u:=j.two;have L:=j.cell;have S:=ae.aS u;have z:hX r H1.next H1 ((o.set c (.row U 7 [Y ch::v::[C has,Y dF,I J rd,w,I J e]])).set H1.next (.row U 7 [Y ch::v::[C has,Y dF,I J rd,w,I J e]])):=j.m.cw (.inr (bk _)) _
 have d:df o (bg n2) ((o.set c (.row U 7 [Y ch::v::[C has,Y dF,I J rd,w,I J e]])).set H1.next (.row U 7 [Y ch::v::[C has,Y dF,I J rd,w,I J e]])) (bg H1.next):=λk x d g=>⟨by unfold bg at d ⊢;omega,by unfold bg at d;rw[ae.get_set_other af,ae.get_set_other af];exact g⟩
 have G:=a.gj.aX d;have F:c1 _ (bg H1.next) i w:=q.aX (df.trans (df.le (ok':=bg n2) λk d=>by unfold bg at d ⊢;omega) d).s;have E:=p.mC z (s':=s') (by unfold bw;rw[ae.get_set_other af];exact j.cC.rd);simp-implicitDefEqProofs(disch:=try exact al)only[bf,br,dR,an,cD,aV,cD,Nat.reduceAdd,Nat.reduceLeDiff,reduceIte,aa.cells,cI,dA,dq,K,L,u,A,B,y];exact bb.2 ⟨⟨_,rfl,v,w,rfl,G.aA,F⟩,z.mt,E⟩
def Je{N n:Nat}(w:n<=900000000)(aE:T.length<=20000000)(j:bI H1 r T ao s0){c n2:Nat}{ch:aJ}{i:Int}{l:List b7}{v:aa}{p:List bE}
  (h:fB H1 H r H1.next c n2 7 T ao nL (Y ch) (gJ U [] 0 i) l v s) (a:iU T n (gq T (bl T [41] s)).2=D (p,s')):
  W (kj (aC P az) N (.ptr r 0 0) (.ptr H1.next 0 0) (.ptr c 0 0) H) (tc H1 r T ao ⟨ch,l,(gq T (bl T [41] s)).1.1,(gq T (bl T [41] s)).1.2.1,(gq T (bl T [41] s)).1.2.2,p,i⟩ s'):=by
 unfold kj;refine aN (gf h.cC [41] (by simp)) ?_;rintro _ O ⟨rfl,m2,L⟩;refine⟨m2.1,?_⟩;have e:=h.mut m2 L;generalize bl T [41] s=s2 at e a ⊢;refine aN (dk e.cC.rd e.cC.bx [58] (by simp)) ?_;rintro _ A ⟨rfl,o⟩;refine⟨o.1,?_⟩;have k:=e.mut (o.mut _) (e.cC.aM o);unfold gq at a ⊢;cases z:a1 T s2 [58]with
 |false=>
  rw[z,aT]at a;simp-implicitDefEqProofs(disch:=try exact al)only[bf,br];exact CO w aE j k a
 |true=>
  rw[z,aY]at a;have q:fB H1 (A.set r (.row U 5 [[ao,I J (aD s2).at_,I J s2.bP,I J s2.aF,I J s2.cS]])) r H1.next c n2 7 T ao nL (Y ch) (gJ U [] 0 i) l v (aD s2):=k.I5 (aD s2)
  have x:=k.cC.rd;unfold bw at x;have u:=q.vG j (gJ X [] 0 i);have E:=q.cell;have K:=k.cC.bx.one;have G:IntKind.i64.wrap (s2.at_+1)=(aD s2).at_:=rfl;simp-implicitDefEqProofs(disch:=try exact al)only[bf,br,dR,c5,an,cD,aV,cD,Nat.reduceAdd,Nat.reduceLeDiff,reduceIte,aa.cells,cI,dA,x,K,G,E];refine aN (qH u.cC) ?_;rintro _ Q ⟨rfl,m6,M⟩;refine⟨m6.1,?_⟩;have m:=u.mut m6 M;have F:=m.cell;generalize cM T (aD s2)=ai at m a ⊢;obtain⟨⟨y,d⟩,km⟩:=ai;have B:=m.vG j (gJ X y d i);simp-implicitDefEqProofs(disch:=try exact al)only[bf,br,dR,c5,an,cD,aV,cD,Nat.reduceAdd,Nat.reduceLeDiff,reduceIte,aa.cells,cI,dA,F]
  exact CO w aE j B a
end
section
variable {H H' H1:ae}{r:Nat}{T:List Tok}{ao:aa}{s s' s0:aw}
def Jf{n:Nat}(ad:n<=900000000)(aE:T.length<=20000000)(h:bI H r T ao s){f:Fn}(u:mE T n s=D (f,s')):W (aC P az 28 [.ptr r 0 0] H) (tc H r T ao f s'):=by
 refine cz (λ_=>JD (n+1)) ?_;have ab:=h.rd.lt;unfold mE at u;obtain⟨⟨l',am⟩,i,V⟩:=cR.1 u;obtain⟨⟨aq,qR⟩,w,y⟩:=cR.1 V;simp only[aU,bY]at y;obtain⟨rfl,rfl⟩:=y;simp only at w;have c:=aO.push H (.row U 7 [nL]);have K:=ae.bC H (.row U 7 [nL]);simp-implicitDefEqProofs(disch:=try exact al)only[sq,bf,br,List.length_cons,List.length_nil,Nat.zero_add,Nat.reduceAdd];refine aN (hv (h.rd.aM c) (h.aM c).bx) ?_;rintro _ H1 ⟨rfl,a⟩;refine⟨a.1,?_⟩;have ah:=a.1;simp only[ae.bT]at ah;have B:=(h.aM c).aM a;have L:=a.get K;generalize au T s.at_=q;obtain⟨k,x,z,p⟩:=q;have j:=aO.push H1 (.row U 7 [Y []:: .ar::gJ U [] 0 p])
 have Q:=ae.bC H1 (.row U 7 [Y []:: .ar::gJ U [] 0 p]);simp-implicitDefEqProofs(disch:=try exact al)only[bf,br,dR,an,cD,aV,cD,Nat.reduceAdd,Nat.reduceLeDiff,reduceIte,aa.cells,cI,dA,dq,ae.hr,Tok.v];refine aN (lN (B.aM j)) ?_;rintro _ m ⟨rfl,m3,e⟩;refine⟨m3.1,?_⟩;have aj:=m3.1;simp only[ae.bT]at aj;have M:=m3.get (j.get L) af;have o:=m3.get Q af;have dI:=ae.aS o;generalize bu T s=ai at e i ⊢;obtain⟨ch,e4⟩:=ai;simp only at e i ⊢;have ag:=((((c.mut (· =r)).trans (a.mut _)).trans (j.mut _)).trans m3);have A:=ag.cw (l:=H1.next) (.inr af) (.row U 7 [Y ch:: .ar::gJ U [] 0 p]);have E:=h.mut A (show bw _ r ao e4 by unfold bw;rw[ae.get_set_other af];exact e.rd)
 have N:(m.set H1.next (.row U 7 [Y ch:: .ar::gJ U [] 0 p])).get H.next=D (.row U 7 [nL]):=by rw[ae.get_set_other af];exact M
 have R:(m.set H1.next (.row U 7 [Y ch:: .ar::gJ U [] 0 p])).get H1.next=D (.row U 7 [Y ch:: .ar::gJ U [] 0 p]):=ae.get_set_same dI
 simp-implicitDefEqProofs(disch:=try exact al)only[bf,br,dR,an,cD,aV,cD,Nat.reduceAdd,Nat.reduceLeDiff,reduceIte,aa.cells,cI,dA,dq,o];refine aN (gf E [40] (by simp)) ?_;rintro _ d ⟨rfl,m5,F⟩;refine⟨m5.1,?_⟩;have ak:=m5.1;simp only[ae.dj]at ak;have O:=m5.get N af;have S:=m5.get R af;have gl:fB H d r H.next H1.next d.next 7 T ao nL (Y ch) (gJ U [] 0 p) [] .ar (bl T [40] e4):=⟨F,O,S,.nil,b5.rV (A.trans m5),ab,bk _,af,af,bk _⟩
 refine sd h (s':=am) (l':=l') (λap v G=> ?_) n (n+1) d _ [] .ar (Nat.lt_succ_self _) (by simp only[List.length_nil];omega) gl i;exact Je ad aE h G w
end
section
variable {H H' H0 H1:ae}{r a c:Nat}{T:List Tok}{ao:aa}{s s' s0:aw}{g gE:dm}
def uu{α:Type}{K:hC α}{t e:Nat}(y:jV t e K.esz){j:Nat->Prop}{l:List α}{v:aa}{a:bO}(F:c0 K j H1 l v)(m:b5 r H1 H)(M:H.get r=D a)(u:r<H1.next)(O:r<c)(L:c<H1.next)(s:∀k,j k->c<k){x:α}{cs:List aa}(he:K.V H (bg H1.next) x cs)(N:l.length<=1000000000):
  ∃n H',cQ P (H.push (.row U K.esz [cs])) [t,t] v (.aA H.next 0 1 K.esz (D 1))=D (n,H')/\n.one=X/\H.next+1<=H'.next/\H'.get c=H.get c/\∀b,c0 K (λk=>j k\/H1.next<=k) (H'.set c b) (l++[x]) n/\
   (∀k z,¬j k->k<H1.next->k≠c->k≠r->H1.get k=D z->(H'.set c b).get k=D z)/\(H'.set c b).get r=D a/\(H'.set c b).next=H'.next/\cP (λk=>k=r\/c<=k) H1 (H'.set c b):=by
 have i:(H1.set r a).next=H1.next:=ae.dj _ _ _
 have pu:aO (H1.set r a) H:=⟨by rw[i];exact m.1,λk d=>by
  rw[i]at d;by_cases e:k=r
  ·rw[e,ae.get_set_same u];exact M
  ·rw[ae.get_set_other (Ne.symm e)];exact m.2 k d e⟩
 have G:c0 K j (H1.set r a) l v:=F.aX λk x d g=>⟨d,by have:=s k d;rw[ae.get_set_other af];exact g⟩
 obtain⟨n,H',aR,a2,a3,a4,a5,o,w⟩:=grow (r:=c) y G ((pu.mut λk=>k=c\/(H1.set r a).next<=k)) s (by rw[i];exact L) (n2:=(H1.set r a).next) (by rw[i];exact he) (bk _) N;rw[i]at a3 o;refine⟨n,H',aR,a2,a4,a5,λb=>⟨a3 b,λk z p q A B E=>o k z p q A (by rw[ae.get_set_other (Ne.symm B)];exact E) b,?_,ae.dj _ _ _,?_⟩⟩
 ·exact o r a (λh=>by have:=s r h;omega) u af (ae.get_set_same u) b
 ·have m7:=w b;refine⟨by have:=m7.1;rw[i]at this;exact this,λk d aB=> ?_⟩;have p:k≠r:=λe=>aB (.inl e)
  have q:¬c<=k:=λe=>aB (.inr e)
  rw[m7.2 k (by rw[i];exact d) q,ae.get_set_other (Ne.symm p)]
def ep(H0:ae)(r c:Nat)(T:List Tok)(ao:aa)(H:ae)(g:dm)(s:aw):Prop:=∃bD bL bG,∃h d a:Nat->Prop,bI H r T ao s/\(∀l i n e z,ao= .aA l i n e z->l<r)/\H.get H0.next=D (.row U 3 [[.ar,.ar,.ar]])/\H.get (H0.next+1)=D (.row U 2 [[I J 0,I J 0]])/\H.get c=D (.row U 3 [[bD,bL,bG]])/\ c0 iC h H g.da bD/\c0 fE d H g.globals bL/\c0 hK a H g.funcs bG/\(∀k,h k->c<k/\¬d k/\¬a k)/\(∀k,d k->c<k/\¬a k)/\(∀k,a k->c<k)/\H0.next+1<r/\r<c/\cP (λk=>H0.next<=k) H0 H
def ep.mt(h:ep H0 r c T ao H g s)(m:b5 r H H')(cC:bI H' r T ao s'):ep H0 r c T ao H' g s':=by
 obtain⟨bD,bL,bG,o,p,q,av,u,v,w,x,l,n,b3,d,e,i,bH,bX,j⟩:=h;refine⟨bD,bL,bG,o,p,q,cC,u,m.get v af,m.get w af,m.get x af,l.aX (df.mut m λk a=>by have:=(d k a).1;omega),n.aX (df.mut m λk a=>by have:=(e k a).1;omega),b3.aX (df.mut m λk a=>by have:=i k a;omega),d,e,i,bH,bX,?_⟩;have y:=j.1;exact⟨by have:=m.1;omega,λk a aB=>by rw[m.2 k af af];exact j.2 k a aB⟩
def ep.dQ(h:ep H0 r c T ao H g s):bI H r T ao s:=by
 obtain⟨bD,bL,bG,a,d,e,av,-⟩:=h;exact av
def ep.aM(h:ep H0 r c T ao H g s)(p:aO H H'):ep H0 r c T ao H' g s:=h.mt (p.mut _) (h.dQ.aM p)
end
section
variable {H H' H0 H1:ae}{r c:Nat}{T:List Tok}{ao:aa}{s s' s0:aw}{g gE:dm}
def wb(h:eS H ao T)(d:∀l i n e z,ao= .aA l i n e z->l<r)(c:∀k,k<r->∀z,H.get k=D z->H'.get k=D z):eS H' ao T:=by
 rcases h with a|⟨l,i,cap,rfl,a⟩
 ·exact .inl a
 ·exact .inr ⟨l,i,cap,rfl,a.imp id λ⟨ro,els,aZ,j⟩=>⟨ro,els,c l (d _ _ _ _ _ rfl) _ aZ,j⟩⟩
def Jk(h:bI H r T ao s){x:b7}(e:dD T s=(x,s')):W (aC P az 26 [.ptr r 0 0] H) λv H'=>(∃cs,v= .agg cs/\fE.V H' (bg H.next) x cs)/\b5 r H H'/\bI H' r T ao s':=by
 refine(vE h).mono ?_;rintro v H' ⟨a,d,c⟩;rw[e]at a c;exact⟨⟨_,a,rfl⟩,d,c⟩
def Kn{M:Nat}(be:M<=900000000)(aE:T.length<=20000000)(h:ep H0 r c T ao H g s)(bg:g.da.length<=900000000){x:e0}(aL:mU T M (aD s)=D (x,s')){L:ae->O}{Q:aa->ae->Prop}(aH:∀H',ep H0 r c T ao H' {g with da:=g.da++[x]} s'->W (L H') Q):
  W (j (bW (.ptr r 0 0)) λa3=>j (aK P 59 a3 1) λa4=>j (an P H 3 a4) λa5=>j (aq P .add 3 X a5 (I J 1)) λa6=>j (bW (.ptr r 0 0)) λa8=>j (aK P 59 a8 1) λa9=>a7 H (aV P H 3 a9 a6) λd=>
   aI d (aC P az 25 [.ptr r 0 0] d) λa_ l=>j (aK P 26 (.ptr c 0 0) 0) λv=>j (an P l 22 v) λw=>bS l (bV P (l).next 22 1 [(0,a_)]) λba n=>aI n (cQ P n [22,22] w ba) λbb o=>
   j (aK P 26 (.ptr c 0 0) 0) λbc=>a7 o (aV P o 22 bc bb) λaG=>bif ((bj (an P d 22 v) w&&(bj (an P l 22 v) w&&(bj (an P n 22 v) w&&X)))&&X)then L aG else Z) Q:=by
 have ah:=h.dQ.rd;have aP:=h.dQ.bx.one;unfold bw at ah;have aM:IntKind.i64.wrap (s.at_+1)=(aD s).at_:=rfl;obtain⟨m,aJ⟩:=eO h.dQ.rd (aD s);have d:ep H0 r c T ao (H.set r (.row U 5 [[ao,I J (aD s).at_,I J s.bP,I J s.aF,I J s.cS]])) g (aD s):=h.mt m (h.dQ.mut m aJ);simp-implicitDefEqProofs(disch:=try exact al)only[bf,br,dR,c5,an,cD,aV,cD,Nat.reduceAdd,Nat.reduceLeDiff,reduceIte,aa.cells,cI,dA,ah,aP,aM];generalize H.set r (.row U 5 [[ao,I J (aD s).at_,I J s.bP,I J s.aF,I J s.cS]])=q at d ⊢;refine aN (Jn af d.dQ aL) ?_;rintro _ y ⟨⟨cs,rfl,he⟩,m3,a2⟩
 refine⟨m3.1,?_⟩;obtain⟨bD,bL,bG,ai,aT,aU,av,ap,au,aw,K,A,S,b3,i,u,B,bH,bX,ak⟩:=d;have gl:=av.rd.lt;have lc:=ae.aS K;have bi:=m3.1;have bo:=m3.get au af;have bp:=m3.get aw af;have N:=m3.get K af;obtain⟨G,R,V,ab,ay,E,ax⟩:=uu (c:=c) BG A m3 a2.rd gl bX lc (λk a=>(i k a).1) he af;have aj:=iC.len he;have aR:=qV BG y.next (cs:=cs) aj.1 aj.2
 have aW:iC.esz=3:=rfl;rw[aW]at V;have aQ:=A.rd;have ag:=h2 ab;simp only[aa.cells]at ag;rw[N]at E;have z5:=(aO.push y (.row U 3 [cs])).get N;have bd:(y.push (.row U 3 [cs])).next<=R.next:=by simp only[ae.bT];exact ay
 have bl:=A.one;have bm:=S.one;have bn:=b3.one;simp-implicitDefEqProofs(disch:=try exact al)only[bf,br,dR,an,cD,aV,cD,Nat.reduceAdd,Nat.reduceLeDiff,reduceIte,aa.cells,cI,dA,N,K,z5,E,aR,V,eI,aQ,ag,ab];obtain⟨aZ,a0,a1,bk,am⟩:=ax (.row U 3 [[G,bL,bG]]);have aY:=ae.aS E;have p:∀k,k<q.next->k≠c->k≠r->¬ai k->∀z,q.get k=D z->(R.set c (.row U 3 [[G,bL,bG]])).get k=D z:=λk ad d l n z o=>a0 k z n ad d l o
 have F:∀k,ai k->c<k:=λk a=>(i k a).1
 refine aH _ ⟨G,bL,bG,_,(λk=>aT k/\k<q.next),(λk=>aU k/\k<q.next),⟨a1,wb av.bx ap λk a z e=>p k (ae.aS e) af af (λh=>by have:=F k h;omega) z e⟩,ap,?_,?_,ae.get_set_same aY,aZ,(S.aX λk b a g=>⟨⟨a,ae.aS g⟩,p k (ae.aS g) (by have:=(u k a).1;omega) (by have:=(u k a).1;omega) (λh=>(i k h).2.1 a) b g⟩),(b3.aX λk b a g=>⟨⟨a,ae.aS g⟩,p k (ae.aS g) (by have:=B k a;omega) (by have:=B k a;omega) (λh=>(i k h).2.2 a) b g⟩),?_,?_,?_,bH,bX,?_⟩
 ·exact p _ af af af (λa=>by have:=F _ a;omega) _ au
 ·exact p _ af af af (λa=>by have:=F _ a;omega) _ aw
 ·rintro k (a|a)
  ·exact⟨(i k a).1,λh=>(i k a).2.1 h.1,λh=>(i k a).2.2 h.1⟩
  ·exact⟨af,λh=>by have:=h.2;omega,λh=>by have:=h.2;omega⟩
 ·exactλk a=>⟨(u k a.1).1,λh=>(u k a.1).2 h.1⟩
 ·exactλk a=>B k a.1
 ·have ad:=ak.1;have o:=am.1;refine⟨af,λk a aB=> ?_⟩;have bh:k<H0.next:=by simpa using aB
  rw[am.2 k af af];exact ak.2 k a aB
def Km{M:Nat}(be:M<=900000000)(aE:T.length<=20000000)(h:ep H0 r c T ao H g s)(bg:g.globals.length<=900000000){x:b7}(aL:dD T (aD s)=(x,s')){L:ae->O}{Q:aa->ae->Prop}(aH:∀H',ep H0 r c T ao H' {g with globals:=g.globals++[x]} s'->W (L H') Q):
  W (j (bW (.ptr r 0 0)) λa3=>j (aK P 59 a3 1) λa4=>j (an P H 3 a4) λa5=>j (aq P .add 3 X a5 (I J 1)) λa6=>j (bW (.ptr r 0 0)) λa8=>j (aK P 59 a8 1) λa9=>a7 H (aV P H 3 a9 a6) λd=>
   aI d (aC P az 26 [.ptr r 0 0] d) λa_ l=>j (aK P 26 (.ptr c 0 0) 1) λv=>j (an P l 23 v) λw=>bS l (bV P (l).next 23 1 [(0,a_)]) λba o=>aI o (cQ P o [23,23] w ba) λbb p=>
   j (aK P 26 (.ptr c 0 0) 1) λbc=>a7 p (aV P p 23 bc bb) λaG=>bif ((bj (an P d 23 v) w&&(bj (an P l 23 v) w&&(bj (an P o 23 v) w&&X)))&&X)then L aG else Z) Q:=by
 have ah:=h.dQ.rd;have aP:=h.dQ.bx.one;unfold bw at ah;have aM:IntKind.i64.wrap (s.at_+1)=(aD s).at_:=rfl;obtain⟨m,aJ⟩:=eO h.dQ.rd (aD s);have d:ep H0 r c T ao (H.set r (.row U 5 [[ao,I J (aD s).at_,I J s.bP,I J s.aF,I J s.cS]])) g (aD s):=h.mt m (h.dQ.mut m aJ);simp-implicitDefEqProofs(disch:=try exact al)only[bf,br,dR,c5,an,cD,aV,cD,Nat.reduceAdd,Nat.reduceLeDiff,reduceIte,aa.cells,cI,dA,ah,aP,aM];generalize H.set r (.row U 5 [[ao,I J (aD s).at_,I J s.bP,I J s.aF,I J s.cS]])=u at d ⊢;refine aN (Jk d.dQ aL) ?_;rintro _ y ⟨⟨cs,rfl,he⟩,m3,a2⟩
 refine⟨m3.1,?_⟩;obtain⟨bD,bL,bG,aT,ai,aU,av,ap,au,aw,K,S,A,b3,i,n,B,bH,bX,ak⟩:=d;have gl:=av.rd.lt;have lc:=ae.aS K;have bi:=m3.1;have bo:=m3.get au af;have bp:=m3.get aw af;have N:=m3.get K af;obtain⟨G,R,V,ab,ay,E,ax⟩:=uu (c:=c) qi A m3 a2.rd gl bX lc (λk a=>(n k a).1) he af;have aj:=fE.len he;have aR:=qV qi y.next (cs:=cs) aj.1 aj.2
 have aW:fE.esz=4:=rfl;rw[aW]at V;have aQ:=A.rd;have ag:=h2 ab;simp only[aa.cells]at ag;rw[N]at E;have z5:=(aO.push y (.row U 4 [cs])).get N;have bd:(y.push (.row U 4 [cs])).next<=R.next:=by simp only[ae.bT];exact ay
 have bl:=S.one;have bm:=A.one;have bn:=b3.one;simp-implicitDefEqProofs(disch:=try exact al)only[bf,br,dR,an,cD,aV,cD,Nat.reduceAdd,Nat.reduceLeDiff,reduceIte,aa.cells,cI,dA,N,K,z5,E,aR,V,eI,aQ,ag,ab];obtain⟨aZ,a0,a1,bk,am⟩:=ax (.row U 3 [[bD,G,bG]]);have aY:=ae.aS E;have q:∀k,k<u.next->k≠c->k≠r->¬ai k->∀z,u.get k=D z->(R.set c (.row U 3 [[bD,G,bG]])).get k=D z:=λk ad d l o z p=>a0 k z o ad d l p
 have F:∀k,ai k->c<k:=λk a=>(n k a).1
 refine aH _ ⟨bD,G,bG,(λk=>aT k/\k<u.next),_,(λk=>aU k/\k<u.next),⟨a1,wb av.bx ap λk a z e=>q k (ae.aS e) af af (λh=>by have:=F k h;omega) z e⟩,ap,?_,?_,ae.get_set_same aY,(S.aX λk b a g=>⟨⟨a,ae.aS g⟩,q k (ae.aS g) (by have:=(i k a).1;omega) (by have:=(i k a).1;omega) (λh=>(i k a).2.1 h) b g⟩),aZ,(b3.aX λk b a g=>⟨⟨a,ae.aS g⟩,q k (ae.aS g) (by have:=B k a;omega) (by have:=B k a;omega) (λh=>(n k h).2 a) b g⟩),?_,?_,?_,bH,bX,?_⟩
 ·exact q _ af af af (λa=>by have:=F _ a;omega) _ au
 ·exact q _ af af af (λa=>by have:=F _ a;omega) _ aw
 ·refineλk a=>⟨(i k a.1).1,λh=> ?_,λh=>(i k a.1).2.2 h.1⟩
  rcases h with h|h
  ·exact(i k a.1).2.1 h
  ·have:=a.2;omega
 ·rintro k (a|a)
  ·exact⟨(n k a).1,λh=>(n k a).2 h.1⟩
  ·exact⟨af,λh=>by have:=h.2;omega⟩
 ·exactλk a=>B k a.1
 ·have ad:=ak.1;have p:=am.1;refine⟨af,λk a aB=> ?_⟩;have bh:k<H0.next:=by simpa using aB
  rw[am.2 k af af];exact ak.2 k a aB
def Kl{M:Nat}(aJ:M<=900000000)(aE:T.length<=20000000)(h:ep H0 r c T ao H g s)(bg:g.funcs.length<=900000000){x:Fn}(aM:mE T M (aD s)=D (x,s')){L:ae->O}{Q:aa->ae->Prop}(aH:∀H',ep H0 r c T ao H' {g with funcs:=g.funcs++[x]} s'->W (L H') Q):
  W (j (bW (.ptr r 0 0)) λa4=>j (aK P 59 a4 1) λa5=>j (an P H 3 a5) λa6=>j (aq P .add 3 X a6 (I J 1)) λa8=>j (bW (.ptr r 0 0)) λa9=>j (aK P 59 a9 1) λa_=>a7 H (aV P H 3 a_ a8) λd=>
   aI d (aC P az 28 [.ptr r 0 0] d) λba l=>j (aK P 26 (.ptr c 0 0) 2) λv=>j (an P l 24 v) λw=>bS l (bV P (l).next 24 1 [(0,ba)]) λbb o=>aI o (cQ P o [24,24] w bb) λbc p=>
   j (aK P 26 (.ptr c 0 0) 2) λbd=>a7 p (aV P p 24 bd bc) λaG=>bif ((bj (an P d 24 v) w&&(bj (an P l 24 v) w&&(bj (an P o 24 v) w&&X)))&&X)then L aG else Z) Q:=by
 have ah:=h.dQ.rd;have aQ:=h.dQ.bx.one;unfold bw at ah;have aP:IntKind.i64.wrap (s.at_+1)=(aD s).at_:=rfl;obtain⟨m,aL⟩:=eO h.dQ.rd (aD s);have d:ep H0 r c T ao (H.set r (.row U 5 [[ao,I J (aD s).at_,I J s.bP,I J s.aF,I J s.cS]])) g (aD s):=h.mt m (h.dQ.mut m aL);simp-implicitDefEqProofs(disch:=try exact al)only[bf,br,dR,c5,an,cD,aV,cD,Nat.reduceAdd,Nat.reduceLeDiff,reduceIte,aa.cells,cI,dA,ah,aQ,aP];generalize H.set r (.row U 5 [[ao,I J (aD s).at_,I J s.bP,I J s.aF,I J s.cS]])=u at d ⊢;refine aN (Jf aJ aE d.dQ aM) ?_;rintro _ y ⟨⟨cs,rfl,he⟩,m3,a3⟩
 refine⟨m3.1,?_⟩;obtain⟨bD,bL,bG,aU,aW,ai,av,ap,au,aw,G,R,S,b3,i,n,A,bH,bX,ak⟩:=d;have gl:=av.rd.lt;have lc:=ae.aS G;have bi:=m3.1;have bo:=m3.get au af;have bp:=m3.get aw af;have K:=m3.get G af;obtain⟨F,N,V,ab,ay,B,ax⟩:=uu (c:=c) BF b3 m3 a3.rd gl bX lc (λk a=>A k a) he af;have aj:=hK.len he;have aT:=qV BF y.next (cs:=cs) aj.1 aj.2
 have aY:hK.esz=7:=rfl;rw[aY]at V;have aR:=b3.rd;have ag:=h2 ab;simp only[aa.cells]at ag;rw[K]at B;have z5:=(aO.push y (.row U 7 [cs])).get K;have be:(y.push (.row U 7 [cs])).next<=N.next:=by simp only[ae.bT];exact ay
 have bl:=R.one;have bm:=S.one;have bn:=b3.one;simp-implicitDefEqProofs(disch:=try exact al)only[bf,br,dR,an,cD,aV,cD,Nat.reduceAdd,Nat.reduceLeDiff,reduceIte,aa.cells,cI,dA,K,G,z5,B,aT,V,eI,aR,ag,ab];obtain⟨aZ,a1,a2,bk,am⟩:=ax (.row U 3 [[bD,bL,F]]);have a0:=ae.aS B;have q:∀k,k<u.next->k≠c->k≠r->¬ai k->∀z,u.get k=D z->(N.set c (.row U 3 [[bD,bL,F]])).get k=D z:=λk ad d l o z p=>a1 k z o ad d l p
 have E:∀k,ai k->c<k:=λk a=>A k a
 refine aH _ ⟨bD,bL,F,(λk=>aU k/\k<u.next),(λk=>aW k/\k<u.next),_,⟨a2,wb av.bx ap λk a z e=>q k (ae.aS e) af af (λh=>by have:=E k h;omega) z e⟩,ap,?_,?_,ae.get_set_same a0,(R.aX λk b a g=>⟨⟨a,ae.aS g⟩,q k (ae.aS g) (by have:=(i k a).1;omega) (by have:=(i k a).1;omega) (λh=>(i k a).2.2 h) b g⟩),(S.aX λk b a g=>⟨⟨a,ae.aS g⟩,q k (ae.aS g) (by have:=(n k a).1;omega) (by have:=(n k a).1;omega) (λh=>(n k a).2 h) b g⟩),aZ,?_,?_,?_,bH,bX,?_⟩
 ·exact q _ af af af (λa=>by have:=E _ a;omega) _ au
 ·exact q _ af af af (λa=>by have:=E _ a;omega) _ aw
 ·refineλk a=>⟨(i k a.1).1,λh=>(i k a.1).2.1 h.1,λh=> ?_⟩
  rcases h with h|h
  ·exact(i k a.1).2.2 h
  ·have:=a.2;omega
 ·refineλk a=>⟨(n k a.1).1,λh=> ?_⟩
  rcases h with h|h
  ·exact(n k a.1).2 h
  ·have:=a.2;omega
 ·rintro k (a|a)
  ·exact A k a
  ·omega
 ·have ad:=ak.1;have p:=am.1;refine⟨af,λk a aB=> ?_⟩;have bh:k<H0.next:=by simpa using aB
  rw[am.2 k af af];exact ak.2 k a aB
end
section
variable {H H' H0 H1:ae}{r c:Nat}{T:List Tok}{ao:aa}{s s' s0:aw}{g gE:dm}
def Jh{N:Nat}{a:aa->aa->aa->aa->ae->O}{d e:aa}{Q:aa->ae->Prop}(h:ep H0 r c T ao H g s)(i:∀H',ep H0 r c T ao H' g (cL T 4 s)->W (a d e (.ptr r 0 0) (.ptr c 0 0) H') Q):W (jg (aC P az) N a d e (.ptr r 0 0) (.ptr c 0 0) (C X) H) Q:=by
 unfold jg;simp only[ek,aY,aT];refine aN (jI h.dQ 4) ?_;rintro _ k ⟨rfl,m5,j⟩;exact⟨m5.1,i _ (h.mt m5 j)⟩
def Jg{N M n:Nat}(o:M<=900000000)(aE:T.length<=20000000){d:aa->aa->aa->aa->ae->O}{e i:aa}{Q:aa->ae->Prop}(h:ep H0 r c T ao H g s)(F:g.da.length<=900000000)(G:g.globals.length<=900000000)(dI:g.funcs.length<=900000000)
  (a:(bif isRec T s then(mU T M (aD s)).bind λp=>gX T M n {g with da:=g.da++[p.1]} p.2
   else bif jB T s then gX T M n {g with globals:=g.globals++[(dD T (aD s)).1]} (bl T [59] (dD T (aD s)).2)
   else bif isFun T s then(mE T M (aD s)).bind λp=>gX T M n {g with funcs:=g.funcs++[p.1]} p.2
   else gX T M n g (cL T 2 s))=D (gE,s'))
  (l:∀H' g1 s1,ep H0 r c T ao H' g1 s1->g1.da.length<=g.da.length+1->g1.globals.length<=g.globals.length+1->g1.funcs.length<=g.funcs.length+1->gX T M n g1 s1=D (gE,s')->W (d e i (.ptr r 0 0) (.ptr c 0 0) H') Q):W (jg (aC P az) N d e i (.ptr r 0 0) (.ptr c 0 0) (C U) H) Q:=by
 unfold isRec jB isFun at a;unfold jg;simp only[ek,aY,aT];refine aN (dk h.dQ.rd h.dQ.bx [114,101,99,111,114,100] (by simp)) ?_;rintro _ K ⟨rfl,y⟩;refine⟨y.1,?_⟩;have j:=h.aM y;cases u:a1 T s [114,101,99,111,114,100]with
 |true=>
  rw[u,aY]at a;obtain⟨⟨x,s1⟩,f1,f2⟩:=cR.1 a;simp only[ek,aY,aT];exact Kn o aE j F f1 (L:=λH'=>d e i (.ptr r 0 0) (.ptr c 0 0) H') λH' ba=>l H' _ _ ba (by simp) (by simp) (by simp) f2
 |false=>
  rw[u,aT]at a;simp only[ek,aY,aT];refine aN (dk j.dQ.rd j.dQ.bx [103,108,111,98,97,108] (by simp)) ?_;rintro _ R ⟨rfl,z⟩;refine⟨z.1,?_⟩;have k:=j.aM z;cases v:a1 T s [103,108,111,98,97,108]with
  |true=>
   rw[v,aY]at a;simp only[ek,aY,aT];refine Km o aE k G (x:=(dD T (aD s)).1) (s':=(dD T (aD s)).2) rfl (L:=λH'=>aI H' (aC P az 27 [.ptr r 0 0,Y [59]] H') λV E=>d e i (.ptr r 0 0) (.ptr c 0 0) E) λH' ba=> ?_
   refine aN (gf ba.dQ [59] (by simp)) ?_;rintro _ B ⟨rfl,m5,q⟩;exact⟨m5.1,l _ _ _ (ba.mt m5 q) (by simp) (by simp) (by simp) a⟩
  |false=>
   rw[v,aT]at a;simp only[ek,aY,aT];refine aN (dk k.dQ.rd k.dQ.bx [102,117,110,99] (by simp)) ?_;rintro _ S ⟨rfl,A⟩;refine⟨A.1,?_⟩;have m:=k.aM A;cases w:a1 T s [102,117,110,99]with
   |true=>
    rw[w,aY]at a;obtain⟨⟨x,s1⟩,f1,f2⟩:=cR.1 a;simp only[ek,aY,aT];exact Kl o aE m dI f1 (L:=λH'=>d e i (.ptr r 0 0) (.ptr c 0 0) H') λH' ba=>l H' _ _ ba (by simp) (by simp) (by simp) f2
   |false=>
    rw[w,aT]at a;simp only[ek,aY,aT];refine aN (jI m.dQ 2) ?_;rintro _ B ⟨rfl,m5,q⟩;exact⟨m5.1,l _ _ _ (m.mt m5 q) (by simp) (by simp) (by simp) a⟩
end
section
variable {H H' H0 H1:ae}{r c:Nat}{T:List Tok}{ao bD bL bG:aa}{s s' s0:aw}{g gE:dm}
def ux{n:Nat}(k:H.get c=D (.row U 3 [[bD,bL,bG]]))(l:∀H',b2 P H' .len [22] [bD]=D (I J n))(u:bD.one=X)(b:Bool)(F:aa->ae->O):
  (aQ (C b) X H (bA (aK P 26 (.ptr c 0 0) 0)) λm a=>aQ (C b) X a (qr (an P a 22 m)) λe d=>aQ (C b) X d (λq=>gg (b2 P .empty .len [22] [e]) (b2 P d .len [22] [e]) q) λo i=>aQ (C b) X i (bA (aq P .eql 3 X o (I J 12))) λp h=>j (cB (C b) (D p) (D (C U))) λs=>F s h)=F (C (b&&((n:Int)==12))) H:=by
 cases b
 ·simp-implicitDefEqProofs(disch:=try exact al)only[reduceAdd,reduceLeDiff,reduceIte,ax,Bool.false_and]
 ·simp-implicitDefEqProofs(disch:=try exact al)only[reduceAdd,reduceLeDiff,reduceIte,ax,k,l,Bool.true_and]
def uy{n:Nat}(k:H.get c=D (.row U 3 [[bD,bL,bG]]))(l:∀H',b2 P H' .len [23] [bL]=D (I J n))(u:bL.one=X)(b:Bool)(F:aa->ae->O):
  (aQ (C b) X H (bA (aK P 26 (.ptr c 0 0) 1)) λm a=>aQ (C b) X a (qr (an P a 23 m)) λe d=>aQ (C b) X d (λq=>gg (b2 P .empty .len [23] [e]) (b2 P d .len [23] [e]) q) λo i=>aQ (C b) X i (bA (aq P .eql 3 X o (I J 8))) λp h=>j (cB (C b) (D p) (D (C U))) λs=>F s h)=F (C (b&&((n:Int)==8))) H:=by
 cases b
 ·simp-implicitDefEqProofs(disch:=try exact al)only[reduceAdd,reduceLeDiff,reduceIte,ax,Bool.false_and]
 ·simp-implicitDefEqProofs(disch:=try exact al)only[reduceAdd,reduceLeDiff,reduceIte,ax,k,l,Bool.true_and]
def Ho{n:Nat}(k:H.get c=D (.row U 3 [[bD,bL,bG]]))(l:∀H',b2 P H' .len [24] [bG]=D (I J n))(u:bG.one=X)(b:Bool)(F:aa->ae->O):
  (aQ (C b) X H (bA (aK P 26 (.ptr c 0 0) 2)) λm a=>aQ (C b) X a (qr (an P a 24 m)) λe d=>aQ (C b) X d (λq=>gg (b2 P .empty .len [24] [e]) (b2 P d .len [24] [e]) q) λo i=>aQ (C b) X i (bA (aq P .eql 3 X o (I J 16))) λp h=>j (cB (C b) (D p) (D (C U))) λs=>F s h)=F (C (b&&((n:Int)==16))) H:=by
 cases b
 ·simp-implicitDefEqProofs(disch:=try exact al)only[reduceAdd,reduceLeDiff,reduceIte,ax,Bool.false_and]
 ·simp-implicitDefEqProofs(disch:=try exact al)only[reduceAdd,reduceLeDiff,reduceIte,ax,k,l,Bool.true_and]
def ep.cells(h:ep H0 r c T ao H g s):∃bD bL bG,H.get c=D (.row U 3 [[bD,bL,bG]])/\(∀H',b2 P H' .len [22] [bD]=D (I J g.da.length))/\(∀H',b2 P H' .len [23] [bL]=D (I J g.globals.length))/\(∀H',b2 P H' .len [24] [bG]=D (I J g.funcs.length))/\bD.one=X/\bL.one=X/\bG.one=true:=by
 obtain⟨bD,bL,bG,i,j,k,av,l,m,n,e,a,d,b3,-⟩:=h;exact⟨bD,bL,bG,e,a.uQ,d.mI,b3.uR,a.one,d.one,b3.one⟩
def tP(n m:Nat):((n:Int)==(m:Int))=(n==m):=by
 by_cases h:n=m
 ·subst h;simp
 ·have:(n:Int)≠(m:Int):=af;rw[show(n==m)=U by simpa using h];exact beq_eq_false_iff_ne.2 this
def vF{N M:Nat}(z:M<=900000000)(aE:T.length<=20000000){x y:aa}{Q:aa->ae->Prop}
  (q:∀H,ep H0 r c T ao H gE s'->W (mb (aC P az) N x y (.ptr r 0 0) (.ptr c 0 0) H) Q):
  ∀(n m:Nat) (H:ae) (s:aw) (g:dm),n<m->g.da.length+n<=900000000->g.globals.length+n<=900000000->g.funcs.length+n<=900000000->ep H0 r c T ao H g s->gX T M n g s=D (gE,s')->W (lf (aC P az) N m x y (.ptr r 0 0) (.ptr c 0 0) H) Q
 |_,0,_,_,_,ag,_,_,_,_,_=>af
 |0,m+1,_,_,_,_,_,_,_,_,a=>by cases a
 |n+1,m+1,H,s,g,ag,ak,am,dI,h,a=>by
  rw[gX]at a;rw[lf];unfold sO;refine aN (jJ h.dQ.rd) ?_;rintro _ ah ⟨rfl,rfl⟩;refine⟨bk _,?_⟩;by_cases O:s.aF=0
  ·have i:(s.aF==0)=true:=by simpa using O
   rw[i,Bool.true_and]at a;simp-implicitDefEqProofs(disch:=try exact al)only[bf,br,i];refine iR (hv h.dQ.rd h.dQ.bx) ?_;rintro _ ai ⟨rfl,R⟩;refine⟨R.1,?_⟩;have p:=h.aM R;cases u:((au T s.at_).kind != 0)with
   |false=>
    rw[u,aT]at a;cases a;simp-implicitDefEqProofs(disch:=try exact al)only[bf,br,c5,dR,Tok.v,u,i];exact q _ p
   |true=>
    rw[u,aY]at a;simp-implicitDefEqProofs(disch:=try exact al)only[bf,br,c5,dR,Tok.v,u,i];have full:∀e,ep H0 r c T ao e g s->((isRec T s&&g.da.length==12)||((jB T s&&g.globals.length==8)||(isFun T s&&g.funcs.length==16)))=X->W (jg (aC P az) N (lf (aC P az) N m) x y (.ptr r 0 0) (.ptr c 0 0) (C X) e) Q:=λe d A=>by
     rw[A,aY]at a;exact Jh d λo j=>vF z aE q n m o _ _ af af af af j a
    have free:∀e,ep H0 r c T ao e g s->((isRec T s&&g.da.length==12)||((jB T s&&g.globals.length==8)||(isFun T s&&g.funcs.length==16)))=U->W (jg (aC P az) N (lf (aC P az) N m) x y (.ptr r 0 0) (.ptr c 0 0) (C U) e) Q:=λe d A=>by
     rw[A,aT]at a;exact Jg z aE d af af af a λo g1 s1 j aZ w F ad=>vF z aE q n m o _ _ af af af af j ad
    refine aN (dk p.dQ.rd p.dQ.bx [114,101,99,111,114,100] (by simp)) ?_;rintro _ aj ⟨rfl,S⟩;refine⟨S.1,?_⟩;have k:=p.aM S;obtain⟨bD,bL,bG,l,B,n2,E,G,K,L⟩:=k.cells;rw[ux l B G,show(12:Int)=((12:Nat):Int)from rfl,tP];cases aZ:a1 T s [114,101,99,111,114,100]&&g.da.length==12 with
    |true=>
     simp only[ek,aY];exact full _ k (by rw[show(isRec T s&&g.da.length==12)=X from aZ];rfl)
    |false=>
     simp only[ek,aT];refine aN (dk k.dQ.rd k.dQ.bx [103,108,111,98,97,108] (by simp)) ?_;rintro _ e ⟨rfl,V⟩;refine⟨V.1,?_⟩;have d:=k.aM V;obtain⟨bD,bL,bG,l,B,n2,E,G,K,L⟩:=d.cells;rw[uy l n2 K,show(8:Int)=((8:Nat):Int)from rfl,tP];cases w:a1 T s [103,108,111,98,97,108]&&g.globals.length==8 with
     |true=>
      simp only[ek,aY];exact full _ d (by rw[show(isRec T s&&g.da.length==12)=U from aZ,show(jB T s&&g.globals.length==8)=X from w];rfl)
     |false=>
      simp only[ek,aT];refine aN (dk d.dQ.rd d.dQ.bx [102,117,110,99] (by simp)) ?_;rintro _ o ⟨rfl,ab⟩;refine⟨ab.1,?_⟩;have j:=d.aM ab;obtain⟨bD,bL,bG,l,B,n2,E,G,K,L⟩:=j.cells;rw[Ho l E L,show(16:Int)=((16:Nat):Int)from rfl,tP];cases F:a1 T s [102,117,110,99]&&g.funcs.length==16 with
      |true=>exact full _ j (by rw[show(isRec T s&&g.da.length==12)=U from aZ,show(jB T s&&g.globals.length==8)=U from w,show(isFun T s&&g.funcs.length==16)=X from F];rfl)
      |false=>exact free _ j (by rw[show(isRec T s&&g.da.length==12)=U from aZ,show(jB T s&&g.globals.length==8)=U from w,show(isFun T s&&g.funcs.length==16)=U from F];rfl)
  ·have i:(s.aF==0)=false:=by simpa using O
   rw[i,Bool.false_and,aT]at a;cases a;simp-implicitDefEqProofs(disch:=try exact al)only[bf,br,i];exact q _ h
end
def Fe(H0:ae)(x:dm×Int×Int)(v:aa)(H':ae):Prop:=∃bD bL bG,v= .tuple [.agg [bD,bL,bG],.agg [I J x.2.1,I J x.2.2]]/\dH iC H' (bg H0.next) x.1.da bD/\dH fE H' (bg H0.next) x.1.globals bL/\dH hK H' (bg H0.next) x.1.funcs bG/\aO H0 H'
def r8(s:aJ)(g:dm)(s':aw):dm×Int×Int:=if(dx s).2.1=0 then vs g s' else(.none,(dx s).2.1,(dx s).2.2)
def Cy(a b:Int):bj (D (.agg [I J a,I J b])) (.agg [I J a,I J b])=true:=by simp[bj,aa.beq,fX.beq]
section
variable {H:ae}
end
def Gi{ao:aa}{T:List Tok}{H:ae}(h:eS H ao T):cj P 59 [(0,ao)]=D (.agg [ao,I J 0,I J 0,I J 0,I J 0]):=by
 rcases h with⟨rfl,_⟩|⟨l,i,cap,rfl,_⟩<;>kernel_rfl
section
variable {H:ae}
def I2(s:aJ){gE:dm}{s':aw}{M n:Nat}(a3:M<=800000000)(a4:n<=800000000)(aG:(dx s).2.1=0->gX (dx s).1 M n .none ⟨0,0,0,0⟩=D (gE,s')):W (aC P az 9 [Y s] H) (Fe H (r8 s gE s')):=by
 refine cz (λ_=>Ke (n+1)) ?_;have aj:=(aO.push H (.row U 3 [[.ar,.ar,.ar]])).bt (.row U 2 [[I J 0,I J 0]]);unfold qR;simp-implicitDefEqProofs(disch:=try exact al)only[bf,br,List.length_cons,List.length_nil,Nat.zero_add,Nat.reduceAdd];refine aN (w1 s) ?_;rintro _ j ⟨ao,rfl,L,d⟩;refine⟨d.1,?_⟩;have y:=d.get ((aO.push (H.push (.row U 3 [[.ar,.ar,.ar]])) (.row U 2 [[I J 0,I J 0]])).get (ae.bC H (.row U 3 [[.ar,.ar,.ar]])));have v:=d.get (ae.bC (H.push (.row U 3 [[.ar,.ar,.ar]])) (.row U 2 [[I J 0,I J 0]]));have aW:=d.1;simp only[ae.bT]at aW v
 have N:= @wh s;unfold r8;generalize dx s=bx at L aG N ⊢;obtain⟨T,aF,cS⟩:=bx;simp only at L aG N ⊢;have q:=aO.push j (.row U 2 [[I J aF,I J cS]]);have gc:=ae.bC j (.row U 2 [[I J aF,I J cS]]);have z:=q.get y;have B:=q.get v;have aY:(j.push (.row U 2 [[I J aF,I J cS]])).next=j.next+1:=by simp only[ae.bT]
 have ak:=(aj.trans d).trans q;have p:=L.aM q;by_cases G:aF=0
 ·subst G;have z0:((0:Int) != 0)=false:=rfl;simp-implicitDefEqProofs(disch:=try exact al)only[bf,br,dR,an,cD,aV,cD,Nat.reduceAdd,Nat.reduceLeDiff,reduceIte,aa.cells,cI,dA,dq,c5,ae.hr,z0];generalize j.push (.row U 2 [[I J 0,I J cS]])=a at q gc z B aY ak p ⊢;obtain⟨aE,K⟩:=N rfl;have aD:=Gi p;have aL:=p.one;have aH:∀l,dS l (.agg [ao,I J 0,I J 0,I J 0,I J 0])=D (.ptr l 0 0,.row U 5 [[ao,I J 0,I J 0,I J 0,I J 0]]):=λl=>hh l _ (by simp only[List.all_cons,List.all_nil,gH,aL,Bool.and_self])
  have x:=aO.push a (.row U 5 [[ao,I J 0,I J 0,I J 0,I J 0]]);have u:=aO.push (a.push (.row U 5 [[ao,I J 0,I J 0,I J 0,I J 0]])) (.row U 3 [[.ar,.ar,.ar]]);have V:=ae.bC (a.push (.row U 5 [[ao,I J 0,I J 0,I J 0,I J 0]])) (.row U 3 [[.ar,.ar,.ar]]);have ai:(a.push (.row U 5 [[ao,I J 0,I J 0,I J 0,I J 0]])).next=a.next+1:=by simp only[ae.bT]
  rw[ai]at V;have a2:=(ak.trans x).trans u;have rs:ep H a.next (a.next+1) T ao ((a.push (.row U 5 [[ao,I J 0,I J 0,I J 0,I J 0]])).push (.row U 3 [[.ar,.ar,.ar]])) .none ⟨0,0,0,0⟩:=by
   refine⟨.ar,.ar,.ar,(λ_=>False),(λ_=>False),(λ_=>False),⟨u.get (ae.bC _ _),(p.aM x).aM u⟩,?_,u.get (x.get z),u.get (x.get B),V,c0.nil,c0.nil,c0.nil,λ_ h=>h.elim,λ_ h=>h.elim,λ_ h=>h.elim,af,af,a2.mut _⟩;intro l i m e c ag;rcases p with⟨rfl,_⟩|⟨l',a5,cap,rfl,aI⟩
   ·cases ag
   ·cases ag;obtain⟨ro,els,aZ,-⟩:=aI.resolve_left (by rintro rfl;simp at K);exact ae.aS aZ
  simp-implicitDefEqProofs(disch:=try exact al)only[bf,br,aD,aH,ai];refine vF (M:=M) af aE.n (λap aB=> ?_) n (n+1) _ _ .none af (by simp only[dm.none,List.length_nil];omega) (by simp only[dm.none,List.length_nil];omega) (by simp only[dm.none,List.length_nil];omega) rs (aG rfl);obtain⟨bD,bL,bG,aP,aQ,aR,av,a9,A,E,ab,R,S,b3,aq,au,ay,bH,bX,ah⟩:=aB;have ad:=av.rd;unfold bw at ad;have ck:=R.one;have dr:=S.one;have a0:=b3.one;have aT:=ae.aS A;have aU:=ae.aS E;have a8:=ae.aS ab;have am:aO H ap:=⟨ah.1,λl K=>ah.2 l K af⟩;unfold mb;refine aN (jJ av.rd) ?_;rintro _ Q ⟨rfl,rfl⟩;refine⟨bk _,?_⟩;unfold vs;by_cases w:s'.aF=0
  ·have F:(s'.aF==0)=true:=by simpa using w
   simp-implicitDefEqProofs(disch:=try exact al)only[reduceAdd,reduceLeDiff,reduceIte,ax,F,Bool.not_true,ab,A,E,ck,dr,a0];rw[if_pos w];have O:∀ok:Nat->Prop,(∀k,ok k->a.next+1<k)->df Q ok ((Q.set H.next (.row U 3 [[bD,bL,bG]])).set (H.next+1) (.row U 2 [[I J 0,I J 0]])) (bg H.next):=λok o k b aK g=>by
    have:=o k aK;exact⟨by unfold bg;omega,by rw[ae.get_set_other af,ae.get_set_other af];exact g⟩
   exact bb.2 ⟨bD,bL,bG,rfl,(R.aA).aX (O aP λk o=>(aq k o).1),(S.aA).aX (O aQ λk o=>(au k o).1),(b3.aA).aX (O aR ay),(am.cw (bk _) _).cw af _⟩
  ·have F:(s'.aF==0)=false:=by simpa using w
   simp-implicitDefEqProofs(disch:=try exact al)only[reduceAdd,reduceLeDiff,reduceIte,ax,F,Bool.not_false,ad,A,E,Cy];rw[if_neg w];exact bb.2 ⟨.ar,.ar,.ar,rfl,dH.nil,dH.nil,dH.nil,(am.cw (bk _) _).cw af _⟩
 ·have z0:(aF != 0)=true:=by simpa using G
  have a6:=ae.aS z;have a7:=ae.aS B;rw[if_neg G];have aT:=ae.aS y;have aU:=ae.aS v;have a1:=aj.trans d;simp-implicitDefEqProofs(disch:=try exact al)only[reduceAdd,reduceLeDiff,reduceIte,ax,ae.hr,z0,y,v,Cy];refine bb.2 ⟨.ar,.ar,.ar,rfl,dH.nil,dH.nil,dH.nil,?_⟩
  repeat (first|exact a1|refine aO.bt ?_ _|refine aO.cw ?_ af _)
end
section
variable {α:Type}{K:hC α}{H:ae}{ok:Nat->Prop}
def dH.row{l:List α}{v:aa}(h:dH K H ok l v)(c:¬l.length=0):∃L i cap ro els,v= .aA L i l.length K.esz cap/\H.get L=D (.row ro K.esz els)/\∀(j:Nat) (a:α),l[j]? =D a->∃cs,els[i+j]? =D cs/\K.V H ok a cs:=by
 rcases h with⟨rfl,h⟩|⟨L,i,cap,ro,els,d,m,e,k⟩|⟨L,i,cap,rfl,h⟩
 ·rw[h]at c;exact absurd rfl c
 ·exact⟨L,i,_,ro,els,d,e,k⟩
 ·rw[h]at c;exact absurd rfl c
end
def dH.mI{H:ae}{ok:Nat->Prop}{l:List b7}{v:aa}(h:dH fE H ok l v)(H':ae):b2 P H' .len [23] [v]=D (I J l.length):=by
 rcases h with⟨rfl,rfl⟩|⟨L,i,cap,ro,els,rfl,_⟩|⟨L,i,cap,rfl,rfl⟩
 ·exact rP
 ·exact qe
 ·exact qe
def dH.uQ{H:ae}{ok:Nat->Prop}{l:List e0}{v:aa}(h:dH iC H ok l v)(H':ae):b2 P H' .len [22] [v]=D (I J l.length):=by
 rcases h with⟨rfl,rfl⟩|⟨L,i,cap,ro,els,rfl,_⟩|⟨L,i,cap,rfl,rfl⟩
 ·exact rO
 ·exact qd
 ·exact qd
def dH.uR{H:ae}{ok:Nat->Prop}{l:List Fn}{v:aa}(h:dH hK H ok l v)(H':ae):b2 P H' .len [24] [v]=D (I J l.length):=by
 rcases h with⟨rfl,rfl⟩|⟨L,i,cap,ro,els,rfl,_⟩|⟨L,i,cap,rfl,rfl⟩
 ·exact rQ
 ·exact qf
 ·exact qf
section
set_option maxRecDepth 100000
noncomputable section
