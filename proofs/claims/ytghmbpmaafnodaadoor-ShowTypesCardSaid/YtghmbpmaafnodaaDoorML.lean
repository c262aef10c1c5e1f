/-
  Texts of one proof, laid together: Y8 ShCa E1 ShR Wa ShRa Wb.
-/
import Derived.Test.YtghmbpmaafnodaaDoorMK
set_option linter.unusedVariables false
set_option linter.unusedSimpArgs false
set_option linter.defProp false
open Option renaming some→D,none→Z
open Bool renaming true→X,false→U
open Go.b9.aa renaming int→I,str→Y
open Go.IntKind renaming i64→J
namespace Go.Proofs.YtghmbpmaafnodaaDoor
open Go.b9
open Nat (reduceAdd reduceLeDiff)
def Hw{n:Nat}(R:py n){H0 H:ad}{r:Nat}{T:List Tok}{ak:aa}{s:aq}(c:bG H0 r T ak s)(x:aM H0 H)(B:H.get H0.next=D (.row U 11 [[I J 0,I J 0,Y [],Y [],I J 0,.ar,I J 0,I J 0,I J 0,I J 0,I J 0]])){b:Nat}(ab:H0.next<b)(F:H.get b=D (.row U 4 [[I J (ao T s.at_).kind,Y (ao T s.at_).text,I J (ao T s.at_).n,I J (ao T s.at_).pos]])){z:aJ}{s':aq}(h:(bif aW T (bp T s).2 [40]then(ia T n (bp T s).2).bind λp=>D (.mk {kind:=7,name:=(bp T s).1,pos:=(ao T s.at_).pos} p.1,p.2)else D (.mk {kind:=4,name:=(bp T s).1,pos:=(ao T s.at_).pos} [],(bp T s).2))=D (z,s')):
  W (kz (aA P aw) (.ptr r 0 0) (.ptr H0.next 0 0) (.ptr b 0 0) H) (dB H0 r T ak z s'):=by
 have ae:=c.rd.lt;have ap:=c.bu.one;have Q:=c.aK x;have hle:=x.1;have al:=ad.aR F;have ag:=ad.aR B;rw[kz];refine aL (lQ Q) ?_;rintro _ H1 ⟨rfl,m1,u⟩;refine⟨m1.1,?_⟩;have M:=m1.get B af;have N:=m1.get F af;simp-implicitDefEqProofs(disch:=try exact aj)only[fZ,f_,ga,gb,gd,fN,fw,fO,fx,fP,fy,fQ,fz,fR,fA,fS,fB,fC,fT,fD,fU,fE,fF,e8,e9,e_,fa,fb,fV,fW,fX,fY,fv,reduceAdd,reduceLeDiff,reduceIte,av];refine aL (dk u.rd u.bu [40] (by simp)) ?_;rintro _ y ⟨rfl,e⟩;refine⟨e.1,?_⟩;have j:=e.get M;have d:=e.get N;have ah:=ad.aR j;have am:=ad.aR d;have G:=u.aK e;have w:=((x.mut (· =r)).trans m1).trans (e.mut _);cases E:aW T (bp T s).2 [40]with
 |false=>
  simp only[E,aO,aS,bT]at h;obtain⟨rfl,rfl⟩:=h;simp-implicitDefEqProofs(disch:=try exact aj)only[fZ,f_,ga,gb,gd,fN,fw,fO,fx,fP,fy,fQ,fz,fR,fA,fS,fB,fC,fT,fD,fU,fE,fF,e8,e9,e_,fa,fb,fV,fW,fX,fY,fv,reduceAdd,reduceLeDiff,reduceIte,av,Bool.not_false,j,d];exact a_.2 (dB.box (a:={kind:=4,name:=(bp T s).1,pos:=(ao T s.at_).pos}) (kv:= .ar) (lo:=H0.next+1) c w G.rd (bf _) (Nat.lt_succ_self _) (b7.nil _ _) _)
 |true=>
  simp only[E,aU,cS]at h;obtain⟨⟨S,s1⟩,L,A⟩:=h;simp only[aS,bT]at A;obtain⟨rfl,rfl⟩:=A;simp-implicitDefEqProofs(disch:=try exact aj)only[fZ,f_,ga,gb,gd,fN,fw,fO,fx,fP,fy,fQ,fz,fR,fA,fS,fB,fC,fT,fD,fU,fE,fF,e8,e9,e_,fa,fb,fV,fW,fX,fY,fv,reduceAdd,reduceLeDiff,reduceIte,av,Bool.not_true];refine aL (R G S s1 L) ?_;rintro v V ⟨m3,K,o⟩;refine⟨m3.1,?_⟩;have m:=m3.get j af;have q:=m3.get d af;have ai:=ad.aR m;have an:=ad.aR q;have O:v= .ar\/∃l i n cap,v= .ay l i n 11 cap:=by
   rcases o with⟨h,_⟩|⟨l,i,cap,ro,els,h,_⟩|⟨l,i,cap,h,_⟩
   ·exact .inl h
   ·exact .inr ⟨_,_,_,_,h⟩
   ·exact .inr ⟨_,_,_,_,h⟩
  rcases O with rfl|⟨l,i,k,cap,rfl⟩
  ·simp-implicitDefEqProofs(disch:=try exact aj)only[fZ,f_,ga,gb,gd,fN,fw,fO,fx,fP,fy,fQ,fz,fR,fA,fS,fB,fC,fT,fD,fU,fE,fF,e8,e9,e_,fa,fb,fV,fW,fX,fY,fv,reduceAdd,reduceLeDiff,reduceIte,av,m,q,d];exact a_.2 (dB.box (a:={kind:=7,name:=(bp T s).1,pos:=(ao T s.at_).pos}) (kv:= .ar) (lo:=y.next) c (w.trans m3) K.rd (bf _) af o _)
  ·simp-implicitDefEqProofs(disch:=try exact aj)only[fZ,f_,ga,gb,gd,fN,fw,fO,fx,fP,fy,fQ,fz,fR,fA,fS,fB,fC,fT,fD,fU,fE,fF,e8,e9,e_,fa,fb,fV,fW,fX,fY,fv,reduceAdd,reduceLeDiff,reduceIte,av,m,q,d];exact a_.2 (dB.box (a:={kind:=7,name:=(bp T s).1,pos:=(ao T s.at_).pos}) (kv:= .ay l i k 11 cap) (lo:=y.next) c (w.trans m3) K.rd (bf _) af o _)
def Hz{H0 H:ad}{r:Nat}{T:List Tok}{ak:aa}{s:aq}(c:bG H0 r T ak s)(j:aM H0 H)(d:H.get H0.next=D (.row U 11 [[I J 0,I J 0,Y [],Y [],I J 0,.ar,I J 0,I J 0,I J 0,I J 0,I J 0]])){b:Nat}(v:H0.next<b)(e:H.get b=D (.row U 4 [[I J (ao T s.at_).kind,Y (ao T s.at_).text,I J (ao T s.at_).n,I J (ao T s.at_).pos]])){k:aJ}{s':aq}(h:D (aJ.mk {kind:=1,n:=(ao T s.at_).n,pos:=(ao T s.at_).pos} [],aC s)=D (k,s')):
  W (fZ (.ptr r 0 0) H (.ptr b 0 0) (.ptr H0.next 0 0)) (dB H0 r T ak k s'):=by
 have w:=c.rd.lt;have p:=c.bu.one;have q:=c.aK j;have hle:=j.1;have y:=ad.aR e;have x:=ad.aR d;have i:=q.rd;have m:=i;unfold bt at m;have z:=i.lt;obtain⟨m1,l⟩:=eP i (aC s);have o:=(j.mut (· =r)).trans m1;have B:=c.mut o l;have u:=m1.get d af;have A:=m1.get e af;simp only[aS,bT]at h;obtain⟨rfl,rfl⟩:=h;simp-implicitDefEqProofs(disch:=try exact aj)only[fZ,f_,ga,gb,gd,fN,fw,fO,fx,fP,fy,fQ,fz,fR,fA,fS,fB,fC,fT,fD,fU,fE,fF,e8,e9,e_,fa,fb,fV,fW,fX,fY,fv,reduceAdd,reduceLeDiff,reduceIte,av,m,p,d,e];exact a_.2 (dB.box (a:={kind:=1,n:=(ao T s.at_).n,pos:=(ao T s.at_).pos}) (kv:= .ar) (lo:=H0.next+1) c o l (bf _) (Nat.lt_succ_self _) (b7.nil _ _) _)
def zN{H0 H:ad}{r:Nat}{T:List Tok}{ak:aa}{s:aq}(c:bG H0 r T ak s)(m:aM H0 H)(d:H.get H0.next=D (.row U 11 [[I J 0,I J 0,Y [],Y [],I J 0,.ar,I J 0,I J 0,I J 0,I J 0,I J 0]])){b:Nat}(w:H0.next<b)(e:H.get b=D (.row U 4 [[I J (ao T s.at_).kind,Y (ao T s.at_).text,I J (ao T s.at_).n,I J (ao T s.at_).pos]])){o:aJ}{s':aq}(h:D (aJ.mk {kind:=2,n:=bif (ao T s.at_).text==[116,114,117,101]then 1 else 0,pos:=(ao T s.at_).pos} [],aC s)=D (o,s')):
  W (f_ (aA P aw) (.ptr r 0 0) H (.ptr b 0 0) (.ptr H0.next 0 0)) (dB H0 r T ak o s'):=by
 have x:=c.rd.lt;have p:=c.bu.one;have u:=c.aK m;have hle:=m.1;have z:=ad.aR e;have y:=ad.aR d;have j:=u.rd;have k:=j;unfold bt at k;have A:=j.lt;obtain⟨m1,i⟩:=eP j (aC s);have l:=(m.mut (· =r)).trans m1;have E:=c.mut l i;have v:=m1.get d af;have B:=m1.get e af;simp only[aS,bT]at h;obtain⟨rfl,rfl⟩:=h;cases q:(ao T s.at_).text==[116,114,117,101]with
 |true=>
  simp-implicitDefEqProofs(disch:=try exact aj)only[fZ,nH,f_,ga,gb,gd,fN,fw,fO,fx,fP,fy,fQ,fz,fR,fA,fS,fB,fC,fT,fD,fU,fE,fF,e8,e9,e_,fa,fb,fV,fW,fX,fY,fv,reduceAdd,reduceLeDiff,reduceIte,av,k,p,d,e,q];exact a_.2 (dB.box (a:={kind:=2,n:=1,pos:=(ao T s.at_).pos}) (kv:= .ar) (lo:=H0.next+1) c l i (bf _) (Nat.lt_succ_self _) (b7.nil _ _) _)
 |false=>
  simp-implicitDefEqProofs(disch:=try exact aj)only[fZ,nH,f_,ga,gb,gd,fN,fw,fO,fx,fP,fy,fQ,fz,fR,fA,fS,fB,fC,fT,fD,fU,fE,fF,e8,e9,e_,fa,fb,fV,fW,fX,fY,fv,reduceAdd,reduceLeDiff,reduceIte,av,k,p,d,e,q];exact a_.2 (dB.box (a:={kind:=2,n:=0,pos:=(ao T s.at_).pos}) (kv:= .ar) (lo:=H0.next+1) c l i (bf _) (Nat.lt_succ_self _) (b7.nil _ _) _)
def Hy{H0 H:ad}{r:Nat}{T:List Tok}{ak:aa}{s:aq}(c:bG H0 r T ak s)(i:aM H0 H)(k:H.get H0.next=D (.row U 11 [[I J 0,I J 0,Y [],Y [],I J 0,.ar,I J 0,I J 0,I J 0,I J 0,I J 0]])){b:Nat}(B:H0.next<b)(d:H.get b=D (.row U 4 [[I J (ao T s.at_).kind,Y (ao T s.at_).text,I J (ao T s.at_).n,I J (ao T s.at_).pos]])){j:aJ}{s':aq}(h:D (aJ.mk {kind:=3,cf:=(b_ T (aC s)).1.1,c3:=(b_ T (aC s)).1.2,pos:=(ao T s.at_).pos} [],(b_ T (aC s)).2)=D (j,s')):
  W (ga (aA P aw) (.ptr r 0 0) H (.ptr b 0 0) (.ptr H0.next 0 0)) (dB H0 r T ak j s'):=by
 have E:=c.rd.lt;have v:=c.bu.one;have x:=c.aK i;have hle:=i.1;have K:=ad.aR d;have F:=ad.aR k;have e:=x.rd;have o:=e;unfold bt at o;have M:=e.lt;obtain⟨m1,u⟩:=eP e (aC s);have p:=(i.mut (· =r)).trans m1;have y:=c.mut p u;have q:=m1.get k af;have w:=m1.get d af;simp only[aS,bT]at h;obtain⟨rfl,rfl⟩:=h;simp-implicitDefEqProofs(disch:=try exact aj)only[fZ,f_,ga,gb,gd,fN,fw,fO,fx,fP,fy,fQ,fz,fR,fA,fS,fB,fC,fT,fD,fU,fE,fF,e8,e9,e_,fa,fb,fV,fW,fX,fY,fv,reduceAdd,reduceLeDiff,reduceIte,av,o,v];refine aL (oP y) ?_;rintro _ A ⟨rfl,m2,z⟩;refine⟨m2.1,?_⟩;have l:=m2.get q af;have m:=m2.get w af;have G:=ad.aR l
 have L:=ad.aR m;simp-implicitDefEqProofs(disch:=try exact aj)only[fZ,f_,ga,gb,gd,fN,fw,fO,fx,fP,fy,fQ,fz,fR,fA,fS,fB,fC,fT,fD,fU,fE,fF,e8,e9,e_,fa,fb,fV,fW,fX,fY,fv,reduceAdd,reduceLeDiff,reduceIte,av,l,m,d];exact a_.2 (dB.box (a:={kind:=3,cf:=(b_ T (aC s)).1.1,c3:=(b_ T (aC s)).1.2,pos:=(ao T s.at_).pos}) (kv:= .ar) (lo:=H0.next+1) c (p.trans m2) z.rd (bf _) (Nat.lt_succ_self _) (b7.nil _ _) _)
def Hx{n:Nat}(B:pC n){H0 H:ad}{r:Nat}{T:List Tok}{ak:aa}{s:aq}(a:bG H0 r T ak s)(i:aM H0 H)(j:H.get H0.next=D (.row U 11 [[I J 0,I J 0,Y [],Y [],I J 0,.ar,I J 0,I J 0,I J 0,I J 0,I J 0]])){b:Nat}(F:H0.next<b)(d:H.get b=D (.row U 4 [[I J (ao T s.at_).kind,Y (ao T s.at_).text,I J (ao T s.at_).n,I J (ao T s.at_).pos]])){c:aJ}{s':aq}(h:j6 T n (ao T s.at_).pos (aC s)=D (c,s')):
  W (gb (aA P aw) (.ptr r 0 0) H (.ptr b 0 0) (.ptr H0.next 0 0)) (dB H0 r T ak c s'):=by
 have G:=a.rd.lt;have u:=a.bu.one;have y:=a.aK i;have hle:=i.1;have M:=ad.aR d;have K:=ad.aR j;have e:=y.rd;have m:=e;unfold bt at m;have N:=e.lt;obtain⟨m1,q⟩:=eP e (aC s);have o:=(i.mut (· =r)).trans m1;have z:=a.mut o q;have p:=m1.get j af;have Q:=m1.get d af;simp-implicitDefEqProofs(disch:=try exact aj)only[fZ,f_,ga,gb,gd,fN,fw,fO,fx,fP,fy,fQ,fz,fR,fA,fS,fB,fC,fT,fD,fU,fE,fF,e8,e9,e_,fa,fb,fV,fW,fX,fY,fv,reduceAdd,reduceLeDiff,reduceIte,av,m,u,d];refine aL (B z _ c s' h) ?_;rintro v E ⟨m2,A,l⟩;refine⟨m2.1,?_⟩;have k:=m2.get p af;have L:=ad.aR k;have O:=m1.1;obtain⟨cs,rfl,hlen,w⟩:=l.cells;have x:List.take 11 cs=cs:=List.take_of_length_le af
 simp-implicitDefEqProofs(disch:=try exact aj)only[fZ,f_,ga,gb,gd,fN,fw,fO,fx,fP,fy,fQ,fz,fR,fA,fS,fB,fC,fT,fD,fU,fE,fF,e8,e9,e_,fa,fb,fV,fW,fX,fY,fv,reduceAdd,reduceLeDiff,reduceIte,av,k,hlen,w,List.append_nil,x];exact a_.2 (dB.ret a (o.trans m2) A.rd (bf _) l af _)
def first_par{n:Nat}(u:mm n){H0 H:ad}{r:Nat}{T:List Tok}{ak:aa}{s:aq}(a:bG H0 r T ak s)(d:aM H0 H)(e:H.get H0.next=D (.row U 11 [[I J 0,I J 0,Y [],Y [],I J 0,.ar,I J 0,I J 0,I J 0,I J 0,I J 0]])){b:Nat}(y:H0.next<b)(m:H.get b=D (.row U 4 [[I J (ao T s.at_).kind,Y (ao T s.at_).text,I J (ao T s.at_).n,I J (ao T s.at_).pos]])){c:aJ}{s':aq}(h:ha T n s=D (c,s')):
  W (fw (aA P aw) H (.ptr r 0 0) (.ptr H0.next 0 0)) (dB H0 r T ak c s'):=by
 have z:=a.rd.lt;have G:=a.bu.one;have p:=a.aK d;have hle:=d.1;have E:=ad.aR m;have A:=ad.aR e;have w:=d.mut (· =r);have m1:=cX.refl (· =r) H;have k:=e;rw[fw];refine aL (u p c s' h) ?_;rintro v x ⟨m2,q,j⟩;refine⟨m2.1,?_⟩;have i:=m2.get k af;have B:=ad.aR i;have F:=m1.1;obtain⟨cs,rfl,hlen,l⟩:=j.cells;have o:List.take 11 cs=cs:=List.take_of_length_le af;simp-implicitDefEqProofs(disch:=try exact aj)only[fZ,f_,ga,gb,gd,fN,fw,fO,fx,fP,fy,fQ,fz,fR,fA,fS,fB,fC,fT,fD,fU,fE,fF,e8,e9,e_,fa,fb,fV,fW,fX,fY,fv,reduceAdd,reduceLeDiff,reduceIte,av,i,hlen,l,List.append_nil,o];exact a_.2 (dB.ret a (w.trans m2) q.rd (bf _) j af _)
def HA{H0 H:ad}{r:Nat}{T:List Tok}{ak:aa}{s:aq}(c:bG H0 r T ak s)(e:aM H0 H)(j:H.get H0.next=D (.row U 11 [[I J 0,I J 0,Y [],Y [],I J 0,.ar,I J 0,I J 0,I J 0,I J 0,I J 0]])){b:Nat}(F:H0.next<b)(l:H.get b=D (.row U 4 [[I J (ao T s.at_).kind,Y (ao T s.at_).text,I J (ao T s.at_).n,I J (ao T s.at_).pos]])){i:aJ}{s':aq}(h:D (aJ.mk {kind:=11,pos:=(ao T s.at_).pos} [],dn T [41] (cP T [40] (aC s)))=D (i,s')):
  W (fN (aA P aw) (.ptr r 0 0) H (.ptr b 0 0) (.ptr H0.next 0 0)) (dB H0 r T ak i s'):=by
 have G:=c.rd.lt;have v:=c.bu.one;have x:=c.aK e;have hle:=e.1;have M:=ad.aR l;have K:=ad.aR j;have d:=x.rd;have o:=d;unfold bt at o;have O:=d.lt;obtain⟨m1,u⟩:=eP d (aC s);have p:=(e.mut (· =r)).trans m1;have y:=c.mut p u;have q:=m1.get j af;have w:=m1.get l af;simp only[aS,bT]at h;obtain⟨rfl,rfl⟩:=h;simp-implicitDefEqProofs(disch:=try exact aj)only[fZ,f_,ga,gb,gd,fN,fw,fO,fx,fP,fy,fQ,fz,fR,fA,fS,fB,fC,fT,fD,fU,fE,fF,e8,e9,e_,fa,fb,fV,fW,fX,fY,fv,reduceAdd,reduceLeDiff,reduceIte,av,o,v];refine aL (oQ y [40] (by simp)) ?_;rintro _ B ⟨rfl,m2,z⟩;refine⟨m2.1,?_⟩;simp-implicitDefEqProofs(disch:=try exact aj)only[fZ,f_,ga,gb,gd,fN,fw,fO,fx,fP,fy,fQ,fz,fR,fA,fS,fB,fC,fT,fD,fU,fE,fF,e8,e9,e_,fa,fb,fV,fW,fX,fY,fv,reduceAdd,reduceLeDiff,reduceIte,av]
 refine aL (oM z [41] (by simp)) ?_;rintro _ E ⟨rfl,m3,A⟩;refine⟨m3.1,?_⟩;have k:=m3.get (m2.get q af) af;have m:=m3.get (m2.get w af) af;have L:=ad.aR k;have N:=ad.aR m;simp-implicitDefEqProofs(disch:=try exact aj)only[fZ,f_,ga,gb,gd,fN,fw,fO,fx,fP,fy,fQ,fz,fR,fA,fS,fB,fC,fT,fD,fU,fE,fF,e8,e9,e_,fa,fb,fV,fW,fX,fY,fv,reduceAdd,reduceLeDiff,reduceIte,av,k,m];exact a_.2 (dB.box (a:={kind:=11,pos:=(ao T s.at_).pos}) (kv:= .ar) (lo:=H0.next+1) c ((p.trans m2).trans m3) A.rd (bf _) (Nat.lt_succ_self _) (b7.nil _ _) _)
def Hv{n:Nat}(Q:mm n){H0 H:ad}{r:Nat}{T:List Tok}{ak:aa}{s:aq}(d:bG H0 r T ak s)(i:aM H0 H)(m:H.get H0.next=D (.row U 11 [[I J 0,I J 0,Y [],Y [],I J 0,.ar,I J 0,I J 0,I J 0,I J 0,I J 0]])){b:Nat}(V:H0.next<b)(e:H.get b=D (.row U 4 [[I J (ao T s.at_).kind,Y (ao T s.at_).text,I J (ao T s.at_).n,I J (ao T s.at_).pos]])){j:aJ}{s':aq}(h:((ha T n (aC s)).bind λp=>D (aJ.mk {kind:=10,pos:=(ao T s.at_).pos} [p.1],p.2))=D (j,s')):
  W (gd (aA P aw) (.ptr r 0 0) H (.ptr b 0 0) (.ptr H0.next 0 0)) (dB H0 r T ak j s'):=by
 have ab:=d.rd.lt;have G:=d.bu.one;have M:=d.aK i;have hle:=i.1;have ah:=ad.aR e;have ae:=ad.aR m;have c:=M.rd;have w:=c;unfold bt at w;have al:=c.lt;obtain⟨m1,F⟩:=eP c (aC s);have y:=(i.mut (· =r)).trans m1;have N:=d.mut y F;have E:=m1.get m af;have L:=m1.get e af;simp only[cS]at h;obtain⟨⟨A,s1⟩,B,k⟩:=h;simp only[aS,bT]at k;obtain⟨rfl,rfl⟩:=k;simp-implicitDefEqProofs(disch:=try exact aj)only[fZ,f_,ga,gb,gd,fN,fw,fO,fx,fP,fy,fQ,fz,fR,fA,fS,fB,fC,fT,fD,fU,fE,fF,e8,e9,e_,fa,fb,fV,fW,fX,fY,fv,reduceAdd,reduceLeDiff,reduceIte,av,w,G];refine aL (Q N A s1 B) ?_;rintro v z ⟨m2,O,q⟩;refine⟨m2.1,?_⟩;have o:=m2.get E af
 have u:=m2.get L af;have ag:=ad.aR o;have ai:=ad.aR u;have am:=m1.1;have an:=m2.1;obtain⟨cs,rfl,hlen,K⟩:=q.cells;have ap:List.take 11 cs=cs:=List.take_of_length_le af;have az:∀l,bU P l 41 1 [(0,.agg cs)]=D (.ay l 0 1 11 (D 1),.row U 11 [cs]):=λl=>jm l cs hlen K
 have R:=y.trans m2;have x:=O.rd;unfold bt at x;have c:=x;simp-implicitDefEqProofs(disch:=try exact aj)only[fZ,f_,ga,gb,gd,fN,fw,fO,fx,fP,fy,fQ,fz,fR,fA,fS,fB,fC,fT,fD,fU,fE,fF,e8,e9,e_,fa,fb,fV,fW,fX,fY,fv,reduceAdd,reduceLeDiff,reduceIte,av,az,o,u,e];refine a_.2 ?_;refine j0.fin (ok:=bb H0.next) (a:={kind:=10,pos:=(ao T s.at_).pos}) (kv:= .ay z.next 0 1 11 (D 1)) (s':=s1) d ?_ ?_ (b7.mT (ro:=false) ?_ (by unfold bb;omega) (q.new ?_ λl h=>by unfold bb;omega))
 ·(repeat (first|exact R|refine cX.bs ?_ _|refine cX.cz (S:=(· =r)) ?_ (.inl rfl) _|refine cX.cz ?_ (.inr (by(first|omega|(simp only[ad.bQ,ad.di];omega)))) _))
 ·(unfold bt;simp-implicitDefEqProofs(disch:=try exact aj)only[dw,c,aC,er,eU])
 ·simp-implicitDefEqProofs(disch:=try exact aj)only[dw]
 ·exact cX.cz (S:=λl=>l<_) ((cX.refl _ _).bs _) (.inl af) _
def HB{n:Nat}(ab:pC n)(O:mm n)(V:py n){H0 H:ad}{r:Nat}{T:List Tok}{ak:aa}{s:aq}(a:bG H0 r T ak s)(d:aM H0 H)(R:H.get H0.next=D (.row U 11 [[I J 0,I J 0,Y [],Y [],I J 0,.ar,I J 0,I J 0,I J 0,I J 0,I J 0]])){b:Nat}(c:H0.next<b)(S:H.get b=D (.row U 4 [[I J (ao T s.at_).kind,Y (ao T s.at_).text,I J (ao T s.at_).n,I J (ao T s.at_).pos]])){q:aJ}{s':aq}(h:(bif aW T s [110,117,108,108]then D (.mk {kind:=3,cf:=(b_ T (aC s)).1.1,c3:=(b_ T (aC s)).1.2,pos:=(ao T s.at_).pos} [],(b_ T (aC s)).2)else(bif aW T s [110,101,119]then j6 T n (ao T s.at_).pos (aC s)else(bif aW T s [108,101,110]then(ha T n (aC s)).bind λp=>D (.mk {kind:=10,pos:=(ao T s.at_).pos} [p.1],p.2)else(bif aW T s [114,101,97,100]then D (.mk {kind:=11,pos:=(ao T s.at_).pos} [],dn T [41] (cP T [40] (aC s)))else(bif aW T s [40]then ha T n s else(bif aW T (bp T s).2 [40]then(ia T n (bp T s).2).bind λp=>D (.mk {kind:=7,name:=(bp T s).1,pos:=(ao T s.at_).pos} p.1,p.2)else D (.mk {kind:=4,name:=(bp T s).1,pos:=(ao T s.at_).pos} [],(bp T s).2)))))))=D (q,s')):
  W (fC (aA P aw) H (.ptr r 0 0) (.ptr b 0 0) (.ptr H0.next 0 0)) (dB H0 r T ak q s'):=by
 have al:=a.aK d;rw[fC];refine aL (dk (a.rd.aK d) (a.bu.aK d) [110,117,108,108] (by simp)) ?_;rintro _ ae ⟨rfl,gm⟩;refine⟨gm.1,?_⟩;have e:=d.trans gm;have z:=gm.get R;have G:=gm.get S;cases u:aW T s [110,117,108,108]with
 |true=>
  simp only[u,aU]at h;simp-implicitDefEqProofs(disch:=try exact aj)only[fB,ep,aU];exact Hy a e z c G h
 |false=>
  simp only[u,aO]at h;simp-implicitDefEqProofs(disch:=try exact aj)only[fB,ep,aO];rw[fS];refine aL (dk (a.rd.aK e) (a.bu.aK e) [110,101,119] (by simp)) ?_;rintro _ af ⟨rfl,aZ⟩;refine⟨aZ.1,?_⟩;have i:=e.trans aZ;have A:=aZ.get z;have K:=aZ.get G;cases v:aW T s [110,101,119]with
  |true=>
   simp only[v,aU]at h;simp-implicitDefEqProofs(disch:=try exact aj)only[fA,ep,aU];exact Hx ab a i A c K h
  |false=>
   simp only[v,aO]at h;simp-implicitDefEqProofs(disch:=try exact aj)only[fA,ep,aO];rw[fR];refine aL (dk (a.rd.aK i) (a.bu.aK i) [108,101,110] (by simp)) ?_;rintro _ ag ⟨rfl,l⟩;refine⟨l.1,?_⟩;have j:=i.trans l;have B:=l.get A;have L:=l.get K;cases w:aW T s [108,101,110]with
   |true=>
    simp only[w,aU]at h;simp-implicitDefEqProofs(disch:=try exact aj)only[fz,ep,aU];exact Hv O a j B c L h
   |false=>
    simp only[w,aO]at h;simp-implicitDefEqProofs(disch:=try exact aj)only[fz,ep,aO];rw[fQ];refine aL (dk (a.rd.aK j) (a.bu.aK j) [114,101,97,100] (by simp)) ?_;rintro _ ah ⟨rfl,m⟩;refine⟨m.1,?_⟩;have k:=j.trans m;have E:=m.get B;have M:=m.get L;cases x:aW T s [114,101,97,100]with
    |true=>
     simp only[x,aU]at h;simp-implicitDefEqProofs(disch:=try exact aj)only[fy,ep,aU];exact HA a k E c M h
    |false=>
     simp only[x,aO]at h;simp-implicitDefEqProofs(disch:=try exact aj)only[fy,ep,aO];rw[fP];refine aL (dk (a.rd.aK k) (a.bu.aK k) [40] (by simp)) ?_;rintro _ ai ⟨rfl,o⟩;refine⟨o.1,?_⟩;have Q:=k.trans o;have F:=o.get E;have N:=o.get M;cases y:aW T s [40]with
     |true=>
      simp only[y,aU]at h;simp-implicitDefEqProofs(disch:=try exact aj)only[fx,ep,aU];exact first_par O a Q F c N h
     |false=>
      simp only[y,aO]at h;simp-implicitDefEqProofs(disch:=try exact aj)only[fx,ep,aO];rw[fO];exact Hw V a Q F c N h
def HC{n:Nat}(M:pC n)(N:mm n)(L:py n):tl (n+1):=by
 intro H r T ak s a e s' h;refine cA (λ_=>KP 0) ?_;have S:=a.rd.lt;simp only[hQ]at h;have o:=aM.push H (.row U 11 [[I J 0,I J 0,Y [],Y [],I J 0,.ar,I J 0,I J 0,I J 0,I J 0,I J 0]]);simp-implicitDefEqProofs(disch:=try exact aj)only[fv,fY,reduceAdd,reduceLeDiff,reduceIte,av];refine aL (hD (a.rd.aK o) (a.bu.aK o)) ?_;rintro _ l ⟨rfl,p⟩;refine⟨p.1,?_⟩;have G:=p.get (ad.bx H _);have V:=ad.aR G;simp-implicitDefEqProofs(disch:=try exact aj)only[fX,fW,reduceAdd,reduceLeDiff,reduceIte,av,Tok.v];have F:=p.bs (.row U 4 [[I J (ao T s.at_).kind,Y (ao T s.at_).text,I J (ao T s.at_).n,I J (ao T s.at_).pos]])
 have z:=ad.bx l (.row U 4 [[I J (ao T s.at_).kind,Y (ao T s.at_).text,I J (ao T s.at_).n,I J (ao T s.at_).pos]]);have w:=F.get (ad.bx H _);have c:=o.trans F;rw[fV];refine aL (jN (a.rd.aK c)) ?_;rintro _ O ⟨rfl,rfl⟩;refine⟨bf _,?_⟩;have rest:(s.aD==0&&(ao T s.at_).kind==2)=U->W (fF (aA P aw) (l.push (.row U 4 [[I J (ao T s.at_).kind,Y (ao T s.at_).text,I J (ao T s.at_).n,I J (ao T s.at_).pos]])) (.ptr r 0 0) (.ptr H.next 0 0) (.ptr l.next 0 0)) (dB H r T ak e s'):=by
  intro K;simp only[K,aO]at h;rw[fF];refine aL (dk (a.rd.aK c) (a.bu.aK c) [116,114,117,101] (by simp)) ?_;rintro _ Q ⟨rfl,j⟩;refine⟨j.1,?_⟩;have i:=c.trans j;have x:=j.get w;have A:=j.get z;cases q:aW T s [116,114,117,101]with
  |true=>
   simp only[q,Bool.true_or,aU]at h;simp-implicitDefEqProofs(disch:=try exact aj)only[fE,fT,mc,ep,aU];exact zN a i x af A h
  |false=>
   simp only[q,Bool.false_or]at h;simp-implicitDefEqProofs(disch:=try exact aj)only[fE,fU,ep,aO];refine aL (dk (a.rd.aK i) (a.bu.aK i) [102,97,108,115,101] (by simp)) ?_;rintro _ R ⟨rfl,k⟩;refine⟨k.1,?_⟩;have E:=i.trans k;have y:=k.get x;have B:=k.get A;cases u:aW T s [102,97,108,115,101]with
   |true=>
    simp only[u,aU]at h;simp-implicitDefEqProofs(disch:=try exact aj)only[fD,mc,ep,aU];exact zN a E y af B h
   |false=>
    simp only[u,aO]at h;simp-implicitDefEqProofs(disch:=try exact aj)only[fD,mc,ep,aO];exact HB M N L a E y af B h
 cases m:s.aD==0 with
 |false=>
  simp-implicitDefEqProofs(disch:=try exact aj)only[fb,fa,e_,e9,e8,reduceAdd,reduceLeDiff,reduceIte,av];exact rest (by simp[m])
 |true=>
  cases d:(ao T s.at_).kind==2 with
  |true=>
   simp only[m,d,Bool.and_self,aU]at h;simp-implicitDefEqProofs(disch:=try exact aj)only[fb,fa,e_,e9,e8,reduceAdd,reduceLeDiff,reduceIte,av,d];exact Hz a c w af z h
  |false=>
   simp-implicitDefEqProofs(disch:=try exact aj)only[fb,fa,e_,e9,e8,reduceAdd,reduceLeDiff,reduceIte,av,d];exact rest (by simp[m,d])
def xo:∀n,n<=900000000->∀k,k<=n->FA k
 |0,_,k,a=>by
  have:k=0:=af;subst this;exact⟨λ_ _ _ _ _ h=>by simp[ej]at h,λ_ _ _ h=>by simp[jo]at h,λ_ _ _ _ _ _ h=>by simp[fm]at h,λ_ _ _ h=>by simp[ha]at h,λ_ _ _ h=>by simp[hQ]at h,
   λ_ _ _ _ h=>by simp[j6]at h,λ_ _ _ h=>by simp[ia]at h⟩
 |n+1,d,k,a=>by
  have c:=xo n af;have i:=c n (bf _);rcases Nat.lt_or_ge k (n+1)with h|h
  ·exact c k af
  ·have:k=n+1:=af;subst this;exact⟨Hl (λk a=>(c k a).expr) i.unary,Nw (λk a=>(c k a).expr) i.first i.behind,GP λk a=>(c k a).expr,H9 i.expr,HC i.fresh i.inner i.args,HL i.inner,GB af λk a=>(c k a).expr⟩
section
set_option maxRecDepth 100000
noncomputable section
end
end
def IU(x y:Bool):Option.map aa.bool (bif x then(bif y then D X else D U)else D U)=D (.bool (x&&y)):=by cases x<;>cases y<;>rfl
mutual
def hL(B:Nat):aJ->Prop
 | .mk _ ks=>ks.length<=B/\fI B ks
def fI(B:Nat):List aJ->Prop
 |[]=>True
 |e::es=>hL B e/\fI B es
end
def b7.ee{H:ad}{ok:Nat->Prop}{ks:List aJ}{kv:aa}(h:b7 H ok ks kv):kv.one=true:=by
 rcases h with⟨rfl,_⟩|⟨l,i,cap,ro,els,rfl,_⟩|⟨l,i,cap,rfl,_⟩<;>rfl
def b7.aK{H H':ad}{ok:Nat->Prop}{ks:List aJ}{kv:aa}(h:b7 H ok ks kv)(p:aM H H'):b7 H' ok ks kv:=h.aY (c8.aK p λ_ h=>h)
def cy.aK{H H':ad}{ok:Nat->Prop}{e:aJ}{v:aa}(h:cy H ok e v)(p:aM H H'):cy H' ok e v:=cy.aY (c8.aK p λ_ h=>h) e v h
def dc.cons{H:ad}{ok:Nat->Prop}{e:aJ}{es:List aJ}{els:List (List aa)}{k:Nat}(h:dc H ok (e::es) (els.drop k)):∃cs,els[k]? =D cs/\cy H ok e (.agg cs)/\dc H ok es (els.drop (k+1)):=by
 cases a:els.drop k with
 |nil=>rw[a,dc]at h;exact h.elim
 |cons cs css=>
  rw[a,dc]at h;have c:els[k]? =D cs:=by
   have:=List.getElem?_drop (xs:=els) (i:=k) (j:=0);rw[a]at this;simpa using this.symm
  have d:els.drop (k+1)=css:=by
   have:(els.drop k).drop 1=css:=by rw[a];rfl
   rwa[List.drop_drop]at this
  exact⟨cs,c,h.1,by rw[d];exact h.2⟩
section
set_option maxRecDepth 100000
noncomputable section
def l1(G:ax)(N:Nat)(ag a:aa)(H:ad):O:=j (an P .lss 3 X ag (I J 0)) λc=>aV (D c) (j (an P .add 9 X (Y [45]) a) λd=>D (d,H)) (D (a,H))
def LN(G:ax)(N:Nat):∀ae H,bm P G N (o (o (o (o (bq Tryd.f48))))) (bh Tryd.f48) [] (bh Tryd.f48) ae H=l1 G N (ae 0) (ae 3) H:=by
 refine bL (aH _) λae H=> ?_
 delta l1;kernel_rfl
def nv(G:ax)(N:Nat)(a:aa->aa->aa->ad->O)(ag d e:aa)(H:ad):O:=j (an P .quo 3 X e (I J 10)) λc=>a ag d c H
def LO(G:ax)(N:Nat)(a:aa->aa->aa->ad->O):∀ae H,bm P G N (o (o (a1 (a1 (o (a1 (o (o (o (bq Tryd.f48)))))))))) (λae H=>a (ae 0) (ae 3) (ae 4) H) [(0,(λae H=>l1 G N (ae 0) (ae 3) H))] (bh Tryd.f48) ae H=nv G N a (ae 0) (ae 3) (ae 4) H:=by
 refine bL (aH _) λae H=> ?_
 delta nv;kernel_rfl
def o6(G:ax)(N:Nat)(c:aa->aa->aa->ad->O)(ag l:aa)(m n:aa)(H:ad):O:=j (an P .add 3 X (I J 48) n) λd=>pv P 3 5 d H λe=>bV H (bU P (H).next 77 1 [(0,e)]) λh a=>pv P 77 9 h a λi=>j (an P .add 9 U i l) λk=>nv G N c ag k m a
def LP(G:ax)(N:Nat)(a:aa->aa->aa->ad->O):∀ae H,bm P G N (o (o (a1 (a1 (o (a1 (a1 (o (a1 (o (o (o (bq Tryd.f48))))))))))))) (λae H=>nv G N a (ae 0) (ae 3) (ae 4) H) [(1,(λae H=>nv G N a (ae 0) (ae 3) (ae 4) H)),(0,(λae H=>l1 G N (ae 0) (ae 3) H))] (bh Tryd.f48) ae H=o6 G N a (ae 0) (ae 3) (ae 4) (ae 5) H:=by
 refine bL (aH _) λae H=> ?_
 delta o6;generalize nv G N a=c;revert c;refine id ?_;intro c;kernel_rfl
def qT(G:ax)(N:Nat)(e:aa->aa->aa->ad->O)(ag d a:aa)(H:ad):O:=j (an P .neq 3 X a (I J 0)) λh=>aV (D h) (j (an P .rem 3 X a (I J 10)) λc=>j (an P .lss 3 X c (I J 0)) λbH=>aV (D bH) (j (an P .sub 3 X (I J 0) c) λi=>o6 G N e ag d a i H) (o6 G N e ag d a c H)) (l1 G N ag d H)
def l2(G:ax)(N:Nat):Nat->aa->aa->aa->ad->O
 |0,_,_,_,_=>Z
 |n+1,ag,a,c,H=>qT G N (l2 G N n) ag a c H
def LL(G:ax)(N:Nat)(a:aa->aa->aa->ad->O):∀ae H,bm P G N (a1 (a1 (o (a1 (o (o (o (bq Tryd.f48)))))))) (λae H=>a (ae 0) (ae 3) (ae 4) H) [(0,(λae H=>l1 G N (ae 0) (ae 3) H))] (bh Tryd.f48) ae H=qT G N a (ae 0) (ae 3) (ae 4) H:=by
 refine bL ((aN ah ((aN ah (LO G N a) ((db ah ((aN ah ((aN ah (LP G N a) (aH _))) (aH _))))))) (aH _))) λae H=> ?_
 delta qT;generalize l1 G N=c;generalize o6 G N a=d;revert c d;refine id ?_;intro c d;kernel_rfl
def sI(G:ax)(N:Nat)(ag:aa)(H:ad):O:=j (an P .eql 3 X ag (I J 0)) λa=>aV (D a) (D ((Y [48]),H)) (l2 G N N ag (Y []) ag H)
def Kq(N:Nat){ag:aa}{H:ad}{r:aa×ad}(h:sI (aA P aw) N ag H=D r):aA P aw 48 [ag] H=D r:=cQ N (S:=λG=>sI G N ag H) Tryd.func48 (λG=>dO ((aN ah ((aN ah ((aN ah ((aN ah (LN G N) ((aN ah ((db ah ((en (k:=λm ae H=>l2 G N m (ae 0) (ae 3) (ae 4) H) ah (λae H=>ah) (λm=>LL G N (l2 G N m)))))) (aH _))))) (aH _))) (aH _))) (aH _))) (by delta sI;generalize l2 G N N=a;revert a;refine id ?_;intro a;kernel_rfl)) h
def iR(G:ax)(H:ad):O:=some ((I J 7),H)
def LQ(G:ax)(N:Nat):∀ae H,bm P G N (o (o (bq Tryd.f50))) (bh Tryd.f50) [] (bh Tryd.f50) ae H=iR G H:=by
 refine bL (aH _) λae H=> ?_
 delta iR;kernel_rfl
def o8(G:ax)(a:aa)(H:ad):O:=aV (D a) (D ((I J 6),H)) (iR G H)
def LV(G:ax)(N:Nat):∀ae H,bm P G N (o (o (o (o (o (o (o (o (o (o (o (a1 (o (a1 (o (bq Tryd.f50)))))))))))))))) (λae H=>iR G H) [(0,(λae H=>iR G H))] (bh Tryd.f50) ae H=o8 G (ae 21) H:=by
 refine bL (aH _) λae H=> ?_
 delta o8;generalize iR G=a;revert a;refine id ?_;intro a;kernel_rfl
def nw(G:ax)(c d:aa)(H:ad):O:=aV (D d) (D ((I J 5),H)) (j (an P .eql 3 X c (I J 12)) λa=>aV (D a) (o8 G a H) (j (an P .eql 3 X c (I J 13)) λe=>o8 G e H))
def LU(G:ax)(N:Nat):∀ae H,bm P G N (o (o (o (o (o (o (o (o (o (a1 (o (a1 (o (bq Tryd.f50)))))))))))))) (λae H=>iR G H) [(0,(λae H=>iR G H))] (bh Tryd.f50) ae H=nw G (ae 4) (ae 17) H:=by
 refine bL ((dt ah (aH _) ((aN ah (LV G N) (aH _))))) λae H=> ?_
 delta nw;generalize o8 G=a;revert a;refine id ?_;intro a;kernel_rfl
def o7(G:ax)(a e:aa)(H:ad):O:=aV (D e) (D ((I J 4),H)) (j (an P .eql 3 X a (I J 16)) λc=>aV (D c) (nw G a c H) (j (an P .eql 3 X a (I J 17)) λd=>aV (D d) (nw G a d H) (j (an P .eql 3 X a (I J 18)) λh=>nw G a h H)))
def LS(G:ax)(N:Nat):∀ae H,bm P G N (o (o (o (o (o (o (o (a1 (o (a1 (o (bq Tryd.f50)))))))))))) (λae H=>iR G H) [(0,(λae H=>iR G H))] (bh Tryd.f50) ae H=o7 G (ae 4) (ae 14) H:=by
 refine bL ((dt ah (aH _) ((aN ah (LU G N) (aH _))))) λae H=> ?_
 delta o7;generalize nw G=a;revert a;refine id ?_;intro a;kernel_rfl
def l3(G:ax)(a d:aa)(H:ad):O:=aV (D d) (D ((I J 3),H)) (j (an P .eql 3 X a (I J 14)) λc=>aV (D c) (o7 G a c H) (j (an P .eql 3 X a (I J 15)) λbH=>o7 G a bH H))
def LR(G:ax)(N:Nat):∀ae H,bm P G N (o (o (o (o (o (a1 (o (a1 (o (bq Tryd.f50)))))))))) (λae H=>iR G H) [(0,(λae H=>iR G H))] (bh Tryd.f50) ae H=l3 G (ae 4) (ae 9) H:=by
 refine bL ((dt ah (aH _) ((aN ah (LS G N) (aH _))))) λae H=> ?_
 delta l3;generalize o7 G=a;revert a;refine id ?_;intro a;kernel_rfl
def sK(G:ax)(ag:aa)(H:ad):O:=bV H (dT (H).next ag) λau c=>j (aI P 45 au 0) λk=>j (al P c 3 k) λa=>j (an P .eql 3 X a (I J 24)) λbn=>aV (D bn) (D ((I J 1),c)) (j (an P .eql 3 X a (I J 23)) λl=>aV (D l) (D ((I J 2),c)) (j (an P .eql 3 X a (I J 19)) λd=>aV (D d) (l3 G a d c) (j (an P .eql 3 X a (I J 20)) λe=>aV (D e) (l3 G a e c) (j (an P .eql 3 X a (I J 21)) λh=>aV (D h) (l3 G a h c) (j (an P .eql 3 X a (I J 22)) λi=>l3 G a i c)))))
def Ks(N:Nat){ag:aa}{H:ad}{r:aa×ad}(h:sK (aA P aw) ag H=D r):aA P aw 50 [ag] H=D r:=cQ N (S:=λG=>sK G ag H) Tryd.func50 (λG=>dO ((aN ah ((aN ah (LQ G N) ((aN ah ((db ah ((aN ah ((dt ah (aH _) ((aN ah ((dt ah (aH _) ((aN ah (LR G N) (aH _))))) (aH _))))) (aH _))))) (aH _))))) (aH _))) (by delta sK;generalize l3 G=a;revert a;refine id ?_;intro a;kernel_rfl)) h
def sL(G:ax)(ag:aa)(H:ad):O:=bV H (D (.ay (H).next 0 11 1 (D 11),.row U 1 [[Y [43]],[Y [45]],[Y [42]],[Y [47]],[Y [37]],[Y [60]],[Y [60,61]],[Y [61,61]],[Y [33,61]],[Y [38,38]],[Y [124,124]]])) λc a=>j (an P .sub 3 X ag (I J 14)) λd=>j (cG P 50 c d) λe=>j (al P a 9 e) λh=>D (h,a)
def Kt(N:Nat){ag:aa}{H:ad}{r:aa×ad}(h:sL (aA P aw) ag H=D r):aA P aw 51 [ag] H=D r:=cQ N (S:=λG=>sL G ag H) Tryd.func51 (λ_=>by delta sL;kernel_rfl) h
def oZ(G:ax)(N:Nat)(a:aa)(H:ad):O:=some (a,H)
def Lv(G:ax)(N:Nat):∀ae H,bm P G N (o (o (o (bq Tryd.f34)))) (bh Tryd.f34) [] (bh Tryd.f34) ae H=oZ G N (ae 3) H:=by
 refine bL (aH _) λae H=> ?_
 delta oZ;kernel_rfl
def qQ(G:ax)(N:Nat)(d:aa->aa->aa->ad->O)(au a c:aa)(H:ad):O:=j (aI P 40 au 1) λl=>j (al P H 3 l) λm=>j (an P .lss 3 U c m) λe=>aV (D e) (j (an P .add 9 X (Y [91]) a) λi=>j (an P .add 9 X i (Y [93])) λk=>j (an P .add 3 X c (I J 1)) λh=>d au k h H) (oZ G N a H)
def lZ(G:ax)(N:Nat):Nat->aa->aa->aa->ad->O
 |0,_,_,_,_=>Z
 |n+1,au,a,c,H=>qQ G N (lZ G N n) au a c H
def Lu(G:ax)(N:Nat)(c:aa->aa->aa->ad->O):∀ae H,bm P G N (a1 (a1 (o (a1 (o (o (bq Tryd.f34))))))) (λae H=>c (ae 1) (ae 3) (ae 4) H) [(0,(λae H=>oZ G N (ae 3) H))] (bh Tryd.f34) ae H=qQ G N c (ae 1) (ae 3) (ae 4) H:=by
 refine bL (aH _) λae H=> ?_
 delta qQ;generalize oZ G N=a;revert a;refine id ?_;intro a;kernel_rfl
def sE(G:ax)(N:Nat)(ag:aa)(H:ad):O:=bV H (dT (H).next ag) λau a=>j (aI P 40 au 0) λc=>j (al P a 9 c) λbn=>lZ G N N au bn (I J 0) a
def Kj(N:Nat){ag:aa}{H:ad}{r:aa×ad}(h:sE (aA P aw) N ag H=D r):aA P aw 34 [ag] H=D r:=cQ N (S:=λG=>sE G N ag H) Tryd.func34 (λG=>dO ((aN ah ((aN ah ((aN ah (Lv G N) ((aN ah ((db ah ((en (k:=λm ae H=>lZ G N m (ae 1) (ae 3) (ae 4) H) ah (λae H=>ah) (λm=>Lu G N (lZ G N m)))))) (aH _))))) (aH _))) (aH _))) (by delta sE;generalize lZ G N N=a;revert a;refine id ?_;intro a;kernel_rfl)) h
end
end
def Ha(n:Int):lv P 3 5 (I J n)=D (I .u8 (IntKind.u8.wrap n)):=ah
def Hb(l i n e:Nat)(c:Option Nat):lv P 77 9 (.ay l i n e c)=none:=ah
def MS(l:Nat)(k:Int):bU P l 77 1 [(0,I .u8 k)]=D (.ay l 0 1 1 (D 1),.row U 1 [[I .u8 k]]):=ah
def Nr:P.underlying 77=D (.slice 5):=ah
def Nq:P.underlying 5=D (.int .u8):=ah
def Ns:P.underlying 9=D .string:=ah
def GX{H:ad}{L:Nat}{k:Int}{cap:Option Nat}{ro:Bool}(a:H.get L=D (.row ro 1 [[I .u8 k]])):mu P H 77 9 (.ay L 0 1 1 cap)=D (Y [UInt8.ofNat k.toNat]):=by
 simp[mu,Nr,Nq,Ns,eu,a,bytesOf,Go.b9.byteOf]
def JC(m:Nat):an P .quo 3 X (I J (m:Int)) (I J 10)=D (I J (IntKind.i64.wrap ((m:Int).tdiv 10))):=by simp[an,ht]
def JO(m:Nat):an P .rem 3 X (I J (m:Int)) (I J 10)=D (I J ((m:Int).tmod 10)):=by simp[an,ht]
def Es{N:Nat}{n:Int}(o:0<=n){H0:ad}:∀(f m k:Nat) (acc:aB) (H:ad),m≠0->m<10^f->m<=9223372036854775807->acc.length+f<=100->f<k->aM H0 H->
  W (l2 (aA P aw) N k (I J n) (Y acc) (I J m) H) λv H'=>v= Y (gj f m acc)/\aM H0 H'
 |0,m,_,_,_,j,c,_,_,_,_=>by simp at c;omega
 |_,_,0,_,_,_,_,_,_,h,_=>af
 |f+1,m,k+1,acc,H,j,c,x,y,z,pp=>by
  have e:((m:Int) != 0)=true:=by simp;omega
  have s:(m:Int).tmod 10=((m%10:Nat):Int):=rfl;have aZ:(m:Int).tdiv 10=((m/10:Nat):Int):=rfl;have w0:IntKind.i64.wrap ((m/10:Nat):Int)=((m/10:Nat):Int):=wrap_i64 af af;have u:IntKind.i64.wrap ((48:Int)+((m%10:Nat):Int))=((48+m%10:Nat):Int):=by rw[wrap_i64 af af];omega
  have w:IntKind.u8.wrap ((48+m%10:Nat):Int)=((48+m%10:Nat):Int):=by show((48+m%10:Nat):Int)%256=_;omega
  have d0:¬(((m%10:Nat):Int)<0):=af;have l:=ad.bx H (.row U 1 [[I .u8 ((48+m%10:Nat):Int)]]);have d:=GX (cap:=some 1) l;rw[Int.toNat_natCast]at d;have i:an P .add 9 U (Y [UInt8.ofNat (48+m%10)]) (Y acc)=D (Y (UInt8.ofNat (48+m%10)::acc)):=jC _ _ _ _ (by simp only[List.length_cons,List.length_nil];omega);simp-implicitDefEqProofs(disch:=try exact aj)only[l2,qT,o6,nv,bd,br,c7,e,JO,JC,s,aZ,w0,u,w,d0,decide_false,pv,Ha,MS,Hb,d,i];rw[gj];by_cases a:m/10=0
  ·rw[if_pos a,a];have q:(((0:Nat):Int) != 0)=false:=rfl;have p:¬n<0:=af;cases k with
   |zero=>omega
   |succ k=>
    simp-implicitDefEqProofs(disch:=try exact aj)only[l2,qT,l1,bd,br,c7,q,p,decide_false];exact a_.2 ⟨rfl,pp.bs _⟩
  ·rw[if_neg a];exact Es o f (m/10) k _ _ a (by rw[Nat.pow_succ]at c;omega) af (by simp only[List.length_cons];omega) af (pp.bs _)
def Nb{H:ad}{n:Int}(c:0<=n)(e:n<=9223372036854775807):W (aA P aw 48 [I J n] H) λv H'=>v= Y (gj 20 n.toNat [])/\aM H H':=by
 refine cA (λ_=>Kq 30) ?_;rw[sI];by_cases a:n=0
 ·subst a;simp-implicitDefEqProofs(disch:=try exact aj)only[reduceAdd,reduceLeDiff,reduceIte,av,beq_self_eq_true];exact a_.2 ⟨rfl,.refl _⟩
 ·have d:(n==0)=false:=by simpa using a
  simp-implicitDefEqProofs(disch:=try exact aj)only[reduceAdd,reduceLeDiff,reduceIte,av,d];have:=Es (N:=30) c (H0:=H) 20 n.toNat 30 [] H af (by have:=sd;omega) af (by simp) af (.refl _);rw[show((n.toNat:Nat):Int)=n by omega]at this;exact this
def AP(x:aB)(n:Nat)(l:List bw):flat (rep n (bK x)++l)=(List.replicate n x).flatten++flat l:=by
 induction n with
 |zero=>rfl
 |succ n a=>unfold rep at a ⊢;rw[List.replicate_succ,List.cons_append,flat,a,List.replicate_succ,List.flatten_cons,List.append_assoc];rfl
def gT(x:aB)(n:Nat):aB:=(List.replicate n [91]).flatten++(x++(List.replicate n [93]).flatten)
def HG(x:aB)(l:List bw):flat (nO x::l)=x++flat l:=by
 unfold nO;cases e1 x<;>rfl
def cY:flat []=[]:=rfl
def ur(x:aB)(z:Int):flat (ca x z)=gT x z.toNat:=by
 unfold ca gT;rw[AP,HG];have:=AP [93] z.toNat [];rw[List.append_nil,cY,List.append_nil]at this;rw[this]
def No(x:aB)(n:Nat):gT x (n+1)=[91]++gT x n++[93]:=by
 have e:∀n,(List.replicate (n+1) ([93]:aB)).flatten=(List.replicate n ([93]:aB)).flatten++[93]:=by
  intro n;rw[List.replicate_succ'];simp
 unfold gT;rw[e,List.replicate_succ,List.flatten_cons];simp only[List.append_assoc]
def Nn(x:aB)(n:Nat):(gT x n).length=2*n+x.length:=by
 unfold gT;simp;omega
def E2{N:Nat}{H:ad}{l:Nat}{x:aB}{z:Int}(d:H.get l=D (.row U 2 [[Y x,I J z]]))(n:x.length<=100)(o:z<=100):∀(c j k:Nat),((j+c:Nat):Int)=z->c<k->
  W (lZ (aA P aw) N k (.ptr l 0 0) (Y (gT x j)) (I J j) H) λv H'=>v= Y (gT x z.toNat)/\H'=H
 |_,_,0,_,h=>af
 |0,j,k+1,m,_=>by
  have a:¬((j:Int)<z):=af;simp-implicitDefEqProofs(disch:=try exact aj)only[lZ,qQ,oZ,reduceAdd,reduceLeDiff,reduceIte,av,d,a,decide_false];exact a_.2 ⟨by rw[show z.toNat=j by omega],rfl⟩
 |c+1,j,k+1,m,q=>by
  have a:(j:Int)<z:=af;have s:=Nn x j;have e:an P .add 9 X (Y [91]) (Y (gT x j))=D (Y (91::gT x j)):=jC _ _ _ _ (by simp only[List.length_cons,List.length_nil];omega);have i:an P .add 9 X (Y (91::gT x j)) (Y [93])=D (Y (gT x (j+1))):=by
   rw[No];exact jC _ _ (91::gT x j) [93] (by simp only[List.length_append,List.length_cons,List.length_nil];omega)
  have p:IntKind.i64.wrap ((j:Int)+1)=((j+1:Nat):Int):=by rw[wrap_i64 af af];omega
  simp-implicitDefEqProofs(disch:=try exact aj)only[lZ,qQ,bd,br,c7,dS,al,cD,Nat.reduceAdd,Nat.reduceLeDiff,reduceIte,aa.cells,cK,dA,d,a,decide_true,e,i,p];exact E2 d n o c (j+1) k af af
def E1{H:ad}{x:aB}{z:Int}(i:0<=z)(a:z<=100)(d:x.length<=100):W (aA P aw 34 [.agg [Y x,I J z]] H) λv H'=>v= Y (flat (ca x z))/\aM H H':=by
 refine cA (λ_=>Kj 200) ?_;have c:∀l,dT l (.agg [Y x,I J z])=D (.ptr l 0 0,.row U 2 [[Y x,I J z]]):=λl=>hr l _ rfl
 rw[sE,ur];simp-implicitDefEqProofs(disch:=try exact aj)only[reduceAdd,reduceLeDiff,reduceIte,av,c];have h:=E2 (N:=200) (ad.bx H (.row U 2 [[Y x,I J z]])) d a z.toNat 0 200 af af;have e:gT x 0=x:=by simp[gT]
 rw[e]at h;refine h.mono ?_;rintro v _ ⟨rfl,rfl⟩;exact⟨rfl,aM.push _ _⟩
def B6{H:ad}{a:bM}{kv:aa}(q:kv.one=X):W (aA P aw 50 [.agg (a.cells kv)] H) λv H'=>v= I J (c4 a.kind)/\aM H H':=by
 refine cA (λ_=>Ks 0) ?_;have e:∀l,dT l (.agg (a.cells kv))=D (.ptr l 0 0,.row U 11 [a.cells kv]):=λl=>hr l _ (by simp only[bM.cells,List.all_cons,List.all_nil,gO,hA,q,Bool.and_self])
 have pp:=aM.push H (.row U 11 [a.cells kv]);simp only[bM.cells]at e pp ⊢;generalize a.kind=k at e pp ⊢;unfold sK l3 o7 nw o8 iR;simp-implicitDefEqProofs(disch:=try exact aj)only[reduceAdd,reduceLeDiff,reduceIte,av,e];unfold c4;have n:∀m:Int,k=m->(k==m)=true:=λm h=>by simpa using h
 have cq:∀m:Int,k≠m->(k==m)=false:=λm h=>by simpa using h
 by_cases c:k=24
 ·simp-implicitDefEqProofs(disch:=try exact aj)only[bd,br,c7,n _ c];refine⟨_,_,rfl,?_,pp⟩;rw[if_pos c];rfl
 by_cases d:k=23
 ·simp-implicitDefEqProofs(disch:=try exact aj)only[bd,br,c7,cq _ c,n _ d];refine⟨_,_,rfl,?_,pp⟩;rw[if_neg c,if_pos d];rfl
 by_cases p:19<=k/\k<=22
 ·have:k=19\/k=20\/k=21\/k=22:=af;rcases this with rfl|rfl|rfl|rfl<;>exact⟨_,_,rfl,rfl,pp⟩
 by_cases j:k=14\/k=15
 ·rcases j with rfl|rfl<;>exact⟨_,_,rfl,rfl,pp⟩
 by_cases o:16<=k/\k<=18
 ·have:k=16\/k=17\/k=18:=af;rcases this with rfl|rfl|rfl<;>exact⟨_,_,rfl,rfl,pp⟩
 by_cases i:k=12\/k=13
 ·rcases i with rfl|rfl<;>exact⟨_,_,rfl,rfl,pp⟩
 ·simp-implicitDefEqProofs(disch:=try exact aj)only[bd,br,c7,cq 24 af,cq 23 af,cq 19 af,cq 20 af,cq 21 af,cq 22 af,cq 14 af,cq 15 af,cq 16 af,cq 17 af,cq 18 af,cq 12 af,cq 13 af];refine⟨_,_,rfl,?_,pp⟩;rw[if_neg c,if_neg d,if_neg p,if_neg j,if_neg o,if_neg i];rfl
def MI{H:ad}{k:Int}(h:14<=k)(aX:k<=24):W (aA P aw 51 [I J k] H) λv H'=>v= Y (gC k)/\aM H H':=by
 refine cA (λ_=>Kt 0) ?_;have c:k=14\/k=15\/k=16\/k=17\/k=18\/k=19\/k=20\/k=21\/k=22\/k=23\/k=24:=af;rcases c with rfl|rfl|rfl|rfl|rfl|rfl|rfl|rfl|rfl|rfl|rfl<;>
 ·unfold sL;have w:∀a b:Int,0<=a-b->a-b<=100->IntKind.i64.wrap (a-b)=a-b:=λa b x y=>wrap_i64 x af
  simp-implicitDefEqProofs(disch:=try exact aj)only[reduceAdd,reduceLeDiff,reduceIte,av,w];exact a_.2 ⟨rfl,aM.push _ _⟩
section
set_option maxRecDepth 100000
noncomputable section
def sJ(G:ax)(ag au:aa)(H:ad):O:=bV H (dT (H).next ag) λe c=>j (al P c 45 e) λn=>aG c (G 50 [n] c) λbn a=>j (an P .lss 3 U bn au) λo=>aV (D o) (j (al P a 45 e) λp=>aG a (G 17 [p] a) λh d=>j (an P .add 9 X (Y [40]) h) λi=>j (an P .add 9 X i (Y [41])) λk=>D (k,d)) (j (al P a 45 e) λl=>aG a (G 17 [l] a) λm d=>D (m,d))
def Kr(N:Nat){ag au:aa}{H:ad}{r:aa×ad}(h:sJ (aA P aw) ag au H=D r):aA P aw 49 [ag,au] H=D r:=cQ N (S:=λG=>sJ G ag au H) Tryd.func49 (λ_=>by delta sJ;kernel_rfl) h
def kj(G:ax)(N:Nat)(au:aa)(H:ad):O:=j (al P H 45 au) λp=>aG H (G 50 [p] H) λn a=>j (aI P 45 au 4) λq=>j (al P a 41 q) λs=>j (cG P 41 s (I J 0)) λu=>j (al P a 45 u) λv=>aG a (G 49 [v,n] a) λw c=>j (aI P 45 au 0) λl=>j (al P c 3 l) λm=>aG c (G 51 [m] c) λy d=>j (aI P 45 au 4) λe=>j (al P d 41 e) λh=>j (cG P 41 h (I J 1)) λi=>j (al P d 45 i) λk=>j (an P .add 3 X n (I J 1)) λB=>aG d (G 49 [k,B] d) λE o=>j (an P .add 9 X w (Y [32])) λx=>j (an P .add 9 U x y) λz=>j (an P .add 9 X z (Y [32])) λA=>j (an P .add 9 U A E) λF=>bif ((bg (al P a 3 l) m&&(bg (al P c 3 l) m&&X))&&((bg (al P a 41 e) h&&(bg (al P c 41 e) h&&(bg (al P d 41 e) h&&X)))&&((bg (al P a 45 i) k&&(bg (al P c 45 i) k&&(bg (al P d 45 i) k&&X)))&&X)))then(D (F,o))else Z
def Le(G:ax)(N:Nat):∀ae H,bm P G N (o (o (bq Tryd.f17))) (bh Tryd.f17) [] (bh Tryd.f17) ae H=kj G N (ae 1) H:=by
 refine bL (aH _) λae H=> ?_
 delta kj;kernel_rfl
def k1(G:ax)(N:Nat)(a:aa)(H:ad):O:=j (an P .add 9 X a (Y [41])) λc=>D (c,H)
def Lf(G:ax)(N:Nat):∀ae H,bm P G N (o (o (a1 (o (o (o (o (o (o (o (o (o (o (o (o (o (a1 (o (a1 (o (bq Tryd.f17))))))))))))))))))))) (λae H=>kj G N (ae 1) H) [(0,(λae H=>kj G N (ae 1) H))] (bh Tryd.f17) ae H=k1 G N (ae 3) H:=by
 refine bL (aH _) λae H=> ?_
 delta k1;kernel_rfl
def nf(G:ax)(N:Nat)(a:aa->aa->aa->ad->O)(au c d:aa)(H:ad):O:=j (an P .add 3 X d (I J 1)) λe=>a au c e H
def Lg(G:ax)(N:Nat)(a:aa->aa->aa->ad->O):∀ae H,bm P G N (o (o (a1 (a1 (o (a1 (o (a1 (o (o (o (o (o (o (o (o (o (o (o (o (o (a1 (o (a1 (o (bq Tryd.f17)))))))))))))))))))))))))) (λae H=>a (ae 1) (ae 3) (ae 4) H) [(1,(λae H=>k1 G N (ae 3) H)),(0,(λae H=>kj G N (ae 1) H))] (bh Tryd.f17) ae H=nf G N a (ae 1) (ae 3) (ae 4) H:=by
 refine bL (aH _) λae H=> ?_
 delta nf;kernel_rfl
def ng(G:ax)(N:Nat)(c:aa->aa->aa->ad->O)(au e a:aa)(H:ad):O:=j (aI P 45 au 4) λh=>j (al P H 41 h) λi=>j (cG P 41 i a) λk=>j (al P H 45 k) λl=>aG H (G 17 [l] H) λm d=>j (an P .add 9 U e m) λn=>nf G N c au n a d
def Lh(G:ax)(N:Nat)(a:aa->aa->aa->ad->O):∀ae H,bm P G N (o (a1 (a1 (o (a1 (a1 (o (a1 (o (a1 (o (o (o (o (o (o (o (o (o (o (o (o (o (a1 (o (a1 (o (bq Tryd.f17)))))))))))))))))))))))))))) (λae H=>nf G N a (ae 1) (ae 3) (ae 4) H) [(2,(λae H=>nf G N a (ae 1) (ae 3) (ae 4) H)),(1,(λae H=>k1 G N (ae 3) H)),(0,(λae H=>kj G N (ae 1) H))] (bh Tryd.f17) ae H=ng G N a (ae 1) (ae 3) (ae 4) H:=by
 refine bL (aH _) λae H=> ?_
 delta ng;generalize nf G N a=c;revert c;refine id ?_;intro c;kernel_rfl
def nd(G:ax)(N:Nat)(d:aa->aa->aa->ad->O)(au c a:aa)(H:ad):O:=j (aI P 45 au 4) λe=>j (al P H 41 e) λh=>bd P .len [41] [h] H λi=>j (an P .lss 3 U a i) λk=>aV (D k) (j (an P .gtr 3 X a (I J 0)) λl=>aV (D l) (j (an P .add 9 X c (Y [44,32])) λm=>ng G N d au m a H) (ng G N d au c a H)) (k1 G N c H)
def jP(G:ax)(N:Nat):Nat->aa->aa->aa->ad->O
 |0,_,_,_,_=>Z
 |n+1,au,a,c,H=>nd G N (jP G N n) au a c H
def Ld(G:ax)(N:Nat)(a:aa->aa->aa->ad->O):∀ae H,bm P G N (a1 (a1 (o (a1 (o (a1 (o (o (o (o (o (o (o (o (o (o (o (o (o (a1 (o (a1 (o (bq Tryd.f17)))))))))))))))))))))))) (λae H=>a (ae 1) (ae 3) (ae 4) H) [(1,(λae H=>k1 G N (ae 3) H)),(0,(λae H=>kj G N (ae 1) H))] (bh Tryd.f17) ae H=nd G N a (ae 1) (ae 3) (ae 4) H:=by
 refine bL ((aN ah ((aN ah (Lg G N a) ((db ah ((aN ah (Lh G N a) (aH _))))))) (aH _))) λae H=> ?_
 delta nd;generalize k1 G N=c;generalize ng G N a=d;revert c d;refine id ?_;intro c d;kernel_rfl
def ss(G:ax)(N:Nat)(ag:aa)(H:ad):O:=bV H (dT (H).next ag) λau a=>j (aI P 45 au 0) λbn=>j (al P a 3 bn) λd=>j (an P .eql 3 X d (I J 1)) λba=>aV (D ba) (j (aI P 45 au 1) λu=>j (al P a 3 u) λF=>aG a (G 48 [F] a) λW c=>D (W,c)) (j (an P .eql 3 X d (I J 2)) λam=>aV (D am) (j (aI P 45 au 1) λao=>j (al P a 3 ao) λbH=>j (an P .eql 3 X bH (I J 1)) λap=>aV (D ap) (D ((Y [116,114,117,101]),a)) (D ((Y [102,97,108,115,101]),a))) (j (an P .eql 3 X d (I J 3)) λaq=>aV (D aq) (j (aI P 45 au 3) λav=>j (al P a 40 av) λaw=>aG a (G 34 [aw] a) λaz c=>j (an P .add 9 X (Y [110,117,108,108,32]) az) λaA=>D (aA,c)) (j (an P .eql 3 X d (I J 4)) λaB=>aV (D aB) (j (aI P 45 au 2) λaC=>j (al P a 9 aC) λaD=>D (aD,a)) (j (an P .eql 3 X d (I J 5)) λaE=>aV (D aE) (j (aI P 45 au 4) λaF=>j (al P a 41 aF) λaH=>j (cG P 41 aH (I J 0)) λaJ=>j (al P a 45 aJ) λaK=>aG a (G 49 [aK,I J 7] a) λaL c=>j (an P .add 9 X aL (Y [46])) λaM=>j (aI P 45 au 2) λh=>j (al P c 9 h) λi=>j (an P .add 9 U aM i) λaN=>bif ((bg (al P a 9 h) i&&bg (al P c 9 h) i)&&X)then(D (aN,c))else Z) (j (an P .eql 3 X d (I J 6)) λaO=>aV (D aO) (j (aI P 45 au 4) λaP=>j (al P a 41 aP) λaQ=>j (cG P 41 aQ (I J 0)) λaR=>j (al P a 45 aR) λaS=>aG a (G 49 [aS,I J 7] a) λaT c=>j (aI P 45 au 4) λk=>j (al P c 41 k) λl=>j (cG P 41 l (I J 1)) λm=>j (al P c 45 m) λn=>aG c (G 17 [n] c) λaW e=>j (an P .add 9 X aT (Y [91])) λaU=>j (an P .add 9 U aU aW) λaX=>j (an P .add 9 X aX (Y [93])) λaY=>bif ((bg (al P a 41 k) l&&(bg (al P c 41 k) l&&X))&&((bg (al P a 45 m) n&&(bg (al P c 45 m) n&&X))&&X))then(D (aY,e))else Z) (j (an P .eql 3 X d (I J 7)) λaZ=>aV (D aZ) (j (aI P 45 au 2) λa0=>j (al P a 9 a0) λa1=>j (an P .add 9 X a1 (Y [40])) λa2=>jP G N N au a2 (I J 0) a) (j (an P .eql 3 X d (I J 8)) λa3=>aV (D a3) (j (aI P 45 au 3) λa4=>j (aI P 40 a4 0) λa5=>j (al P a 9 a5) λa6=>j (an P .add 9 X (Y [110,101,119,32]) a6) λa7=>D (a7,a)) (j (an P .eql 3 X d (I J 9)) λa8=>aV (D a8) (j (aI P 45 au 3) λa9=>j (al P a 40 a9) λa_=>aG a (G 34 [a_] a) λbb c=>j (aI P 45 au 4) λo=>j (al P c 41 o) λp=>j (cG P 41 p (I J 0)) λq=>j (al P c 45 q) λs=>aG c (G 17 [s] c) λbe e=>j (an P .add 9 X (Y [110,101,119,32,91]) bb) λbc=>j (an P .add 9 X bc (Y [93,40])) λbd=>j (an P .add 9 U bd be) λbf=>j (an P .add 9 X bf (Y [41])) λbh=>bif ((bg (al P a 41 o) p&&(bg (al P c 41 o) p&&X))&&((bg (al P a 45 q) s&&(bg (al P c 45 q) s&&X))&&X))then(D (bh,e))else Z) (j (an P .eql 3 X d (I J 10)) λv=>aV (D v) (j (aI P 45 au 4) λw=>j (al P a 41 w) λx=>j (cG P 41 x (I J 0)) λy=>j (al P a 45 y) λz=>aG a (G 17 [z] a) λA c=>j (an P .add 9 X (Y [108,101,110,40]) A) λB=>j (an P .add 9 X B (Y [41])) λE=>D (E,c)) (j (an P .eql 3 X d (I J 11)) λK=>aV (D K) (D ((Y [114,101,97,100,40,41]),a)) (j (an P .eql 3 X d (I J 12)) λL=>aV (D L) (j (aI P 45 au 4) λM=>j (al P a 41 M) λQ=>j (cG P 41 Q (I J 0)) λR=>j (al P a 45 R) λS=>aG a (G 49 [S,I J 6] a) λT c=>j (an P .add 9 X (Y [45]) T) λV=>D (V,c)) (j (an P .eql 3 X d (I J 13)) λab=>aV (D ab) (j (aI P 45 au 4) λae=>j (al P a 41 ae) λaf=>j (cG P 41 af (I J 0)) λah=>j (al P a 45 ah) λai=>aG a (G 49 [ai,I J 6] a) λaj c=>j (an P .add 9 X (Y [33]) aj) λak=>D (ak,c)) (kj G N au a)))))))))))))
def J6(N:Nat){ag:aa}{H:ad}{r:aa×ad}(h:ss (aA P aw) N ag H=D r):aA P aw 17 [ag] H=D r:=cQ N (S:=λG=>ss G N ag H) Tryd.func17 (λG=>dO ((aN ah ((aN ah (Le G N) ((aN ah ((db ah ((aN ah ((dt ah (aH _) ((aN ah ((dt ah (aH _) ((aN ah ((dt ah (aH _) ((aN ah ((dt ah (aH _) ((aN ah ((dt ah (aH _) ((aN ah ((dt ah (aH _) ((aN ah ((dt ah ((aN ah ((aN ah (Lf G N) ((aN ah ((db ah ((en (k:=λm ae H=>jP G N m (ae 1) (ae 3) (ae 4) H) ah (λae H=>ah) (λm=>Ld G N (jP G N m)))))) (aH _))))) (aH _))) (aH _))) (aH _))))) (aH _))))) (aH _))))) (aH _))))) (aH _))))) (aH _))))) (aH _))))) (aH _))))) (aH _))) (by delta ss;generalize kj G N=a;generalize jP G N N=c;revert a c;refine id ?_;intro a c;kernel_rfl)) h
end
end
def b7.beq{H:ad}{ok:Nat->Prop}{ks:List aJ}{kv:aa}(h:b7 H ok ks kv):aa.beq kv kv=true:=by
 rcases h with⟨rfl,_⟩|⟨l,i,cap,ro,els,rfl,_⟩|⟨l,i,cap,rfl,_⟩<;>simp[aa.beq]
def qJ{a:bM}{kv:aa}(h:aa.beq kv kv=X):bg (D (.agg (a.cells kv))) (.agg (a.cells kv))=true:=by
 simp[bg,aa.beq,gf.beq,bM.cells,h]
def dc.get{H:ad}{ok:Nat->Prop}:∀{ks:List aJ} {css:List (List aa)} {j:Nat} {e:aJ},dc H ok ks css->ks[j]? =D e->∃cs,css[j]? =D cs/\cy H ok e (.agg cs)
 |[],_,_,_,_,h=>by simp at h
 |_::_,[],_,_,h,_=>by rw[dc]at h;exact h.elim
 |k::ks,cs::css,0,e,h,a=>by rw[dc]at h;simp at a;subst a;exact⟨cs,rfl,h.1⟩
 |k::ks,cs::css,j+1,e,h,a=>by
  rw[dc]at h;obtain⟨c,aZ,d⟩:=dc.get (ks:=ks) (css:=css) (j:=j) h.2 (by simpa using a);exact⟨c,by simpa using aZ,d⟩
def b7.jd{H:ad}{ok:Nat->Prop}{ks:List aJ}{kv:aa}(h:b7 H ok ks kv){n:Nat}(p:ks.length=n){j:Nat}{a:bM}{es:List aJ}(k:ks[j]? =D (.mk a es)):∃l i cap ro els c,kv= .ay l i n 11 cap/\H.get l=D (.row ro 11 els)/\els[i+j]? =D (a.cells c)/\b7 H ok es c:=by
 subst p;have e:ks.length≠0:=by intro h;have:=List.length_eq_zero_iff.1 h;subst this;simp at k
 rcases h with⟨_,d⟩|⟨l,i,cap,ro,els,rfl,_,m,o⟩|⟨_,_,_,_,d⟩
 ·exact absurd d e
 ·obtain⟨cs,aZ,q⟩:=o.get k;obtain⟨c,s,u⟩:=hp.1 q;cases s;exact⟨l,i,cap,ro,els,c,rfl,m,by rw[List.getElem?_drop]at aZ;exact aZ,u⟩
 ·exact absurd d e
def cT(x:aB)(l:List bw):flat (bK x::l)=x++flat l:=rfl
def gL(x:aB)(l:List bw):flat (wd x::l)=x++flat l:=rfl
def iK(x:aB)(l:List bw):flat (cc x::l)=x++flat l:=rfl
def dY(l:List bw):flat (ct::l)=[32]++flat l:=rfl
def cW{t:TypeId}{c:Bool}{a b:aB}(h:a.length+b.length<=9223372036854775807):an P .add t c (Y a) (Y b)=D (Y (a++b)):=jC t c a b h
def tv(e:aJ):Prop:=∀(d m:Nat),cv d m e->cL e<=1000000000->∀(a:bM) (ks:List aJ),e= .mk a ks->∀(H:ad) (ok:Nat->Prop) (kv:aa),b7 H ok ks kv->W (aA P aw 17 [.agg (a.cells kv)] H) λr H'=>r= Y (flat (bl e))/\aM H H'
def NK{H:ad}{a:bM}{ks:List aJ}{kv:aa}{m:Nat}(n:kv.one=X)(v:∀H',aM H H'->W (aA P aw 17 [.agg (a.cells kv)] H') λr p=>r= Y (flat (bl (.mk a ks)))/\aM H' p)(w:(flat (bl (.mk a ks))).length<=1000000000):
  W (aA P aw 49 [.agg (a.cells kv),I J m] H) λr H'=>r= Y (flat (cl m (.mk a ks)))/\aM H H':=by
 refine cA (λ_=>Kr 0) ?_;have k:∀l,dT l (.agg (a.cells kv))=D (.ptr l 0 0,.row U 11 [a.cells kv]):=λl=>hr l _ (by simp only[bM.cells,List.all_cons,List.all_nil,gO,hA,n,Bool.and_self])
 have pp:=aM.push H (.row U 11 [a.cells kv]);have dh:=ad.bx H (.row U 11 [a.cells kv]);have o:=λH'=>B6 (H:=H') (a:=a) n
 have i:=λH' (h:aM H H')=>v H' h
 simp only[bM.cells]at k pp dh o i ⊢;unfold sJ;simp-implicitDefEqProofs(disch:=try exact aj)only[bd,br,Nat.reduceAdd,Nat.reduceLeDiff,reduceIte,aa.cells,cK,dA,al,cD,dS,dw,k];refine aL (o _) ?_;rintro _ j ⟨rfl,c⟩;refine⟨c.1,?_⟩;have g2:=c.get dh;by_cases hm:((c4 a.kind:Nat):Int)<(m:Int)
 ·have e:(aJ.mk a ks).cr<m:=by unfold aJ.cr aJ.kind;simp only;omega
  simp-implicitDefEqProofs(disch:=try exact aj)only[bd,br,c7,Nat.reduceAdd,Nat.reduceLeDiff,reduceIte,aa.cells,cK,dA,al,cD,g2,hm,decide_true];refine aL (i j (pp.trans c)) ?_;rintro _ q ⟨rfl,d⟩;refine⟨d.1,?_⟩;have s:an P .add 9 X (Y [40]) (Y (flat (bl (.mk a ks))))=D (Y (40::flat (bl (.mk a ks)))):=jC _ _ _ _ (by simp only[List.length_cons,List.length_nil];omega);have u:an P .add 9 X (Y (40::flat (bl (.mk a ks)))) (Y [41])=D (Y (40::flat (bl (.mk a ks))++[41])):=jC _ _ _ _ (by simp only[List.length_cons,List.length_nil];omega);simp only[s,u,dG];exact a_.2 ⟨by rw[vx e,cT,c2];rfl,(pp.trans c).trans d⟩
 ·have e:¬(aJ.mk a ks).cr<m:=by unfold aJ.cr aJ.kind;simp only;omega
  simp-implicitDefEqProofs(disch:=try exact aj)only[bd,br,c7,Nat.reduceAdd,Nat.reduceLeDiff,reduceIte,aa.cells,cK,dA,al,cD,g2,hm,decide_false];refine aL (i j (pp.trans c)) ?_;rintro _ q ⟨rfl,d⟩;refine⟨d.1,?_⟩;exact a_.2 ⟨by rw[r7 e],(pp.trans c).trans d⟩
def pd(j:Nat):List aJ->aB
 |[]=>[]
 |_=>bif j==0 then[]else[44,32]
def xx{N:Nat}{H0:ad}{r L i:Nat}{a:bM}{cap:Option Nat}{ro:Bool}{els:List (List aa)}{ks:List aJ}(n:H0.get r=D (.row U 11 [a.cells (.ay L i ks.length 11 cap)]))(u:H0.get L=D (.row ro 11 els)){ok:Nat->Prop}(aF:∀e∈ks,tv e)(hw:∀e∈ks,cv 0 0 e\/∃d,cv d 0 e)(T:ks.length<=1000000000)(az:bY ks<=1000000000):
  ∀(es:List aJ) (j k:Nat) (acc:aB) (H:ad),ks.drop j=es->dc H0 ok es (els.drop (i+j))->acc.length+bY es<=2000000000/\bY es<=1000000000->j+es.length=ks.length->es.length<k->aM H0 H->
  W (jP (aA P aw) N k (.ptr r 0 0) (Y acc) (I J j) H) λv H'=>v= Y (acc++(pd j es++flat (eA (c5 es))++[41]))/\aM H0 H'
 |_,_,0,_,_,_,_,_,_,y,_=>af
 |[],j,k+1,acc,H,s,he,z,w,y,pp=>by
  have m:¬((j:Int)<(ks.length:Int)):=by simp at w;omega
  have g1:=pp.get n;simp only[bM.cells]at g1;have q:an P .add 9 X (Y acc) (Y [41])=D (Y (acc++[41])):=jC _ _ _ _ (by simp only[List.length_cons,List.length_nil];omega);simp-implicitDefEqProofs(disch:=try exact aj)only[jP,nd,k1,reduceAdd,reduceLeDiff,reduceIte,av,g1,m,decide_false,q];exact a_.2 ⟨by simp[pd,c5,eA,flat],pp⟩
 | .mk b c::es,j,k+1,acc,H,s,he,z,w,y,pp=>by
  simp only[List.length_cons]at w y;have m:(j:Int)<(ks.length:Int):=af;have B:aJ.mk b c∈ks:=by
   have:aJ.mk b c∈ks.drop j:=by rw[s];simp
   exact List.mem_of_mem_drop this
  obtain⟨d,E⟩:∃d,cv d 0 (.mk b c):=by
   rcases hw _ B with h|h
   ·exact⟨0,h⟩
   ·exact h
  rw[bY]at z;have ax:=ox E;obtain⟨cs,aZ,ah,ai⟩:=he.cons;obtain⟨ae,ak,al⟩:=hp.1 ah;cases ak;have g1:=pp.get n;have g2:=pp.get u;have ab:((j:Int)).toNat=j:=af;have ap:(0:Int)<=(j:Int):=af;have am:IntKind.i64.wrap ((j:Int)+1)=((j+1:Nat):Int):=by rw[wrap_i64 af af];omega
  have hle:cL (.mk b c)<=1000000000:=af;have F:=λH' (p:aM H0 H')=>aF _ B d 0 E hle b c rfl H' ok ae (al.aK p)
  have R:ks.drop (j+1)=es:=by
   have:(ks.drop j).drop 1=es:=by rw[s];rfl
   rwa[List.drop_drop]at this
  have V:flat (eA (c5 (.mk b c::es)))=flat (bl (.mk b c))++(pd 1 es++flat (eA (c5 es))):=by
   cases es with
   |nil=>rw[mU];simp[eA,c5,flat,pd]
   |cons f r=>
    rw[c5,c5,eA,c2,cT,dY]
    ·simp only[List.append_assoc];rfl
    ·intro a;cases a
  have fin:∀(l:aB) (H':ad),l=acc++(bif j==0 then[]else[44,32])->aM H0 H'->W (ng (aA P aw) N (jP (aA P aw) N k) (.ptr r 0 0) (Y l) (I J j) H') λv M=>v= Y (acc++((bif j==0 then[]else[44,32])++flat (eA (c5 (.mk b c::es)))++[41]))/\aM H0 M:=by
   intro l H' A o;have aq:l.length<=acc.length+2:=by
    rw[A];cases j==0<;>simp
   have g1:=o.get n;have g2:=o.get u;simp only[bM.cells]at g1 aZ F;simp-implicitDefEqProofs(disch:=try exact aj)only[ng,reduceAdd,reduceLeDiff,reduceIte,av,g1,g2,ab,aZ];refine aL (F H' o) ?_;rintro _ O ⟨rfl,K⟩;refine⟨K.1,?_⟩;have Q:an P .add 9 U (Y l) (Y (flat (bl (.mk b c))))=D (Y (l++flat (bl (.mk b c)))):=jC _ _ _ _ af;simp-implicitDefEqProofs(disch:=try exact aj)only[nf,bd,br,c7,Q,am];refine(xx n u aF hw T az es (j+1) k _ O R (by rw[show i+(j+1)=i+j+1 by omega];exact ai) ⟨by simp only[List.length_append];omega,af⟩ af af (o.trans K)).mono ?_;rintro v ao ⟨rfl,ag⟩;refine⟨?_,ag⟩
   rw[V,A];have au:(j+1==0)=false:=by simp
   cases es<;>simp[pd]
  by_cases G:j=0
  ·subst G;have x:¬((0:Int)<((0:Nat):Int)):=af;simp only[bM.cells]at g1;simp-implicitDefEqProofs(disch:=try exact aj)only[jP,nd,reduceAdd,reduceLeDiff,reduceIte,av,g1,m,x,decide_true,decide_false];exact fin acc H (by simp) pp
  ·have x:(0:Int)<(j:Int):=af;have q:an P .add 9 X (Y acc) (Y [44,32])=D (Y (acc++[44,32])):=jC _ _ _ _ (by simp only[List.length_cons,List.length_nil];omega);simp only[bM.cells]at g1;simp-implicitDefEqProofs(disch:=try exact aj)only[jP,nd,reduceAdd,reduceLeDiff,reduceIte,av,g1,m,x,decide_true,q];have S:(j==0)=false:=by simpa using G
   exact fin _ H (by rw[S];rfl) pp
