/-
  Texts of one proof, laid together: Y8 ShCa E1 ShR Wa ShRa Wb.
-/
import Derived.Test.YtghmbpmaafnodaaDoorMK
set_option linter.unusedVariables false
set_option linter.unusedSimpArgs false
set_option linter.defProp false
open Option renaming some→D,none→Z
open Bool renaming true→X,false→U
open Go.b9.aa renaming int→I,str→Y
open Go.IntKind renaming i64→J
namespace Go.Proofs.YtghmbpmaafnodaaDoor
open Go.b9
open Nat (reduceAdd reduceLeDiff)
def G4{n:Nat}(R:pr n){H0 H:ae}{r:Nat}{T:List Tok}{ao:aa}{s:aw}(c:bI H0 r T ao s)(x:aO H0 H)(B:H.get H0.next=D (.row U 11 [[I J 0,I J 0,Y [],Y [],I J 0,.ar,I J 0,I J 0,I J 0,I J 0,I J 0]])){b:Nat}(ab:H0.next<b)(F:H.get b=D (.row U 4 [[I J (au T s.at_).kind,Y (au T s.at_).text,I J (au T s.at_).n,I J (au T s.at_).pos]])){z:aL}{s':aw}(h:(bif a1 T (bu T s).2 [40]then(h1 T n (bu T s).2).bind λp=>D (.mk {kind:=7,name:=(bu T s).1,pos:=(au T s.at_).pos} p.1,p.2)else D (.mk {kind:=4,name:=(bu T s).1,pos:=(au T s.at_).pos} [],(bu T s).2))=D (z,s')):
  W (ky (aC P az) (.ptr r 0 0) (.ptr H0.next 0 0) (.ptr b 0 0) H) (dB H0 r T ao z s'):=by
 have ad:=c.rd.lt;have an:=c.bx.one;have Q:=c.aM x;have hle:=x.1;have aj:=ae.aS F;have ag:=ae.aS B;rw[ky];refine aN (lN Q) ?_;rintro _ H1 ⟨rfl,m1,u⟩;refine⟨m1.1,?_⟩;have M:=m1.get B af;have N:=m1.get F af;simp-implicitDefEqProofs(disch:=try exact al)only[fS,fT,fU,fV,fW,fG,fq,fH,fr,fI,fs,fJ,ft,fK,fu,fL,fv,fw,fM,fx,fN,fy,fz,e5,e6,e7,e8,e9,fO,fP,fQ,fR,fp,reduceAdd,reduceLeDiff,reduceIte,ax];refine aN (dk u.rd u.bx [40] (by simp)) ?_;rintro _ y ⟨rfl,e⟩;refine⟨e.1,?_⟩;have j:=e.get M;have d:=e.get N;have ah:=ae.aS j;have ak:=ae.aS d;have G:=u.aM e;have w:=((x.mut (· =r)).trans m1).trans (e.mut _);cases E:a1 T (bu T s).2 [40]with
 |false=>
  simp only[E,aT,aU,bY]at h;obtain⟨rfl,rfl⟩:=h;simp-implicitDefEqProofs(disch:=try exact al)only[fS,fT,fU,fV,fW,fG,fq,fH,fr,fI,fs,fJ,ft,fK,fu,fL,fv,fw,fM,fx,fN,fy,fz,e5,e6,e7,e8,e9,fO,fP,fQ,fR,fp,reduceAdd,reduceLeDiff,reduceIte,ax,Bool.not_false,j,d];exact bb.2 (dB.box (a:={kind:=4,name:=(bu T s).1,pos:=(au T s.at_).pos}) (kv:= .ar) (lo:=H0.next+1) c w G.rd (bk _) (Nat.lt_succ_self _) (b8.nil _ _) _)
 |true=>
  simp only[E,aY,cR]at h;obtain⟨⟨S,s1⟩,L,A⟩:=h;simp only[aU,bY]at A;obtain⟨rfl,rfl⟩:=A;simp-implicitDefEqProofs(disch:=try exact al)only[fS,fT,fU,fV,fW,fG,fq,fH,fr,fI,fs,fJ,ft,fK,fu,fL,fv,fw,fM,fx,fN,fy,fz,e5,e6,e7,e8,e9,fO,fP,fQ,fR,fp,reduceAdd,reduceLeDiff,reduceIte,ax,Bool.not_true];refine aN (R G S s1 L) ?_;rintro v V ⟨m3,K,o⟩;refine⟨m3.1,?_⟩;have m:=m3.get j af;have q:=m3.get d af;have ai:=ae.aS m;have am:=ae.aS q;have O:v= .ar\/∃l i n cap,v= .aA l i n 11 cap:=by
   rcases o with⟨h,_⟩|⟨l,i,cap,ro,els,h,_⟩|⟨l,i,cap,h,_⟩
   ·exact .inl h
   ·exact .inr ⟨_,_,_,_,h⟩
   ·exact .inr ⟨_,_,_,_,h⟩
  rcases O with rfl|⟨l,i,k,cap,rfl⟩
  ·simp-implicitDefEqProofs(disch:=try exact al)only[fS,fT,fU,fV,fW,fG,fq,fH,fr,fI,fs,fJ,ft,fK,fu,fL,fv,fw,fM,fx,fN,fy,fz,e5,e6,e7,e8,e9,fO,fP,fQ,fR,fp,reduceAdd,reduceLeDiff,reduceIte,ax,m,q,d];exact bb.2 (dB.box (a:={kind:=7,name:=(bu T s).1,pos:=(au T s.at_).pos}) (kv:= .ar) (lo:=y.next) c (w.trans m3) K.rd (bk _) af o _)
  ·simp-implicitDefEqProofs(disch:=try exact al)only[fS,fT,fU,fV,fW,fG,fq,fH,fr,fI,fs,fJ,ft,fK,fu,fL,fv,fw,fM,fx,fN,fy,fz,e5,e6,e7,e8,e9,fO,fP,fQ,fR,fp,reduceAdd,reduceLeDiff,reduceIte,ax,m,q,d];exact bb.2 (dB.box (a:={kind:=7,name:=(bu T s).1,pos:=(au T s.at_).pos}) (kv:= .aA l i k 11 cap) (lo:=y.next) c (w.trans m3) K.rd (bk _) af o _)
def G7{H0 H:ae}{r:Nat}{T:List Tok}{ao:aa}{s:aw}(c:bI H0 r T ao s)(j:aO H0 H)(d:H.get H0.next=D (.row U 11 [[I J 0,I J 0,Y [],Y [],I J 0,.ar,I J 0,I J 0,I J 0,I J 0,I J 0]])){b:Nat}(v:H0.next<b)(e:H.get b=D (.row U 4 [[I J (au T s.at_).kind,Y (au T s.at_).text,I J (au T s.at_).n,I J (au T s.at_).pos]])){k:aL}{s':aw}(h:D (aL.mk {kind:=1,n:=(au T s.at_).n,pos:=(au T s.at_).pos} [],aD s)=D (k,s')):
  W (fS (.ptr r 0 0) H (.ptr b 0 0) (.ptr H0.next 0 0)) (dB H0 r T ao k s'):=by
 have w:=c.rd.lt;have p:=c.bx.one;have q:=c.aM j;have hle:=j.1;have y:=ae.aS e;have x:=ae.aS d;have i:=q.rd;have m:=i;unfold bw at m;have z:=i.lt;obtain⟨m1,l⟩:=eO i (aD s);have o:=(j.mut (· =r)).trans m1;have B:=c.mut o l;have u:=m1.get d af;have A:=m1.get e af;simp only[aU,bY]at h;obtain⟨rfl,rfl⟩:=h;simp-implicitDefEqProofs(disch:=try exact al)only[fS,fT,fU,fV,fW,fG,fq,fH,fr,fI,fs,fJ,ft,fK,fu,fL,fv,fw,fM,fx,fN,fy,fz,e5,e6,e7,e8,e9,fO,fP,fQ,fR,fp,reduceAdd,reduceLeDiff,reduceIte,ax,m,p,d,e];exact bb.2 (dB.box (a:={kind:=1,n:=(au T s.at_).n,pos:=(au T s.at_).pos}) (kv:= .ar) (lo:=H0.next+1) c o l (bk _) (Nat.lt_succ_self _) (b8.nil _ _) _)
def zq{H0 H:ae}{r:Nat}{T:List Tok}{ao:aa}{s:aw}(c:bI H0 r T ao s)(m:aO H0 H)(d:H.get H0.next=D (.row U 11 [[I J 0,I J 0,Y [],Y [],I J 0,.ar,I J 0,I J 0,I J 0,I J 0,I J 0]])){b:Nat}(w:H0.next<b)(e:H.get b=D (.row U 4 [[I J (au T s.at_).kind,Y (au T s.at_).text,I J (au T s.at_).n,I J (au T s.at_).pos]])){o:aL}{s':aw}(h:D (aL.mk {kind:=2,n:=bif (au T s.at_).text==[116,114,117,101]then 1 else 0,pos:=(au T s.at_).pos} [],aD s)=D (o,s')):
  W (fT (aC P az) (.ptr r 0 0) H (.ptr b 0 0) (.ptr H0.next 0 0)) (dB H0 r T ao o s'):=by
 have x:=c.rd.lt;have p:=c.bx.one;have u:=c.aM m;have hle:=m.1;have z:=ae.aS e;have y:=ae.aS d;have j:=u.rd;have k:=j;unfold bw at k;have A:=j.lt;obtain⟨m1,i⟩:=eO j (aD s);have l:=(m.mut (· =r)).trans m1;have E:=c.mut l i;have v:=m1.get d af;have B:=m1.get e af;simp only[aU,bY]at h;obtain⟨rfl,rfl⟩:=h;cases q:(au T s.at_).text==[116,114,117,101]with
 |true=>
  simp-implicitDefEqProofs(disch:=try exact al)only[fS,nE,fT,fU,fV,fW,fG,fq,fH,fr,fI,fs,fJ,ft,fK,fu,fL,fv,fw,fM,fx,fN,fy,fz,e5,e6,e7,e8,e9,fO,fP,fQ,fR,fp,reduceAdd,reduceLeDiff,reduceIte,ax,k,p,d,e,q];exact bb.2 (dB.box (a:={kind:=2,n:=1,pos:=(au T s.at_).pos}) (kv:= .ar) (lo:=H0.next+1) c l i (bk _) (Nat.lt_succ_self _) (b8.nil _ _) _)
 |false=>
  simp-implicitDefEqProofs(disch:=try exact al)only[fS,nE,fT,fU,fV,fW,fG,fq,fH,fr,fI,fs,fJ,ft,fK,fu,fL,fv,fw,fM,fx,fN,fy,fz,e5,e6,e7,e8,e9,fO,fP,fQ,fR,fp,reduceAdd,reduceLeDiff,reduceIte,ax,k,p,d,e,q];exact bb.2 (dB.box (a:={kind:=2,n:=0,pos:=(au T s.at_).pos}) (kv:= .ar) (lo:=H0.next+1) c l i (bk _) (Nat.lt_succ_self _) (b8.nil _ _) _)
def G6{H0 H:ae}{r:Nat}{T:List Tok}{ao:aa}{s:aw}(c:bI H0 r T ao s)(i:aO H0 H)(k:H.get H0.next=D (.row U 11 [[I J 0,I J 0,Y [],Y [],I J 0,.ar,I J 0,I J 0,I J 0,I J 0,I J 0]])){b:Nat}(B:H0.next<b)(d:H.get b=D (.row U 4 [[I J (au T s.at_).kind,Y (au T s.at_).text,I J (au T s.at_).n,I J (au T s.at_).pos]])){j:aL}{s':aw}(h:D (aL.mk {kind:=3,cf:=(cM T (aD s)).1.1,c4:=(cM T (aD s)).1.2,pos:=(au T s.at_).pos} [],(cM T (aD s)).2)=D (j,s')):
  W (fU (aC P az) (.ptr r 0 0) H (.ptr b 0 0) (.ptr H0.next 0 0)) (dB H0 r T ao j s'):=by
 have E:=c.rd.lt;have v:=c.bx.one;have x:=c.aM i;have hle:=i.1;have K:=ae.aS d;have F:=ae.aS k;have e:=x.rd;have o:=e;unfold bw at o;have M:=e.lt;obtain⟨m1,u⟩:=eO e (aD s);have p:=(i.mut (· =r)).trans m1;have y:=c.mut p u;have q:=m1.get k af;have w:=m1.get d af;simp only[aU,bY]at h;obtain⟨rfl,rfl⟩:=h;simp-implicitDefEqProofs(disch:=try exact al)only[fS,fT,fU,fV,fW,fG,fq,fH,fr,fI,fs,fJ,ft,fK,fu,fL,fv,fw,fM,fx,fN,fy,fz,e5,e6,e7,e8,e9,fO,fP,fQ,fR,fp,reduceAdd,reduceLeDiff,reduceIte,ax,o,v];refine aN (qH y) ?_;rintro _ A ⟨rfl,m2,z⟩;refine⟨m2.1,?_⟩;have l:=m2.get q af;have m:=m2.get w af;have G:=ae.aS l
 have L:=ae.aS m;simp-implicitDefEqProofs(disch:=try exact al)only[fS,fT,fU,fV,fW,fG,fq,fH,fr,fI,fs,fJ,ft,fK,fu,fL,fv,fw,fM,fx,fN,fy,fz,e5,e6,e7,e8,e9,fO,fP,fQ,fR,fp,reduceAdd,reduceLeDiff,reduceIte,ax,l,m,d];exact bb.2 (dB.box (a:={kind:=3,cf:=(cM T (aD s)).1.1,c4:=(cM T (aD s)).1.2,pos:=(au T s.at_).pos}) (kv:= .ar) (lo:=H0.next+1) c (p.trans m2) z.rd (bk _) (Nat.lt_succ_self _) (b8.nil _ _) _)
def G5{n:Nat}(B:pw n){H0 H:ae}{r:Nat}{T:List Tok}{ao:aa}{s:aw}(a:bI H0 r T ao s)(i:aO H0 H)(j:H.get H0.next=D (.row U 11 [[I J 0,I J 0,Y [],Y [],I J 0,.ar,I J 0,I J 0,I J 0,I J 0,I J 0]])){b:Nat}(F:H0.next<b)(d:H.get b=D (.row U 4 [[I J (au T s.at_).kind,Y (au T s.at_).text,I J (au T s.at_).n,I J (au T s.at_).pos]])){c:aL}{s':aw}(h:j5 T n (au T s.at_).pos (aD s)=D (c,s')):
  W (fV (aC P az) (.ptr r 0 0) H (.ptr b 0 0) (.ptr H0.next 0 0)) (dB H0 r T ao c s'):=by
 have G:=a.rd.lt;have u:=a.bx.one;have y:=a.aM i;have hle:=i.1;have M:=ae.aS d;have K:=ae.aS j;have e:=y.rd;have m:=e;unfold bw at m;have N:=e.lt;obtain⟨m1,q⟩:=eO e (aD s);have o:=(i.mut (· =r)).trans m1;have z:=a.mut o q;have p:=m1.get j af;have Q:=m1.get d af;simp-implicitDefEqProofs(disch:=try exact al)only[fS,fT,fU,fV,fW,fG,fq,fH,fr,fI,fs,fJ,ft,fK,fu,fL,fv,fw,fM,fx,fN,fy,fz,e5,e6,e7,e8,e9,fO,fP,fQ,fR,fp,reduceAdd,reduceLeDiff,reduceIte,ax,m,u,d];refine aN (B z _ c s' h) ?_;rintro v E ⟨m2,A,l⟩;refine⟨m2.1,?_⟩;have k:=m2.get p af;have L:=ae.aS k;have O:=m1.1;obtain⟨cs,rfl,hlen,w⟩:=l.cells;have x:List.take 11 cs=cs:=List.take_of_length_le af
 simp-implicitDefEqProofs(disch:=try exact al)only[fS,fT,fU,fV,fW,fG,fq,fH,fr,fI,fs,fJ,ft,fK,fu,fL,fv,fw,fM,fx,fN,fy,fz,e5,e6,e7,e8,e9,fO,fP,fQ,fR,fp,reduceAdd,reduceLeDiff,reduceIte,ax,k,hlen,w,List.append_nil,x];exact bb.2 (dB.ret a (o.trans m2) A.rd (bk _) l af _)
def first_par{n:Nat}(u:mh n){H0 H:ae}{r:Nat}{T:List Tok}{ao:aa}{s:aw}(a:bI H0 r T ao s)(d:aO H0 H)(e:H.get H0.next=D (.row U 11 [[I J 0,I J 0,Y [],Y [],I J 0,.ar,I J 0,I J 0,I J 0,I J 0,I J 0]])){b:Nat}(y:H0.next<b)(m:H.get b=D (.row U 4 [[I J (au T s.at_).kind,Y (au T s.at_).text,I J (au T s.at_).n,I J (au T s.at_).pos]])){c:aL}{s':aw}(h:gT T n s=D (c,s')):
  W (fq (aC P az) H (.ptr r 0 0) (.ptr H0.next 0 0)) (dB H0 r T ao c s'):=by
 have z:=a.rd.lt;have G:=a.bx.one;have p:=a.aM d;have hle:=d.1;have E:=ae.aS m;have A:=ae.aS e;have w:=d.mut (· =r);have m1:=cP.refl (· =r) H;have k:=e;rw[fq];refine aN (u p c s' h) ?_;rintro v x ⟨m2,q,j⟩;refine⟨m2.1,?_⟩;have i:=m2.get k af;have B:=ae.aS i;have F:=m1.1;obtain⟨cs,rfl,hlen,l⟩:=j.cells;have o:List.take 11 cs=cs:=List.take_of_length_le af;simp-implicitDefEqProofs(disch:=try exact al)only[fS,fT,fU,fV,fW,fG,fq,fH,fr,fI,fs,fJ,ft,fK,fu,fL,fv,fw,fM,fx,fN,fy,fz,e5,e6,e7,e8,e9,fO,fP,fQ,fR,fp,reduceAdd,reduceLeDiff,reduceIte,ax,i,hlen,l,List.append_nil,o];exact bb.2 (dB.ret a (w.trans m2) q.rd (bk _) j af _)
def G8{H0 H:ae}{r:Nat}{T:List Tok}{ao:aa}{s:aw}(c:bI H0 r T ao s)(e:aO H0 H)(j:H.get H0.next=D (.row U 11 [[I J 0,I J 0,Y [],Y [],I J 0,.ar,I J 0,I J 0,I J 0,I J 0,I J 0]])){b:Nat}(F:H0.next<b)(l:H.get b=D (.row U 4 [[I J (au T s.at_).kind,Y (au T s.at_).text,I J (au T s.at_).n,I J (au T s.at_).pos]])){i:aL}{s':aw}(h:D (aL.mk {kind:=11,pos:=(au T s.at_).pos} [],dn T [41] (cN T [40] (aD s)))=D (i,s')):
  W (fG (aC P az) (.ptr r 0 0) H (.ptr b 0 0) (.ptr H0.next 0 0)) (dB H0 r T ao i s'):=by
 have G:=c.rd.lt;have v:=c.bx.one;have x:=c.aM e;have hle:=e.1;have M:=ae.aS l;have K:=ae.aS j;have d:=x.rd;have o:=d;unfold bw at o;have O:=d.lt;obtain⟨m1,u⟩:=eO d (aD s);have p:=(e.mut (· =r)).trans m1;have y:=c.mut p u;have q:=m1.get j af;have w:=m1.get l af;simp only[aU,bY]at h;obtain⟨rfl,rfl⟩:=h;simp-implicitDefEqProofs(disch:=try exact al)only[fS,fT,fU,fV,fW,fG,fq,fH,fr,fI,fs,fJ,ft,fK,fu,fL,fv,fw,fM,fx,fN,fy,fz,e5,e6,e7,e8,e9,fO,fP,fQ,fR,fp,reduceAdd,reduceLeDiff,reduceIte,ax,o,v];refine aN (oJ y [40] (by simp)) ?_;rintro _ B ⟨rfl,m2,z⟩;refine⟨m2.1,?_⟩;simp-implicitDefEqProofs(disch:=try exact al)only[fS,fT,fU,fV,fW,fG,fq,fH,fr,fI,fs,fJ,ft,fK,fu,fL,fv,fw,fM,fx,fN,fy,fz,e5,e6,e7,e8,e9,fO,fP,fQ,fR,fp,reduceAdd,reduceLeDiff,reduceIte,ax]
 refine aN (oG z [41] (by simp)) ?_;rintro _ E ⟨rfl,m3,A⟩;refine⟨m3.1,?_⟩;have k:=m3.get (m2.get q af) af;have m:=m3.get (m2.get w af) af;have L:=ae.aS k;have N:=ae.aS m;simp-implicitDefEqProofs(disch:=try exact al)only[fS,fT,fU,fV,fW,fG,fq,fH,fr,fI,fs,fJ,ft,fK,fu,fL,fv,fw,fM,fx,fN,fy,fz,e5,e6,e7,e8,e9,fO,fP,fQ,fR,fp,reduceAdd,reduceLeDiff,reduceIte,ax,k,m];exact bb.2 (dB.box (a:={kind:=11,pos:=(au T s.at_).pos}) (kv:= .ar) (lo:=H0.next+1) c ((p.trans m2).trans m3) A.rd (bk _) (Nat.lt_succ_self _) (b8.nil _ _) _)
def G3{n:Nat}(Q:mh n){H0 H:ae}{r:Nat}{T:List Tok}{ao:aa}{s:aw}(d:bI H0 r T ao s)(i:aO H0 H)(m:H.get H0.next=D (.row U 11 [[I J 0,I J 0,Y [],Y [],I J 0,.ar,I J 0,I J 0,I J 0,I J 0,I J 0]])){b:Nat}(V:H0.next<b)(e:H.get b=D (.row U 4 [[I J (au T s.at_).kind,Y (au T s.at_).text,I J (au T s.at_).n,I J (au T s.at_).pos]])){j:aL}{s':aw}(h:((gT T n (aD s)).bind λp=>D (aL.mk {kind:=10,pos:=(au T s.at_).pos} [p.1],p.2))=D (j,s')):
  W (fW (aC P az) (.ptr r 0 0) H (.ptr b 0 0) (.ptr H0.next 0 0)) (dB H0 r T ao j s'):=by
 have ab:=d.rd.lt;have G:=d.bx.one;have M:=d.aM i;have hle:=i.1;have ah:=ae.aS e;have ad:=ae.aS m;have c:=M.rd;have w:=c;unfold bw at w;have aj:=c.lt;obtain⟨m1,F⟩:=eO c (aD s);have y:=(i.mut (· =r)).trans m1;have N:=d.mut y F;have E:=m1.get m af;have L:=m1.get e af;simp only[cR]at h;obtain⟨⟨A,s1⟩,B,k⟩:=h;simp only[aU,bY]at k;obtain⟨rfl,rfl⟩:=k;simp-implicitDefEqProofs(disch:=try exact al)only[fS,fT,fU,fV,fW,fG,fq,fH,fr,fI,fs,fJ,ft,fK,fu,fL,fv,fw,fM,fx,fN,fy,fz,e5,e6,e7,e8,e9,fO,fP,fQ,fR,fp,reduceAdd,reduceLeDiff,reduceIte,ax,w,G];refine aN (Q N A s1 B) ?_;rintro v z ⟨m2,O,q⟩;refine⟨m2.1,?_⟩;have o:=m2.get E af
 have u:=m2.get L af;have ag:=ae.aS o;have ai:=ae.aS u;have ak:=m1.1;have am:=m2.1;obtain⟨cs,rfl,hlen,K⟩:=q.cells;have an:List.take 11 cs=cs:=List.take_of_length_le af;have aB:∀l,bV P l 41 1 [(0,.agg cs)]=D (.aA l 0 1 11 (D 1),.row U 11 [cs]):=λl=>jh l cs hlen K
 have R:=y.trans m2;have x:=O.rd;unfold bw at x;have c:=x;simp-implicitDefEqProofs(disch:=try exact al)only[fS,fT,fU,fV,fW,fG,fq,fH,fr,fI,fs,fJ,ft,fK,fu,fL,fv,fw,fM,fx,fN,fy,fz,e5,e6,e7,e8,e9,fO,fP,fQ,fR,fp,reduceAdd,reduceLeDiff,reduceIte,ax,aB,o,u,e];refine bb.2 ?_;refine jY.fin (ok:=bg H0.next) (a:={kind:=10,pos:=(au T s.at_).pos}) (kv:= .aA z.next 0 1 11 (D 1)) (s':=s1) d ?_ ?_ (b8.mO (ro:=false) ?_ (by unfold bg;omega) (q.new ?_ λl h=>by unfold bg;omega))
 ·(repeat (first|exact R|refine cP.bt ?_ _|refine cP.cw (S:=(· =r)) ?_ (.inl rfl) _|refine cP.cw ?_ (.inr (by(first|omega|(simp only[ae.bT,ae.dj];omega)))) _))
 ·(unfold bw;simp-implicitDefEqProofs(disch:=try exact al)only[dq,c,aD,eo,eU])
 ·simp-implicitDefEqProofs(disch:=try exact al)only[dq]
 ·exact cP.cw (S:=λl=>l<_) ((cP.refl _ _).bt _) (.inl af) _
def G9{n:Nat}(ab:pw n)(O:mh n)(V:pr n){H0 H:ae}{r:Nat}{T:List Tok}{ao:aa}{s:aw}(a:bI H0 r T ao s)(d:aO H0 H)(R:H.get H0.next=D (.row U 11 [[I J 0,I J 0,Y [],Y [],I J 0,.ar,I J 0,I J 0,I J 0,I J 0,I J 0]])){b:Nat}(c:H0.next<b)(S:H.get b=D (.row U 4 [[I J (au T s.at_).kind,Y (au T s.at_).text,I J (au T s.at_).n,I J (au T s.at_).pos]])){q:aL}{s':aw}(h:(bif a1 T s [110,117,108,108]then D (.mk {kind:=3,cf:=(cM T (aD s)).1.1,c4:=(cM T (aD s)).1.2,pos:=(au T s.at_).pos} [],(cM T (aD s)).2)else(bif a1 T s [110,101,119]then j5 T n (au T s.at_).pos (aD s)else(bif a1 T s [108,101,110]then(gT T n (aD s)).bind λp=>D (.mk {kind:=10,pos:=(au T s.at_).pos} [p.1],p.2)else(bif a1 T s [114,101,97,100]then D (.mk {kind:=11,pos:=(au T s.at_).pos} [],dn T [41] (cN T [40] (aD s)))else(bif a1 T s [40]then gT T n s else(bif a1 T (bu T s).2 [40]then(h1 T n (bu T s).2).bind λp=>D (.mk {kind:=7,name:=(bu T s).1,pos:=(au T s.at_).pos} p.1,p.2)else D (.mk {kind:=4,name:=(bu T s).1,pos:=(au T s.at_).pos} [],(bu T s).2)))))))=D (q,s')):
  W (fw (aC P az) H (.ptr r 0 0) (.ptr b 0 0) (.ptr H0.next 0 0)) (dB H0 r T ao q s'):=by
 have aj:=a.aM d;rw[fw];refine aN (dk (a.rd.aM d) (a.bx.aM d) [110,117,108,108] (by simp)) ?_;rintro _ ad ⟨rfl,f_⟩;refine⟨f_.1,?_⟩;have e:=d.trans f_;have z:=f_.get R;have G:=f_.get S;cases u:a1 T s [110,117,108,108]with
 |true=>
  simp only[u,aY]at h;simp-implicitDefEqProofs(disch:=try exact al)only[fv,ek,aY];exact G6 a e z c G h
 |false=>
  simp only[u,aT]at h;simp-implicitDefEqProofs(disch:=try exact al)only[fv,ek,aT];rw[fL];refine aN (dk (a.rd.aM e) (a.bx.aM e) [110,101,119] (by simp)) ?_;rintro _ af ⟨rfl,aZ⟩;refine⟨aZ.1,?_⟩;have i:=e.trans aZ;have A:=aZ.get z;have K:=aZ.get G;cases v:a1 T s [110,101,119]with
  |true=>
   simp only[v,aY]at h;simp-implicitDefEqProofs(disch:=try exact al)only[fu,ek,aY];exact G5 ab a i A c K h
  |false=>
   simp only[v,aT]at h;simp-implicitDefEqProofs(disch:=try exact al)only[fu,ek,aT];rw[fK];refine aN (dk (a.rd.aM i) (a.bx.aM i) [108,101,110] (by simp)) ?_;rintro _ ag ⟨rfl,l⟩;refine⟨l.1,?_⟩;have j:=i.trans l;have B:=l.get A;have L:=l.get K;cases w:a1 T s [108,101,110]with
   |true=>
    simp only[w,aY]at h;simp-implicitDefEqProofs(disch:=try exact al)only[ft,ek,aY];exact G3 O a j B c L h
   |false=>
    simp only[w,aT]at h;simp-implicitDefEqProofs(disch:=try exact al)only[ft,ek,aT];rw[fJ];refine aN (dk (a.rd.aM j) (a.bx.aM j) [114,101,97,100] (by simp)) ?_;rintro _ ah ⟨rfl,m⟩;refine⟨m.1,?_⟩;have k:=j.trans m;have E:=m.get B;have M:=m.get L;cases x:a1 T s [114,101,97,100]with
    |true=>
     simp only[x,aY]at h;simp-implicitDefEqProofs(disch:=try exact al)only[fs,ek,aY];exact G8 a k E c M h
    |false=>
     simp only[x,aT]at h;simp-implicitDefEqProofs(disch:=try exact al)only[fs,ek,aT];rw[fI];refine aN (dk (a.rd.aM k) (a.bx.aM k) [40] (by simp)) ?_;rintro _ ai ⟨rfl,o⟩;refine⟨o.1,?_⟩;have Q:=k.trans o;have F:=o.get E;have N:=o.get M;cases y:a1 T s [40]with
     |true=>
      simp only[y,aY]at h;simp-implicitDefEqProofs(disch:=try exact al)only[fr,ek,aY];exact first_par O a Q F c N h
     |false=>
      simp only[y,aT]at h;simp-implicitDefEqProofs(disch:=try exact al)only[fr,ek,aT];rw[fH];exact G4 V a Q F c N h
def G_{n:Nat}(M:pw n)(N:mh n)(L:pr n):tb (n+1):=by
 intro H r T ao s a e s' h;refine cz (λ_=>Kc 0) ?_;have S:=a.rd.lt;simp only[hJ]at h;have o:=aO.push H (.row U 11 [[I J 0,I J 0,Y [],Y [],I J 0,.ar,I J 0,I J 0,I J 0,I J 0,I J 0]]);simp-implicitDefEqProofs(disch:=try exact al)only[fp,fR,reduceAdd,reduceLeDiff,reduceIte,ax];refine aN (hv (a.rd.aM o) (a.bx.aM o)) ?_;rintro _ l ⟨rfl,p⟩;refine⟨p.1,?_⟩;have G:=p.get (ae.bC H _);have V:=ae.aS G;simp-implicitDefEqProofs(disch:=try exact al)only[fQ,fP,reduceAdd,reduceLeDiff,reduceIte,ax,Tok.v];have F:=p.bt (.row U 4 [[I J (au T s.at_).kind,Y (au T s.at_).text,I J (au T s.at_).n,I J (au T s.at_).pos]])
 have z:=ae.bC l (.row U 4 [[I J (au T s.at_).kind,Y (au T s.at_).text,I J (au T s.at_).n,I J (au T s.at_).pos]]);have w:=F.get (ae.bC H _);have c:=o.trans F;rw[fO];refine aN (jJ (a.rd.aM c)) ?_;rintro _ O ⟨rfl,rfl⟩;refine⟨bk _,?_⟩;have rest:(s.aF==0&&(au T s.at_).kind==2)=U->W (fz (aC P az) (l.push (.row U 4 [[I J (au T s.at_).kind,Y (au T s.at_).text,I J (au T s.at_).n,I J (au T s.at_).pos]])) (.ptr r 0 0) (.ptr H.next 0 0) (.ptr l.next 0 0)) (dB H r T ao e s'):=by
  intro K;simp only[K,aT]at h;rw[fz];refine aN (dk (a.rd.aM c) (a.bx.aM c) [116,114,117,101] (by simp)) ?_;rintro _ Q ⟨rfl,j⟩;refine⟨j.1,?_⟩;have i:=c.trans j;have x:=j.get w;have A:=j.get z;cases q:a1 T s [116,114,117,101]with
  |true=>
   simp only[q,Bool.true_or,aY]at h;simp-implicitDefEqProofs(disch:=try exact al)only[fy,fM,l9,ek,aY];exact zq a i x af A h
  |false=>
   simp only[q,Bool.false_or]at h;simp-implicitDefEqProofs(disch:=try exact al)only[fy,fN,ek,aT];refine aN (dk (a.rd.aM i) (a.bx.aM i) [102,97,108,115,101] (by simp)) ?_;rintro _ R ⟨rfl,k⟩;refine⟨k.1,?_⟩;have E:=i.trans k;have y:=k.get x;have B:=k.get A;cases u:a1 T s [102,97,108,115,101]with
   |true=>
    simp only[u,aY]at h;simp-implicitDefEqProofs(disch:=try exact al)only[fx,l9,ek,aY];exact zq a E y af B h
   |false=>
    simp only[u,aT]at h;simp-implicitDefEqProofs(disch:=try exact al)only[fx,l9,ek,aT];exact G9 M N L a E y af B h
 cases m:s.aF==0 with
 |false=>
  simp-implicitDefEqProofs(disch:=try exact al)only[e9,e8,e7,e6,e5,reduceAdd,reduceLeDiff,reduceIte,ax];exact rest (by simp[m])
 |true=>
  cases d:(au T s.at_).kind==2 with
  |true=>
   simp only[m,d,Bool.and_self,aY]at h;simp-implicitDefEqProofs(disch:=try exact al)only[e9,e8,e7,e6,e5,reduceAdd,reduceLeDiff,reduceIte,ax,d];exact G7 a c w af z h
  |false=>
   simp-implicitDefEqProofs(disch:=try exact al)only[e9,e8,e7,e6,e5,reduceAdd,reduceLeDiff,reduceIte,ax,d];exact rest (by simp[m,d])
def tz:∀n,n<=900000000->∀k,k<=n->E7 k
 |0,_,k,a=>by
  have:k=0:=af;subst this;exact⟨λ_ _ _ _ _ h=>by simp[dP]at h,λ_ _ _ h=>by simp[jl]at h,λ_ _ _ _ _ _ h=>by simp[fh]at h,λ_ _ _ h=>by simp[gT]at h,λ_ _ _ h=>by simp[hJ]at h,
   λ_ _ _ _ h=>by simp[j5]at h,λ_ _ _ h=>by simp[h1]at h⟩
 |n+1,d,k,a=>by
  have c:=tz n af;have i:=c n (bk _);rcases Nat.lt_or_ge k (n+1)with h|h
  ·exact c k af
  ·have:k=n+1:=af;subst this;exact⟨GS (λk a=>(c k a).expr) i.unary,ML (λk a=>(c k a).expr) i.first i.behind,Gk λk a=>(c k a).expr,HD i.expr,G_ i.fresh i.inner i.args,Hh i.inner,F9 af λk a=>(c k a).expr⟩
section
set_option maxRecDepth 100000
noncomputable section
end
end
mutual
def hE(B:Nat):aL->Prop
 | .mk _ ks=>ks.length<=B/\fC B ks
def fC(B:Nat):List aL->Prop
 |[]=>True
 |e::es=>hE B e/\fC B es
end
def b8.eb{H:ae}{ok:Nat->Prop}{ks:List aL}{kv:aa}(h:b8 H ok ks kv):kv.one=true:=by
 rcases h with⟨rfl,_⟩|⟨l,i,cap,ro,els,rfl,_⟩|⟨l,i,cap,rfl,_⟩<;>rfl
def b8.aM{H H':ae}{ok:Nat->Prop}{ks:List aL}{kv:aa}(h:b8 H ok ks kv)(p:aO H H'):b8 H' ok ks kv:=h.aX (c9.aM p λ_ h=>h)
def cu.aM{H H':ae}{ok:Nat->Prop}{e:aL}{v:aa}(h:cu H ok e v)(p:aO H H'):cu H' ok e v:=cu.aX (c9.aM p λ_ h=>h) e v h
def dd.cons{H:ae}{ok:Nat->Prop}{e:aL}{es:List aL}{els:List (List aa)}{k:Nat}(h:dd H ok (e::es) (els.drop k)):∃cs,els[k]? =D cs/\cu H ok e (.agg cs)/\dd H ok es (els.drop (k+1)):=by
 cases a:els.drop k with
 |nil=>rw[a,dd]at h;exact h.elim
 |cons cs css=>
  rw[a,dd]at h;have c:els[k]? =D cs:=by
   have:=List.getElem?_drop (xs:=els) (i:=k) (j:=0);rw[a]at this;simpa using this.symm
  have d:els.drop (k+1)=css:=by
   have:(els.drop k).drop 1=css:=by rw[a];rfl
   rwa[List.drop_drop]at this
  exact⟨cs,c,h.1,by rw[d];exact h.2⟩
section
set_option maxRecDepth 100000
noncomputable section
def lY(G:ay)(N:Nat)(ag a:aa)(H:ae):O:=j (aq P .lss 3 X ag (I J 0)) λc=>aW (D c) (j (aq P .add 9 X (Y [45]) a) λd=>D (d,H)) (D (a,H))
def K_(G:ay)(N:Nat):∀ad H,bo P G N (ak (ak (ak (ak (bs Tryd.f48))))) (bh Tryd.f48) [] (bh Tryd.f48) ad H=lY G N (ad 0) (ad 3) H:=by
 refine bK (aH _) λad H=> ?_
 delta lY;kernel_rfl
def nq(G:ay)(N:Nat)(a:aa->aa->aa->ae->O)(ag d e:aa)(H:ae):O:=j (aq P .quo 3 X e (I J 10)) λc=>a ag d c H
def La(G:ay)(N:Nat)(a:aa->aa->aa->ae->O):∀ad H,bo P G N (ak (ak (a6 (a6 (ak (a6 (ak (ak (ak (bs Tryd.f48)))))))))) (λad H=>a (ad 0) (ad 3) (ad 4) H) [(0,(λad H=>lY G N (ad 0) (ad 3) H))] (bh Tryd.f48) ad H=nq G N a (ad 0) (ad 3) (ad 4) H:=by
 refine bK (aH _) λad H=> ?_
 delta nq;kernel_rfl
def oZ(G:ay)(N:Nat)(c:aa->aa->aa->ae->O)(ag l:aa)(m n:aa)(H:ae):O:=j (aq P .add 3 X (I J 48) n) λd=>pk P 3 5 d H λe=>bS H (bV P (H).next 77 1 [(0,e)]) λh a=>pk P 77 9 h a λi=>j (aq P .add 9 U i l) λk=>nq G N c ag k m a
def Lb(G:ay)(N:Nat)(a:aa->aa->aa->ae->O):∀ad H,bo P G N (ak (ak (a6 (a6 (ak (a6 (a6 (ak (a6 (ak (ak (ak (bs Tryd.f48))))))))))))) (λad H=>nq G N a (ad 0) (ad 3) (ad 4) H) [(1,(λad H=>nq G N a (ad 0) (ad 3) (ad 4) H)),(0,(λad H=>lY G N (ad 0) (ad 3) H))] (bh Tryd.f48) ad H=oZ G N a (ad 0) (ad 3) (ad 4) (ad 5) H:=by
 refine bK (aH _) λad H=> ?_
 delta oZ;generalize nq G N a=c;revert c;refine id ?_;intro c;kernel_rfl
def qN(G:ay)(N:Nat)(e:aa->aa->aa->ae->O)(ag d a:aa)(H:ae):O:=j (aq P .neq 3 X a (I J 0)) λh=>aW (D h) (j (aq P .rem 3 X a (I J 10)) λc=>j (aq P .lss 3 X c (I J 0)) λbz=>aW (D bz) (j (aq P .sub 3 X (I J 0) c) λi=>oZ G N e ag d a i H) (oZ G N e ag d a c H)) (lY G N ag d H)
def lZ(G:ay)(N:Nat):Nat->aa->aa->aa->ae->O
 |0,_,_,_,_=>Z
 |n+1,ag,a,c,H=>qN G N (lZ G N n) ag a c H
def K9(G:ay)(N:Nat)(a:aa->aa->aa->ae->O):∀ad H,bo P G N (a6 (a6 (ak (a6 (ak (ak (ak (bs Tryd.f48)))))))) (λad H=>a (ad 0) (ad 3) (ad 4) H) [(0,(λad H=>lY G N (ad 0) (ad 3) H))] (bh Tryd.f48) ad H=qN G N a (ad 0) (ad 3) (ad 4) H:=by
 refine bK ((aP ah ((aP ah (La G N a) ((dc ah ((aP ah ((aP ah (Lb G N a) (aH _))) (aH _))))))) (aH _))) λad H=> ?_
 delta qN;generalize lY G N=c;generalize oZ G N a=d;revert c d;refine id ?_;intro c d;kernel_rfl
def sA(G:ay)(N:Nat)(ag:aa)(H:ae):O:=j (aq P .eql 3 X ag (I J 0)) λa=>aW (D a) (D ((Y [48]),H)) (lZ G N N ag (Y []) ag H)
def JP(N:Nat){ag:aa}{H:ae}{r:aa×ae}(h:sA (aC P az) N ag H=D r):aC P az 48 [ag] H=D r:=cO N (S:=λG=>sA G N ag H) Tryd.func48 (λG=>dN ((aP ah ((aP ah ((aP ah ((aP ah (K_ G N) ((aP ah ((dc ah ((ei (k:=λm ad H=>lZ G N m (ad 0) (ad 3) (ad 4) H) ah (λad H=>ah) (λm=>K9 G N (lZ G N m)))))) (aH _))))) (aH _))) (aH _))) (aH _))) (by delta sA;generalize lZ G N N=a;revert a;refine id ?_;intro a;kernel_rfl)) h
def iK(G:ay)(H:ae):O:=some ((I J 7),H)
def Lc(G:ay)(N:Nat):∀ad H,bo P G N (ak (ak (bs Tryd.f50))) (bh Tryd.f50) [] (bh Tryd.f50) ad H=iK G H:=by
 refine bK (aH _) λad H=> ?_
 delta iK;kernel_rfl
def o1(G:ay)(a:aa)(H:ae):O:=aW (D a) (D ((I J 6),H)) (iK G H)
def Lg(G:ay)(N:Nat):∀ad H,bo P G N (ak (ak (ak (ak (ak (ak (ak (ak (ak (ak (ak (a6 (ak (a6 (ak (bs Tryd.f50)))))))))))))))) (λad H=>iK G H) [(0,(λad H=>iK G H))] (bh Tryd.f50) ad H=o1 G (ad 21) H:=by
 refine bK (aH _) λad H=> ?_
 delta o1;generalize iK G=a;revert a;refine id ?_;intro a;kernel_rfl
def nr(G:ay)(c d:aa)(H:ae):O:=aW (D d) (D ((I J 5),H)) (j (aq P .eql 3 X c (I J 12)) λa=>aW (D a) (o1 G a H) (j (aq P .eql 3 X c (I J 13)) λe=>o1 G e H))
def Lf(G:ay)(N:Nat):∀ad H,bo P G N (ak (ak (ak (ak (ak (ak (ak (ak (ak (a6 (ak (a6 (ak (bs Tryd.f50)))))))))))))) (λad H=>iK G H) [(0,(λad H=>iK G H))] (bh Tryd.f50) ad H=nr G (ad 4) (ad 17) H:=by
 refine bK ((dt ah (aH _) ((aP ah (Lg G N) (aH _))))) λad H=> ?_
 delta nr;generalize o1 G=a;revert a;refine id ?_;intro a;kernel_rfl
def o0(G:ay)(a e:aa)(H:ae):O:=aW (D e) (D ((I J 4),H)) (j (aq P .eql 3 X a (I J 16)) λc=>aW (D c) (nr G a c H) (j (aq P .eql 3 X a (I J 17)) λd=>aW (D d) (nr G a d H) (j (aq P .eql 3 X a (I J 18)) λh=>nr G a h H)))
def Le(G:ay)(N:Nat):∀ad H,bo P G N (ak (ak (ak (ak (ak (ak (ak (a6 (ak (a6 (ak (bs Tryd.f50)))))))))))) (λad H=>iK G H) [(0,(λad H=>iK G H))] (bh Tryd.f50) ad H=o0 G (ad 4) (ad 14) H:=by
 refine bK ((dt ah (aH _) ((aP ah (Lf G N) (aH _))))) λad H=> ?_
 delta o0;generalize nr G=a;revert a;refine id ?_;intro a;kernel_rfl
def l0(G:ay)(a d:aa)(H:ae):O:=aW (D d) (D ((I J 3),H)) (j (aq P .eql 3 X a (I J 14)) λc=>aW (D c) (o0 G a c H) (j (aq P .eql 3 X a (I J 15)) λbz=>o0 G a bz H))
def Ld(G:ay)(N:Nat):∀ad H,bo P G N (ak (ak (ak (ak (ak (a6 (ak (a6 (ak (bs Tryd.f50)))))))))) (λad H=>iK G H) [(0,(λad H=>iK G H))] (bh Tryd.f50) ad H=l0 G (ad 4) (ad 9) H:=by
 refine bK ((dt ah (aH _) ((aP ah (Le G N) (aH _))))) λad H=> ?_
 delta l0;generalize o0 G=a;revert a;refine id ?_;intro a;kernel_rfl
def sC(G:ay)(ag:aa)(H:ae):O:=bS H (dS (H).next ag) λav c=>j (aK P 45 av 0) λk=>j (an P c 3 k) λa=>j (aq P .eql 3 X a (I J 24)) λbp=>aW (D bp) (D ((I J 1),c)) (j (aq P .eql 3 X a (I J 23)) λl=>aW (D l) (D ((I J 2),c)) (j (aq P .eql 3 X a (I J 19)) λd=>aW (D d) (l0 G a d c) (j (aq P .eql 3 X a (I J 20)) λe=>aW (D e) (l0 G a e c) (j (aq P .eql 3 X a (I J 21)) λh=>aW (D h) (l0 G a h c) (j (aq P .eql 3 X a (I J 22)) λi=>l0 G a i c)))))
def JR(N:Nat){ag:aa}{H:ae}{r:aa×ae}(h:sC (aC P az) ag H=D r):aC P az 50 [ag] H=D r:=cO N (S:=λG=>sC G ag H) Tryd.func50 (λG=>dN ((aP ah ((aP ah (Lc G N) ((aP ah ((dc ah ((aP ah ((dt ah (aH _) ((aP ah ((dt ah (aH _) ((aP ah (Ld G N) (aH _))))) (aH _))))) (aH _))))) (aH _))))) (aH _))) (by delta sC;generalize l0 G=a;revert a;refine id ?_;intro a;kernel_rfl)) h
def sD(G:ay)(ag:aa)(H:ae):O:=bS H (D (.aA (H).next 0 11 1 (D 11),.row U 1 [[Y [43]],[Y [45]],[Y [42]],[Y [47]],[Y [37]],[Y [60]],[Y [60,61]],[Y [61,61]],[Y [33,61]],[Y [38,38]],[Y [124,124]]])) λc a=>j (aq P .sub 3 X ag (I J 14)) λd=>j (cc P 50 c d) λe=>j (an P a 9 e) λh=>D (h,a)
def JS(N:Nat){ag:aa}{H:ae}{r:aa×ae}(h:sD (aC P az) ag H=D r):aC P az 51 [ag] H=D r:=cO N (S:=λG=>sD G ag H) Tryd.func51 (λ_=>by delta sD;kernel_rfl) h
def oS(G:ay)(N:Nat)(a:aa)(H:ae):O:=some (a,H)
def KU(G:ay)(N:Nat):∀ad H,bo P G N (ak (ak (ak (bs Tryd.f34)))) (bh Tryd.f34) [] (bh Tryd.f34) ad H=oS G N (ad 3) H:=by
 refine bK (aH _) λad H=> ?_
 delta oS;kernel_rfl
def qK(G:ay)(N:Nat)(d:aa->aa->aa->ae->O)(av a c:aa)(H:ae):O:=j (aK P 40 av 1) λl=>j (an P H 3 l) λm=>j (aq P .lss 3 U c m) λe=>aW (D e) (j (aq P .add 9 X (Y [91]) a) λi=>j (aq P .add 9 X i (Y [93])) λk=>j (aq P .add 3 X c (I J 1)) λh=>d av k h H) (oS G N a H)
def lW(G:ay)(N:Nat):Nat->aa->aa->aa->ae->O
 |0,_,_,_,_=>Z
 |n+1,av,a,c,H=>qK G N (lW G N n) av a c H
def KT(G:ay)(N:Nat)(c:aa->aa->aa->ae->O):∀ad H,bo P G N (a6 (a6 (ak (a6 (ak (ak (bs Tryd.f34))))))) (λad H=>c (ad 1) (ad 3) (ad 4) H) [(0,(λad H=>oS G N (ad 3) H))] (bh Tryd.f34) ad H=qK G N c (ad 1) (ad 3) (ad 4) H:=by
 refine bK (aH _) λad H=> ?_
 delta qK;generalize oS G N=a;revert a;refine id ?_;intro a;kernel_rfl
def sw(G:ay)(N:Nat)(ag:aa)(H:ae):O:=bS H (dS (H).next ag) λav a=>j (aK P 40 av 0) λc=>j (an P a 9 c) λbp=>lW G N N av bp (I J 0) a
def JH(N:Nat){ag:aa}{H:ae}{r:aa×ae}(h:sw (aC P az) N ag H=D r):aC P az 34 [ag] H=D r:=cO N (S:=λG=>sw G N ag H) Tryd.func34 (λG=>dN ((aP ah ((aP ah ((aP ah (KU G N) ((aP ah ((dc ah ((ei (k:=λm ad H=>lW G N m (ad 1) (ad 3) (ad 4) H) ah (λad H=>ah) (λm=>KT G N (lW G N m)))))) (aH _))))) (aH _))) (aH _))) (by delta sw;generalize lW G N N=a;revert a;refine id ?_;intro a;kernel_rfl)) h
end
end
def GG(n:Int):lu P 3 5 (I J n)=D (I .u8 (IntKind.u8.wrap n)):=ah
def GI(l i n e:Nat)(c:Option Nat):lu P 77 9 (.aA l i n e c)=none:=ah
def Mg(l:Nat)(k:Int):bV P l 77 1 [(0,I .u8 k)]=D (.aA l 0 1 1 (D 1),.row U 1 [[I .u8 k]]):=ah
def MG:P.underlying 77=D (.slice 5):=ah
def MF:P.underlying 5=D (.int .u8):=ah
def MH:P.underlying 9=D .string:=ah
def Gr{H:ae}{L:Nat}{k:Int}{cap:Option Nat}{ro:Bool}(a:H.get L=D (.row ro 1 [[I .u8 k]])):ml P H 77 9 (.aA L 0 1 1 cap)=D (Y [UInt8.ofNat k.toNat]):=by
 simp[ml,MG,MF,MH,er,a,bytesOf,Go.b9.byteOf]
def I1(m:Nat):aq P .quo 3 X (I J (m:Int)) (I J 10)=D (I J (IntKind.i64.wrap ((m:Int).tdiv 10))):=by simp[aq,hj]
def Jb(m:Nat):aq P .rem 3 X (I J (m:Int)) (I J 10)=D (I J ((m:Int).tmod 10)):=by simp[aq,hj]
def D1{N:Nat}{n:Int}(o:0<=n){H0:ae}:∀(f m k:Nat) (acc:aJ) (H:ae),m≠0->m<10^f->m<=9223372036854775807->acc.length+f<=100->f<k->aO H0 H->
  W (lZ (aC P az) N k (I J n) (Y acc) (I J m) H) λv H'=>v= Y (iV f m acc)/\aO H0 H'
 |0,m,_,_,_,j,c,_,_,_,_=>by simp at c;omega
 |_,_,0,_,_,_,_,_,_,h,_=>af
 |f+1,m,k+1,acc,H,j,c,x,y,z,pp=>by
  have e:((m:Int) != 0)=true:=by simp;omega
  have s:(m:Int).tmod 10=((m%10:Nat):Int):=rfl;have aZ:(m:Int).tdiv 10=((m/10:Nat):Int):=rfl;have w0:IntKind.i64.wrap ((m/10:Nat):Int)=((m/10:Nat):Int):=wrap_i64 af af;have u:IntKind.i64.wrap ((48:Int)+((m%10:Nat):Int))=((48+m%10:Nat):Int):=by rw[wrap_i64 af af];omega
  have w:IntKind.u8.wrap ((48+m%10:Nat):Int)=((48+m%10:Nat):Int):=by show((48+m%10:Nat):Int)%256=_;omega
  have d0:¬(((m%10:Nat):Int)<0):=af;have l:=ae.bC H (.row U 1 [[I .u8 ((48+m%10:Nat):Int)]]);have d:=Gr (cap:=some 1) l;rw[Int.toNat_natCast]at d;have i:aq P .add 9 U (Y [UInt8.ofNat (48+m%10)]) (Y acc)=D (Y (UInt8.ofNat (48+m%10)::acc)):=jy _ _ _ _ (by simp only[List.length_cons,List.length_nil];omega);simp-implicitDefEqProofs(disch:=try exact al)only[lZ,qN,oZ,nq,bf,br,c5,e,Jb,I1,s,aZ,w0,u,w,d0,decide_false,pk,GG,Mg,GI,d,i];rw[iV];by_cases a:m/10=0
  ·rw[if_pos a,a];have q:(((0:Nat):Int) != 0)=false:=rfl;have p:¬n<0:=af;cases k with
   |zero=>omega
   |succ k=>
    simp-implicitDefEqProofs(disch:=try exact al)only[lZ,qN,lY,bf,br,c5,q,p,decide_false];exact bb.2 ⟨rfl,pp.bt _⟩
  ·rw[if_neg a];exact D1 o f (m/10) k _ _ a (by rw[Nat.pow_succ]at c;omega) af (by simp only[List.length_cons];omega) af (pp.bt _)
def Mx{H:ae}{n:Int}(c:0<=n)(e:n<=9223372036854775807):W (aC P az 48 [I J n] H) λv H'=>v= Y (iV 20 n.toNat [])/\aO H H':=by
 refine cz (λ_=>JP 30) ?_;rw[sA];by_cases a:n=0
 ·subst a;simp-implicitDefEqProofs(disch:=try exact al)only[reduceAdd,reduceLeDiff,reduceIte,ax,beq_self_eq_true];exact bb.2 ⟨rfl,.refl _⟩
 ·have d:(n==0)=false:=by simpa using a
  simp-implicitDefEqProofs(disch:=try exact al)only[reduceAdd,reduceLeDiff,reduceIte,ax,d];have:=D1 (N:=30) c (H0:=H) 20 n.toNat 30 [] H af (by have:=Ck;omega) af (by simp) af (.refl _);rw[show((n.toNat:Nat):Int)=n by omega]at this;exact this
def At(x:aJ)(n:Nat)(l:List bN):flat (rep n (bQ x)++l)=(List.replicate n x).flatten++flat l:=by
 induction n with
 |zero=>rfl
 |succ n a=>unfold rep at a ⊢;rw[List.replicate_succ,List.cons_append,flat,a,List.replicate_succ,List.flatten_cons,List.append_assoc];rfl
def gM(x:aJ)(n:Nat):aJ:=(List.replicate n [91]).flatten++(x++(List.replicate n [93]).flatten)
def Hd(x:aJ)(l:List bN):flat (q0 x::l)=x++flat l:=by
 unfold q0;cases jn x<;>rfl
def cY:flat []=[]:=rfl
def ud(x:aJ)(z:Int):flat (cX x z)=gM x z.toNat:=by
 unfold cX gM;rw[At,Hd];have:=At [93] z.toNat [];rw[List.append_nil,cY,List.append_nil]at this;rw[this]
def ME(x:aJ)(n:Nat):gM x (n+1)=[91]++gM x n++[93]:=by
 have e:∀n,(List.replicate (n+1) ([93]:aJ)).flatten=(List.replicate n ([93]:aJ)).flatten++[93]:=by
  intro n;rw[List.replicate_succ'];simp
 unfold gM;rw[e,List.replicate_succ,List.flatten_cons];simp only[List.append_assoc]
def MD(x:aJ)(n:Nat):(gM x n).length=2*n+x.length:=by
 unfold gM;simp;omega
def Ey{N:Nat}{H:ae}{l:Nat}{x:aJ}{z:Int}(d:H.get l=D (.row U 2 [[Y x,I J z]]))(n:x.length<=100)(o:z<=100):∀(c j k:Nat),((j+c:Nat):Int)=z->c<k->
  W (lW (aC P az) N k (.ptr l 0 0) (Y (gM x j)) (I J j) H) λv H'=>v= Y (gM x z.toNat)/\H'=H
 |_,_,0,_,h=>af
 |0,j,k+1,m,_=>by
  have a:¬((j:Int)<z):=af;simp-implicitDefEqProofs(disch:=try exact al)only[lW,qK,oS,reduceAdd,reduceLeDiff,reduceIte,ax,d,a,decide_false];exact bb.2 ⟨by rw[show z.toNat=j by omega],rfl⟩
 |c+1,j,k+1,m,q=>by
  have a:(j:Int)<z:=af;have s:=MD x j;have e:aq P .add 9 X (Y [91]) (Y (gM x j))=D (Y (91::gM x j)):=jy _ _ _ _ (by simp only[List.length_cons,List.length_nil];omega);have i:aq P .add 9 X (Y (91::gM x j)) (Y [93])=D (Y (gM x (j+1))):=by
   rw[ME];exact jy _ _ (91::gM x j) [93] (by simp only[List.length_append,List.length_cons,List.length_nil];omega)
  have p:IntKind.i64.wrap ((j:Int)+1)=((j+1:Nat):Int):=by rw[wrap_i64 af af];omega
  simp-implicitDefEqProofs(disch:=try exact al)only[lW,qK,bf,br,c5,dR,an,cD,Nat.reduceAdd,Nat.reduceLeDiff,reduceIte,aa.cells,cI,dA,d,a,decide_true,e,i,p];exact Ey d n o c (j+1) k af af
def Ex{H:ae}{x:aJ}{z:Int}(i:0<=z)(a:z<=100)(d:x.length<=100):W (aC P az 34 [.agg [Y x,I J z]] H) λv H'=>v= Y (flat (cX x z))/\aO H H':=by
 refine cz (λ_=>JH 200) ?_;have c:∀l,dS l (.agg [Y x,I J z])=D (.ptr l 0 0,.row U 2 [[Y x,I J z]]):=λl=>hh l _ rfl
 rw[sw,ud];simp-implicitDefEqProofs(disch:=try exact al)only[reduceAdd,reduceLeDiff,reduceIte,ax,c];have h:=Ey (N:=200) (ae.bC H (.row U 2 [[Y x,I J z]])) d a z.toNat 0 200 af af;have e:gM x 0=x:=by simp[gM]
 rw[e]at h;refine h.mono ?_;rintro v _ ⟨rfl,rfl⟩;exact⟨rfl,aO.push _ _⟩
def BJ{H:ae}{a:bM}{kv:aa}(q:kv.one=X):W (aC P az 50 [.agg (a.cells kv)] H) λv H'=>v= I J (c6 a.kind)/\aO H H':=by
 refine cz (λ_=>JR 0) ?_;have e:∀l,dS l (.agg (a.cells kv))=D (.ptr l 0 0,.row U 11 [a.cells kv]):=λl=>hh l _ (by simp only[bM.cells,List.all_cons,List.all_nil,gH,hq,q,Bool.and_self])
 have pp:=aO.push H (.row U 11 [a.cells kv]);simp only[bM.cells]at e pp ⊢;generalize a.kind=k at e pp ⊢;unfold sC l0 o0 nr o1 iK;simp-implicitDefEqProofs(disch:=try exact al)only[reduceAdd,reduceLeDiff,reduceIte,ax,e];unfold c6;have n:∀m:Int,k=m->(k==m)=true:=λm h=>by simpa using h
 have cq:∀m:Int,k≠m->(k==m)=false:=λm h=>by simpa using h
 by_cases c:k=24
 ·simp-implicitDefEqProofs(disch:=try exact al)only[bf,br,c5,n _ c];refine⟨_,_,rfl,?_,pp⟩;rw[if_pos c];rfl
 by_cases d:k=23
 ·simp-implicitDefEqProofs(disch:=try exact al)only[bf,br,c5,cq _ c,n _ d];refine⟨_,_,rfl,?_,pp⟩;rw[if_neg c,if_pos d];rfl
 by_cases p:19<=k/\k<=22
 ·have:k=19\/k=20\/k=21\/k=22:=af;rcases this with rfl|rfl|rfl|rfl<;>exact⟨_,_,rfl,rfl,pp⟩
 by_cases j:k=14\/k=15
 ·rcases j with rfl|rfl<;>exact⟨_,_,rfl,rfl,pp⟩
 by_cases o:16<=k/\k<=18
 ·have:k=16\/k=17\/k=18:=af;rcases this with rfl|rfl|rfl<;>exact⟨_,_,rfl,rfl,pp⟩
 by_cases i:k=12\/k=13
 ·rcases i with rfl|rfl<;>exact⟨_,_,rfl,rfl,pp⟩
 ·simp-implicitDefEqProofs(disch:=try exact al)only[bf,br,c5,cq 24 af,cq 23 af,cq 19 af,cq 20 af,cq 21 af,cq 22 af,cq 14 af,cq 15 af,cq 16 af,cq 17 af,cq 18 af,cq 12 af,cq 13 af];refine⟨_,_,rfl,?_,pp⟩;rw[if_neg c,if_neg d,if_neg p,if_neg j,if_neg o,if_neg i];rfl
def L8{H:ae}{k:Int}(h:14<=k)(ba:k<=24):W (aC P az 51 [I J k] H) λv H'=>v= Y (gv k)/\aO H H':=by
 refine cz (λ_=>JS 0) ?_;have c:k=14\/k=15\/k=16\/k=17\/k=18\/k=19\/k=20\/k=21\/k=22\/k=23\/k=24:=af;rcases c with rfl|rfl|rfl|rfl|rfl|rfl|rfl|rfl|rfl|rfl|rfl<;>
 ·unfold sD;have w:∀a b:Int,0<=a-b->a-b<=100->IntKind.i64.wrap (a-b)=a-b:=λa b x y=>wrap_i64 x af
  simp-implicitDefEqProofs(disch:=try exact al)only[reduceAdd,reduceLeDiff,reduceIte,ax,w];exact bb.2 ⟨rfl,aO.push _ _⟩
section
set_option maxRecDepth 100000
noncomputable section
def sB(G:ay)(ag av:aa)(H:ae):O:=bS H (dS (H).next ag) λe c=>j (an P c 45 e) λn=>aI c (G 50 [n] c) λbp a=>j (aq P .lss 3 U bp av) λo=>aW (D o) (j (an P a 45 e) λp=>aI a (G 17 [p] a) λh d=>j (aq P .add 9 X (Y [40]) h) λi=>j (aq P .add 9 X i (Y [41])) λk=>D (k,d)) (j (an P a 45 e) λl=>aI a (G 17 [l] a) λm d=>D (m,d))
def JQ(N:Nat){ag av:aa}{H:ae}{r:aa×ae}(h:sB (aC P az) ag av H=D r):aC P az 49 [ag,av] H=D r:=cO N (S:=λG=>sB G ag av H) Tryd.func49 (λ_=>by delta sB;kernel_rfl) h
def kh(G:ay)(N:Nat)(av:aa)(H:ae):O:=j (an P H 45 av) λp=>aI H (G 50 [p] H) λn a=>j (aK P 45 av 4) λq=>j (an P a 41 q) λs=>j (cc P 41 s (I J 0)) λu=>j (an P a 45 u) λv=>aI a (G 49 [v,n] a) λw c=>j (aK P 45 av 0) λl=>j (an P c 3 l) λm=>aI c (G 51 [m] c) λy d=>j (aK P 45 av 4) λe=>j (an P d 41 e) λh=>j (cc P 41 h (I J 1)) λi=>j (an P d 45 i) λk=>j (aq P .add 3 X n (I J 1)) λB=>aI d (G 49 [k,B] d) λE o=>j (aq P .add 9 X w (Y [32])) λx=>j (aq P .add 9 U x y) λz=>j (aq P .add 9 X z (Y [32])) λA=>j (aq P .add 9 U A E) λF=>bif ((bj (an P a 3 l) m&&(bj (an P c 3 l) m&&X))&&((bj (an P a 41 e) h&&(bj (an P c 41 e) h&&(bj (an P d 41 e) h&&X)))&&((bj (an P a 45 i) k&&(bj (an P c 45 i) k&&(bj (an P d 45 i) k&&X)))&&X)))then(D (F,o))else Z
def KC(G:ay)(N:Nat):∀ad H,bo P G N (ak (ak (bs Tryd.f17))) (bh Tryd.f17) [] (bh Tryd.f17) ad H=kh G N (ad 1) H:=by
 refine bK (aH _) λad H=> ?_
 delta kh;kernel_rfl
def k0(G:ay)(N:Nat)(a:aa)(H:ae):O:=j (aq P .add 9 X a (Y [41])) λc=>D (c,H)
def KD(G:ay)(N:Nat):∀ad H,bo P G N (ak (ak (a6 (ak (ak (ak (ak (ak (ak (ak (ak (ak (ak (ak (ak (ak (a6 (ak (a6 (ak (bs Tryd.f17))))))))))))))))))))) (λad H=>kh G N (ad 1) H) [(0,(λad H=>kh G N (ad 1) H))] (bh Tryd.f17) ad H=k0 G N (ad 3) H:=by
 refine bK (aH _) λad H=> ?_
 delta k0;kernel_rfl
def na(G:ay)(N:Nat)(a:aa->aa->aa->ae->O)(av c d:aa)(H:ae):O:=j (aq P .add 3 X d (I J 1)) λe=>a av c e H
def KE(G:ay)(N:Nat)(a:aa->aa->aa->ae->O):∀ad H,bo P G N (ak (ak (a6 (a6 (ak (a6 (ak (a6 (ak (ak (ak (ak (ak (ak (ak (ak (ak (ak (ak (ak (ak (a6 (ak (a6 (ak (bs Tryd.f17)))))))))))))))))))))))))) (λad H=>a (ad 1) (ad 3) (ad 4) H) [(1,(λad H=>k0 G N (ad 3) H)),(0,(λad H=>kh G N (ad 1) H))] (bh Tryd.f17) ad H=na G N a (ad 1) (ad 3) (ad 4) H:=by
 refine bK (aH _) λad H=> ?_
 delta na;kernel_rfl
def nb(G:ay)(N:Nat)(c:aa->aa->aa->ae->O)(av e a:aa)(H:ae):O:=j (aK P 45 av 4) λh=>j (an P H 41 h) λi=>j (cc P 41 i a) λk=>j (an P H 45 k) λl=>aI H (G 17 [l] H) λm d=>j (aq P .add 9 U e m) λn=>na G N c av n a d
def KF(G:ay)(N:Nat)(a:aa->aa->aa->ae->O):∀ad H,bo P G N (ak (a6 (a6 (ak (a6 (a6 (ak (a6 (ak (a6 (ak (ak (ak (ak (ak (ak (ak (ak (ak (ak (ak (ak (ak (a6 (ak (a6 (ak (bs Tryd.f17)))))))))))))))))))))))))))) (λad H=>na G N a (ad 1) (ad 3) (ad 4) H) [(2,(λad H=>na G N a (ad 1) (ad 3) (ad 4) H)),(1,(λad H=>k0 G N (ad 3) H)),(0,(λad H=>kh G N (ad 1) H))] (bh Tryd.f17) ad H=nb G N a (ad 1) (ad 3) (ad 4) H:=by
 refine bK (aH _) λad H=> ?_
 delta nb;generalize na G N a=c;revert c;refine id ?_;intro c;kernel_rfl
def m_(G:ay)(N:Nat)(d:aa->aa->aa->ae->O)(av c a:aa)(H:ae):O:=j (aK P 45 av 4) λe=>j (an P H 41 e) λh=>bf P .len [41] [h] H λi=>j (aq P .lss 3 U a i) λk=>aW (D k) (j (aq P .gtr 3 X a (I J 0)) λl=>aW (D l) (j (aq P .add 9 X c (Y [44,32])) λm=>nb G N d av m a H) (nb G N d av c a H)) (k0 G N c H)
def jL(G:ay)(N:Nat):Nat->aa->aa->aa->ae->O
 |0,_,_,_,_=>Z
 |n+1,av,a,c,H=>m_ G N (jL G N n) av a c H
def KB(G:ay)(N:Nat)(a:aa->aa->aa->ae->O):∀ad H,bo P G N (a6 (a6 (ak (a6 (ak (a6 (ak (ak (ak (ak (ak (ak (ak (ak (ak (ak (ak (ak (ak (a6 (ak (a6 (ak (bs Tryd.f17)))))))))))))))))))))))) (λad H=>a (ad 1) (ad 3) (ad 4) H) [(1,(λad H=>k0 G N (ad 3) H)),(0,(λad H=>kh G N (ad 1) H))] (bh Tryd.f17) ad H=m_ G N a (ad 1) (ad 3) (ad 4) H:=by
 refine bK ((aP ah ((aP ah (KE G N a) ((dc ah ((aP ah (KF G N a) (aH _))))))) (aH _))) λad H=> ?_
 delta m_;generalize k0 G N=c;generalize nb G N a=d;revert c d;refine id ?_;intro c d;kernel_rfl
def si(G:ay)(N:Nat)(ag:aa)(H:ae):O:=bS H (dS (H).next ag) λav a=>j (aK P 45 av 0) λbp=>j (an P a 3 bp) λd=>j (aq P .eql 3 X d (I J 1)) λba=>aW (D ba) (j (aK P 45 av 1) λu=>j (an P a 3 u) λF=>aI a (G 48 [F] a) λW c=>D (W,c)) (j (aq P .eql 3 X d (I J 2)) λal=>aW (D al) (j (aK P 45 av 1) λam=>j (an P a 3 am) λbz=>j (aq P .eql 3 X bz (I J 1)) λao=>aW (D ao) (D ((Y [116,114,117,101]),a)) (D ((Y [102,97,108,115,101]),a))) (j (aq P .eql 3 X d (I J 3)) λap=>aW (D ap) (j (aK P 45 av 3) λau=>j (an P a 40 au) λaw=>aI a (G 34 [aw] a) λax c=>j (aq P .add 9 X (Y [110,117,108,108,32]) ax) λaz=>D (az,c)) (j (aq P .eql 3 X d (I J 4)) λaB=>aW (D aB) (j (aK P 45 av 2) λaC=>j (an P a 9 aC) λaD=>D (aD,a)) (j (aq P .eql 3 X d (I J 5)) λaE=>aW (D aE) (j (aK P 45 av 4) λaF=>j (an P a 41 aF) λaG=>j (cc P 41 aG (I J 0)) λaH=>j (an P a 45 aH) λaJ=>aI a (G 49 [aJ,I J 7] a) λaL c=>j (aq P .add 9 X aL (Y [46])) λaM=>j (aK P 45 av 2) λh=>j (an P c 9 h) λi=>j (aq P .add 9 U aM i) λaN=>bif ((bj (an P a 9 h) i&&bj (an P c 9 h) i)&&X)then(D (aN,c))else Z) (j (aq P .eql 3 X d (I J 6)) λaO=>aW (D aO) (j (aK P 45 av 4) λaP=>j (an P a 41 aP) λaQ=>j (cc P 41 aQ (I J 0)) λaR=>j (an P a 45 aR) λaS=>aI a (G 49 [aS,I J 7] a) λaT c=>j (aK P 45 av 4) λk=>j (an P c 41 k) λl=>j (cc P 41 l (I J 1)) λm=>j (an P c 45 m) λn=>aI c (G 17 [n] c) λaV e=>j (aq P .add 9 X aT (Y [91])) λaU=>j (aq P .add 9 U aU aV) λaX=>j (aq P .add 9 X aX (Y [93])) λaY=>bif ((bj (an P a 41 k) l&&(bj (an P c 41 k) l&&X))&&((bj (an P a 45 m) n&&(bj (an P c 45 m) n&&X))&&X))then(D (aY,e))else Z) (j (aq P .eql 3 X d (I J 7)) λaZ=>aW (D aZ) (j (aK P 45 av 2) λa0=>j (an P a 9 a0) λa1=>j (aq P .add 9 X a1 (Y [40])) λa2=>jL G N N av a2 (I J 0) a) (j (aq P .eql 3 X d (I J 8)) λa3=>aW (D a3) (j (aK P 45 av 3) λa4=>j (aK P 40 a4 0) λa5=>j (an P a 9 a5) λa6=>j (aq P .add 9 X (Y [110,101,119,32]) a6) λa7=>D (a7,a)) (j (aq P .eql 3 X d (I J 9)) λa8=>aW (D a8) (j (aK P 45 av 3) λa9=>j (an P a 40 a9) λa_=>aI a (G 34 [a_] a) λbb c=>j (aK P 45 av 4) λo=>j (an P c 41 o) λp=>j (cc P 41 p (I J 0)) λq=>j (an P c 45 q) λs=>aI c (G 17 [s] c) λbe e=>j (aq P .add 9 X (Y [110,101,119,32,91]) bb) λbc=>j (aq P .add 9 X bc (Y [93,40])) λbd=>j (aq P .add 9 U bd be) λbf=>j (aq P .add 9 X bf (Y [41])) λbg=>bif ((bj (an P a 41 o) p&&(bj (an P c 41 o) p&&X))&&((bj (an P a 45 q) s&&(bj (an P c 45 q) s&&X))&&X))then(D (bg,e))else Z) (j (aq P .eql 3 X d (I J 10)) λv=>aW (D v) (j (aK P 45 av 4) λw=>j (an P a 41 w) λx=>j (cc P 41 x (I J 0)) λy=>j (an P a 45 y) λz=>aI a (G 17 [z] a) λA c=>j (aq P .add 9 X (Y [108,101,110,40]) A) λB=>j (aq P .add 9 X B (Y [41])) λE=>D (E,c)) (j (aq P .eql 3 X d (I J 11)) λK=>aW (D K) (D ((Y [114,101,97,100,40,41]),a)) (j (aq P .eql 3 X d (I J 12)) λL=>aW (D L) (j (aK P 45 av 4) λM=>j (an P a 41 M) λQ=>j (cc P 41 Q (I J 0)) λR=>j (an P a 45 R) λS=>aI a (G 49 [S,I J 6] a) λT c=>j (aq P .add 9 X (Y [45]) T) λV=>D (V,c)) (j (aq P .eql 3 X d (I J 13)) λab=>aW (D ab) (j (aK P 45 av 4) λad=>j (an P a 41 ad) λaf=>j (cc P 41 af (I J 0)) λah=>j (an P a 45 ah) λai=>aI a (G 49 [ai,I J 6] a) λaj c=>j (aq P .add 9 X (Y [33]) aj) λak=>D (ak,c)) (kh G N av a)))))))))))))
def Ju(N:Nat){ag:aa}{H:ae}{r:aa×ae}(h:si (aC P az) N ag H=D r):aC P az 17 [ag] H=D r:=cO N (S:=λG=>si G N ag H) Tryd.func17 (λG=>dN ((aP ah ((aP ah (KC G N) ((aP ah ((dc ah ((aP ah ((dt ah (aH _) ((aP ah ((dt ah (aH _) ((aP ah ((dt ah (aH _) ((aP ah ((dt ah (aH _) ((aP ah ((dt ah (aH _) ((aP ah ((dt ah (aH _) ((aP ah ((dt ah ((aP ah ((aP ah (KD G N) ((aP ah ((dc ah ((ei (k:=λm ad H=>jL G N m (ad 1) (ad 3) (ad 4) H) ah (λad H=>ah) (λm=>KB G N (jL G N m)))))) (aH _))))) (aH _))) (aH _))) (aH _))))) (aH _))))) (aH _))))) (aH _))))) (aH _))))) (aH _))))) (aH _))))) (aH _))))) (aH _))) (by delta si;generalize kh G N=a;generalize jL G N N=c;revert a c;refine id ?_;intro a c;kernel_rfl)) h
end
end
def b8.beq{H:ae}{ok:Nat->Prop}{ks:List aL}{kv:aa}(h:b8 H ok ks kv):aa.beq kv kv=true:=by
 rcases h with⟨rfl,_⟩|⟨l,i,cap,ro,els,rfl,_⟩|⟨l,i,cap,rfl,_⟩<;>simp[aa.beq]
def qC{a:bM}{kv:aa}(h:aa.beq kv kv=X):bj (D (.agg (a.cells kv))) (.agg (a.cells kv))=true:=by
 simp[bj,aa.beq,fX.beq,bM.cells,h]
def dd.get{H:ae}{ok:Nat->Prop}:∀{ks:List aL} {css:List (List aa)} {j:Nat} {e:aL},dd H ok ks css->ks[j]? =D e->∃cs,css[j]? =D cs/\cu H ok e (.agg cs)
 |[],_,_,_,_,h=>by simp at h
 |_::_,[],_,_,h,_=>by rw[dd]at h;exact h.elim
 |k::ks,cs::css,0,e,h,a=>by rw[dd]at h;simp at a;subst a;exact⟨cs,rfl,h.1⟩
 |k::ks,cs::css,j+1,e,h,a=>by
  rw[dd]at h;obtain⟨c,aZ,d⟩:=dd.get (ks:=ks) (css:=css) (j:=j) h.2 (by simpa using a);exact⟨c,by simpa using aZ,d⟩
def b8.iZ{H:ae}{ok:Nat->Prop}{ks:List aL}{kv:aa}(h:b8 H ok ks kv){n:Nat}(p:ks.length=n){j:Nat}{a:bM}{es:List aL}(k:ks[j]? =D (.mk a es)):∃l i cap ro els c,kv= .aA l i n 11 cap/\H.get l=D (.row ro 11 els)/\els[i+j]? =D (a.cells c)/\b8 H ok es c:=by
 subst p;have e:ks.length≠0:=by intro h;have:=List.length_eq_zero_iff.1 h;subst this;simp at k
 rcases h with⟨_,d⟩|⟨l,i,cap,ro,els,rfl,_,m,o⟩|⟨_,_,_,_,d⟩
 ·exact absurd d e
 ·obtain⟨cs,aZ,q⟩:=o.get k;obtain⟨c,s,u⟩:=gO.1 q;cases s;exact⟨l,i,cap,ro,els,c,rfl,m,by rw[List.getElem?_drop]at aZ;exact aZ,u⟩
 ·exact absurd d e
def cT(x:aJ)(l:List bN):flat (bQ x::l)=x++flat l:=rfl
def gD(x:aJ)(l:List bN):flat (wd x::l)=x++flat l:=rfl
def iA(x:aJ)(l:List bN):flat (ch x::l)=x++flat l:=rfl
def dV(l:List bN):flat (ct::l)=[32]++flat l:=rfl
def cV{t:TypeId}{c:Bool}{a b:aJ}(h:a.length+b.length<=9223372036854775807):aq P .add t c (Y a) (Y b)=D (Y (a++b)):=jy t c a b h
def ti(e:aL):Prop:=∀(d m:Nat),cm d m e->cE e<=1000000000->∀(a:bM) (ks:List aL),e= .mk a ks->∀(H:ae) (ok:Nat->Prop) (kv:aa),b8 H ok ks kv->W (aC P az 17 [.agg (a.cells kv)] H) λr H'=>r= Y (flat (bm e))/\aO H H'
def MX{H:ae}{a:bM}{ks:List aL}{kv:aa}{m:Nat}(n:kv.one=X)(v:∀H',aO H H'->W (aC P az 17 [.agg (a.cells kv)] H') λr p=>r= Y (flat (bm (.mk a ks)))/\aO H' p)(w:(flat (bm (.mk a ks))).length<=1000000000):
  W (aC P az 49 [.agg (a.cells kv),I J m] H) λr H'=>r= Y (flat (cl m (.mk a ks)))/\aO H H':=by
 refine cz (λ_=>JQ 0) ?_;have k:∀l,dS l (.agg (a.cells kv))=D (.ptr l 0 0,.row U 11 [a.cells kv]):=λl=>hh l _ (by simp only[bM.cells,List.all_cons,List.all_nil,gH,hq,n,Bool.and_self])
 have pp:=aO.push H (.row U 11 [a.cells kv]);have di:=ae.bC H (.row U 11 [a.cells kv]);have o:=λH'=>BJ (H:=H') (a:=a) n
 have i:=λH' (h:aO H H')=>v H' h
 simp only[bM.cells]at k pp di o i ⊢;unfold sB;simp-implicitDefEqProofs(disch:=try exact al)only[bf,br,Nat.reduceAdd,Nat.reduceLeDiff,reduceIte,aa.cells,cI,dA,an,cD,dR,dq,k];refine aN (o _) ?_;rintro _ j ⟨rfl,c⟩;refine⟨c.1,?_⟩;have g2:=c.get di;by_cases hm:((c6 a.kind:Nat):Int)<(m:Int)
 ·have e:(aL.mk a ks).cr<m:=by unfold aL.cr aL.kind;simp only;omega
  simp-implicitDefEqProofs(disch:=try exact al)only[bf,br,c5,Nat.reduceAdd,Nat.reduceLeDiff,reduceIte,aa.cells,cI,dA,an,cD,g2,hm,decide_true];refine aN (i j (pp.trans c)) ?_;rintro _ q ⟨rfl,d⟩;refine⟨d.1,?_⟩;have s:aq P .add 9 X (Y [40]) (Y (flat (bm (.mk a ks))))=D (Y (40::flat (bm (.mk a ks)))):=jy _ _ _ _ (by simp only[List.length_cons,List.length_nil];omega);have u:aq P .add 9 X (Y (40::flat (bm (.mk a ks)))) (Y [41])=D (Y (40::flat (bm (.mk a ks))++[41])):=jy _ _ _ _ (by simp only[List.length_cons,List.length_nil];omega);simp only[s,u,dG];exact bb.2 ⟨by rw[vj e,cT,c3];rfl,(pp.trans c).trans d⟩
 ·have e:¬(aL.mk a ks).cr<m:=by unfold aL.cr aL.kind;simp only;omega
  simp-implicitDefEqProofs(disch:=try exact al)only[bf,br,c5,Nat.reduceAdd,Nat.reduceLeDiff,reduceIte,aa.cells,cI,dA,an,cD,g2,hm,decide_false];refine aN (i j (pp.trans c)) ?_;rintro _ q ⟨rfl,d⟩;refine⟨d.1,?_⟩;exact bb.2 ⟨by rw[r1 e],(pp.trans c).trans d⟩
def o7(j:Nat):List aL->aJ
 |[]=>[]
 |_=>bif j==0 then[]else[44,32]
def xg{N:Nat}{H0:ae}{r L i:Nat}{a:bM}{cap:Option Nat}{ro:Bool}{els:List (List aa)}{ks:List aL}(n:H0.get r=D (.row U 11 [a.cells (.aA L i ks.length 11 cap)]))(u:H0.get L=D (.row ro 11 els)){ok:Nat->Prop}(aG:∀e∈ks,ti e)(hw:∀e∈ks,cm 0 0 e\/∃d,cm d 0 e)(T:ks.length<=1000000000)(aB:b0 ks<=1000000000):
  ∀(es:List aL) (j k:Nat) (acc:aJ) (H:ae),ks.drop j=es->dd H0 ok es (els.drop (i+j))->acc.length+b0 es<=2000000000/\b0 es<=1000000000->j+es.length=ks.length->es.length<k->aO H0 H->
  W (jL (aC P az) N k (.ptr r 0 0) (Y acc) (I J j) H) λv H'=>v= Y (acc++(o7 j es++flat (eA (c7 es))++[41]))/\aO H0 H'
 |_,_,0,_,_,_,_,_,_,y,_=>af
 |[],j,k+1,acc,H,s,he,z,w,y,pp=>by
  have m:¬((j:Int)<(ks.length:Int)):=by simp at w;omega
  have g1:=pp.get n;simp only[bM.cells]at g1;have q:aq P .add 9 X (Y acc) (Y [41])=D (Y (acc++[41])):=jy _ _ _ _ (by simp only[List.length_cons,List.length_nil];omega);simp-implicitDefEqProofs(disch:=try exact al)only[jL,m_,k0,reduceAdd,reduceLeDiff,reduceIte,ax,g1,m,decide_false,q];exact bb.2 ⟨by simp[o7,c7,eA,flat],pp⟩
 | .mk b c::es,j,k+1,acc,H,s,he,z,w,y,pp=>by
  simp only[List.length_cons]at w y;have m:(j:Int)<(ks.length:Int):=af;have B:aL.mk b c∈ks:=by
   have:aL.mk b c∈ks.drop j:=by rw[s];simp
   exact List.mem_of_mem_drop this
  obtain⟨d,E⟩:∃d,cm d 0 (.mk b c):=by
   rcases hw _ B with h|h
   ·exact⟨0,h⟩
   ·exact h
  rw[b0]at z;have av:=om E;obtain⟨cs,aZ,ah,ai⟩:=he.cons;obtain⟨ad,aj,ak⟩:=gO.1 ah;cases aj;have g1:=pp.get n;have g2:=pp.get u;have ab:((j:Int)).toNat=j:=af;have ao:(0:Int)<=(j:Int):=af;have am:IntKind.i64.wrap ((j:Int)+1)=((j+1:Nat):Int):=by rw[wrap_i64 af af];omega
  have hle:cE (.mk b c)<=1000000000:=af;have F:=λH' (p:aO H0 H')=>aG _ B d 0 E hle b c rfl H' ok ad (ak.aM p)
  have R:ks.drop (j+1)=es:=by
   have:(ks.drop j).drop 1=es:=by rw[s];rfl
   rwa[List.drop_drop]at this
  have V:flat (eA (c7 (.mk b c::es)))=flat (bm (.mk b c))++(o7 1 es++flat (eA (c7 es))):=by
   cases es with
   |nil=>rw[mP];simp[eA,c7,flat,o7]
   |cons f r=>
    rw[c7,c7,eA,c3,cT,dV]
    ·simp only[List.append_assoc];rfl
    ·intro a;cases a
  have fin:∀(l:aJ) (H':ae),l=acc++(bif j==0 then[]else[44,32])->aO H0 H'->W (nb (aC P az) N (jL (aC P az) N k) (.ptr r 0 0) (Y l) (I J j) H') λv M=>v= Y (acc++((bif j==0 then[]else[44,32])++flat (eA (c7 (.mk b c::es)))++[41]))/\aO H0 M:=by
   intro l H' A o;have ap:l.length<=acc.length+2:=by
    rw[A];cases j==0<;>simp
   have g1:=o.get n;have g2:=o.get u;simp only[bM.cells]at g1 aZ F;simp-implicitDefEqProofs(disch:=try exact al)only[nb,reduceAdd,reduceLeDiff,reduceIte,ax,g1,g2,ab,aZ];refine aN (F H' o) ?_;rintro _ O ⟨rfl,K⟩;refine⟨K.1,?_⟩;have Q:aq P .add 9 U (Y l) (Y (flat (bm (.mk b c))))=D (Y (l++flat (bm (.mk b c)))):=jy _ _ _ _ af;simp-implicitDefEqProofs(disch:=try exact al)only[na,bf,br,c5,Q,am];refine(xg n u aG hw T aB es (j+1) k _ O R (by rw[show i+(j+1)=i+j+1 by omega];exact ai) ⟨by simp only[List.length_append];omega,af⟩ af af (o.trans K)).mono ?_;rintro v an ⟨rfl,ag⟩;refine⟨?_,ag⟩
   rw[V,A];have au:(j+1==0)=false:=by simp
   cases es<;>simp[o7]
  by_cases G:j=0
  ·subst G;have x:¬((0:Int)<((0:Nat):Int)):=af;simp only[bM.cells]at g1;simp-implicitDefEqProofs(disch:=try exact al)only[jL,m_,reduceAdd,reduceLeDiff,reduceIte,ax,g1,m,x,decide_true,decide_false];exact fin acc H (by simp) pp
  ·have x:(0:Int)<(j:Int):=af;have q:aq P .add 9 X (Y acc) (Y [44,32])=D (Y (acc++[44,32])):=jy _ _ _ _ (by simp only[List.length_cons,List.length_nil];omega);simp only[bM.cells]at g1;simp-implicitDefEqProofs(disch:=try exact al)only[jL,m_,reduceAdd,reduceLeDiff,reduceIte,ax,g1,m,x,decide_true,q];have S:(j==0)=false:=by simpa using G
   exact fin _ H (by rw[S];rfl) pp
