/- Part. -/
import Derived.Test.YtghmbpmaafnodaaGreatDoorMN
set_option linter.defProp false
open Option renaming some→I,none→u,getD_some→jk
open Bool renaming true→Y,false→X,not_true→fg,not_false→hi,eq_iff_iff→ij,true_or→kl,and_self→pq,or_true→AB,false_or→DE,or_comm→EF
open Go.bk.aa renaming int→J,str→Z,bool→D
open Go.IntKind renaming i64→U
open Nat renaming reduceAdd→cd,reduceLeDiff→ef,add_sub_cancel_left→gh,add_zero→zA,add_assoc→CD,le_succ→FG
open List renaming length_cons→de,getElem?_drop→lm,all_cons→mn,length_drop→rs,length_take→tu,all_nil→uv,drop_drop→vw,length→wx,take_succ_cons→xy,length_append→yz,length_nil→BC
namespace Go.Proofs.YtghmbpmaafnodaaGreatDoor
open Go.bk
def dq:ja dB:=⟨3,λH ok x cs=>∃v,cs=[Z x.name,v,J U x.pos]/\cf cQ H ok x.fields v,λ⟨v,h,k⟩=>by rw[h];exact⟨rfl,by simp only[mn,uv,fk,eO,k.one,pq]⟩,λp ⟨v,h,k⟩=>⟨v,h,k.aP p⟩⟩
def dh:ja Fn:=⟨7,λH ok x cs=>∃v w,cs=[Z x.name,v,D x.has,Z x.cm,J U x.rd,w,J U x.pos]/\cf cQ H ok x.params v/\cj H ok x.body w,λ⟨v,w,h,k,q⟩=>by rw[h];exact⟨rfl,by simp only[mn,uv,fk,eO,oU,k.one,q.db,pq]⟩,λp ⟨v,w,h,k,q⟩=>⟨v,w,h,k.aP p,q.aP p.s⟩⟩
def tr:jb 22 41 3:=⟨M,Dz,⟨_,(by kernel_rfl:j5 P 41=I 48),aC⟩,⟨_,(by kernel_rfl:fV P 41=I (.agg [Z [],.ag,J U 0])),rfl,rfl⟩,aC⟩
def tq:jb 24 46 7:=⟨M,DA,⟨_,(by kernel_rfl:j5 P 46=I 104),aC⟩,⟨_,(by kernel_rfl:fV P 46=I (.agg [Z [],.ag,D X,Z [],J U 0,.ag,J U 0])),rfl,rfl⟩,aC⟩
section
variable {H H' H1:ad}{r:Nat}{T:List Tok}{af rv gv fv:aa}{s s':am}
def c1.jV{ok:Nat->Prop}{l:List dB}{v:aa}(h:c1 dq ok H l v)(H':ad):bK P H' .len [22] [v]=I (J U l.length):=by
 rcases h with⟨rfl,rfl⟩|⟨L,els,rfl,_⟩
 ·exact vN
 ·exact tj
def c1.jW{ok:Nat->Prop}{l:List Fn}{v:aa}(h:c1 dh ok H l v)(H':ad):bK P H' .len [24] [v]=I (J U l.length):=by
 rcases h with⟨rfl,rfl⟩|⟨L,els,rfl,_⟩
 ·exact vP
 ·exact tl
def grow{q:Type}{K:ja q}{t e:Nat}(y:jb t e K.esz){i:Nat->Prop}{l:List q}{v:aa}(s:c1 K i H1 l v)(m:hN r H1.next H1 H)(p:∀k,i k->r<k)(N:r<H1.next){a:q}{cs:List aa}{n2:Nat}(z:K.V H (aW n2) a cs)(M:H1.next<=n2)(ak:l.length<=1000000000):
  ∃j H',c_ P (H.push (.row X K.esz [cs])) [t,t] v (.ax H.next 0 1 K.esz (I 1))=I (j,H')/\j.one=Y/\(∀b,c1 K (λk=>i k\/H1.next<=k) (H'.set r b) (l++[a]) j)/\H.next+1<=H'.next/\H'.get r=H.get r/\
   (∀k x,¬i k->k<H1.next->k≠r->H1.get k=I x->∀b,(H'.set r b).get k=I x)/\∀b,bV (λk=>r<=k) H1 (H'.set r b):=by
 have G:=m.1;have B:ce H1 i H i:=λk x d g=>by
  have:=ad.aF g;have:=p k d;exact⟨d,m.get g ae⟩
 have w:=s.aP B;have o:∀L n c,v= .ax L 0 n K.esz c->i L/\L<H1.next:=by
  intro L n c h;rcases s with⟨rfl,_⟩|⟨L',els,rfl,aX,C,_⟩
  ·cases h
  ·cases h;exact⟨aX,ad.aF C⟩
 obtain⟨j,H',aI,a2,a3,a4⟩:=w.app y (ok':=λk=>i k\/H1.next<=k) z (λk x d g=>⟨.inr (by unfold aW at d;omega),λL h=>by have:=(o L _ _ h).2;unfold aW at d;omega⟩) (λk x d _=> .inl d) (.inr ae) ak;refine⟨j,H',aI,a2.one,λb=>a2.aP λk x d g=>⟨d,?_⟩,a3,a4 r ae (λL h=>by have:=p L (o L _ _ h).1;omega),λk x d F A g b=> ?_,λb=>⟨by simp only[ad.cL];omega,λk d au=> ?_⟩⟩
 ·rw[ad.get_set_other]
  ·exact g
  ·rintro rfl;rcases d with d|d
   ·have:=p _ d;omega
   ·omega
 ·rw[ad.get_set_other (Ne.symm A),a4 k ae (λL h e=>d (e▸(o L _ _ h).1))];exact m.get g ae
 ·have E:k<r:=by simpa using au
  rw[ad.get_set_other ae,a4 k ae (λL h e=>by have:=p L (o L _ _ h).1;omega)];exact m.2 k d ae
def hO(H:ad)(r:Nat)(T:List Tok)(af:aa)(g:bw)(s:am):Prop:=∃rv gv fv,∃h d a:Nat->Prop,c8 H r T af rv gv fv s/\(∀l i n e c,af= .ax l i n e c->l<r)/\c1 dq h H g.bJ rv/\c1 cQ d H g.globals gv/\c1 dh a H g.funcs fv/\(∀k,h k->r<k/\¬d k/\¬a k)/\(∀k,d k->r<k/\¬a k)/\∀k,a k->r<k
abbrev j_(r:Nat):ad->ad->Prop:=bV λk=>r<=k
def c8.AA{k d a:aa}(h:c8 H r T af rv gv fv s)(aq:∀l i n e c,af= .ax l i n e c->l<r)(m:j_ r H H')(p:H'.get r=I (e0 af k d a s'))(a0:0<=s'.at_)(aI:s'.at_<T.length)(z:s'.an=0->s'.bl=0)(o:s'.aY=0)(one:k.one=Y/\d.one=Y/\a.one=Y):c8 H' r T af k d a s':=by
 refine⟨p,?_,a0,aI,h.n,z,o,one⟩;rcases h.ba with j|⟨l,i,cap,rfl,j⟩
 ·exact .inl j
 ·refine .inr ⟨l,i,cap,rfl,j.imp id λ⟨ro,els,aX,q⟩=>⟨ro,els,m.get aX ?_,q⟩⟩;have:=aq _ _ _ _ _ rfl;omega
def hO.mut{g:bw}{rv gv fv:aa}{j h d:Nat->Prop}(aq:∀l i n e c,af= .ax l i n e c->l<r)(bf:c1 dq j H g.bJ rv)(bo:c1 cQ h H g.globals gv)(b3:c1 dh d H g.funcs fv)(aQ:∀k,j k->r<k/\¬h k/\¬d k)(c2:∀k,h k->r<k/\¬d k)(c3:∀k,d k->r<k)(m:bs r H H')(E:c8 H' r T af rv gv fv s'):hO H' r T af g s':=
 ⟨rv,gv,fv,j,h,d,E,aq,bf.aP (ce.mut m λk a=>by have:=(aQ k a).1;omega),bo.aP (ce.mut m λk a=>by have:=(c2 k a).1;omega),b3.aP (ce.mut m λk a=>by have:=c3 k a;omega),aQ,c2,c3⟩
def bs.j0(m:bs r H H'):j_ r H H':=⟨m.1,λl ak au=>m.2 l ak λe=>au ae⟩
def hN.j0{n:Nat}(m:hN r n H H')(h:r<n):j_ r H H':=⟨m.1,λl ak au=>m.2 l ak λe=>au ae⟩
def nj(T:List Tok)(n:Nat)(g:bw)(s:am):V bw:=(k3 T n [] (bD T [123] (eJ T (ao (dM T Y g.bJ.length 12 s))).2).2).bind λp=>I ({g with bJ:=g.bJ++[⟨(eJ T (ao (dM T Y g.bJ.length 12 s))).1.text,p.1,(eJ T (ao (dM T Y g.bJ.length 12 s))).1.pos⟩]},(bD T [125] p.2).2)
def gJ(T:List Tok)(g:bw)(s:am):bw×am:=({g with globals:=g.globals++[(fp T (ao (dM T Y g.globals.length 8 s))).1]},(bD T [59] (fp T (ao (dM T Y g.globals.length 8 s))).2).2)
def Bw{b:Bool}{x y:Int}:(dM T b x y s).at_=s.at_:=by
 unfold dM;cases b&&decide (y<=x)
 ·rfl
 ·rw[aK];unfold bx;split<;>rfl
def zX(ar:eh T)(h:c8 H r T af rv gv fv s)(c:(G T s.at_).kind≠0):bs r H (H.set r (.row X 7 [[af,J U (IntKind.i64.wrap (s.at_+1)),rv,gv,fv,J U s.an,J U s.bl]]))/\c8 (H.set r (.row X 7 [[af,J U (IntKind.i64.wrap (s.at_+1)),rv,gv,fv,J U s.an,J U s.bl]])) r T af rv gv fv (ao s):=by
 obtain⟨-,g0,a⟩:=Cf ar h c;exact h.set (ao s) g0 a h.z h.o
def Uw(ar:eh T){g:bw}{n:Nat}(bj:n<=900000000)(h:hO H r T af g s)(ak:g.bJ.length<=900000000)(c:(G T s.at_).kind≠0){g':bw}(i:nj T n g s=I (g',s')):W (al P aj 20 [.ptr r 0 0] H) λ_ H'=>j_ r H H'/\hO H' r T af g' s':=by
 refine bt (λ_=>Wr (n+1)) ?_;obtain⟨rv,gv,fv,bp,a4,a5,E,aq,bf,bo,b3,aQ,c2,c3⟩:=h;have am:=E.rd;unfold e0 at am;have aY:=λH'=>bf.jV H'
 have V:=E.lt;simp(disch:=try exact ah)only[x3,ai,am,aY];refine aA (tH E Y _ _) ?_;rintro _ aO ⟨rfl,az,l⟩;refine⟨az.1,?_⟩;unfold nj at i;have S:(G T (dM T Y (g.bJ.length:Int) 12 s).at_).kind≠0:=by rw[Bw];exact c
 generalize dM T Y (g.bJ.length:Int) 12 s=y at l i S;have ap:=l.rd;unfold e0 at ap;have bn:=l.ba.one;obtain⟨bI,b2,cM⟩:=l.one;have bh:=l.lt;obtain⟨aE,F⟩:=zX ar l S;simp(disch:=try exact ah)only[cd,ef,ai,ap];generalize ao y=a9 at F i;generalize aO.set r (.row X 7 [[af,J U (IntKind.i64.wrap (y.at_+1)),rv,gv,fv,J U y.an,J U y.bl]])=bd at aE F ⊢;refine aA (B1 ar F) ?_;rintro _ d ⟨rfl,aG,L⟩;refine⟨aG.1,?_⟩;generalize eJ T a9=q at L i ⊢;obtain⟨⟨k,x,z,p⟩,ho⟩:=q;simp only at L i;have w:=aw.push d (.row X 4 [[J U k,Z x,J U z,J U p]])
 have aW:=ad.a_ d (.row X 4 [[J U k,Z x,J U z,J U p]]);simp(disch:=try exact ah)only[aR,A,bL,aB,bL,cd,aa.cells,cD,cw,b7,cX,cX,Tok.v];have aC:=(az.trans aE).trans aG;have bk:=aC.1;have aM:=L.av w;have aK:(d.push (.row X 4 [[J U k,Z x,J U z,J U p]])).next=d.next+1:=by simp only[ad.bb]
 generalize d.push (.row X 4 [[J U k,Z x,J U z,J U p]])=M at w aW aM aK ⊢;have aL:=aw.push M (.row X 3 [[Z x,.ag,J U p]]);have bm:=w.1;have au:fq H (M.push (.row X 3 [[Z x,.ag,J U p]])) r (d.next+1) (d.next+2) 3 T af rv gv fv (Z x) [J U p] [] .ag ho:=
  ⟨aM.av aL,by rw[<-aK];exact ad.a_ _ _,c1.nil,bs.oO (aC.trans ((w.trans aL).mut _)),V,ae,ae,by simp only[ad.bb];omega⟩
 refine aA (o4 ar au.E [123]) ?_;rintro _ aS ⟨rfl,aH,a8⟩;refine⟨aH.1,?_⟩;have a7:=au.mut aH a8;obtain⟨⟨l',bc⟩,aU,Q⟩:=ew i;simp only[aT,bS]at Q;obtain⟨rfl,rfl⟩:=Q;refine Hv ar E (λbe v ay=> ?_) n (n+1) aS _ [] .ag ae (by simp;omega) a7 aU;rw[pB];refine aA (o4 ar ay.E [125]) ?_;rintro _ N ⟨rfl,aJ,e⟩;refine⟨aJ.1,?_⟩;have j:=ay.mut aJ e;generalize (bD T [125] bc).2=fH at e j ⊢;have aX:=j.cell;have C:=e.rd;unfold e0 at C;have a3:=j.d_.one;have bq:=j.cM;have bi:=e.lt;obtain⟨aN,H',O,B,f1,f2,f3,f4,f5⟩:=grow (r:=r) (K:=dq) tr bf j.m (λk c=>(aQ k c).1) V (a:=⟨x,l',p⟩) (cs:=[Z x,v,J U p]) (n2:=d.next+2) ⟨v,rfl,j.d_.ax⟩ ae ae
 have a2:=lB tr N.next (cs:=[Z x,v,J U p]) rfl (by simp only[mn,uv,fk,eO,a3,pq])
 have a6:dq.esz=3:=rfl;rw[a6]at O;have aV:aZ (I rv) rv=true:=bf.rd;have R:=gf B;simp only[aa.cells]at R;have ab:H'.get r=I (.row X 7 [[af,J U fH.at_,rv,gv,fv,J U fH.an,J U fH.bl]]):=by rw[f3];exact C
 have a1:=ad.aF ab;have bg:(N.push (.row X 3 [[Z x,v,J U p]])).next<=H'.next:=by simp only[ad.bb];exact f2
 simp(disch:=try exact ah)only[aR,A,bL,aB,bL,cd,ef,aa.cells,cD,cw,b7,cX,aX,C,a2,O,gF,aV,R,ab,B];have j0:=f5 (.row X 7 [[af,J U fH.at_,aN,gv,fv,J U fH.an,J U fH.bl]]);refine aD.2 ⟨j0,aN,gv,fv,_,(λk=>a4 k/\k<H.next),(λk=>a5 k/\k<H.next),?_,aq,f1 _,?_,?_,?_,?_,?_⟩
 ·exact E.AA aq j0 (ad.get_set_same a1) e.a0 e.aI e.z e.o ⟨B,b2,cM⟩
 ·exact bo.aP λk b c g=>by
   have:=ad.aF g;have:=(c2 k c).1;exact⟨⟨c,ae⟩,f4 k b (λh=>(aQ k h).2.1 c) ae ae g _⟩
 ·exact b3.aP λk b c g=>by
   have:=ad.aF g;have:=c3 k c;exact⟨⟨c,ae⟩,f4 k b (λh=>(aQ k h).2.2 c) ae ae g _⟩
 ·rintro k (c|c)
  ·exact⟨(aQ k c).1,λh=>(aQ k c).2.1 h.1,λh=>(aQ k c).2.2 h.1⟩
  ·exact⟨ae,λh=>ae,λh=>ae⟩
 ·exactλk c=>⟨(c2 k c.1).1,λh=>(c2 k c.1).2 h.1⟩
 ·exactλk c=>c3 k c.1
end
section
variable {H H' H1:ad}{r:Nat}{T:List Tok}{af rv gv fv:aa}{s s':am}
def Um(ar:eh T){g:bw}(h:hO H r T af g s)(ak:g.globals.length<=900000000)(c:(G T s.at_).kind≠0):W (al P aj 21 [.ptr r 0 0] H) λ_ H'=>j_ r H H'/\hO H' r T af (gJ T g s).1 (gJ T g s).2:=by
 refine bt (λ_=>Ws 0) ?_;obtain⟨rv,gv,fv,aK,a2,aL,E,aq,bf,bo,b3,aQ,c2,c3⟩:=h;have O:=E.rd;unfold e0 at O;have aG:=λH'=>bo.hY H'
 have aH:=E.lt;simp(disch:=try exact ah)only[x5,cd,ai,O,aG];refine aA (tH E Y _ _) ?_;rintro _ ay ⟨rfl,S,e⟩;refine⟨S.1,?_⟩;unfold gJ;have M:(G T (dM T Y (g.globals.length:Int) 8 s).at_).kind≠0:=by rw[Bw];exact c
 generalize dM T Y (g.globals.length:Int) 8 s=m at e M;have Q:=e.rd;unfold e0 at Q;have a1:=e.ba.one;obtain⟨bI,b2,cM⟩:=e.one;have aU:=e.lt;obtain⟨ab,B⟩:=zX ar e M;simp(disch:=try exact ah)only[cd,ef,ai,Q];generalize ao m=aO at B ⊢;generalize ay.set r (.row X 7 [[af,J U (IntKind.i64.wrap (m.at_+1)),rv,gv,fv,J U m.an,J U m.bl]])=aS at ab B ⊢;refine aA (B6 ar B) ?_;rintro _ i ⟨rfl,am,C⟩;refine⟨am.1,?_⟩;generalize fp T aO=q at C ⊢;obtain⟨p,ho⟩:=q;simp only at C ⊢;have l:=aw.push i (.row X 4 [p.cells]);have x:=ad.a_ i (.row X 4 [p.cells]);have V:=(S.trans ab).trans am
 have aX:=V.1;have F:=C.av l;have ap:(i.push (.row X 4 [p.cells])).next=i.next+1:=by simp only[ad.bb]
 simp only[bq.cells]at l x F ap ⊢;simp(disch:=try exact ah)only[aR,bL,aB,bL,cd,aa.cells,cD,cw,b7];generalize i.push (.row X 4 [[Z p.name,Z p.b5,J U p.ci,J U p.pos]])=aT at l x F ap ⊢;refine aA (o4 ar F [59]) ?_;rintro _ n ⟨rfl,j,d⟩;refine⟨j.1,?_⟩;generalize (bD T [59] ho).2=fH at d ⊢;have aY:=j.1;have aE:=j.get x ae;have y:=d.rd;unfold e0 at y;have aW:=d.lt;have aN:bs r H n:=(V.trans (l.mut _)).trans j;obtain⟨au,H',v,w,f1,f2,f3,f4,f5⟩:=grow (r:=r) (K:=cQ) k9 bo aN.oO (λk c=>(c2 k c).1) aH (a:=p) (cs:=p.cells) (n2:=H.next) rfl (aV _) ae;have R:=lB k9 n.next (cs:=p.cells) rfl rfl
 have aM:cQ.esz=4:=rfl;rw[aM]at v;have aC:aZ (I gv) gv=true:=bo.rd;have L:=gf w;simp only[aa.cells]at L;have N:H'.get r=I (.row X 7 [[af,J U fH.at_,rv,gv,fv,J U fH.an,J U fH.bl]]):=by rw[f3];exact y
 have aJ:=ad.aF N;have az:(n.push (.row X 4 [p.cells])).next<=H'.next:=by simp only[ad.bb];exact f2
 simp only[bq.cells]at R v az;simp(disch:=try exact ah)only[aR,A,bL,aB,bL,cd,ef,aa.cells,cD,cw,b7,cX,aE,y,R,v,gF,aC,L,N,w];have j0:=f5 (.row X 7 [[af,J U fH.at_,rv,au,fv,J U fH.an,J U fH.bl]]);refine aD.2 ⟨j0,rv,au,fv,(λk=>aK k/\k<H.next),_,(λk=>aL k/\k<H.next),?_,aq,?_,f1 _,?_,?_,?_,?_⟩
 ·exact E.AA aq j0 (ad.get_set_same aJ) d.a0 d.aI d.z d.o ⟨bI,w,cM⟩
 ·exact bf.aP λk b c g=>by
   have:=ad.aF g;have:=(aQ k c).1;exact⟨⟨c,ae⟩,f4 k b (λh=>(aQ k c).2.1 h) ae ae g _⟩
 ·exact b3.aP λk b c g=>by
   have:=ad.aF g;have:=c3 k c;exact⟨⟨c,ae⟩,f4 k b (λh=>(c2 k h).2 c) ae ae g _⟩
 ·exactλk c=>⟨(aQ k c.1).1,λh=>h.elim (aQ k c.1).2.1 (λh=>by have:=c.2;omega),λh=>(aQ k c.1).2.2 h.1⟩
 ·rintro k (c|c)
  ·exact⟨(c2 k c).1,λh=>(c2 k c).2 h.1⟩
  ·exact⟨ae,λh=>ae⟩
 ·exactλk c=>c3 k c.1
def hl(T:List Tok)(l:List bq)(s:am):List bq×am:=(l++[(fp T (dM T ((G T s.at_).kind==1) l.length 6 s)).1],(fp T (dM T ((G T s.at_).kind==1) l.length 6 s)).2)
def LA(ar:eh T){c n2:Nat}{x:aa}{rest:List aa}(aF:rest.length=5){s0:am}(N:c8 H1 r T af rv gv fv s0){l:List bq}{v:aa}(h:fq H1 H r c n2 7 T af rv gv fv x rest l v s)(ak:l.length<=900000000):
  W (al P aj 52 [.ptr r 0 0,.ptr c 0 0] H) λ_ H'=>H.next<=H'.next/\∃o,fq H1 H' r c n2 7 T af rv gv fv x rest (hl T l s).1 o (hl T l s).2:=by
 refine bt (λ_=>WV 0) ?_;rw[yp];refine aA (rl h.E) ?_;rintro _ ay ⟨rfl,j⟩;refine⟨j.1,?_⟩;have d:=h.mut (j.mut _) (h.E.av j);have V:=λH'=>d.d_.hY H'
 have ab:=d.d_.rd;have z:=d.cell;have Q:=h.cell;simp(disch:=try exact ah)only[ai,Tok.v,z,V];refine aA (tH d.E _ _ _) ?_;rintro _ az ⟨rfl,m,aq⟩;refine⟨m.1,?_⟩;have e:=d.mut m aq;have B:=e.cell;unfold hl;generalize dM T ((G T s.at_).kind==1) l.length 6 s=aw at e ⊢;refine qk (sY M ?_) ?_
 ·have key:∀k:ad,k.get c=I (.row X 7 [x::v::rest])->aZ (A P k 23 (.ptr c 0 1)) v=true:=λk S=>by
   simp(disch:=try exact ah)only[A,bL,cw,S,ab]
  simp only[mJ,mB,u4,u5,u3,List.forall_mem_cons];refine⟨(λv a=>by cases a),(λv a=>by cases a),(λv a=>by cases a),(λv a=>by cases a),(λv a=>by cases a),(λv a=>by cases a),(λv a=>by cases a),(λv a=>by cases a),(λv a=> .inr ?_),(λv a=>by cases a),(λv a=>by cases a),trivial⟩;cases a;simp[key _ Q,key _ z,key _ B]
 ·refine aA (B6 ar e.E) ?_;rintro _ w ⟨rfl,n,au⟩;refine⟨n.1,?_⟩;have i:=e.mut n au;have R:=i.cell;have an:=i.d_.rd;generalize fp T aw=q at i ⊢;obtain⟨p,aG⟩:=q;obtain⟨o,F,K,L,y,ap,aE,O⟩:=i.add N ae p;have ao:=lB k9 w.next (cs:=p.cells) rfl rfl
  have aC:(w.push (.row X 4 [p.cells])).next<=F.next:=by simp only[ad.bb];exact L
  have C:=gf y;simp only[aa.cells]at C;simp(disch:=try exact ah)only[aR,A,bL,aB,bL,cd,ef,aa.cells,cD,cw,cX,C,R,ao,K,gF,ap,aE,y,an,B];refine aD.2 ⟨?_,o,O⟩;have aI:=j.1;have a2:=m.1;have a3:=n.1;simp only[ad.cL];omega
end
def iV(T:List Tok):Nat->List bq->am->V (List bq)
 |0,_,_=>u
 |n+1,l,s=>bif (cK T 4 [44] s).1 then iV T n (hl T l (cK T 4 [44] s).2).1 (hl T l (cK T 4 [44] s).2).2 else I (l,(cK T 4 [44] s).2)
def iA(T:List Tok)(s:am):List a6×am:=match iz T 800000000 (g1 s.at_ 0)with
 |some p=>((fa p.1 p.2).1,ii (fa p.1 p.2).2.1 (fa p.1 p.2).2.2.1 (fa p.1 p.2).2.2.2 s)
 |none=>([],s)
def ih(T:List Tok)(g:bw)(nm:ay)(a:Int)(l:List bq)(q:Bool×ay×Int)(s:am):bw×am:=if s.an≠0 then(g,s)else({g with funcs:=g.funcs++[⟨nm,l,q.1,q.2.1,q.2.2,(iA T s).1,a⟩]},(iA T s).2)
def fX(T:List Tok)(s:am):(Bool×ay×Int)×am:=bif (cK T 4 [58] (bD T [41] s).2).1 then((Y,(h1 T (cK T 4 [58] (bD T [41] s).2).2).1),(h1 T (cK T 4 [58] (bD T [41] s).2).2).2)else((X,[],0),(cK T 4 [58] (bD T [41] s).2).2)
def oD(T:List Tok)(n:Nat)(s:am):V (List bq):=bif a8 T s 4 [41]then I ([],s)else iV T n (hl T [] s).1 (hl T [] s).2
def m5(T:List Tok)(n:Nat)(g:bw)(s:am):V bw:=(oD T n (bD T [40] (eJ T (ao (dM T Y g.funcs.length 16 s))).2).2).bind λp=>I (ih T g (eJ T (ao (dM T Y g.funcs.length 16 s))).1.text (eJ T (ao (dM T Y g.funcs.length 16 s))).1.pos p.1 (fX T p.2).1 (fX T p.2).2)
section
variable {H H' H1:ad}{r:Nat}{T:List Tok}{af rv gv fv:aa}{s s':am}
def vi(ar:T.length<=20000000):g_ T:=λs=>by
 obtain⟨p,q,-,a,-,-⟩:=wz (T:=T) ae T.length s (tf _ _) 0 800000000 800000000 ae ae ae;exact⟨q,a⟩
def Qs(ar:eh T){at_:Int}(h:0<=at_)(i:at_<T.length):∃p,iz T 800000000 (g1 at_ 0)=I p/\(p.2.an=0->0<=p.2.at_/\p.2.at_<T.length):=by
 obtain⟨p,q,ap,aE,-,d⟩:=FK ar.n at_ 0;refine⟨p,ap,λc=> ?_⟩;have eq:=d.1.eq c;have e:g1 at_ 0=⟨at_,0,0,0⟩:=rfl;obtain⟨dI,-,-⟩:=(wq ar.g (vi ar.n) 800000000).block _ q (λ_=>⟨h,by rw[e];simp only;omega,by rw[e];exact Int.le_refl 0,by rw[e];exact(by decide:(0:Int)<=50)⟩) aE (by rw[eq];exact c);rw[eq,e]at dI;have a:=dI.a;have b:=dI.b;simp only at a;exact⟨ae,ae⟩
def fq.rest{c n2 esz:Nat}{x:aa}{rest rest':List aa}{l:List bq}{v:aa}{s0:am}(e:c8 H1 r T af rv gv fv s0)(h:fq H1 H r c n2 esz T af rv gv fv x rest l v s):fq H1 (H.set c (.row X esz [x::v::rest'])) r c n2 esz T af rv gv fv x rest' l v s:=by
 have br:=h.br;have bI:=h.bI;have b2:=h.b2;have cM:=h.cM;have d:hN r H1.next H1 (H.set c (.row X esz [x::v::rest'])):=h.m.bH (.inl (.inr bI)) _
 exact⟨e.oA d (by rw[ad.get_set_other ae];exact h.E.rd) h.E.a0 h.E.aI h.E.z h.E.o,ad.get_set_same ae,h.d_.aP λk x a g=>⟨a,by unfold aW at a;rw[ad.get_set_other ae];exact g⟩,d,br,bI,b2,by simp;omega⟩
def IT{N:Nat}(ar:eh T){g:bw}{F B C:Nat->Prop}{s0:am}(E:c8 H1 r T af rv gv fv s0)(aq:∀l i n e c,af= .ax l i n e c->l<r)(bf:c1 dq F H1 g.bJ rv)(bo:c1 cQ B H1 g.globals gv)(b3:c1 dh C H1 g.funcs fv)(aQ:∀k,F k->r<k/\¬B k/\¬C k)(c2:∀k,B k->r<k/\¬C k)(c3:∀k,C k->r<k)(ak:g.funcs.length<=900000000)
  {c n2:Nat} {nm cm:ay} {j rd:Int} {au:Bool} {l:List bq} {v:aa} (h:fq H1 H r c n2 7 T af rv gv fv (Z nm) [D au,Z cm,J U rd,.ag,J U j] l v s):
  W (pD (al P aj) N (.ptr r 0 0) (.ptr c 0 0) H) λ_ H'=>j_ r H1 H'/\hO H' r T af (ih T g nm j l (au,cm,rd) s).1 (ih T g nm j l (au,cm,rd) s).2:=by
 rw[pD];have aU:=h.br;have bI:=h.bI;have b2:=h.b2;have cM:=h.cM;refine aA (o1 h.E) ?_;rintro _ a6 ⟨rfl,rfl⟩;refine⟨aV _,?_⟩;by_cases G:s.an=0
 ·have S:(s.an != 0)=false:=by simpa using G
  have bd:=h.E.ba.rd;have az:=h.E.rd;unfold e0 at az;rw[show ih T g nm j l (au,cm,rd) s=({g with funcs:=g.funcs++[⟨nm,l,au,cm,rd,(iA T s).1,j⟩]},(iA T s).2)from if_neg (λh=>h G)];obtain⟨⟨d_,p⟩,ap,rg⟩:=Qs ar h.E.a0 h.E.aI;have spec:=SJ (n:=800000000) aC ar.n h.E.ba s.at_ 0 ap;simp(disch:=try exact ah)only[aR,A,bL,cw,cX,S,az];refine aA spec ?_;rintro _ a7 ⟨q,rfl,ao,a3⟩;refine⟨a3.1,?_⟩;have a8:iA T s=((fa d_ p).1,ii (fa d_ p).2.1 (fa d_ p).2.2.1 (fa d_ p).2.2.2 s):=by simp only[iA,ap]
  have aJ:(fa d_ p).2.2.1=0->0<=(fa d_ p).2.1/\(fa d_ p).2.1<T.length:=λaE=>by
   unfold fa at aE ⊢;by_cases L:p.an=0
   ·rw[if_pos L];exact rg L
   ·rw[if_neg L]at aE;exact absurd aE L
  rw[a8];generalize fa d_ p=bi at ao aJ ⊢;obtain⟨Q,at_,e,a⟩:=bi;simp only at ao aJ ⊢;have a4:=a3.a1 (.row X 2 [[J U e,J U a]]);have aM:=h.mut (a4.mut _) (h.E.av a4);simp(disch:=try exact ah)only[aR,A,bL,aB,bL,cd,aa.cells,cD,cw,b7,az,bd];refine aA (Lq aM.E at_ e a aJ) ?_;rintro _ O ⟨rfl,aH,y⟩;refine⟨aH.1,?_⟩;have V:=aM.mut aH y;have a_:cj O (aW n2) Q q:=(ao.aP (dc.av (aw.push a7 _) λl ak=>(by unfold aW at*;omega:aW n2 l))).aP (dc.mut aH (by unfold aW;omega) λ_ h=>h);generalize ii at_ e a s=fH at y V ⊢;have aN:=V.cell;have a2:=y.rd;unfold e0 at a2;have w:=V.rest E (rest':=[D au,Z cm,J U rd,q,J U j])
  have ab:cj (O.set c (.row X 7 [Z nm::v::[D au,Z cm,J U rd,q,J U j]])) (aW n2) Q q:=a_.aP (dc.set _ (by unfold aW;omega) λ_ h=>h);have ai:=ab.db;have aS:=gf ai;simp only[aa.cells]at aS;have bs:=ad.aF aN;simp(disch:=try exact ah)only[aR,A,bL,aB,bL,cd,ef,aa.cells,cD,cw,b7,cX,aN,aS,ai];have aO:=w.cell;have M:=w.E.rd;unfold e0 at M;generalize O.set c (.row X 7 [Z nm::v::[D au,Z cm,J U rd,q,J U j]])=aK at w ab aO M ⊢;have bg:=w.d_.one;have bp:=E.ba.one;obtain⟨bj,bk,bt⟩:=E.one;have bn:=w.E.lt;obtain⟨a5,H',aL,R,f1,f2,f3,f4,f5⟩:=grow (r:=r) (K:=dh) tq b3 w.m c3 aU (a:=⟨nm,l,au,cm,rd,Q,j⟩) (cs:=[Z nm,v,D au,Z cm,J U rd,q,J U j]) (n2:=n2) ⟨v,q,rfl,w.d_.ax,ab⟩ ae ae
  have be:=lB tq aK.next (cs:=[Z nm,v,D au,Z cm,J U rd,q,J U j]) rfl (by simp only[mn,uv,fk,eO,oU,bg,ai,pq])
  have bh:dh.esz=7:=rfl;rw[bh]at aL;have a9:aZ (I fv) fv=true:=b3.rd;have aT:=gf R;simp only[aa.cells]at aT;have aY:H'.get r=I (.row X 7 [[af,J U fH.at_,rv,gv,fv,J U fH.an,J U fH.bl]]):=by rw[f3];exact M
  have bc:=ad.aF aY;have bm:(aK.push (.row X 7 [[Z nm,v,D au,Z cm,J U rd,q,J U j]])).next<=H'.next:=by simp only[ad.bb];exact f2
  simp(disch:=try exact ah)only[aR,A,bL,aB,bL,cd,ef,aa.cells,cD,cw,b7,cX,a2,aO,M,be,aL,gF,a9,aT,aY,R];have j0:=f5 (.row X 7 [[af,J U fH.at_,rv,gv,a5,J U fH.an,J U fH.bl]]);refine aD.2 ⟨j0,rv,gv,a5,(λk=>F k/\k<H1.next),(λk=>B k/\k<H1.next),_,?_,aq,?_,?_,f1 _,?_,?_,?_⟩
  ·exact E.AA aq j0 (ad.get_set_same bc) y.a0 y.aI y.z y.o ⟨bj,bk,R⟩
  ·exact bf.aP λk b d g=>by
    have:=ad.aF g;have:=(aQ k d).1;exact⟨⟨d,ae⟩,f4 k b (λh=>(aQ k d).2.2 h) ae ae g _⟩
  ·exact bo.aP λk b d g=>by
    have:=ad.aF g;have:=(c2 k d).1;exact⟨⟨d,ae⟩,f4 k b (λh=>(c2 k d).2 h) ae ae g _⟩
  ·exactλk d=>⟨(aQ k d.1).1,λh=>(aQ k d.1).2.1 h.1,λh=>h.elim (aQ k d.1).2.2 (λh=>by have:=d.2;omega)⟩
  ·exactλk d=>⟨(c2 k d.1).1,λh=>h.elim (c2 k d.1).2 (λh=>by have:=d.2;omega)⟩
  ·rintro k (d|d)
   ·exact c3 k d
   ·omega
 ·have S:(s.an != 0)=true:=by simpa using G
  rw[show ih T g nm j l (au,cm,rd) s=(g,s)from if_pos G];simp(disch:=try exact ah)only[aR,S];have aG:∀ok:Nat->Prop,(∀k,ok k->r<k)->ce H1 ok a6 (λk=>ok k):=λok d k x aX g=>by
   have:=ad.aF g;have:=d k aX;exact⟨aX,h.m.get g ae⟩
  refine aD.2 ?_;refine⟨hN.j0 h.m aU,rv,gv,fv,F,B,C,h.E,aq,bf.aP (aG F λk d=>(aQ k d).1),bo.aP (aG B λk d=>(c2 k d).1),b3.aP (aG C c3),aQ,c2,c3⟩
end
section
variable {H H' H1:ad}{r:Nat}{T:List Tok}{af rv gv fv:aa}{s s':am}
structure zw(H1:ad)(r:Nat)(T:List Tok)(af rv gv fv:aa)(g:bw)(h d a:Nat->Prop)(s0:am):Prop where
 E:c8 H1 r T af rv gv fv s0
 aq:∀l i n e c,af= .ax l i n e c->l<r
 bf:c1 dq h H1 g.bJ rv
 bo:c1 cQ d H1 g.globals gv
 b3:c1 dh a H1 g.funcs fv
 aQ:∀k,h k->r<k/\¬d k/\¬a k
 c2:∀k,d k->r<k/\¬a k
 c3:∀k,a k->r<k
 ak:g.funcs.length<=900000000
def IS{N:Nat}(ar:eh T){g:bw}{F G K:Nat->Prop}{s0:am}(B:zw H1 r T af rv gv fv g F G K s0){c n2:Nat}{nm:ay}{i:Int}{l:List bq}{v:aa}(h:fq H1 H r c n2 7 T af rv gv fv (Z nm) [D X,Z [],J U 0,.ag,J U i] l v s):
  W (ma (al P aj) N (.ptr r 0 0) (.ptr c 0 0) H) λ_ H'=>j_ r H1 H'/\hO H' r T af (ih T g nm i l (fX T s).1 (fX T s).2).1 (ih T g nm i l (fX T s).1 (fX T s).2).2:=by
 rw[ma];refine aA (o4 ar h.E [41]) ?_;rintro _ O ⟨rfl,y,m⟩;refine⟨y.1,?_⟩;have p:=h.mut y m;unfold fX;generalize (bD T [41] s).2=L at p m ⊢;refine aA (B5 ar m (k:=4) aC [58]) ?_;rintro _ Q ⟨rfl,z,j⟩;refine⟨z.1,?_⟩;have a:=p.mut z j;generalize cK T 4 [58] L=q at a j ⊢;obtain⟨b,M⟩:=q;simp only at a j ⊢;cases b with
 |false=>
  simp(disch:=try exact ah)only[aR];exact IT ar B.E B.aq B.bf B.bo B.b3 B.aQ B.c2 B.c3 B.ak a
 |true=>
  simp(disch:=try exact ah)only[aR];refine aA (Ly ar j) ?_;rintro _ R ⟨rfl,A,n⟩;refine⟨A.1,?_⟩;have e:=a.mut A n;generalize h1 T M=o at e n ⊢;obtain⟨⟨x,d⟩,ho⟩:=o;simp only at e n ⊢;have w:=e.cell;have eI:=ad.aF w;have C:=e.rest B.E (rest':=[D Y,Z x,J U d,.ag,J U i]);simp(disch:=try exact ah)only[aR,bL,aB,bL,cd,ef,aa.cells,cD,cw,b7,cX,w];exact IT ar B.E B.aq B.bf B.bo B.b3 B.aQ B.c2 B.c3 B.ak C
def IU{N:Nat}(ar:eh T){g:bw}{y z A:Nat->Prop}{s0:am}(B:zw H1 r T af rv gv fv g y z A s0){c n2:Nat}{nm:ay}{e:Int}{l':List bq}:
  ∀(n m:Nat) (H:ad) (s:am) (l:List bq) (v:aa),n<m->l.length+n<=900000000->fq H1 H r c n2 7 T af rv gv fv (Z nm) [D X,Z [],J U 0,.ag,J U e] l v s->iV T n l s=I (l',s')->
   W (pE (al P aj) N m (.ptr r 0 0) (.ptr c 0 0) H) λ_ H'=>j_ r H1 H'/\hO H' r T af (ih T g nm e l' (fX T s').1 (fX T s').2).1 (ih T g nm e l' (fX T s').1 (fX T s').2).2
 |_,0,_,_,_,_,x,_,_,_=>ae
 |0,m+1,_,_,_,_,_,_,_,a=>by cases a
 |n+1,m+1,H,s,l,v,x,G,h,a=>by
  rw[iV]at a;rw[pE];unfold x7;refine aA (B5 ar h.E (k:=4) aC [44]) ?_;rintro _ F ⟨rfl,j,i⟩;refine⟨j.1,?_⟩;have d:=h.mut j i;generalize cK T 4 [44] s=q at d i a ⊢;obtain⟨b,K⟩:=q;simp only at d i a ⊢;cases b with
  |false=>
   rw[aH]at a;cases a;simp only[aR];exact IS ar B d
  |true=>
   rw[aK]at a;simp only[aR];refine aA (LA ar (by rfl) B.E d ae) ?_;rintro _ o ⟨w,C,p⟩;exact⟨w,IU ar B n m o _ _ C ae (by simp only[hl,yz,de,BC];omega) p a⟩
def Uj(ar:eh T){g:bw}{n:Nat}(a0:n<=800000000)(h:hO H r T af g s)(ak:g.funcs.length<=900000000)(aI:(G T s.at_).kind≠0){g':bw}(d:m5 T n g s=I (g',s')):W (al P aj 22 [.ptr r 0 0] H) λ_ H'=>j_ r H H'/\hO H' r T af g' s':=by
 refine bt (λ_=>Wt (n+1)) ?_;obtain⟨rv,gv,fv,aN,aO,aP,E,aq,bf,bo,b3,aQ,c2,c3⟩:=h;have B:zw H r T af rv gv fv g aN aO aP s:=⟨E,aq,bf,bo,b3,aQ,c2,c3,ak⟩;have M:=E.rd;unfold e0 at M;have aJ:=λH'=>b3.jW H'
 have aL:=E.lt;simp only[x6,cd,ai,M,aJ];refine aA (tH E Y _ _) ?_;rintro _ az ⟨rfl,R,e⟩;refine⟨R.1,?_⟩;unfold m5 at d;have L:(G T (dM T Y (g.funcs.length:Int) 16 s).at_).kind≠0:=by rw[Bw];exact aI
 generalize dM T Y (g.funcs.length:Int) 16 s=l at e d L;have N:=e.rd;unfold e0 at N;have a3:=e.ba.one;obtain⟨bI,b2,cM⟩:=e.one;have aZ:=e.lt;obtain⟨V,y⟩:=zX ar e L;simp only[cd,ef,ai,N];generalize ao l=aS at y d;generalize az.set r (.row X 7 [[af,J U (IntKind.i64.wrap (l.at_+1)),rv,gv,fv,J U l.an,J U l.bl]])=aW at V y ⊢;refine aA (B1 ar y) ?_;rintro _ a ⟨rfl,ab,C⟩;refine⟨ab.1,?_⟩;generalize eJ T aS=q at C d ⊢;obtain⟨⟨k,x,z,p⟩,ho⟩:=q;simp only at C d;have j:=aw.push a (.row X 4 [[J U k,Z x,J U z,J U p]]);have aG:=ad.a_ a (.row X 4 [[J U k,Z x,J U z,J U p]])
 simp only[aR,A,bL,aB,bL,cd,aa.cells,cD,cw,b7,cX,cX,Tok.v];have S:=(R.trans V).trans ab;have a1:=S.1;have au:=C.av j;have am:(a.push (.row X 4 [[J U k,Z x,J U z,J U p]])).next=a.next+1:=by simp only[ad.bb]
 generalize a.push (.row X 4 [[J U k,Z x,J U z,J U p]])=F at j aG au am ⊢;have ap:=aw.push F (.row X 7 [[Z x,.ag,D X,Z [],J U 0,.ag,J U p]]);have a2:=j.1;have O:fq H (F.push (.row X 7 [[Z x,.ag,D X,Z [],J U 0,.ag,J U p]])) r (a.next+1) (a.next+2) 7 T af rv gv fv (Z x) [D X,Z [],J U 0,.ag,J U p] [] .ag ho:=
  ⟨au.av ap,by rw[<-am];exact ad.a_ _ _,c1.nil,bs.oO (S.trans ((j.trans ap).mut _)),aL,ae,ae,by simp only[ad.bb];omega⟩
 refine aA (o4 ar O.E [40]) ?_;rintro _ aX ⟨rfl,ah,ay⟩;refine⟨ah.1,?_⟩;have i:=O.mut ah ay;obtain⟨⟨l',m⟩,c,o⟩:=ew d;simp only[aT]at o;have aD:g'=(ih T g x p l' (fX T m).1 (fX T m).2).1:=by rw[o]
 have aE:s'=(ih T g x p l' (fX T m).1 (fX T m).2).2:=by rw[o]
 rw[aD,aE];generalize (bD T [40] ho).2=aU at i ay c;refine aA (re i.E 4 [41]) ?_;rintro _ aY ⟨rfl,w⟩;refine⟨w.1,?_⟩;have Q:=i.mut (w.mut _) (i.E.av w);unfold oD at c;cases K:a8 T aU 4 [41]with
 |true=>
  rw[K,aK]at c;cases c;simp only[aR,fg];exact IS ar B Q
 |false=>
  rw[K,aH]at c;simp only[aR,hi];refine aA (LA ar (by rfl) B.E Q (by simp)) ?_;rintro _ aC ⟨aM,aV,aF⟩;exact⟨aM,IU ar B n (n+1) aC _ _ aV ae (by simp only[hl,yz,de,BC];omega) aF c⟩
end
section
set_option maxRecDepth 100000
noncomputable section
def rP(o:e)(N:Nat)(F h k:aa)(H:ad):O:=bU P .len [9] [F] H λj=>C (bA P 57 [(0,(J U 0)),(3,j)]) λl=>bO H (b0 P (H).next 50 1 [(0,l)]) λm a=>i a (c_ P a [50,50] k m) λn c=>aG c (aB P c 29 h (.agg [J U 0,J U 0])) λd=>C (A P d 29 h) λr=>I (.tuple [n,r],d)
def YX(a:e)(N:Nat):∀V H,a7 P a N (L (L (L (L (L (n Tryz.f24)))))) (p Tryz.f24) [] (p Tryz.f24) V H=rP a N (V 0) (V 3) (V 4) H:=by
 refine bm (q _) λV H=> ?_
 delta rP;kernel_rfl
def CV(a:aa->aa->aa->aa->ad->O)(F d:aa)(e h:aa)(c:ad):O:=a F d e h c
def uw(j:e)(N:Nat)(p:aa->aa->aa->aa->ad->O)(F d:aa)(o h:aa)(H:ad):O:=bU P .len [9] [F] H λs=>C (w P .lss 3 X h s) λv=>aO (I v) (i H (j 58 [F,h] H) λm q=>C (dG m 0) λx=>C (dG m 1) λn=>bn q [J U 0,Z [],J U 0,J U 0] λaJ k=>aG k (aB P k 57 aJ x) λa=>C (w P .eql 3 Y n (J U 0)) λy=>aO (I y) (C (bA P 29 [(0,(J U 1)),(1,h)]) λz=>aG a (aB P a 29 d z) λc=>C (A P c 29 d) λr=>I (.tuple [aa.ag,r],c)) (C (A P a 57 aJ) λB=>bO a (b0 P (a).next 50 1 [(0,B)]) λE c=>i c (c_ P c [50,50] o E) λG l=>C (w P .add 3 X h n) λK=>i l (j 57 [F,K] l) (CV p F d G))) (rP j N F d o H)
def nJ(a:e)(N:Nat):Nat->aa->aa->aa->aa->ad->O
 |0,_,_,_,_,_=>u
 |n+1,F,c,d,h,H=>uw a N (nJ a N n) F c d h H
def YW(a:e)(N:Nat)(h:aa->aa->aa->aa->ad->O):∀V H,a7 P a N (d (d (d (L (L (L (L (n Tryz.f24)))))))) (λV H=>h (V 0) (V 3) (V 4) (V 5) H) [(0,(λV H=>rP a N (V 0) (V 3) (V 4) H))] (p Tryz.f24) V H=uw a N h (V 0) (V 3) (V 4) (V 5) H:=by
 refine bm (q _) λV H=> ?_
 delta uw CV;generalize rP a N=c;revert c;refine id ?_;intro c;kernel_rfl
def CW(a:e)(N:Nat)(F h d:aa)(c:ad):O:=nJ a N N F h aa.ag d c
def uu(d:e)(N:Nat)(F:aa)(H:ad):O:=bn H [J U 0,J U 0] λc a=>bU P .len [9] [F] a λk=>C (w P .gtr 3 Y k (J U 6000)) λj=>aO (I j) (aG a (aB P a 29 c (.agg [J U 4,J U 0])) λh=>C (A P h 29 c) λr=>I (.tuple [aa.ag,r],h)) (i a (d 57 [F,J U 0] a) (CW d N F c))
def Wv(N:Nat){F:aa}{H:ad}{r:aa×ad}(h:uu (al P aj) N F H=I r):al P aj 24 [F] H=I r:=bu N (S:=λa=>uu a N F H) Tryz.func24 (λa=>cG ((Q M ((Q M ((Q M ((Q M ((Q M (YX a N) ((cn M ((cY (k:=λm V H=>nJ a N m (V 0) (V 3) (V 4) (V 5) H) M (λV H=>M) (λm=>YW a N (nJ a N m)))))))) (q _))) (q _))) (q _))) (q _))) (by delta uu CW;generalize nJ a N N=c;revert c;refine id ?_;intro c;kernel_rfl)) h
def pO(a:e)(N:Nat)(y:aa)(H:ad):O:=some (y,H)
def Zy(a:e)(N:Nat):∀V H,a7 P a N (L (L (n Tryz.f57))) (p Tryz.f57) [] (p Tryz.f57) V H=pO a N (V 1) H:=by
 refine bm (q _) λV H=> ?_
 delta pO;kernel_rfl
def r5(x:e)(N:Nat)(d:aa->aa->ad->O)(h:aa->aa->ad->O)(F y:aa)(H:ad):O:=bU P .len [9] [F] H λm=>C (w P .lss 3 X y m) λa=>S a Y H (bP F) λn i=>S a Y i (bP y) λo j=>S a Y j (k (eF P 9 n o)) λp l=>S a Y l (k (w P .neq 5 Y p (J .u8 10))) λq c=>C (bC a (I q) (I (D X))) λs=>aO (I s) (C (w P .add 3 Y y (J U 1)) λv=>h F v c) (d F y c)
def mh(a:e)(N:Nat)(c:aa->aa->ad->O):Nat->aa->aa->ad->O
 |0,_,_,_=>u
 |n+1,F,y,H=>r5 a N c (mh a N c n) F y H
def Zx(c:e)(N:Nat)(a:aa->aa->ad->O)(i:aa->aa->ad->O):∀V H,a7 P c N (d (d (d (L (L (L (d (d (L (d (d (d (L (n Tryz.f57)))))))))))))) (λV H=>i (V 0) (V 1) H) [(3,(λV H=>a (V 0) (V 1) H)),(2,(λV H=>a (V 0) (V 1) H)),(1,(λV H=>a (V 0) (V 1) H)),(0,(λV H=>pO c N (V 1) H))] (p Tryz.f57) V H=r5 c N a i (V 0) (V 1) H:=by
 refine bm (q _) λV H=> ?_
 delta r5;generalize a=h;revert h;refine id ?_;intro h;kernel_rfl
def kE(j:e)(N:Nat)(l:aa->aa->ad->O)(F y:aa)(H:ad):O:=bU P .len [9] [F] H λaB=>C (w P .lss 3 X y aB) λaC=>aO (I aC) (C (eF P 9 F y) λR=>C (w P .eql 5 Y R (J .u8 32)) λc=>S c X H (bP F) λT n=>S c X n (bP y) λV A=>S c X A (k (eF P 9 T V)) λW B=>S c X B (k (w P .eql 5 Y W (J .u8 9))) λab E=>C (bC c (I (D Y)) (I ab)) λd=>S d X E (bP F) λae G=>S d X G (bP y) λaf K=>S d X K (k (eF P 9 ae af)) λah L=>S d X L (k (w P .eql 5 Y ah (J .u8 10))) λai M=>C (bC d (I (D Y)) (I ai)) λh=>S h X M (bP F) λaj Q=>S h X Q (bP y) λak o=>S h X o (k (eF P 9 aj ak)) λal p=>S h X p (k (w P .eql 5 Y al (J .u8 13))) λam i=>C (bC h (I (D Y)) (I am)) λan=>aO (I an) (C (w P .add 3 Y y (J U 1)) λao=>l F ao i) (bU P .len [9] [F] i λap=>C (w P .sub 3 X ap y) λaq=>C (w P .geq 3 Y aq (J U 2)) λa=>S a Y i (bP F) λar q=>S a Y q (bP y) λau s=>S a Y s (bP y) λav v=>S a Y v (k (w P .add 3 Y av (J U 2))) λaw x=>S a Y x (k (ff P 9 ar (I au) (I aw) u)) λay z=>S a Y z (k (w P .eql 9 Y ay (Z [47,47]))) λaz m=>C (bC a (I az) (I (D X))) λaA=>aO (I aA) (mh j N l N F y m) (I (y,m)))) (pO j N y H)
def iq(a:e)(N:Nat):Nat->aa->aa->ad->O
 |0,_,_,_=>u
 |n+1,F,y,H=>kE a N (iq a N n) F y H
def Zw(a:e)(N:Nat)(c:aa->aa->ad->O):∀V H,a7 P a N (d (d (d (L (n Tryz.f57))))) (λV H=>c (V 0) (V 1) H) [(0,(λV H=>pO a N (V 1) H))] (p Tryz.f57) V H=kE a N c (V 0) (V 1) H:=by
 refine bm ((Q M ((cn M ((cn M ((Q M ((e6 M (q _) ((Q M ((e6 M ((cn M ((cY (k:=λm V H=>mh a N c m (V 0) (V 1) H) M (λV H=>M) (λm=>Zx a N c (mh a N c m)))))) (q _))) (q _))))) (q _))))))) (q _))) λV H=> ?_
 delta kE;generalize pO a N=h;generalize mh a N c N=i;revert h i;refine id ?_;intro h i;kernel_rfl
def yt(a:e)(N:Nat)(F y:aa)(H:ad):O:=iq a N N F y H
def W1(N:Nat){F y:aa}{H:ad}{r:aa×ad}(h:yt (al P aj) N F y H=I r):al P aj 57 [F,y] H=I r:=bu N (S:=λa=>yt a N F y H) Tryz.func57 (λa=>cG ((Q M ((Q M (Zy a N) ((cn M ((cY (k:=λm V H=>iq a N m (V 0) (V 1) H) M (λV H=>M) (λm=>Zw a N (iq a N m)))))))) (q _))) (by delta yt;generalize iq a N N=c;revert c;refine id ?_;intro c;kernel_rfl)) h
def yu(h:e)(F y:aa)(H:ad):O:=bn H [J U 0,Z [],J U 0,J U 0] λc L=>C (eF P 9 F y) λav=>i L (h 76 [av] L) λaw x=>aO (I aw) (i x (h 77 [F,y,D X] x) λG l=>C (w P .add 3 X y G) λay=>C (ff P 9 F (I y) (I ay) u) λB=>i l (h 78 [B] l) λaz d=>aO (I az) (C (bA P 57 [(0,(J U 3)),(1,B),(3,y)]) λaA=>aG d (aB P d 57 c aA) λa=>C (A P a 57 c) λr=>I (.tuple [r,G],a)) (i d (h 79 [B] d) λaC a=>aO (I aC) (C (bA P 57 [(0,(J U 1)),(1,B),(3,y)]) λaD=>aG a (aB P a 57 c aD) λm=>C (A P m 57 c) λr=>I (.tuple [r,G],m)) (aG a (aB P a 57 c (.agg [J U 0,Z [],J U 0,J U 0])) λm=>C (A P m 57 c) λr=>I (.tuple [r,J U 0],m)))) (C (eF P 9 F y) λaE=>i x (h 80 [aE] x) λaF l=>aO (I aF) (i l (h 77 [F,y,D Y] l) λp d=>C (w P .add 3 X y p) λaH=>C (ff P 9 F (I y) (I aH) u) λaI=>i d (h 81 [aI] d) λN a=>C (dG N 0) λaJ=>C (dG N 1) λaK=>C (cI .not aK) λs=>S s X a (bP p) λaL m=>S s X m (k (w P .gtr 3 Y aL (J U 1))) λaM ap=>S s X ap (bP aM) λv aq=>S v Y aq (bP F) λaN ar=>S v Y ar (bP y) λaP R=>S v Y R (k (eF P 9 aN aP)) λaQ T=>S v Y T (k (w P .eql 5 Y aQ (J .u8 48))) λaR V=>S s X V (k (bC v (I aR) (I (D X)))) λaS W=>C (bC s (I (D Y)) (I aS)) λj=>S j X W (bP y) λaT ab=>S j X ab (bP p) λaU ae=>S j X ae (k (w P .add 3 X aT aU)) λaV af=>S j X af (bP F) λQ M=>S j X M (λq=>et (bK P .empty .len [9] [Q]) (bK P M .len [9] [Q]) q) λaW ah=>S j X ah (k (w P .lss 3 X aV aW)) λaX ai=>S j X ai (bP aX) λn aj=>S n Y aj (bP F) λaY ak=>S n Y ak (bP y) λaZ al=>S n Y al (bP p) λa0 am=>S n Y am (k (w P .add 3 X aZ a0)) λa1 an=>S n Y an (k (eF P 9 aY a1)) λa2 E=>S n Y E (λq=>cZ E (h 76 [a2] E) q) λa3 ao=>S j X ao (k (bC n (I a3) (I (D X)))) λa4 z=>C (bC j (I (D Y)) (I a4)) λa5=>aO (I a5) (aG z (aB P z 57 c (.agg [J U 0,Z [],J U 0,J U 0])) λo=>C (A P o 57 c) λr=>I (.tuple [r,J U 0],o)) (C (bA P 57 [(0,(J U 2)),(2,aJ),(3,y)]) λa6=>aG z (aB P z 57 c a6) λo=>C (A P o 57 c) λr=>I (.tuple [r,p],o))) (i l (h 82 [F,y] l) λK d=>C (w P .eql 9 Y K (Z [])) λa7=>aO (I a7) (aG d (aB P d 57 c (.agg [J U 0,Z [],J U 0,J U 0])) λa=>C (A P a 57 c) λr=>I (.tuple [r,J U 0],a)) (C (bA P 57 [(0,(J U 4)),(1,K),(3,y)]) λa8=>bU P .len [9] [K] d λau=>aG d (aB P d 57 c a8) λa=>C (A P a 57 c) λr=>I (.tuple [r,au],a))))
def W2(N:Nat){F y:aa}{H:ad}{r:aa×ad}(h:yu (al P aj) F y H=I r):al P aj 58 [F,y] H=I r:=bu N (S:=λa=>yu a F y H) Tryz.func58 (λ_=>by delta yu;kernel_rfl) h
def yK(B:e)(F:aa)(H:ad):O:=C (w P .geq 5 Y F (J .u8 97)) λd=>S d Y H (bP F) λaJ h=>S d Y h (k (w P .leq 5 Y aJ (J .u8 122))) λA i=>C (bC d (I A) (I (D X))) λa=>S a X i (bP F) λq j=>S a X j (k (w P .geq 5 Y q (J .u8 65))) λs l=>S a X l (bP s) λc m=>S c Y m (bP F) λv n=>S c Y n (k (w P .leq 5 Y v (J .u8 90))) λx o=>S a X o (k (bC c (I x) (I (D X)))) λy p=>C (bC a (I (D Y)) (I y)) λz=>I (z,p)
def Xi(N:Nat){F:aa}{H:ad}{r:aa×ad}(h:yK (al P aj) F H=I r):al P aj 76 [F] H=I r:=bu N (S:=λa=>yK a F H) Tryz.func76 (λ_=>by delta yK;kernel_rfl) h
def nW(c:e)(N:Nat)(a:aa)(H:ad):O:=some (a,H)
def ZP(a:e)(N:Nat):∀V H,a7 P a N (L (L (L (n Tryz.f77)))) (p Tryz.f77) [] (p Tryz.f77) V H=nW a N (V 7) H:=by
 refine bm (q _) λV H=> ?_
 delta nW;kernel_rfl
def uH(i:e)(N:Nat)(o:aa->aa->aa->aa->ad->O)(F y:aa)(n h:aa)(H:ad):O:=C (w P .add 3 X y h) λV=>bU P .len [9] [F] H λW=>C (w P .lss 3 X V W) λa=>S a Y H (bP F) λab p=>S a Y p (bP y) λae G=>S a Y G (bP h) λaf K=>S a Y K (k (w P .add 3 X ae af)) λah L=>S a Y L (k (eF P 9 ab ah)) λai l=>S a Y l (λq=>cZ l (i 80 [ai] l) q) λaj M=>S a Y M (bP aj) λd Q=>S d X Q (bP n) λak R=>S d X R (k (cI .not ak)) λal T=>S d X T (bP al) λc s=>S c Y s (bP F) λam v=>S c Y v (bP y) λan x=>S c Y x (bP h) λao z=>S c Y z (k (w P .add 3 X an ao)) λap A=>S c Y A (k (eF P 9 am ap)) λaq j=>S c Y j (λq=>cZ j (i 76 [aq] j) q) λar B=>S d X B (k (bC c (I ar) (I (D X)))) λau E=>S a Y E (k (bC d (I (D Y)) (I au))) λav m=>C (bC a (I av) (I (D X))) λaw=>aO (I aw) (C (w P .add 3 Y h (J U 1)) λay=>o F y n ay m) (nW i N h m)
def mm(a:e)(N:Nat):Nat->aa->aa->aa->aa->ad->O
 |0,_,_,_,_,_=>u
 |n+1,F,y,c,d,H=>uH a N (mm a N n) F y c d H
def ZO(a:e)(N:Nat)(h:aa->aa->aa->aa->ad->O):∀V H,a7 P a N (d (d (d (L (L (n Tryz.f77)))))) (λV H=>h (V 0) (V 1) (V 2) (V 7) H) [(0,(λV H=>nW a N (V 7) H))] (p Tryz.f77) V H=uH a N h (V 0) (V 1) (V 2) (V 7) H:=by
 refine bm (q _) λV H=> ?_
 delta uH;generalize nW a N=c;revert c;refine id ?_;intro c;kernel_rfl
def yL(a:e)(N:Nat)(F y c:aa)(H:ad):O:=mm a N N F y c (J U 0) H
def Xj(N:Nat){F y c:aa}{H:ad}{r:aa×ad}(h:yL (al P aj) N F y c H=I r):al P aj 77 [F,y,c] H=I r:=bu N (S:=λa=>yL a N F y c H) Tryz.func77 (λa=>cG ((Q M ((Q M ((Q M (ZP a N) ((cn M ((cY (k:=λm V H=>mm a N m (V 0) (V 1) (V 2) (V 7) H) M (λV H=>M) (λm=>ZO a N (mm a N m)))))))) (q _))) (q _))) (by delta yL;generalize mm a N N=d;revert d;refine id ?_;intro d;kernel_rfl)) h
def r_(a:e)(N:Nat)(H:ad):O:=some ((D X),H)
def ZR(a:e)(N:Nat):∀V H,a7 P a N (L (L (L (n Tryz.f78)))) (p Tryz.f78) [] (p Tryz.f78) V H=r_ a N H:=by
 refine bm (q _) λV H=> ?_
 delta r_;kernel_rfl
def uI(d:e)(N:Nat)(h:aa->aa->aa->ad->O)(F a c:aa)(H:ad):O:=bU P .len [48] [a] H λm=>C (w P .lss 3 X c m) λn=>aO (I n) (C (bX P 48 a c) λj=>C (A P H 9 j) λk=>C (w P .eql 9 X k F) λl=>aO (I l) (I ((D Y),H)) (C (w P .add 3 Y c (J U 1)) λi=>h F a i H)) (r_ d N H)
def nX(a:e)(N:Nat):Nat->aa->aa->aa->ad->O
 |0,_,_,_,_=>u
 |n+1,F,c,d,H=>uI a N (nX a N n) F c d H
def ZQ(a:e)(N:Nat)(h:aa->aa->aa->ad->O):∀V H,a7 P a N (d (d (L (d (L (L (n Tryz.f78))))))) (λV H=>h (V 0) (V 3) (V 4) H) [(0,(λV H=>r_ a N H))] (p Tryz.f78) V H=uI a N h (V 0) (V 3) (V 4) H:=by
 refine bm (q _) λV H=> ?_
 delta uI;generalize r_ a N=c;revert c;refine id ?_;intro c;kernel_rfl
def CX(a:e)(N:Nat)(F d:aa)(c:ad):O:=nX a N N F d (J U 0) c
def yM(a:e)(N:Nat)(F:aa)(H:ad):O:=i H (a 108 [] H) (CX a N F)
def Xk(N:Nat){F:aa}{H:ad}{r:aa×ad}(h:yM (al P aj) N F H=I r):al P aj 78 [F] H=I r:=bu N (S:=λa=>yM a N F H) Tryz.func78 (λa=>cG ((Q M ((Q M ((Q M (ZR a N) ((Q M ((cn M ((cY (k:=λm V H=>nX a N m (V 0) (V 3) (V 4) H) M (λV H=>M) (λm=>ZQ a N (nX a N m)))))) (q _))))) (q _))) (q _))) (by delta yM CX;generalize nX a N N=c;revert c;refine id ?_;intro c;kernel_rfl)) h
def sb(a:e)(N:Nat)(H:ad):O:=some ((D Y),H)
def ZT(a:e)(N:Nat):∀V H,a7 P a N (L (L (L (n Tryz.f79)))) (p Tryz.f79) [] (p Tryz.f79) V H=sb a N H:=by
 refine bm (q _) λV H=> ?_
 delta sb;kernel_rfl
def uJ(d:e)(N:Nat)(l:aa->aa->ad->O)(F c:aa)(H:ad):O:=bU P .len [9] [F] H λs=>C (w P .lss 3 X c s) λv=>aO (I v) (C (eF P 9 F c) λy=>i H (d 76 [y] H) λz m=>C (cI .not z) λa=>S a Y m (bP F) λA n=>S a Y n (bP c) λB o=>S a Y o (k (eF P 9 A B)) λE h=>S a Y h (λq=>cZ h (d 80 [E] h) q) λG p=>S a Y p (k (cI .not G)) λK j=>C (bC a (I K) (I (D X))) λL=>aO (I L) (I ((D X),j)) (C (w P .add 3 Y c (J U 1)) λx=>l F x j)) (sb d N H)
def nY(a:e)(N:Nat):Nat->aa->aa->ad->O
 |0,_,_,_=>u
 |n+1,F,c,H=>uJ a N (nY a N n) F c H
def ZS(a:e)(N:Nat)(h:aa->aa->ad->O):∀V H,a7 P a N (d (d (L (d (L (L (n Tryz.f79))))))) (λV H=>h (V 0) (V 3) H) [(0,(λV H=>sb a N H))] (p Tryz.f79) V H=uJ a N h (V 0) (V 3) H:=by
 refine bm (q _) λV H=> ?_
 delta uJ;generalize sb a N=c;revert c;refine id ?_;intro c;kernel_rfl
def sa(c:e)(N:Nat)(F:aa)(H:ad):O:=bU P .len [9] [F] H λL=>C (w P .lss 3 Y L (J U 1)) λaJ=>S aJ X H (bP F) λm j=>S aJ X j (λq=>et (bK P .empty .len [9] [m]) (bK P j .len [9] [m]) q) λM n=>S aJ X n (k (w P .gtr 3 Y M (J U 8))) λx o=>C (bC aJ (I (D Y)) (I x)) λa=>S a X o (bP F) λy p=>S a X p (k (eF P 9 y (J U 0))) λz d=>S a X d (λq=>cZ d (c 76 [z] d) q) λA s=>S a X s (k (cI .not A)) λB v=>C (bC a (I (D Y)) (I B)) λi=>S i X v (bP F) λE h=>S i X h (λq=>cZ h (c 78 [E] h) q) λG l=>C (bC i (I (D Y)) (I G)) λK=>aO (I K) (I ((D X),l)) (nY c N N F (J U 0) l)
def Xl(N:Nat){F:aa}{H:ad}{r:aa×ad}(h:sa (al P aj) N F H=I r):al P aj 79 [F] H=I r:=bu N (S:=λa=>sa a N F H) Tryz.func79 (λa=>cG ((Q M ((Q M ((Q M (ZT a N) ((Q M ((cn M ((cY (k:=λm V H=>nY a N m (V 0) (V 3) H) M (λV H=>M) (λm=>ZS a N (nY a N m)))))) (q _))))) (q _))) (q _))) (by delta sa;generalize nY a N N=c;revert c;refine id ?_;intro c;kernel_rfl)) h
def yO(j:e)(F:aa)(H:ad):O:=C (w P .geq 5 Y F (J .u8 48)) λa=>S a Y H (bP F) λaJ c=>S a Y c (k (w P .leq 5 Y aJ (J .u8 57))) λh d=>C (bC a (I h) (I (D X))) λi=>I (i,d)
def Xn(N:Nat){F:aa}{H:ad}{r:aa×ad}(h:yO (al P aj) F H=I r):al P aj 80 [F] H=I r:=bu N (S:=λa=>yO a F H) Tryz.func80 (λ_=>by delta yO;kernel_rfl) h
def sd(c:e)(N:Nat)(a:aa)(H:ad):O:=some (.tuple [a,D Y],H)
def ZV(a:e)(N:Nat):∀V H,a7 P a N (L (L (L (n Tryz.f81)))) (p Tryz.f81) [] (p Tryz.f81) V H=sd a N (V 4) H:=by
 refine bm (q _) λV H=> ?_
 delta sd;kernel_rfl
def sc(h:e)(N:Nat)(i:aa->aa->aa->ad->O)(F a c:aa)(H:ad):O:=bU P .len [9] [F] H λv=>C (w P .lss 3 X c v) λj=>aO (I j) (C (eF P 9 F c) λl=>C (w P .sub 5 Y l (J .u8 48)) λm=>sG P 5 3 m H λd=>C (w P .sub 3 Y (J U 9223372036854775807) d) λn=>C (w P .quo 3 Y n (J U 10)) λo=>C (w P .gtr 3 X a o) λp=>aO (I p) (I (.tuple [J U 0,D X],H)) (C (w P .mul 3 Y (J U 10) a) λq=>C (w P .add 3 X q d) λs=>C (w P .add 3 Y c (J U 1)) λk=>i F s k H)) (sd h N a H)
def mo(a:e)(N:Nat):Nat->aa->aa->aa->ad->O
 |0,_,_,_,_=>u
 |n+1,F,c,d,H=>sc a N (mo a N n) F c d H
def ZU(a:e)(N:Nat)(h:aa->aa->aa->ad->O):∀V H,a7 P a N (d (d (L (d (L (L (n Tryz.f81))))))) (λV H=>h (V 0) (V 4) (V 5) H) [(0,(λV H=>sd a N (V 4) H))] (p Tryz.f81) V H=sc a N h (V 0) (V 4) (V 5) H:=by
 refine bm (q _) λV H=> ?_
 delta sc;generalize sd a N=c;revert c;refine id ?_;intro c;kernel_rfl
def yP(a:e)(N:Nat)(F:aa)(H:ad):O:=mo a N N F (J U 0) (J U 0) H
def Xo(N:Nat){F:aa}{H:ad}{r:aa×ad}(h:yP (al P aj) N F H=I r):al P aj 81 [F] H=I r:=bu N (S:=λa=>yP a N F H) Tryz.func81 (λa=>cG ((Q M ((Q M ((Q M (ZV a N) ((Q M ((cn M ((cY (k:=λm V H=>mo a N m (V 0) (V 4) (V 5) H) M (λV H=>M) (λm=>ZU a N (mo a N m)))))) (q _))))) (q _))) (q _))) (by delta yP;generalize mo a N N=c;revert c;refine id ?_;intro c;kernel_rfl)) h
def sf(a:e)(N:Nat)(H:ad):O:=some ((Z []),H)
def ZZ(a:e)(N:Nat):∀V H,a7 P a N (L (L (L (L (L (n Tryz.f82)))))) (p Tryz.f82) [] (p Tryz.f82) V H=sf a N H:=by
 refine bm (q _) λV H=> ?_
 delta sf;kernel_rfl
def se(d:e)(N:Nat)(h:aa->aa->aa->aa->ad->O)(F y:aa)(c a:aa)(H:ad):O:=bU P .len [9] [c] H λi=>C (w P .lss 3 X a i) λj=>aO (I j) (C (eF P 9 F y) λl=>C (eF P 9 c a) λm=>C (w P .eql 5 X l m) λn=>aO (I n) (C (w P .add 3 Y a (J U 1)) λo=>C (ff P 9 c (I a) (I o) u) λp=>I (p,H)) (C (w P .add 3 Y a (J U 1)) λk=>h F y c k H)) (sf d N H)
def mq(a:e)(N:Nat):Nat->aa->aa->aa->aa->ad->O
 |0,_,_,_,_,_=>u
 |n+1,F,y,c,d,H=>se a N (mq a N n) F y c d H
def ZW(a:e)(N:Nat)(h:aa->aa->aa->aa->ad->O):∀V H,a7 P a N (d (d (L (d (L (L (L (L (n Tryz.f82))))))))) (λV H=>h (V 0) (V 1) (V 7) (V 8) H) [(2,(λV H=>sf a N H))] (p Tryz.f82) V H=se a N h (V 0) (V 1) (V 7) (V 8) H:=by
 refine bm (q _) λV H=> ?_
 delta se;generalize sf a N=c;revert c;refine id ?_;intro c;kernel_rfl
def pX(a:e)(N:Nat)(F y:aa)(H:ad):O:=mq a N N F y (Z [123,125,40,41,91,93,59,58,44,46,61,43,45,42,47,37,60,33]) (J U 0) H
def ZY(a:e)(N:Nat):∀V H,a7 P a N (L (L (L (n Tryz.f82)))) (p Tryz.f82) [] (p Tryz.f82) V H=pX a N (V 0) (V 1) H:=by
 refine bm ((Q M ((Q M (ZZ a N) ((Q M ((cn M ((cY (k:=λm V H=>mq a N m (V 0) (V 1) (V 7) (V 8) H) M (λV H=>M) (λm=>ZW a N (mq a N m)))))) (q _))))) (q _))) λV H=> ?_
 delta pX;generalize mq a N N=c;revert c;refine id ?_;intro c;kernel_rfl
def pW(i:e)(N:Nat)(j:aa->aa->aa->aa->ad->O)(F y:aa)(c aJ:aa)(H:ad):O:=bU P .len [48] [c] H λx=>C (w P .lss 3 X aJ x) λz=>aO (I z) (bU P .len [9] [F] H λE=>C (w P .sub 3 X E y) λG=>C (w P .geq 3 Y G (J U 2)) λa=>S a Y H (bP F) λK l=>S a Y l (bP y) λL m=>S a Y m (bP y) λM n=>S a Y n (k (w P .add 3 Y M (J U 2))) λQ o=>S a Y o (k (ff P 9 K (I L) (I Q) u)) λR p=>S a Y p (bP c) λT q=>S a Y q (bP aJ) λV s=>S a Y s (k (bX P 48 T V)) λW h=>S a Y h (qr (A P h 9 W)) λab v=>S a Y v (k (w P .eql 9 X R ab)) λae d=>C (bC a (I ae) (I (D X))) λaf=>aO (I af) (C (bX P 48 c aJ) λah=>C (A P d 9 ah) λai=>I (ai,d)) (C (w P .add 3 Y aJ (J U 1)) λB=>j F y c B d)) (pX i N F y H)
def ly(a:e)(N:Nat):Nat->aa->aa->aa->aa->ad->O
 |0,_,_,_,_,_=>u
 |n+1,F,y,c,aJ,H=>pW a N (ly a N n) F y c aJ H
def ZX(a:e)(N:Nat)(h:aa->aa->aa->aa->ad->O):∀V H,a7 P a N (d (d (L (d (L (L (n Tryz.f82))))))) (λV H=>h (V 0) (V 1) (V 5) (V 6) H) [(0,(λV H=>pX a N (V 0) (V 1) H))] (p Tryz.f82) V H=pW a N h (V 0) (V 1) (V 5) (V 6) H:=by
 refine bm (q _) λV H=> ?_
 delta pW;generalize pX a N=c;revert c;refine id ?_;intro c;kernel_rfl
def CY(a:e)(N:Nat)(F y d:aa)(c:ad):O:=ly a N N F y d (J U 0) c
def yQ(a:e)(N:Nat)(F y:aa)(H:ad):O:=bO H (I (.ax (H).next 0 5 1 (I 5),.row X 1 [[Z [60,61]],[Z [61,61]],[Z [33,61]],[Z [38,38]],[Z [124,124]]])) (CY a N F y)
def Xp(N:Nat){F y:aa}{H:ad}{r:aa×ad}(h:yQ (al P aj) N F y H=I r):al P aj 82 [F,y] H=I r:=bu N (S:=λa=>yQ a N F y H) Tryz.func82 (λa=>cG ((Q M ((Q M ((Q M (ZY a N) ((Q M ((cn M ((cY (k:=λm V H=>ly a N m (V 0) (V 1) (V 5) (V 6) H) M (λV H=>M) (λm=>ZX a N (ly a N m)))))) (q _))))) (q _))) (q _))) (by delta yQ CY;generalize ly a N N=c;revert c;refine id ?_;intro c;kernel_rfl)) h
def Cq(y:aa)(a:ad):O:=some (y,a)
def wT(a:e)(H:ad):O:=bO H (I (.ax (H).next 0 18 1 (I 18),.row X 1 [[Z [114,101,99,111,114,100]],[Z [103,108,111,98,97,108]],[Z [102,117,110,99]],[Z [118,97,114]],[Z [108,101,116]],[Z [105,102]],[Z [101,108,115,101]],[Z [119,104,105,108,101]],[Z [114,101,116,117,114,110]],[Z [112,114,105,110,116]],[Z [110,117,108,108]],[Z [110,101,119]],[Z [108,101,110]],[Z [114,101,97,100]],[Z [116,114,117,101]],[Z [102,97,108,115,101]],[Z [105,110,116]],[Z [98,111,111,108]]])) (Cq)
def Vq(N:Nat){H:ad}{r:aa×ad}(h:wT (al P aj) H=I r):al P aj 108 [] H=I r:=bu N (S:=λa=>wT a H) Tryz.func108 (λ_=>by delta wT Cq;kernel_rfl) h
end
end
def SH(s:List UInt8)(k:Int):eF P 9 (Z s) (J U k)=if 0<=k then(match s[k.toNat]? with|some b=>I (J .u8 b.toNat)|none=>u)else none:=M
def iC{s:List UInt8}{k:Nat}{b:UInt8}(h:s[k]? =I b):eF P 9 (Z s) (J U (k:Int))=I (J .u8 b.toNat):=by
 rw[SH,if_pos ae];simp[h]
def vI{s:List UInt8}{b:UInt8}(h:s[0]? =I b):eF P 9 (Z s) (J U 0)=I (J .u8 b.toNat):=iC (k:=0) h
def j8(a b:Nat)(h:a+b<=4000000000000000000):IntKind.i64.wrap ((a:Int)+(b:Int))=((a+b:Nat):Int):=by rw[wrap_i64 ae ae];omega
def ht(a:Nat)(h:a<=4000000000000000000):IntKind.i64.wrap ((a:Int)+1)=((a+1:Nat):Int):=by rw[wrap_i64 ae ae];omega
def zo(a:Nat)(h:a<=4000000000000000000):IntKind.i64.wrap ((a:Int)+2)=((a+2:Nat):Int):=by rw[wrap_i64 ae ae];omega
def OJ(a b:Nat)(h:a<=4000000000000000000)(c:b<=a):IntKind.i64.wrap ((a:Int)-(b:Int))=((a-b:Nat):Int):=by rw[wrap_i64 ae ae];omega
def qX{H:ad}(c:Int):W (al P aj 76 [J .u8 c] H) λv H'=>v= D (gx c)/\H'=H:=by
 refine bt (λ_=>Xi 0) ?_;unfold gx;cases a:decide (97<=c)<;>cases d:decide (c<=122)<;>cases e:decide (65<=c)<;>cases h:decide (c<=90)<;>
  (simp only[yK,aR,b8,a,d,e,h];exact aD.2 ⟨rfl,rfl⟩)
def Aq{H:ad}(c:Int):W (al P aj 80 [J .u8 c] H) λv H'=>v= D (ib c)/\H'=H:=by
 refine bt (λ_=>Xn 0) ?_;unfold ib;cases a:decide (48<=c)<;>cases d:decide (c<=57)<;>
  (simp only[yO,aR,b8,a,d];exact aD.2 ⟨rfl,rfl⟩)
def drop_cons{s:ay}{k:Nat}{c:UInt8}{r:ay}(h:s.drop k=c::r):s[k]? =I c/\s.drop (k+1)=r/\k<s.length/\s.length=k+1+r.length:=by
 have a:s[k]? =I c:=by
  have:=lm (xs:=s) (i:=k) (j:=0);rw[h]at this;simpa using this.symm
 have d:s.drop (k+1)=r:=by
  have:(s.drop k).drop 1=r:=by rw[h];rfl
  rwa[vw]at this
 have e:k<s.length:=(List.getElem?_eq_some_iff.1 a).1;have l:=congrArg wx h;simp at l;exact⟨a,d,e,ae⟩
def drop_nil{s:ay}{k:Nat}(h:s.drop k=[]):s.length<=k:=List.drop_eq_nil_iff.1 h
def Mx{H:ad}{s:ay}(au:s.length<=1000000000000000000)(at_:Nat)(d:Bool)(N:Nat):∀(rest:ay) (n m:Nat),s.drop (at_+n)=rest->at_+n<=s.length->rest.length<m->
  W (mm (al P aj) N m (Z s) (J U at_) (D d) (J U n) H) λv H'=>v= J U ((n+runN d rest:Nat):Int)/\H'=H
 |_,_,0,_,_,j=>ae
 |[],n,m+1,h,p,j=>by
  have:=drop_nil h;have i:¬(((at_+n:Nat):Int)<(s.length:Int)):=ae;simp(disch:=try exact ah)only[mm,nW,uH,ai,j8,i,decide_false];exact aD.2 ⟨by simp[runN],rfl⟩
 |c::r,n,m+1,h,p,j=>by
  obtain⟨ap,aE,bB,cc⟩:=drop_cons h;have i:(((at_+n:Nat):Int)<(s.length:Int)):=ae;have q:=Mx (H:=H) au at_ d N r (n+1) m (by rw[<-CD];exact aE) ae (by simp at j;omega);have k:=iC ap;simp(disch:=try exact ah)only[mm,uH,ai,j8,i,decide_true,k];refine jJ (Aq _) ?_;have fin:∀b,(cu c||(!d&&cy c))=b->(b=Y->W (mm (al P aj) N m (Z s) (J U at_) (D d) (J U ((n+1:Nat):Int)) H) λv H'=>v= J U ((n+runN d (c::r):Nat):Int)/\H'=H)/\(b=X->n+runN d (c::r)=n):=by
   intro b l;refine⟨λh=> ?_,λh=> ?_⟩
   ·refine q.mono ?_;rintro v H' ⟨rfl,rfl⟩;subst h;have e:runN d (c::r)=runN d r+1:=by rw[runN,l];rfl
    have o:n+1+runN d r=n+runN d (c::r):=by rw[e];omega
    exact⟨by rw[o],rfl⟩
   ·subst h;rw[runN,l];rfl
  cases a:ib (c.toNat:Int)with
  |true=>
   simp(disch:=try exact ah)only[aR,b8,ht];exact(fin Y (by simp[cu,a])).1 rfl
  |false=>
   cases d with
   |true=>
    simp(disch:=try exact ah)only[nW,aR,fg];exact aD.2 ⟨by rw[(fin X (by simp[cu,a])).2 rfl],rfl⟩
   |false=>
    simp(disch:=try exact ah)only[ai,hi,j8,k];refine jJ (qX _) ?_;cases ak:gx (c.toNat:Int)with
    |true=>
     simp(disch:=try exact ah)only[aR,b8,ht];exact(fin Y (by simp[cu,cy,a,ak])).1 rfl
    |false=>
     simp(disch:=try exact ah)only[nW,aR];exact aD.2 ⟨by rw[(fin X (by simp[cu,cy,a,ak])).2 rfl],rfl⟩
def Mz{H:ad}{s:ay}(au:s.length<=1000000000000000000)(at_:Nat)(a:at_<=s.length)(d:Bool):W (al P aj 77 [Z s,J U at_,D d] H) λv H'=>v= J U (runN d (s.drop at_):Nat)/\H'=H:=by
 refine bt (λ_=>Xj (s.length+1)) ?_;rw[yL];have:=Mx (H:=H) au at_ d (s.length+1) (s.drop at_) 0 (s.length+1) rfl ae (by simp;omega);simpa using this
def D_{H:ad}{x:ay}{l:Nat}(N:Nat)(all:List ay)(j:all.length<=1000)(h:H.get l=I (.row X 1 (all.map λy=>[aa.str y]))):∀(rest pre:List ay),all=pre++rest->∀(m:Nat),rest.length<m->
  W (nX (al P aj) N m (Z x) (.ax l 0 all.length 1 (I all.length)) (J U pre.length) H) λv H'=>v= D (ez x rest)/\H'=H
 |_,_,_,0,d=>ae
 |[],pre,a,m+1,d=>by
  have c:¬((pre.length:Int)<(all.length:Int)):=by rw[a];simp
  simp(disch:=try exact ah)only[nX,r_,uI,ai,c,decide_false];exact aD.2 ⟨rfl,rfl⟩
 |y::o,pre,a,m+1,d=>by
  have c:((pre.length:Int)<(all.length:Int)):=by rw[a];simp;omega
  have p:(0:Int)<=(pre.length:Int):=ae;have ap:((pre.length:Int)).toNat=pre.length:=ae;have q:pre.length<all.length:=ae;have k:(all.map λy=>[aa.str y])[pre.length]? =I [aa.str y]:=by rw[a];simp
  have n:((pre++[y]).length:Int)=((pre.length+1:Nat):Int):=by simp
  simp(disch:=try exact ah)only[nX,uI,ai,c,decide_true,h,ap,k];cases e:y==x with
  |true=>
   simp(disch:=try exact ah)only[aR];exact aD.2 ⟨by simp[ez,e],rfl⟩
  |false=>
   have i:=D_ (H:=H) (x:=x) N all j h o (pre++[y]) (by simp[a]) m (by simp at d;omega);rw[n]at i;simp(disch:=try exact ah)only[aR,b8,ht];refine i.mono ?_;rintro v H' ⟨rfl,rfl⟩;exact⟨by simp[ez,e],rfl⟩
def Ea{H:ad}(x:ay):W (al P aj 78 [Z x] H) λv H'=>v= D (fB x)/\aw H H':=by
 refine bt (λ_=>Xk 19) ?_;rw[yM];have a:W (al P aj 108 [] H) λv H'=>v= .ax H.next 0 h.length 1 (I h.length)/\H'=H.push (.row X 1 (h.map λy=>[aa.str y])):=by
  refine bt (λ_=>Vq 0) ?_;rw[wT];simp only[qc,Cq];exact aD.2 ⟨rfl,rfl⟩
 refine aA a ?_;rintro _ _ ⟨rfl,rfl⟩;refine⟨(aw.push _ _).1,?_⟩;rw[CX];refine(D_ (x:=x) 19 h aC (ad.a_ _ _) h [] rfl 19 aC).mono ?_;rintro v H' ⟨rfl,rfl⟩;exact⟨rfl,aw.push _ _⟩
def D5{H:ad}{s:ay}(au:s.length<=1000000000000000000)(N:Nat):∀(rest:ay) (n m:Nat),s.drop n=rest->n<=s.length->rest.length<m->
  W (nY (al P aj) N m (Z s) (J U n) H) λv H'=>v= D (iO rest)/\H'=H
 |_,_,0,_,_,d=>ae
 |[],n,m+1,h,l,d=>by
  have:=drop_nil h;have a:¬((n:Int)<(s.length:Int)):=ae;simp(disch:=try exact ah)only[nY,sb,uJ,ai,a,decide_false];exact aD.2 ⟨by simp[iO],rfl⟩
 |c::r,n,m+1,h,l,d=>by
  obtain⟨ap,aE,bB,cc⟩:=drop_cons h;have a:((n:Int)<(s.length:Int)):=ae;have k:=D5 (H:=H) au N r (n+1) m aE ae (by simp at d;omega);have i:=iC ap;simp(disch:=try exact ah)only[nY,uJ,ai,a,decide_true,i];refine gP (qX _) ?_;cases ak:gx (c.toNat:Int)with
  |true=>
   simp(disch:=try exact ah)only[aR,b8,fg,ht];refine k.mono ?_;rintro v H' ⟨rfl,e⟩;exact⟨by simp[iO,cy,ak],e⟩
  |false=>
   simp(disch:=try exact ah)only[ai,hi,i];refine jJ (Aq _) ?_;cases j:ib (c.toNat:Int)with
   |true=>
    simp(disch:=try exact ah)only[aR,b8,fg,ht];refine k.mono ?_;rintro v H' ⟨rfl,e⟩;exact⟨by simp[iO,cu,j],e⟩
   |false=>
    simp(disch:=try exact ah)only[aR,hi];exact aD.2 ⟨by simp[iO,cy,cu,ak,j],rfl⟩
def O7{H:ad}{s:ay}(au:s.length<=1000000000000000000):W (al P aj 79 [Z s] H) λv H'=>v= D (dJ s)/\aw H H':=by
 refine bt (λ_=>Xl (s.length+1)) ?_;cases ak:s with
 |nil=>
  have a:((([]:ay).length:Nat):Int)<1:=by simp
  simp only[sa,bU,aR,cX,b8,a,decide_true];exact aD.2 ⟨by simp[dJ],.refl _⟩
 |cons c r=>
  rw[<-ak];have p:1<=s.length:=by rw[ak];simp
  have a:¬((s.length:Int)<1):=ae;have n:s[0]? =I c:=by rw[ak];rfl
  have o:=vI n;have k:s.headD 0=c:=by rw[ak];rfl
  by_cases i:(8:Int)<(s.length:Int)
  ·have d:¬s.length<=8:=ae;simp only[sa,bU,aR,cX,b8,a,i,decide_true,decide_false];exact aD.2 ⟨by simp[dJ,d],.refl _⟩
  ·have d:s.length<=8:=ae;simp only[sa,bU,aR,cX,b8,a,i,decide_false,o];refine jJ (qX _) ?_;cases j:gx (c.toNat:Int)with
   |false=>
    simp only[aR,hi];exact aD.2 ⟨by unfold dJ;rw[k];simp[cy,j],.refl _⟩
   |true=>
    simp only[aR,fg];refine dZ (Ea s) ?_;rintro _ m ⟨rfl,h⟩;refine⟨h.1,?_⟩;cases l:fB s with
    |true=>
     simp only[aR];exact aD.2 ⟨by simp[dJ,l],h⟩
    |false=>
     simp only[aR];refine(D5 (H:=m) au (s.length+1) s 0 (s.length+1) rfl ae ae).mono ?_;rintro v H' ⟨rfl,e⟩;exact⟨by unfold dJ;rw[k];simp[p,d,cy,j,l],by rw[e];exact h⟩
def FY(n:Int):mU P 5 3 (J .u8 n)=I (J U (IntKind.i64.wrap n)):=M
def LU(t:Bool)(a:Int):w P .quo 3 t (J U a) (J U 10)=I (J U (IntKind.i64.wrap (a.tdiv 10))):=by simp[w,hC]
def Tx(t:Bool)(a b:Int):w P .mul 3 t (J U a) (J U b)=I (J U (IntKind.i64.wrap (a*b))):=Rg _ _ _ _ _
def wrap_u8{n:Int}(a:0<=n)(c:n<=255):IntKind.u8.wrap n=n:=by
 show n%256=n;omega
def OD{H:ad}{s:ay}(au:s.length<=1000000000000000000)(N:Nat):∀(rest:ay) (n m:Nat) (acc:Int),s.drop n=rest->n<=s.length->rest.length<m->0<=acc->acc<=9223372036854775807->(∀c∈rest,cu c=Y)->
  W (mo (al P aj) N m (Z s) (J U acc) (J U n) H) λv H'=>v=(match fA acc rest with|some z=> .tuple [J U z,D Y]|none=> .tuple [J U 0,D X])/\H'=H
 |_,_,0,_,_,_,k,_,_,_=>ae
 |[],n,m+1,acc,h,B,k,y,A,j=>by
  have:=drop_nil h;have a:¬((n:Int)<(s.length:Int)):=ae;simp(disch:=try exact ah)only[mo,sd,sc,ai,a,decide_false];exact aD.2 ⟨by simp[fA],rfl⟩
 |c::r,n,m+1,acc,h,B,k,y,A,j=>by
  obtain⟨ap,aE,bB,cc⟩:=drop_cons h;have a:((n:Int)<(s.length:Int)):=ae;have l:=iC ap;have i:=j c (by simp);simp only[cu,ib,Bool.and_eq_true,decide_eq_true_eq]at i;have o:IntKind.u8.wrap ((c.toNat:Int)-48)=(c.toNat:Int)-48:=wrap_u8 ae ae;have p:IntKind.i64.wrap ((c.toNat:Int)-48)=(c.toNat:Int)-48:=wrap_i64 ae ae;have q:IntKind.i64.wrap (9223372036854775807-((c.toNat:Int)-48))=9223372036854775807-((c.toNat:Int)-48):=wrap_i64 ae ae;have w:(9223372036854775807-((c.toNat:Int)-48)).tdiv 10=(9223372036854775807-((c.toNat:Int)-48))/10:=Int.tdiv_eq_ediv_of_nonneg ae;have x:IntKind.i64.wrap ((9223372036854775807-((c.toNat:Int)-48))/10)=(9223372036854775807-((c.toNat:Int)-48))/10:=wrap_i64 ae ae
  by_cases d:(9223372036854775807-((c.toNat:Int)-48))/10<acc
  ·simp(disch:=try exact ah)only[mo,sc,ai,a,decide_true,l,o,p,q,w,x,LU,sG,FY,d];exact aD.2 ⟨by simp[fA,d],rfl⟩
  ·have E:IntKind.i64.wrap (10*acc)=10*acc:=wrap_i64 ae ae;have F:IntKind.i64.wrap (10*acc+((c.toNat:Int)-48))=10*acc+((c.toNat:Int)-48):=wrap_i64 ae ae;have C:=OD (H:=H) au N r (n+1) m (10*acc+((c.toNat:Int)-48)) aE ae (by simp at k;omega) ae ae (λc i=>j c (by simp[i]));simp(disch:=try exact ah)only[mo,sc,ai,a,decide_true,l,o,p,q,w,x,E,F,LU,Tx,sG,FY,d,decide_false,ht];refine C.mono ?_;rintro v H' ⟨rfl,e⟩;exact⟨by rw[fA,if_neg d],e⟩
def Mt:∀(s:ay),∀c∈s.take (runN Y s),cu c=Y
 |[],c,h=>by simp[runN]at h
 |x::r,c,h=>by
  rw[runN]at h;cases a:cu x with
  |true=>
   simp only[a,kl,aK,xy,List.mem_cons]at h;rcases h with rfl|h
   ·exact a
   ·exact Mt r c h
  |false=>simp[a]at h
def abW{H:ad}{s:ay}(au:s.length<=1000000000000000000)(a:∀c∈s,cu c=Y):W (al P aj 81 [Z s] H) λv H'=>v=(match fA 0 s with|some z=> .tuple [J U z,D Y]|none=> .tuple [J U 0,D X])/\H'=H:=by
 refine bt (λ_=>Xo (s.length+1)) ?_;rw[yP];exact OD au (s.length+1) s 0 (s.length+1) 0 rfl ae ae ae ae a
def zg:P.underlying 9=I .string:=M
def uS{s:List UInt8}{a b:Nat}(c:a<=b)(d:b<=s.length):ff P 9 (Z s) (I (J U (a:Int))) (I (J U (b:Int))) u=I (Z ((s.drop a).take (b-a))):=by
 have ap:dP (I (J U (b:Int))) s.length s.length=I b:=by simp[dP];omega
 have aE:dP (I (J U (a:Int))) 0 b=I a:=by simp[dP];omega
 simp only[ff,zg,ap,aE]
def K9{H:ad}{s:ay}{at_:Nat}{c:UInt8}(n:s[at_]? =I c)(N:Nat):∀(rest:ay) (j m:Nat),gz.drop j=rest->j<=18->rest.length<m->
  W (mq (al P aj) N m (Z s) (J U at_) (Z gz) (J U j) H) λv H'=>v= Z (bif gQ c rest then[c]else[])/\H'=H
 |_,_,0,_,_,k=>ae
 |[],j,m+1,h,x,k=>by
  have:=drop_nil h;have ak:gz.length=18:=rfl;have d:¬((j:Int)<(gz.length:Int)):=ae;simp(disch:=try exact ah)only[mq,sf,se,ai,d,decide_false];exact aD.2 ⟨by simp[gQ],rfl⟩
 |y::r,j,m+1,h,x,k=>by
  obtain⟨ap,aE,bB,cc⟩:=drop_cons h;have ak:gz.length=18:=rfl;have d:((j:Int)<(gz.length:Int)):=ae;have l:=iC ap;have o:=iC n;have z:=K9 (H:=H) n N r (j+1) m aE ae (by simp at k;omega);have w:=uS (s:=gz) (a:=j) (b:=j+1) ae ae;have dk:(gz.drop j).take (j+1-j)=[y]:=by rw[h,gh];rfl
  rw[dk]at w;cases i:((c.toNat:Int)==(y.toNat:Int))with
  |true=>
   have p:c=y:=by
    have:(c.toNat:Int)=(y.toNat:Int):=by simpa using i
    exact UInt8.toNat_inj.1 ae
   have q:(c.toNat==y.toNat)=true:=by rw[p];simp
   simp(disch:=try exact ah)only[mq,se,ai,d,decide_true,l,o,i,ht,w];exact aD.2 ⟨by simp[gQ,p],rfl⟩
  |false=>
   have q:(c.toNat==y.toNat)=false:=by
    have:¬(c.toNat:Int)=(y.toNat:Int):=by simpa using i
    simp;omega
   simp(disch:=try exact ah)only[mq,se,ai,d,decide_true,l,o,i,ht];refine z.mono ?_;rintro v H' ⟨rfl,e⟩;exact⟨by simp[gQ,q],e⟩
def T8{H:ad}{s:ay}{at_:Nat}{c:UInt8}(a:s[at_]? =I c){N:Nat}(d:18<N):W (pX (al P aj) N (Z s) (J U at_) H) λv H'=>v= Z (bif gQ c gz then[c]else[])/\H'=H:=by
 rw[pX];exact K9 a N gz 0 N rfl ae (by simp[gz];omega)
def Ol{H:ad}{s:ay}(au:s.length<=1000000000000000000){at_:Nat}{c:UInt8}{r:ay}(o:s.drop at_=c::r){l:Nat}{N:Nat}(A:18<N)(j:H.get l=I (.row X 1 (gM.map λy=>[aa.str y]))):∀(rest pre:List ay),gM=pre++rest->∀(m:Nat),rest.length<m->
  W (ly (al P aj) N m (Z s) (J U at_) (.ax l 0 5 1 (I 5)) (J U pre.length) H) λv H'=>v= Z (bif decide (2<=(s.drop at_).length)&&ez ((s.drop at_).take 2) rest then(s.drop at_).take 2 else bif gQ c gz then[c]else[])/\H'=H
 |_,_,_,0,p=>ae
 |[],pre,h,m+1,p=>by
  have ak:pre.length=5:=by have:=congrArg wx h;simpa [gM]using this.symm
  have d:¬((pre.length:Int)<((5:Nat):Int)):=ae;obtain⟨ap,aE,bB,cc⟩:=drop_cons o;simp(disch:=try exact ah)only[ly,pW,ai,d,decide_false];refine(T8 ap A).mono ?_;rintro v H' ⟨rfl,e⟩;exact⟨by simp[ez],e⟩
 |y::F,pre,h,m+1,p=>by
  obtain⟨ap,aE,bB,cc⟩:=drop_cons o;have ak:pre.length+(F.length+1)=5:=by have:=congrArg wx h;simpa [gM]using this.symm
  have d:((pre.length:Int)<((5:Nat):Int)):=ae;have K:(0:Int)<=(pre.length:Int):=ae;have t1:((pre.length:Int)).toNat=pre.length:=ae;have C:(gM.map λy=>[aa.str y])[pre.length]? =I [aa.str y]:=by rw[h];simp
  have G:((pre++[y]).length:Int)=((pre.length+1:Nat):Int):=by simp
  have x:=Ol (H:=H) au o A j F (pre++[y]) (by simp[h]) m (by simp at p;omega);rw[G]at x;have B:(s.drop at_).length=s.length-at_:=by simp
  have z:IntKind.i64.wrap ((s.length:Int)-(at_:Int))=((s.length-at_:Nat):Int):=OJ s.length at_ ae ae;have L:=ad.aF j;by_cases k:(2:Int)<=((s.length-at_:Nat):Int)
  ·have n:decide (2<=(s.drop at_).length)=true:=by rw[B];simp;omega
   have q:=uS (s:=s) (a:=at_) (b:=at_+2) ae ae;rw[gh]at q;cases i:((s.drop at_).take 2==y)with
   |true=>
    have E:(s.drop at_).take 2=y:=by simpa using i
    have w:(y==(s.drop at_).take 2)=true:=by rw[E];simp
    simp(disch:=try exact ah)only[ly,pW,ai,d,decide_true,z,k,zo,q,j,C,t1,i];exact aD.2 ⟨by rw[ez,n,w];rw[E];rfl,rfl⟩
   |false=>
    have w:(y==(s.drop at_).take 2)=false:=by
     have:¬(s.drop at_).take 2=y:=by simpa using i
     simp;exactλe=>this e.symm
    simp(disch:=try exact ah)only[ly,pW,ai,d,decide_true,z,k,zo,q,j,C,t1,i,ht];refine x.mono ?_;rintro v H' ⟨rfl,e⟩;exact⟨by simp only[ez,w,DE],e⟩
  ·have n:decide (2<=(s.drop at_).length)=false:=by rw[B];simp;omega
   simp(disch:=try exact ah)only[ly,pW,ai,d,decide_true,z,k,decide_false,ht];refine x.mono ?_;rintro v H' ⟨rfl,e⟩;exact⟨by simp only[n,Bool.false_and],e⟩
def aaR{H:ad}{s:ay}(au:s.length<=1000000000000000000){at_:Nat}(d:at_<s.length):W (al P aj 82 [Z s,J U at_] H) λv H'=>v= Z (gl (s.drop at_))/\aw H H':=by
 refine bt (λ_=>Xp 30) ?_;obtain⟨c,r,a⟩:∃c r,s.drop at_=c::r:=by
  cases h:s.drop at_ with
  |nil=>have:=drop_nil h;omega
  |cons c r=>exact⟨c,r,rfl⟩
 rw[yQ];simp only[qc];rw[CY];refine(Ol (H:=H.push _) au a ae (ad.a_ _ _) gM [] rfl 30 aC).mono ?_;rintro v H' ⟨rfl,rfl⟩;refine⟨?_,aw.push _ _⟩;rw[a];rfl
def Ma{H:ad}{s:ay}(au:s.length<=1000000000000000000)(l:aa->aa->ad->O)(N:Nat)(Q:aa->ad->Prop):∀(rest:ay) (at_ m:Nat),s.drop at_=rest->at_<=s.length->rest.length<m->
  (∀(k:Nat),(∀c' ds,rest=c'::ds->c'.toNat≠10->0<k)->at_+k<=s.length->(s.drop (at_+k)).length<=rest.length->k+o X (s.drop (at_+k))=o Y rest->W (l (Z s) (J U ((at_+k:Nat):Int)) H) Q)->
  W (mh (al P aj) N l m (Z s) (J U at_) H) Q
 |_,_,0,_,_,p,_=>ae
 |[],at_,m+1,h,n,p,j=>by
  have:=drop_nil h;have a:¬((at_:Int)<(s.length:Int)):=ae;simp(disch:=try exact ah)only[mh,r5,ai,a,decide_false];exact j 0 (λ_ _ e=>by cases e) n (by simpa using congrArg wx h) (by simp[h,o])
 |c::r,at_,m+1,h,n,p,j=>by
  obtain⟨ap,aE,bB,cc⟩:=drop_cons h;have a:((at_:Int)<(s.length:Int)):=ae;have q:=iC ap;cases d:((c.toNat:Int) != 10)with
  |false=>
   have i:c.toNat=10:=by
    have:(c.toNat:Int)=10:=by simpa using d
    omega
   simp(disch:=try exact ah)only[mh,r5,ai,a,decide_true,q,d];refine j 0 (λ_ _ e y=>by cases e;exact absurd i y) n (by simp only[zA,h];omega) ?_;simp[h,o,gi,i]
  |true=>
   have i:(c.toNat==10)=false:=by
    have:¬(c.toNat:Int)=10:=by simpa using d
    simp;omega
   simp(disch:=try exact ah)only[mh,r5,ai,a,decide_true,q,d,ht];refine Ma au l N Q r (at_+1) m aE ae (by simp at p;omega) (λk _ a v w=> ?_);have x:at_+1+k=at_+(k+1):=ae;rw[x]at a v w ⊢;refine j (k+1) (λ_ _ _ _=>ae) a (by simp only[de];omega) ?_;simp only[o,i,aH];omega
def Ad{H:ad}{s:ay}(au:s.length<=1000000000000000000)(N:Nat)(R:s.length<N):∀(q:Nat) (rest:ay) (at_ m:Nat),rest.length<=q->s.drop at_=rest->at_<=s.length->rest.length<m->
  W (iq (al P aj) N m (Z s) (J U at_) H) λv H'=>v= J U ((at_+o X rest:Nat):Int)/\H'=H
 |_,_,_,0,_,_,_,B=>ae
 |_,[],at_,m+1,_,h,M,B=>by
  have:=drop_nil h;have j:¬((at_:Int)<(s.length:Int)):=ae;simp(disch:=try exact ah)only[iq,pO,kE,ai,j,decide_false];exact aD.2 ⟨by simp[o],rfl⟩
 |0,c::r,at_,m+1,E,h,M,B=>by simp at E
 |q+1,c::r,at_,m+1,E,h,M,B=>by
  obtain⟨ap,aE,bB,cc⟩:=drop_cons h;have j:((at_:Int)<(s.length:Int)):=ae;have n:=iC ap;simp only[de]at E B;have G:gi c=Y->W (iq (al P aj) N m (Z s) (J U ((at_+1:Nat):Int)) H) λv H'=>v= J U ((at_+o X (c::r):Nat):Int)/\H'=H:=by
   intro O;refine(Ad (H:=H) au N R q r (at_+1) m ae aE ae ae).mono ?_;rintro v H' ⟨rfl,e⟩;have T:at_+1+o X r=at_+o X (c::r):=by
    rw[o,O,aK];omega
   exact⟨by rw[T],e⟩
  have p:((c.toNat:Int)==32)=(c.toNat==32):=by rw[ij];simp;omega
  have z:((c.toNat:Int)==9)=(c.toNat==9):=by rw[ij];simp;omega
  have C:((c.toNat:Int)==10)=(c.toNat==10):=by rw[ij];simp;omega
  have K:((c.toNat:Int)==13)=(c.toNat==13):=by rw[ij];simp;omega
  cases i:c.toNat==32 with
  |true=>
   simp(disch:=try exact ah)only[iq,kE,ai,j,decide_true,n,p,i,ht];exact G (by simp only[gi,i,kl])
  |false=>
   cases c9:c.toNat==9 with
   |true=>
    simp(disch:=try exact ah)only[iq,kE,ai,j,decide_true,n,p,i,z,c9,ht];exact G (by simp only[gi,c9,kl,AB])
   |false=>
    cases l:c.toNat==10 with
    |true=>
     simp(disch:=try exact ah)only[iq,kE,ai,j,decide_true,n,p,i,z,c9,C,l,ht];exact G (by simp only[gi,l,kl,AB])
    |false=>
     cases w:c.toNat==13 with
     |true=>
      simp(disch:=try exact ah)only[iq,kE,ai,j,decide_true,n,p,i,z,c9,C,l,K,w,ht];exact G (by simp only[gi,w,AB])
     |false=>
      have ab:gi c=false:=by simp only[gi,i,c9,l,w,Bool.or_self]
      have Q:IntKind.i64.wrap ((s.length:Int)-(at_:Int))=((s.length-at_:Nat):Int):=OJ s.length at_ ae ae;have S:(c==47&&r.head?==I 47)=X->o X (c::r)=0:=λA=>by rw[o,ab,aH,A,aH]
      by_cases L:(2:Int)<=((s.length-at_:Nat):Int)
      ·have F:=uS (s:=s) (a:=at_) (b:=at_+2) ae ae;rw[gh,h]at F;obtain⟨y,d,rfl⟩:∃y d,r=y::d:=by
        cases r with
        |nil=>simp at cc;omega
        |cons y d=>exact⟨y,d,rfl⟩
       simp only[xy,List.take_zero]at F;cases x:(([c,y]:ay)==[47,47])with
       |true=>
        have V:c=47/\y=47:=by simpa using x
        obtain⟨rfl,rfl⟩:=V;simp(disch:=try exact ah)only[iq,kE,ai,j,decide_true,n,p,i,z,c9,C,l,K,w,Q,L,zo,F,x];refine Ma au (iq (al P aj) N m) N _ (47::47::d) at_ N h M (by simp only[de]at cc ⊢;omega) (λk af ak an am=> ?_);have ao:=af 47 _ rfl aC;have aa:(s.drop (at_+k)).length<=q:=by
         simp only[rs,de]at E cc ⊢;omega
        refine(Ad (H:=H) au N R q (s.drop (at_+k)) (at_+k) m aa rfl ak (by simp only[rs,de]at B cc ⊢;omega)).mono ?_;rintro v H' ⟨rfl,e⟩;have O:o X (47::47::d)=o Y (47::47::d):=by
         have ap:o X (47::47::d)=o Y (47::d)+1:=rfl;have aE:o Y (47::47::d)=o Y (47::d)+1:=rfl;rw[ap,aE]
        refine⟨?_,e⟩;rw[O,<-am,CD]
       |false=>
        have A:(c==47&&(y::d).head?==I 47)=false:=by
         have:¬(c=47/\y=47):=by simpa using x
         simpa using this
        simp(disch:=try exact ah)only[iq,kE,ai,j,decide_true,n,p,i,z,c9,C,l,K,w,Q,L,zo,F,x];exact aD.2 ⟨by rw[S A,zA],rfl⟩
      ·have x:r=[]:=by
        cases r with
        |nil=>rfl
        |cons y d=>simp only[de]at cc;omega
       have A:(c==47&&r.head?==I 47)=false:=by rw[x];simp
       simp(disch:=try exact ah)only[iq,kE,ai,j,decide_true,n,p,i,z,c9,C,l,K,w,Q,L,decide_false];exact aD.2 ⟨by rw[S A,zA],rfl⟩
def FI{H:ad}{s:ay}(au:s.length<=1000000000000000000){at_:Nat}(a:at_<=s.length):W (al P aj 57 [Z s,J U at_] H) λv H'=>v= J U ((at_+o X (s.drop at_):Nat):Int)/\H'=H:=by
 refine bt (λ_=>W1 (s.length+1)) ?_;rw[yt];exact Ad au (s.length+1) ae s.length (s.drop at_) at_ (s.length+1) (by simp) rfl a (by simp;omega)
def tP(d:Bool):∀s:ay,runN d s<=s.length
 |[]=>aV _
 |c::r=>by
  rw[runN];have:=tP d r;cases cu c||(!d&&cy c)with
  |true=>simp only[aK,de];omega
  |false=>simp only[aH,de];omega
def ld(p:Nat):Option (Int×ay×Int×Nat)->aa
 |none=> .tuple [.agg [J U 0,Z [],J U 0,J U 0],J U 0]
 |some (k,t,v,m)=> .tuple [.agg [J U k,Z t,J U v,J U p],J U m]
def T6{H:ad}{s:ay}(au:s.length<=1000000000000000000){at_:Nat}(T:at_<s.length):W (al P aj 58 [Z s,J U at_] H) λv H'=>v=ld at_ (e_ (s.drop at_))/\aw H H':=by
 refine bt (λ_=>W2 0) ?_;obtain⟨c,r,A⟩:∃c r,s.drop at_=c::r:=by
  cases h:s.drop at_ with
  |nil=>have:=drop_nil h;omega
  |cons c r=>exact⟨c,r,rfl⟩
 obtain⟨ap,aE,bB,cc⟩:=drop_cons A;have n:=iC ap;have x:=aw.push H (.row X 4 [[J U 0,Z [],J U 0,J U 0]]);have Q:=λd=>tP d (s.drop at_)
 have ab:(s.drop at_).length=s.length-at_:=by simp
 simp(disch:=try exact ah)only[yu,cd,ai,n];refine gP (qX _) ?_;cases ak:gx (c.toNat:Int)with
 |true=>
  simp(disch:=try exact ah)only[aR];refine gP (Mz au at_ ae X) ?_;have af:=Q X;have p:=uS (s:=s) (a:=at_) (b:=at_+runN X (s.drop at_)) ae ae;rw[gh]at p;simp(disch:=try exact ah)only[aR,b8,j8,p];refine aA (Ea _) ?_;rintro _ E ⟨rfl,e⟩;refine⟨e.1,?_⟩;have j:E.get H.next=I (.row X 4 [[J U 0,Z [],J U 0,J U 0]]):=e.get (ad.a_ _ _)
  have am:=ad.aF j;have m:e_ (s.drop at_)=(bif fB ((s.drop at_).take (runN X (s.drop at_)))then I (3,(s.drop at_).take (runN X (s.drop at_)),0,runN X (s.drop at_))else bif dJ ((s.drop at_).take (runN X (s.drop at_)))then I (1,(s.drop at_).take (runN X (s.drop at_)),0,runN X (s.drop at_))else u):=by
   have B:cy c=true:=ak;simp only[A,e_,B,aK]
  cases S:fB ((s.drop at_).take (runN X (s.drop at_)))with
  |true=>
   rw[m,S];simp(disch:=try exact ah)only[cd,ai,j];exact aD.2 ⟨rfl,(x.trans e).bH (aV _) _⟩
  |false=>
   rw[m,S];simp(disch:=try exact ah)only[aR];refine aA (O7 (by simp only[tu];omega)) ?_;rintro _ ao ⟨rfl,C⟩;refine⟨C.1,?_⟩;have F:=C.get j;have dt:=ad.aF F;cases ar:dJ ((s.drop at_).take (runN X (s.drop at_)))with
   |true=>
    simp(disch:=try exact ah)only[cd,ai,F];exact aD.2 ⟨rfl,((x.trans e).trans C).bH (aV _) _⟩
   |false=>
    simp(disch:=try exact ah)only[cd,ai,F];exact aD.2 ⟨rfl,((x.trans e).trans C).bH (aV _) _⟩
 |false=>
  simp(disch:=try exact ah)only[aR,n];refine gP (Aq _) ?_;have B:cy c=false:=ak;have i:(H.push (.row X 4 [[J U 0,Z [],J U 0,J U 0]])).get H.next=I (.row X 4 [[J U 0,Z [],J U 0,J U 0]]):=ad.a_ _ _
  cases O:ib (c.toNat:Int)with
  |true=>
   have K:cu c=true:=O;simp(disch:=try exact ah)only[aR];refine gP (Mz au at_ ae Y) ?_;have af:=Q Y;have p:=uS (s:=s) (a:=at_) (b:=at_+runN Y (s.drop at_)) ae ae;rw[gh]at p;simp(disch:=try exact ah)only[aR,b8,j8,p];refine gP (abW (by simp only[tu];omega) (λc aa=>Mt _ c aa)) ?_;have m:e_ (s.drop at_)=(match fA 0 ((s.drop at_).take (runN Y (s.drop at_)))with
    |none=>u
    |some v=>bif (decide (1<runN Y (s.drop at_))&&c.toNat==48)||(decide (runN Y (s.drop at_)<(s.drop at_).length)&&cy (((s.drop at_)[runN Y (s.drop at_)]?).getD 0))then u else I (2,[],v,runN Y (s.drop at_))):=by
    simp only[A,e_,B,K,aK,aH]<;>rfl
   rw[m];cases av:fA 0 ((s.drop at_).take (runN Y (s.drop at_)))with
   |none=>
    simp(disch:=try exact ah)only[cd,ai,hi,i];exact aD.2 ⟨rfl,aw.push _ _⟩
   |some z=>
    generalize aq:runN Y (s.drop at_)=V at*;have aX:decide (1<V)=decide ((1:Int)<(V:Int)):=by rw[decide_eq_decide];omega
    have N:((c.toNat:Int)==48)=(c.toNat==48):=by rw[ij];simp;omega
    have an:decide (V<(s.drop at_).length)=decide (((at_+V:Nat):Int)<(s.length:Int)):=by rw[decide_eq_decide,ab];omega
    rw[aX,an];simp only
    cases o:decide ((1:Int)<(V:Int))with
    |true=>
     cases G:c.toNat==48 with
     |true=>
      simp(disch:=try exact ah)only[cd,ai,fg,o,n,N,G,i];exact aD.2 ⟨rfl,aw.push _ _⟩
     |false=>
      cases k:decide (((at_+V:Nat):Int)<(s.length:Int))with
      |false=>
       simp(disch:=try exact ah)only[cd,ai,fg,o,n,N,G,j8,k,i];exact aD.2 ⟨rfl,aw.push _ _⟩
      |true=>
       obtain⟨y,q⟩:∃y,s[at_+V]? =I y:=⟨s[at_+V]'(by have:=of_decide_eq_true k;omega),by simp⟩;have L:=iC q;have M:(s.drop at_)[V]? =I y:=by rw[lm];exact q
       simp(disch:=try exact ah)only[ai,fg,o,n,N,G,j8,k,L];refine jJ (qX _) ?_;rw[M];cases w:gx (y.toNat:Int)with
       |true=>
        have l:cy y=true:=w;simp(disch:=try exact ah)only[cd,ai,i,jk,l];exact aD.2 ⟨rfl,aw.push _ _⟩
       |false=>
        have l:cy y=false:=w;simp(disch:=try exact ah)only[cd,ai,i,jk,l];exact aD.2 ⟨rfl,aw.push _ _⟩
    |false=>
     cases k:decide (((at_+V:Nat):Int)<(s.length:Int))with
     |false=>
      simp(disch:=try exact ah)only[cd,ai,fg,o,j8,k,i];exact aD.2 ⟨rfl,aw.push _ _⟩
     |true=>
      obtain⟨y,q⟩:∃y,s[at_+V]? =I y:=⟨s[at_+V]'(by have:=of_decide_eq_true k;omega),by simp⟩;have L:=iC q;have M:(s.drop at_)[V]? =I y:=by rw[lm];exact q
      simp(disch:=try exact ah)only[ai,fg,o,j8,k,L];refine jJ (qX _) ?_;rw[M];cases w:gx (y.toNat:Int)with
      |true=>
       have l:cy y=true:=w;simp(disch:=try exact ah)only[cd,ai,i,jk,l];exact aD.2 ⟨rfl,aw.push _ _⟩
      |false=>
       have l:cy y=false:=w;simp(disch:=try exact ah)only[cd,ai,i,jk,l];exact aD.2 ⟨rfl,aw.push _ _⟩
  |false=>
   have K:cu c=false:=O;simp(disch:=try exact ah)only[aR];refine aA (aaR au T) ?_;rintro _ E ⟨rfl,e⟩;refine⟨e.1,?_⟩;have j:E.get H.next=I (.row X 4 [[J U 0,Z [],J U 0,J U 0]]):=e.get (ad.a_ _ _)
   have am:=ad.aF j;have m:e_ (s.drop at_)=(bif gl (s.drop at_)==[]then u else I (4,gl (s.drop at_),0,(gl (s.drop at_)).length)):=by
    simp only[A,e_,B,K,aH]
   rw[m];cases R:gl (s.drop at_)==[]with
   |true=>
    simp(disch:=try exact ah)only[cd,ai,R,j];exact aD.2 ⟨rfl,(x.trans e).bH (aV _) _⟩
   |false=>
    simp(disch:=try exact ah)only[cd,ai,R,j];exact aD.2 ⟨rfl,(x.trans e).bH (aV _) _⟩
def y6(l:Nat)(t:Tok):b0 P l 50 1 [(0,t.v)]=I (.ax l 0 1 4 (I 1),.row X 4 [t.cells]):=by
 obtain⟨k,x,n,p⟩:=t;kernel_rfl
def On:P.underlying 50=I (.slice 57):=M
def FN:j5 P 57=I 40:=M
def EK:fV P 57=I (.agg [J U 0,Z [],J U 0,J U 0]):=M
def PR{H:ad}{L:Nat}{cs:List aa}{cap:Option Nat}{ro:Bool}(a:H.get L=I (.row ro 4 [cs])):c_ P H [50,50] .ag (.ax L 0 1 4 cap)=I (.ax H.next 0 1 4 u,H.push (.row X 4 [cs])):=by
 simp[c_,On,zf,FN,EK,kb,iy,a,aa.cells]
def PS{H:ad}{L l n:Nat}{cs:List aa}{els:List (List aa)}{cap:Option Nat}{ro:Bool}(d:H.get L=I (.row ro 4 [cs]))(ak:H.get l=I (.row X 4 els))(e:els.length=n)(h:n<=1000000000):c_ P H [50,50] (.ax l 0 n 4 u) (.ax L 0 1 4 cap)=I (.ax H.next 0 (n+1) 4 u,(H.set l .dead).push (.row X 4 (els++[cs]))):=by
 have a:(n+1)*40<=140737488355328:=ae;have c:n+1<=9223372036854775807:=ae;simp[c_,On,zf,FN,EK,kb,iy,d,ak,aa.cells,e,a,c];rw[List.take_of_length_le ae]
def lF(H0 H:ad)(v:aa)(T:List Tok):Prop:=(v= .ag/\T=[])\/∃l,v= .ax l 0 T.length 4 u/\H0.next<=l/\H.get l=I (.row X 4 (T.map Tok.cells))
def lF.tok{H0 H:ad}{v:aa}{T:List Tok}(h:lF H0 H v T):eR H v T:=by
 rcases h with h|⟨l,rfl,_,a⟩
 ·exact .inl h
 ·refine .inr ⟨l,0,u,rfl,.inr ⟨X,_,a,λk t c=> ?_⟩⟩;simp[c]
def lF.av{H0 H H':ad}{v:aa}{T:List Tok}(h:lF H0 H v T)(p:aw H H'):lF H0 H' v T:=by
 rcases h with h|⟨l,e,a,c⟩
 ·exact .inl h
 ·exact .inr ⟨l,e,a,p.get c⟩
def vj{H0 H:ad}{v:aa}{T:List Tok}(h:lF H0 H v T)(p:aw H0 H)(ar:T.length<=1000000)(t:Tok):∃d H',c_ P (H.push (.row X 4 [t.cells])) [50,50] v (.ax H.next 0 1 4 (I 1))=I (d,H')/\lF H0 H' d (T++[t])/\aw H0 H'/\(H.push (.row X 4 [t.cells])).next<=H'.next/\(∀l,l<H.next->(∀e,v≠ .ax l 0 T.length 4 e)->H'.get l=H.get l):=by
 have c:(H.push (.row X 4 [t.cells])).get H.next=I (.row X 4 [t.cells]):=ad.a_ _ _
 rcases h with⟨rfl,rfl⟩|⟨l,rfl,i,a⟩
 ·refine⟨_,_,PR c,.inr ⟨_,rfl,?_,?_⟩,(p.a1 _).a1 _,by simp,λl ak _=> ?_⟩
  ·have:=p.1;simp only[ad.bb];omega
  ·exact ad.a_ (H.push (.row X 4 [t.cells])) _
  ·rw[ad.dv (by simp only[ad.bb];omega),ad.dv ae]
 ·have ak:=ad.aF a;have k:(H.push (.row X 4 [t.cells])).get l=I (.row X 4 (T.map Tok.cells)):=by rw[ad.dv ae];exact a
  refine⟨_,_,PS c k (by simp) ae,.inr ⟨(H.push (.row X 4 [t.cells])).next,by simp,?_,?_⟩,?_,by simp,λj n m=> ?_⟩
  ·have:=p.1;simp only[ad.bb];omega
  ·have e:((H.push (.row X 4 [t.cells])).set l .dead).next=(H.push (.row X 4 [t.cells])).next:=rfl
   simp only[List.map_append,List.map_cons,List.map_nil];rw[<-e];exact ad.a_ _ _
  ·exact((p.a1 _).bH i _).a1 _
  ·rw[ad.dv (by simp only[ad.bb,ad.cL];omega),ad.get_set_other (by rintro rfl;exact m _ rfl),ad.dv ae]
def Ck(d:Bool)(c:UInt8)(r:ay)(h:(cu c||(!d&&cy c))=Y):1<=runN d (c::r):=by
 rw[runN,h];simp
def aaP(s:ay):(gl s).length<=s.length:=by
 unfold gl;cases decide (2<=s.length)&&ez (s.take 2) gM with
 |true=>simp only[aK,tu];omega
 |false=>
  simp only[aH];cases s with
  |nil=>simp
  |cons c r=>simp only[de];cases gQ c gz<;>simp
def BI{s:ay}{k:Int}{t:ay}{v:Int}{m:Nat}(h:e_ s=I (k,t,v,m)):1<=m/\m<=s.length:=by
 cases s with
 |nil=>simp[e_]at h
 |cons c r=>
  have i:=λd=>tP d (c::r)
  rw[e_]at h;cases ak:cy c with
  |true=>
   have a:=Ck X c r (by simp[ak]);rw[ak,aK]at h;cases l:fB ((c::r).take (runN X (c::r)))with
   |true=>rw[l,aK]at h;cases h;exact⟨a,i X⟩
   |false=>
    rw[l,aH]at h;cases j:dJ ((c::r).take (runN X (c::r)))with
    |true=>rw[j,aK]at h;cases h;exact⟨a,i X⟩
    |false=>rw[j,aH]at h;cases h
  |false=>
   rw[ak,aH]at h;cases e:cu c with
   |true=>
    have a:=Ck Y c r (by simp[e]);rw[e,aK]at h;split at h
    ·cases h
    ·rename_i z o;rw[Bool.cond_eq_ite]at h;split at h
     ·cases h
     ·cases h;exact⟨a,i Y⟩
   |false=>
    rw[e,aH]at h;cases au:gl (c::r)==[]with
    |true=>rw[au,aK]at h;cases h
    |false=>
     rw[au,aH]at h;cases h;have n:¬gl (c::r)=[]:=by simpa using au
     have:=aaP (c::r);exact⟨List.length_pos_iff.2 n,this⟩
def mX:∀(s:ay) (b:Bool),o b s<=s.length
 |[],b=>by cases b<;>simp[o]
 |c::r,Y=>by
  have a:=mX r Y;have d:=mX r X;rw[o];cases c.toNat==10<;>simp only[aK,aH,de]<;>omega
 |c::r,X=>by
  have a:=mX r Y;have d:=mX r X;rw[o];cases gi c
  ·cases(c==47&&r.head?==I 47)<;>simp only[aK,aH,de]<;>omega
  ·simp only[aK,de];omega
def u_(H0:ad)(x:List Tok×Int×Int)(r:aa)(H':ad):Prop:=∃af,r= .tuple [af,.agg [J U x.2.1,J U x.2.2]]/\eR H' af x.1/\aw H0 H'
def jY(T:List Tok):Nat ⊕ List Tok->List Tok×Int×Int
 | .inl e=>([],1,e)
 | .inr l=>(T++l,0,0)
def NM{H0:ad}{s:ay}(au:s.length<=100000)(N:Nat):∀(n:Nat) (rest:ay) (at_ m:Nat) (T:List Tok) (v:aa) (H:ad),s.drop at_=rest->at_<=s.length->lF (H0.push (.row X 2 [[J U 0,J U 0]])) H v T->aw (H0.push (.row X 2 [[J U 0,J U 0]])) H->T.length<=at_->rest.length<n->rest.length<m->
  W (nJ (al P aj) N m (Z s) (.ptr H0.next 0 0) v (J U at_) H) (u_ H0 (jY T (e5 n rest at_)))
 |0,_,_,_,_,_,_,_,_,_,_,_,B,_=>ae
 |_,_,_,0,_,_,_,_,_,_,_,_,_,A=>ae
 |n+1,[],at_,m+1,T,v,H,h,V,i,p,ar,B,A=>by
  have aN:=drop_nil h;have y:¬((at_:Int)<(s.length:Int)):=ae;have ab:s.length=at_:=ae;have g:H.get H0.next=I (.row X 2 [[J U 0,J U 0]]):=p.get (ad.a_ _ _)
  have jQ:=ad.aF g;obtain⟨F,H',d,j,C,Q,O⟩:=vj i p ae ⟨0,[],0,s.length⟩;have a:=y6 H.next ⟨0,[],0,s.length⟩
  simp only[Tok.v]at a;simp(disch:=try exact ah)only[nJ,rP,uw,cd,ai,y,decide_false,a,d,gF];have g':H'.get H0.next=I (.row X 2 [[J U 0,J U 0]]):=by
   rw[O _ jQ ?_];exact g;intro e M;rcases i with⟨rfl,_⟩|⟨l,rfl,ak,_⟩
   ·cases M
   ·cases M;simp only[ad.bb]at ak;omega
  have aL:=ad.aF g';have R:aZ (I (.agg [J U 0,J U 0])) (.agg [J U 0,J U 0])=true:=by simp[aZ,aa.beq,fK.beq]
  simp(disch:=try exact ah)only[ai,g'];have aG:aw H0 H':=(aw.push _ _).trans C;have aH:aw H0 (H'.set H0.next (.row X 2 [[J U 0,J U 0]])):=aG.bH (aV _) _;refine aD.2 ⟨F,rfl,?_,aH⟩;rw[e5];simp only[jY];rw[ab]at j;exact j.tok.aP λl ro els e=>by
   rw[ad.get_set_other];exact e;rintro rfl;rw[g']at e;cases e
 |n+1,c::r,at_,m+1,T,v,H,h,V,i,p,ar,B,A=>by
  obtain⟨ap,aE,bB,cc⟩:=drop_cons h;have y:((at_:Int)<(s.length:Int)):=ae;have g:H.get H0.next=I (.row X 2 [[J U 0,J U 0]]):=p.get (ad.a_ _ _)
  have jQ:=ad.aF g;simp(disch:=try exact ah)only[nJ,uw,ai,y,decide_true];refine aA (T6 ae bB) ?_;rintro _ G ⟨rfl,x⟩;refine⟨x.1,?_⟩;have K:=x.get g;have aM:=ad.aF K;have an:=i.av x;replace p:=p.trans x;rw[h,e5];cases aB:e_ (c::r)with
  |none=>
   simp only[ld];simp(disch:=try exact ah)only[cd,ai,beq_self_eq_true,K,ad.gU];have R:aZ (I (.agg [J U 1,J U at_])) (.agg [J U 1,J U at_])=true:=by simp[aZ,aa.beq,fK.beq]
   refine aD.2 ⟨.ag,rfl,.inl ⟨rfl,rfl⟩,?_⟩;exact(((aw.push _ _).trans p).bH (aV _) _).a1 _
  |some q=>
   obtain⟨k,t,z,b⟩:=q;obtain⟨bf,bo⟩:=BI aB;have am:((b:Int)==0)=false:=by simp;omega
   simp only[ld];simp only[de]at bo B A;obtain⟨F,H',d,j,C,Q,O⟩:=vj (an.av (aw.push G (.row X 4 [Tok.cells ⟨k,t,z,at_⟩]))) (p.a1 _) ae ⟨k,t,z,at_⟩;have a:=y6 (G.next+1) ⟨k,t,z,at_⟩;simp only[Tok.v]at a;simp only[Tok.cells,ad.bb]at d Q;simp only[Tok.cells]at a;have R:∀aK:ad,aZ (I (.agg [J U k,Z t,J U z,J U at_])) (.agg [J U k,Z t,J U z,J U at_])=true:=λ_=>by simp[aZ,aa.beq,fK.beq]
   simp(disch:=try exact ah)only[cd,ai,am,a,d,gF,j8];have L:s.drop (at_+b)=(c::r).drop b:=by rw[<-vw,h]
   have ao:=mX ((c::r).drop b) X;simp only[rs,de]at ao;refine gP (FI ae (at_:=at_+b) ae) ?_;rw[L];simp only[CV];have aq:at_+b+o X ((c::r).drop b)<=s.length:=ae;have aC:=NM au N n (s.drop (at_+b+o X ((c::r).drop b))) (at_+b+o X ((c::r).drop b)) m (T++[⟨k,t,z,at_⟩]) F H' rfl aq j C (by simp;omega) (by simp;omega) (by simp;omega);refine aC.mono ?_;rintro w aJ ⟨af,aX,E,aI⟩;have az:s.drop (at_+b+o X ((c::r).drop b))=((c::r).drop b).drop (o X ((c::r).drop b)):=by rw[<-vw,L]
   rw[az]at aX E;have S:jY (T++[⟨k,t,z,at_⟩]) (e5 n (((c::r).drop b).drop (o X ((c::r).drop b))) (at_+b+o X ((c::r).drop b)))=jY T (match e5 n (((c::r).drop b).drop (o X ((c::r).drop b))) (at_+b+o X ((c::r).drop b))with
     | .inl e=> .inl e
     | .inr l=> .inr (⟨k,t,z,at_⟩::l)):=by
    cases e5 n (((c::r).drop b).drop (o X ((c::r).drop b))) (at_+b+o X ((c::r).drop b))with
    |inl e=>rfl
    |inr l=>simp[jY]
   rw[S]at aX E;exact⟨af,aX,E,aI⟩
def Pb{H:ad}(s:ay):W (al P aj 24 [Z s] H) (u_ H (c7 s)):=by
 refine bt (λ_=>Wv (s.length+1)) ?_;by_cases c:(6000:Int)<(s.length:Int)
 ·have a:6000<s.length:=ae;simp only[uu,cd,ai,c,decide_true];refine aD.2 ⟨.ag,by simp[c7,a],.inl ⟨rfl,by simp[c7,a]⟩,aw.push _ _⟩
 ·have a:¬6000<s.length:=ae;simp only[uu,cd,ai,c,decide_false];refine gP (FI (s:=s) ae (at_:=0) ae) ?_;simp only[List.drop_zero,Nat.zero_add,CW];have h:=mX s X;refine(NM (H0:=H) ae (s.length+1) (s.length+1) (s.drop (o X s)) (o X s) (s.length+1) [] .ag _ rfl h (.inl ⟨rfl,rfl⟩) (.refl _) (by simp) (by simp;omega) (by simp;omega)).mono ?_;rintro v H' ⟨af,aX,d,i⟩;have e:jY [] (e5 (s.length+1) (s.drop (o X s)) (o X s))=c7 s:=by
   simp only[c7,if_neg a,oN];cases e5 (s.length+1) (s.drop (o X s)) (o X s)<;>rfl
  rw[e]at aX d;exact⟨af,aX,d,i⟩
section
set_option maxRecDepth 100000
noncomputable section
def y1(a:e)(F:aa)(H:ad):O:=i H (a 114 [] H) λh c=>i c (a 113 [h,F] c) λj d=>I (j,d)
def XE(N:Nat){F:aa}{H:ad}{r:aa×ad}(h:y1 (al P aj) F H=I r):al P aj 97 [F] H=I r:=bu N (S:=λa=>y1 a F H) Tryz.func97 (λ_=>by delta y1;kernel_rfl) h
def uO(d:e)(l F A:aa)(x:ad):O:=S l Y x (k (eF P 9 A (J U 0))) λB i=>S l Y i (λq=>cZ i (d 68 [B] i) q) λE y=>C (bC l (I E) (I (D X))) λa=>S a Y y (bP F) λG j=>S a Y j (λq=>cZ j (d 95 [G,(.func (.func 96) [] [])] j) q) λH z=>S a Y z (bP F) λn m=>S a Y m (λq=>et (bK P .empty .len [9] [n]) (bK P m .len [9] [n]) q) λK o=>S a Y o (k (w P .eql 3 X H K)) λL p=>C (bC a (I L) (I (D X))) λc=>S c Y p (bP F) λM h=>S c Y h (λq=>cZ h (d 97 [M] h) q) λN s=>S c Y s (k (cI .not N)) λQ v=>C (bC c (I Q) (I (D X))) λR=>I (R,v)
def so(h:e)(F:aa)(H:ad):O:=C (w P .neq 9 Y F (Z [])) λa=>S a Y H (bP F) λaJ c=>S a Y c (λq=>et (bK P .empty .len [9] [aJ]) (bK P c .len [9] [aJ]) q) λl i=>S a Y i (k (w P .leq 3 Y l (J U 8))) λm j=>C (bC a (I m) (I (D X))) λd=>S d Y j (bP F) (uO h d F)
def XF(N:Nat){F:aa}{H:ad}{r:aa×ad}(h:so (al P aj) F H=I r):al P aj 98 [F] H=I r:=bu N (S:=λa=>so a F H) Tryz.func98 (λ_=>by delta so uO;kernel_rfl) h
def r2(a:e)(N:Nat)(y:aa)(H:ad):O:=some (y,H)
def Zo(a:e)(N:Nat):∀V H,a7 P a N (L (L (n Tryz.f46))) (p Tryz.f46) [] (p Tryz.f46) V H=r2 a N (V 1) H:=by
 refine bm (q _) λV H=> ?_
 delta r2;kernel_rfl
def uD(a:e)(N:Nat)(j:aa->aa->ad->O)(F y:aa)(H:ad):O:=bU P .len [9] [F] H λA=>C (w P .lss 3 X y A) λB=>aO (I B) (C (eF P 9 F y) λl=>i H (a 66 [Z [32,9,10,13],l] H) λm c=>C (w P .geq 3 Y m (J U 0)) λn=>aO (I n) (C (w P .add 3 Y y (J U 1)) λo=>j F o c) (C (ff P 9 F (I y) u u) λp=>i c (a 67 [p,Z [47,47]] c) λq d=>aO (I q) (C (ff P 9 F (I y) u u) λs=>i d (a 66 [s,J .u8 10] d) λk h=>C (w P .lss 3 Y k (J U 0)) λv=>aO (I v) (bU P .len [9] [F] h λx=>I (x,h)) (C (w P .add 3 X y k) λz=>j F z h)) (I (y,d)))) (r2 a N y H)
def nO(a:e)(N:Nat):Nat->aa->aa->ad->O
 |0,_,_,_=>u
 |n+1,F,y,H=>uD a N (nO a N n) F y H
def Zn(a:e)(N:Nat)(h:aa->aa->ad->O):∀V H,a7 P a N (d (d (d (L (n Tryz.f46))))) (λV H=>h (V 0) (V 1) H) [(0,(λV H=>r2 a N (V 1) H))] (p Tryz.f46) V H=uD a N h (V 0) (V 1) H:=by
 refine bm (q _) λV H=> ?_
 delta uD;generalize r2 a N=c;revert c;refine id ?_;intro c;kernel_rfl
def yj(a:e)(N:Nat)(F y:aa)(H:ad):O:=nO a N N F y H
def WP(N:Nat){F y:aa}{H:ad}{r:aa×ad}(h:yj (al P aj) N F y H=I r):al P aj 46 [F,y] H=I r:=bu N (S:=λa=>yj a N F y H) Tryz.func46 (λa=>cG ((Q M ((Q M (Zo a N) ((cn M ((cY (k:=λm V H=>nO a N m (V 0) (V 1) H) M (λV H=>M) (λm=>Zn a N (nO a N m)))))))) (q _))) (by delta yj;generalize nO a N N=c;revert c;refine id ?_;intro c;kernel_rfl)) h
def r3(d:e)(N:Nat)(c:aa)(H:ad):O:=aG H (aB P H 57 c (.agg [J U 0,Z [],J U 0,J U 0])) λa=>C (A P a 57 c) λr=>I (.tuple [r,J U 0],a)
def Zq(a:e)(N:Nat):∀V H,a7 P a N (L (L (L (n Tryz.f47)))) (p Tryz.f47) [] (p Tryz.f47) V H=r3 a N (V 2) H:=by
 refine bm (q _) λV H=> ?_
 delta r3;kernel_rfl
def uE(j:e)(N:Nat)(n:aa->aa->aa->aa->aa->ad->O)(F c:aa)(l m d:aa)(H:ad):O:=C (w P .lss 3 X d m) λo=>aO (I o) (C (bX P 48 l d) λp=>C (A P H 9 p) λh=>i H (j 67 [F,h] H) λq a=>aO (I q) (C (bA P 57 [(0,(J U 4)),(1,h)]) λs=>bU P .len [9] [h] a λv=>aG a (aB P a 57 c s) λk=>C (A P k 57 c) λr=>I (.tuple [r,v],k)) (C (w P .add 3 Y d (J U 1)) λx=>n F c l m x a)) (r3 j N c H)
def nP(a:e)(N:Nat):Nat->aa->aa->aa->aa->aa->ad->O
 |0,_,_,_,_,_,_=>u
 |n+1,F,c,d,h,i,H=>uE a N (nP a N n) F c d h i H
def Zp(a:e)(N:Nat)(h:aa->aa->aa->aa->aa->ad->O):∀V H,a7 P a N (d (d (L (d (L (L (n Tryz.f47))))))) (λV H=>h (V 0) (V 2) (V 22) (V 23) (V 24) H) [(1,(λV H=>r3 a N (V 2) H))] (p Tryz.f47) V H=uE a N h (V 0) (V 2) (V 22) (V 23) (V 24) H:=by
 refine bm (q _) λV H=> ?_
 delta uE;generalize r3 a N=c;revert c;refine id ?_;intro c;kernel_rfl
def yk(d:e)(N:Nat)(F:aa)(H:ad):O:=bn H [J U 0,Z [],J U 0,J U 0] λh k=>C (eF P 9 F (J U 0)) λz=>i k (d 68 [z] k) λB j=>aO (I B) (i j (d 69 [F] j) λm c=>C (dG m 0) λp=>C (dG m 1) λq=>aG c (aB P c 57 h p) λa=>C (A P a 57 h) λr=>I (.tuple [r,q],a)) (C (eF P 9 F (J U 0)) λs=>i j (d 70 [s] j) λv c=>aO (I v) (i c (d 71 [F] c) λn a=>C (dG n 0) λw=>C (dG n 1) λx=>aG a (aB P a 57 h w) λl=>C (A P l 57 h) λr=>I (.tuple [r,x],l)) (i c (d 72 [] c) λo a=>bU P .len [48] [o] a λy=>nP d N N F h o y (J U 0) a))
def WQ(N:Nat){F:aa}{H:ad}{r:aa×ad}(h:yk (al P aj) N F H=I r):al P aj 47 [F] H=I r:=bu N (S:=λa=>yk a N F H) Tryz.func47 (λa=>cG ((Q M ((Q M ((Q M (Zq a N) ((Q M ((cn M ((cY (k:=λm V H=>nP a N m (V 0) (V 2) (V 22) (V 23) (V 24) H) M (λV H=>M) (λm=>Zp a N (nP a N m)))))) (q _))))) (q _))) (q _))) (by delta yk;generalize nP a N N=c;revert c;refine id ?_;intro c;kernel_rfl)) h
def wW(a:e)(F y:aa)(H:ad):O:=i H (a 129 [F,y] H) λd c=>C (w P .geq 3 Y d (J U 0)) λh=>I (h,c)
def Vu(N:Nat){F y:aa}{H:ad}{r:aa×ad}(h:wW (al P aj) F y H=I r):al P aj 113 [F,y] H=I r:=bu N (S:=λa=>wW a F y H) Tryz.func113 (λ_=>by delta wW;kernel_rfl) h
def wX(a:e)(H:ad):O:=i H (a 100 [Z [114,101,99,111,114,100,32,103,108,111,98,97,108,32,102,117,110,99,32,118,97,114,32,108,101,116,32,105,102,32,101,108,115,101,32,119,104,105,108,101,32,114,101,116,117,114,110,32,112,114,105,110,116,32,110,117,108,108,32,110,101,119,32,108,101,110,32,114,101,97,100,32,116,114,117,101,32,102,97,108,115,101,32,105,110,116,32,98,111,111,108]] H) λy c=>I (y,c)
def Vv(N:Nat){H:ad}{r:aa×ad}(h:wX (al P aj) H=I r):al P aj 114 [] H=I r:=bu N (S:=λa=>wX a H) Tryz.func114 (λ_=>by delta wX;kernel_rfl) h
def yC(B:e)(F:aa)(H:ad):O:=C (w P .geq 5 Y F (J .u8 97)) λd=>S d Y H (bP F) λaJ h=>S d Y h (k (w P .leq 5 Y aJ (J .u8 122))) λA i=>C (bC d (I A) (I (D X))) λa=>S a X i (bP F) λq j=>S a X j (k (w P .geq 5 Y q (J .u8 65))) λs l=>S a X l (bP s) λc m=>S c Y m (bP F) λv n=>S c Y n (k (w P .leq 5 Y v (J .u8 90))) λx o=>S a X o (k (bC c (I x) (I (D X)))) λy p=>C (bC a (I (D Y)) (I y)) λz=>I (z,p)
def Xa(N:Nat){F:aa}{H:ad}{r:aa×ad}(h:yC (al P aj) F H=I r):al P aj 68 [F] H=I r:=bu N (S:=λa=>yC a F H) Tryz.func68 (λ_=>by delta yC;kernel_rfl) h
def p6(c:e)(N:Nat)(a:aa)(H:ad):O:=some (a,H)
def aaj(a:e)(N:Nat):∀V H,a7 P a N (L (L (L (n Tryz.f95)))) (p Tryz.f95) [] (p Tryz.f95) V H=p6 a N (V 5) H:=by
 refine bm (q _) λV H=> ?_
 delta p6;kernel_rfl
def uN(h:e)(N:Nat)(j:aa->aa->aa->ad->O)(F y c:aa)(H:ad):O:=bU P .len [9] [F] H λE=>C (w P .lss 3 X c E) λa=>S a Y H (bP y) λo l=>S a Y l (bP F) λs m=>S a Y m (bP c) λv n=>S a Y n (k (eF P 9 s v)) λx d=>S a Y d (λq=>(qv o [x]).bind λp=>cZ d (h p.1 p.2 d) q) λz i=>C (bC a (I z) (I (D X))) λA=>aO (I A) (C (w P .add 3 Y c (J U 1)) λB=>j F y B i) (p6 h N c i)
def n3(a:e)(N:Nat):Nat->aa->aa->aa->ad->O
 |0,_,_,_,_=>u
 |n+1,F,y,c,H=>uN a N (n3 a N n) F y c H
def aai(a:e)(N:Nat)(h:aa->aa->aa->ad->O):∀V H,a7 P a N (d (d (d (L (L (n Tryz.f95)))))) (λV H=>h (V 0) (V 1) (V 5) H) [(0,(λV H=>p6 a N (V 5) H))] (p Tryz.f95) V H=uN a N h (V 0) (V 1) (V 5) H:=by
 refine bm (q _) λV H=> ?_
 delta uN;generalize p6 a N=c;revert c;refine id ?_;intro c;kernel_rfl
def yZ(a:e)(N:Nat)(F y:aa)(H:ad):O:=n3 a N N F y (J U 0) H
def XC(N:Nat){F y:aa}{H:ad}{r:aa×ad}(h:yZ (al P aj) N F y H=I r):al P aj 95 [F,y] H=I r:=bu N (S:=λa=>yZ a N F y H) Tryz.func95 (λa=>cG ((Q M ((Q M ((Q M (aaj a N) ((cn M ((cY (k:=λm V H=>n3 a N m (V 0) (V 1) (V 5) H) M (λV H=>M) (λm=>aai a N (n3 a N m)))))))) (q _))) (q _))) (by delta yZ;generalize n3 a N N=c;revert c;refine id ?_;intro c;kernel_rfl)) h
def y0(d:e)(F:aa)(H:ad):O:=i H (d 68 [F] H) λc h=>S c X h (bP F) λaJ a=>S c X a (λq=>cZ a (d 70 [aJ] a) q) λk j=>C (bC c (I (D Y)) (I k)) λl=>I (l,j)
def XD(N:Nat){F:aa}{H:ad}{r:aa×ad}(h:y0 (al P aj) F H=I r):al P aj 96 [F] H=I r:=bu N (S:=λa=>y0 a F H) Tryz.func96 (λ_=>by delta y0;kernel_rfl) h
def yB(a:e)(F y:aa)(H:ad):O:=i H (a 94 [F,y] H) λd c=>I (d,c)
def W_(N:Nat){F y:aa}{H:ad}{r:aa×ad}(h:yB (al P aj) F y H=I r):al P aj 67 [F,y] H=I r:=bu N (S:=λa=>yB a F y H) Tryz.func67 (λ_=>by delta yB;kernel_rfl) h
def yD(k:e)(F:aa)(H:ad):O:=bn H [J U 0,Z [],J U 0,J U 0] λc m=>i m (k 95 [F,(.func (.func 96) [] [])] m) λl n=>C (ff P 9 F u (I l) u) λj=>i n (k 97 [j] n) λo h=>aO (I o) (C (bA P 57 [(0,(J U 3)),(1,j)]) λp=>aG h (aB P h 57 c p) λa=>C (A P a 57 c) λr=>I (.tuple [r,l],a)) (i h (k 98 [j] h) λq a=>aO (I q) (C (bA P 57 [(0,(J U 1)),(1,j)]) λs=>aG a (aB P a 57 c s) λd=>C (A P d 57 c) λr=>I (.tuple [r,l],d)) (aG a (aB P a 57 c (.agg [J U 0,Z [],J U 0,J U 0])) λd=>C (A P d 57 c) λr=>I (.tuple [r,J U 0],d)))
def Xb(N:Nat){F:aa}{H:ad}{r:aa×ad}(h:yD (al P aj) F H=I r):al P aj 69 [F] H=I r:=bu N (S:=λa=>yD a F H) Tryz.func69 (λ_=>by delta yD;kernel_rfl) h
def yE(j:e)(F:aa)(H:ad):O:=C (w P .geq 5 Y F (J .u8 48)) λa=>S a Y H (bP F) λaJ c=>S a Y c (k (w P .leq 5 Y aJ (J .u8 57))) λh d=>C (bC a (I h) (I (D X))) λi=>I (i,d)
def Xc(N:Nat){F:aa}{H:ad}{r:aa×ad}(h:yE (al P aj) F H=I r):al P aj 70 [F] H=I r:=bu N (S:=λa=>yE a F H) Tryz.func70 (λ_=>by delta yE;kernel_rfl) h
def yF(o:e)(F:aa)(H:ad):O:=bn H [J U 0,Z [],J U 0,J U 0] λm s=>i s (o 95 [F,(.func (.func 70) [] [])] s) λj x=>C (ff P 9 F u (I j) u) λah=>i x (o 99 [ah] x) λy R=>C (dG y 0) λai=>C (dG y 1) λaj=>C (w P .neq 126 Y aj aa.nilIface) λd=>S d X R (bP j) λak T=>S d X T (k (w P .gtr 3 Y ak (J U 1))) λal V=>S d X V (bP al) λn W=>S n Y W (bP F) λam ab=>S n Y ab (k (eF P 9 am (J U 0))) λan ae=>S n Y ae (k (w P .eql 5 Y an (J .u8 48))) λao af=>S d X af (k (bC n (I ao) (I (D X)))) λap B=>C (bC d (I (D Y)) (I ap)) λa=>S a X B (bP j) λaq E=>S a X E (bP F) λz v=>S a X v (λq=>et (bK P .empty .len [9] [z]) (bK P v .len [9] [z]) q) λar G=>S a X G (k (w P .lss 3 X aq ar)) λau K=>S a X K (bP au) λh L=>S h Y L (bP F) λav M=>S h Y M (bP j) λaw N=>S h Y N (k (eF P 9 av aw)) λay p=>S h Y p (λq=>cZ p (o 68 [ay] p) q) λaz Q=>S a X Q (k (bC h (I az) (I (D X)))) λaA l=>C (bC a (I (D Y)) (I aA)) λaC=>aO (I aC) (aG l (aB P l 57 m (.agg [J U 0,Z [],J U 0,J U 0])) λc=>C (A P c 57 m) λr=>I (.tuple [r,J U 0],c)) (C (bA P 57 [(0,(J U 2)),(2,ai)]) λaD=>aG l (aB P l 57 m aD) λc=>C (A P c 57 m) λr=>I (.tuple [r,j],c))
def Xd(N:Nat){F:aa}{H:ad}{r:aa×ad}(h:yF (al P aj) F H=I r):al P aj 71 [F] H=I r:=bu N (S:=λa=>yF a F H) Tryz.func71 (λ_=>by delta yF;kernel_rfl) h
def yG(a:e)(H:ad):O:=i H (a 100 [Z [60,61,32,61,61,32,33,61,32,38,38,32,124,124,32,123,32,125,32,40,32,41,32,91,32,93,32,59,32,58,32,44,32,46,32,61,32,43,32,45,32,42,32,47,32,37,32,60,32,33]] H) λy c=>I (y,c)
def Xe(N:Nat){H:ad}{r:aa×ad}(h:yG (al P aj) H=I r):al P aj 72 [] H=I r:=bu N (S:=λa=>yG a H) Tryz.func72 (λ_=>by delta yG;kernel_rfl) h
def rD(a:e)(N:Nat)(H:ad):O:=some ((J U (-1)),H)
def X9(a:e)(N:Nat):∀V H,a7 P a N (L (L (n Tryz.f129))) (p Tryz.f129) [] (p Tryz.f129) V H=rD a N H:=by
 refine bm (q _) λV H=> ?_
 delta rD;kernel_rfl
def ua(d:e)(N:Nat)(h:aa->aa->aa->aa->ad->O)(F y:aa)(c a:aa)(H:ad):O:=C (w P .lss 3 X a c) λm=>aO (I m) (C (bX P 48 F a) λi=>C (A P H 9 i) λj=>C (w P .eql 9 X y j) λk=>aO (I k) (I (a,H)) (C (w P .add 3 Y a (J U 1)) λl=>h F y c l H)) (rD d N H)
def nw(a:e)(N:Nat):Nat->aa->aa->aa->aa->ad->O
 |0,_,_,_,_,_=>u
 |n+1,F,y,c,d,H=>ua a N (nw a N n) F y c d H
def X8(a:e)(N:Nat)(h:aa->aa->aa->aa->ad->O):∀V H,a7 P a N (d (d (L (d (L (n Tryz.f129)))))) (λV H=>h (V 0) (V 1) (V 7) (V 8) H) [(0,(λV H=>rD a N H))] (p Tryz.f129) V H=ua a N h (V 0) (V 1) (V 7) (V 8) H:=by
 refine bm (q _) λV H=> ?_
 delta ua;generalize rD a N=c;revert c;refine id ?_;intro c;kernel_rfl
def w7(a:e)(N:Nat)(F y:aa)(H:ad):O:=bU P .len [48] [F] H λc=>nw a N N F y c (J U 0) H
def VH(N:Nat){F y:aa}{H:ad}{r:aa×ad}(h:w7 (al P aj) N F y H=I r):al P aj 129 [F,y] H=I r:=bu N (S:=λa=>w7 a N F y H) Tryz.func129 (λa=>cG ((Q M ((Q M (X9 a N) ((Q M ((cn M ((cY (k:=λm V H=>nw a N m (V 0) (V 1) (V 7) (V 8) H) M (λV H=>M) (λm=>X8 a N (nw a N m)))))) (q _))))) (q _))) (by delta w7;generalize nw a N N=c;revert c;refine id ?_;intro c;kernel_rfl)) h
def uM(A:e)(F y:aa)(H:ad):O:=bU P .len [9] [F] H λaJ=>bU P .len [9] [y] H λz=>C (w P .geq 3 X aJ z) λa=>S a Y H (bP F) λn h=>S a Y h (bP y) λd c=>S a Y c (λq=>et (bK P .empty .len [9] [d]) (bK P c .len [9] [d]) q) λo i=>S a Y i (k (ff P 9 n u (I o) u)) λp j=>S a Y j (bP y) λs l=>S a Y l (k (w P .eql 9 X p s)) λv m=>C (bC a (I v) (I (D X))) λx=>I (x,m)
def XB(N:Nat){F y:aa}{H:ad}{r:aa×ad}(h:uM (al P aj) F y H=I r):al P aj 94 [F,y] H=I r:=bu N (S:=λa=>uM a F y H) Tryz.func94 (λ_=>by delta uM;kernel_rfl) h
def rJ(o:e)(N:Nat)(F h j:aa)(H:ad):O:=bU P .len [9] [F] H λk=>C (bA P 57 [(0,(J U 0)),(3,k)]) λl=>bO H (b0 P (H).next 50 1 [(0,l)]) λm a=>i a (c_ P a [50,50] j m) λn c=>aG c (aB P c 29 h (.agg [J U 0,J U 0])) λd=>C (A P d 29 h) λr=>I (.tuple [n,r],d)
def YC(a:e)(N:Nat):∀V H,a7 P a N (L (L (L (L (n Tryz.f16))))) (p Tryz.f16) [] (p Tryz.f16) V H=rJ a N (V 0) (V 3) (V 4) H:=by
 refine bm (q _) λV H=> ?_
 delta rJ;kernel_rfl
def um(k:e)(N:Nat)(s:aa->aa->aa->aa->ad->O)(F h:aa)(q c:aa)(H:ad):O:=bU P .len [9] [F] H λy=>C (w P .lss 3 X c y) λz=>aO (I z) (C (ff P 9 F (I c) u u) λB=>i H (k 47 [B] H) λo v=>C (dG o 0) λE=>C (dG o 1) λp=>bn v [J U 0,Z [],J U 0,J U 0] λaJ l=>aG l (aB P l 57 aJ E) λd=>C (w P .eql 3 Y p (J U 0)) λG=>aO (I G) (C (bA P 29 [(0,(J U 1)),(1,c)]) λK=>aG d (aB P d 29 h K) λa=>C (A P a 29 h) λr=>I (.tuple [aa.ag,r],a)) (C (j P 57 aJ 3) λL=>aG d (aB P d 3 L c) λa=>C (A P a 57 aJ) λM=>bO a (b0 P (a).next 50 1 [(0,M)]) λQ m=>i m (c_ P m [50,50] q Q) λR n=>C (w P .add 3 X c p) λS=>i n (k 46 [F,S] n) λT x=>s F h R T x)) (rJ k N F h q H)
def nF(a:e)(N:Nat):Nat->aa->aa->aa->aa->ad->O
 |0,_,_,_,_,_=>u
 |n+1,F,c,d,h,H=>um a N (nF a N n) F c d h H
def YB(a:e)(N:Nat)(h:aa->aa->aa->aa->ad->O):∀V H,a7 P a N (d (d (L (d (L (L (L (n Tryz.f16)))))))) (λV H=>h (V 0) (V 3) (V 4) (V 5) H) [(0,(λV H=>rJ a N (V 0) (V 3) (V 4) H))] (p Tryz.f16) V H=um a N h (V 0) (V 3) (V 4) (V 5) H:=by
 refine bm (q _) λV H=> ?_
 delta um;generalize rJ a N=c;revert c;refine id ?_;intro c;kernel_rfl
def uj(h:e)(N:Nat)(F:aa)(H:ad):O:=bn H [J U 0,J U 0] λd a=>bU P .len [9] [F] a λl=>C (w P .gtr 3 Y l (J U 6000)) λj=>aO (I j) (aG a (aB P a 29 d (.agg [J U 4,J U 0])) λc=>C (A P c 29 d) λr=>I (.tuple [aa.ag,r],c)) (i a (h 46 [F,J U 0] a) λk c=>nF h N N F d aa.ag k c)
def V2(N:Nat){F:aa}{H:ad}{r:aa×ad}(h:uj (al P aj) N F H=I r):al P aj 16 [F] H=I r:=bu N (S:=λa=>uj a N F H) Tryz.func16 (λa=>cG ((Q M ((Q M ((Q M ((Q M (YC a N) ((Q M ((cn M ((cY (k:=λm V H=>nF a N m (V 0) (V 3) (V 4) (V 5) H) M (λV H=>M) (λm=>YB a N (nF a N m)))))) (q _))))) (q _))) (q _))) (q _))) (by delta uj;generalize nF a N N=c;revert c;refine id ?_;intro c;kernel_rfl)) h
end
end
end Go.Proofs.YtghmbpmaafnodaaGreatDoor
namespace Go.Proofs.YtghmbpmaafnodaaGreatDoor.fq
open Go.bk
structure gd(H:ad):Prop where
 y9:H.get 0=some (.row true 1 kH)
 err:H.get 1=some (.row true 1 nq)
def gd.av{H H':ad}(h:gd H)(p:aw H H'):gd H':=⟨p.get h.y9,p.get h.err⟩
def td{H:ad}(c:Int):W (al P aj 68 [J .u8 c] H) λv H'=>v= D (gx c)/\H'=H:=by
 refine bt (λ_=>Xa 0) ?_;unfold gx;cases a:decide (97<=c)<;>cases d:decide (c<=122)<;>cases e:decide (65<=c)<;>cases h:decide (c<=90)<;>
  (simp only[yC,aR,b8,a,d,e,h];exact aD.2 ⟨rfl,rfl⟩)
def A7{H:ad}(c:Int):W (al P aj 70 [J .u8 c] H) λv H'=>v= D (ib c)/\H'=H:=by
 refine bt (λ_=>Xc 0) ?_;unfold ib;cases a:decide (48<=c)<;>cases d:decide (c<=57)<;>
  (simp only[yE,aR,b8,a,d];exact aD.2 ⟨rfl,rfl⟩)
def SA{H:ad}(c:Int):W (al P aj 96 [J .u8 c] H) λv H'=>v= D (gx c||ib c)/\H'=H:=by
 refine bt (λ_=>XD 0) ?_;rw[y0];refine gP (td c) ?_;cases h:gx c with
 |true=>
  simp only[aR];exact aD.2 ⟨rfl,rfl⟩
 |false=>
  simp only[aR];refine jJ (A7 c) ?_;simp only[aR];exact aD.2 ⟨rfl,rfl⟩
def y_(d:Bool)(c:UInt8):Bool:=cu c||(!d&&cy c)
def A8(d:Bool):Nat:=if d then 70 else 96
def jR{H:ad}(d:Bool)(c:UInt8):W (al P aj (A8 d) [J .u8 c.toNat] H) λv H'=>v= D (y_ d c)/\H'=H:=by
 cases d with
 |true=>
  refine(A7 (H:=H) (c.toNat:Int)).mono ?_;rintro v H' ⟨rfl,rfl⟩;exact⟨by simp[y_,cu],rfl⟩
 |false=>
  refine(SA (H:=H) (c.toNat:Int)).mono ?_;rintro v H' ⟨rfl,rfl⟩;exact⟨by simp[y_,cu,cy,EF],rfl⟩
def Qz(g:Nat)(a:List aa):qv (.func (.func g) [] []) a=I (g,a):=by simp[qv]
def Kj{H:ad}{s:ay}(au:s.length<=1000000000000000000)(d:Bool)(N:Nat):∀(rest:ay) (n m:Nat),s.drop n=rest->n<=s.length->rest.length<m->
  W (n3 (al P aj) N m (Z s) (.func (.func (A8 d)) [] []) (J U n) H) λv H'=>v= J U ((n+runN d rest:Nat):Int)/\H'=H
 |_,_,0,_,_,i=>ae
 |[],n,m+1,h,o,i=>by
  have:=drop_nil h;have a:¬((n:Int)<(s.length:Int)):=ae;simp(disch:=try exact ah)only[n3,p6,uN,ai,a,decide_false];exact aD.2 ⟨by simp[runN],rfl⟩
 |c::r,n,m+1,h,o,i=>by
  obtain⟨ap,aE,bB,cc⟩:=drop_cons h;have a:((n:Int)<(s.length:Int)):=ae;have l:=iC ap;simp(disch:=try exact ah)only[n3,uN,ai,a,decide_true,l,Qz];refine jJ (jR d c) ?_;cases j:y_ d c with
  |true=>
   simp(disch:=try exact ah)only[aR,b8,ht];refine(Kj (H:=H) au d N r (n+1) m aE ae (by simp at i;omega)).mono ?_;rintro v H' ⟨rfl,rfl⟩;have e:runN d (c::r)=runN d r+1:=by
    have:(cu c||(!d&&cy c))=true:=j;rw[runN,this];rfl
   have k:n+1+runN d r=n+runN d (c::r):=by rw[e];omega
   exact⟨by rw[k],rfl⟩
  |false=>
   simp(disch:=try exact ah)only[aR,p6];have e:runN d (c::r)=0:=by
    have:(cu c||(!d&&cy c))=false:=j;rw[runN,this];rfl
   exact aD.2 ⟨by rw[e];rfl,rfl⟩
def Bu{H:ad}{s:ay}(au:s.length<=1000000000000000000)(d:Bool):W (al P aj 95 [Z s,.func (.func (A8 d)) [] []] H) λv H'=>v= J U (runN d s:Nat)/\H'=H:=by
 refine bt (λ_=>XC (s.length+1)) ?_;rw[yZ];have:=Kj (H:=H) au d (s.length+1) s 0 (s.length+1) rfl ae ae;simpa using this
def Hx{H:ad}(d:gd H)(s:ay)(l:List ay)(au:s.length<4294967281)(a:∀(j:Nat) b,s[j]? =I b->b.toNat<128)(c:Lib.fields s=l):al P aj 100 [Z s] H=I (.ax H.next 0 l.length 1 (I l.length),H.push (.row X 1 (l.map λx=>[Z x]))):=by
 subst c;refine vq ?_;exact if_pos ⟨au,a,d.y9⟩
def mz:List ay:=gM++[[123],[125],[40],[41],[91],[93],[59],[58],[44],[46],[61],[43],[45],[42],[47],[37],[60],[33]]
def EB{s:ay}(h:s.all (λb=>decide (b.toNat<128))=Y):∀(j:Nat) b,s[j]? =I b->b.toNat<128:=λj b a=>by
 have:=List.all_eq_true.1 h b (List.mem_of_getElem? a);simpa using this
def Tm{H:ad}(a:gd H):W (al P aj 114 [] H) λv H'=>v= .ax H.next 0 h.length 1 (I h.length)/\H'=H.push (.row X 1 (h.map λy=>[aa.str y])):=by
 refine bt (λ_=>Vv 0) ?_;rw[wX,Hx a _ h aC (EB (by decide+kernel)) (by decide+kernel)];simp only[i,ad.bb,FG,decide_true,aK];exact aD.2 ⟨rfl,rfl⟩
def Tf{H:ad}(a:gd H):W (al P aj 72 [] H) λv H'=>v= .ax H.next 0 mz.length 1 (I mz.length)/\H'=H.push (.row X 1 (mz.map λy=>[aa.str y])):=by
 refine bt (λ_=>Xe 0) ?_;rw[yG,Hx a _ mz aC (EB (by decide+kernel)) (by decide+kernel)];simp only[i,ad.bb,FG,decide_true,aK];exact aD.2 ⟨rfl,rfl⟩
def o3(x:ay):List ay->Nat->Int
 |[],_=> -1
 |y::a,n=>bif x==y then n else o3 x a (n+1)
def Lz(x:ay):∀(l:List ay) (n:Nat),decide (0<=o3 x l n)=ez x l
 |[],n=>rfl
 |y::c,n=>by
  have a:(y==x)=(x==y):=by
   cases h:x==y with
   |true=>rw[eq_of_beq h];simp
   |false=>
    have:x≠y:=by simpa using h
    simpa usingλe:y=x=>this e.symm
  rw[o3,ez,a];cases h:x==y with
  |true=>
   simp only[aK,kl,decide_eq_true_eq];omega
  |false=>
   simp only[aH,DE];exact Lz x c (n+1)
def DW{H:ad}{x:ay}{l:Nat}(N:Nat)(all:List ay)(j:all.length<=1000)(h:H.get l=I (.row X 1 (all.map λy=>[aa.str y]))):∀(rest pre:List ay),all=pre++rest->∀(m:Nat),rest.length<m->
  W (nw (al P aj) N m (.ax l 0 all.length 1 (I all.length)) (Z x) (J U all.length) (J U pre.length) H) λv H'=>v= J U (o3 x rest pre.length)/\H'=H
 |_,_,_,0,d=>ae
 |[],pre,a,m+1,d=>by
  have c:¬((pre.length:Int)<(all.length:Int)):=by rw[a];simp
  simp(disch:=try exact ah)only[nw,rD,ua,ai,c,decide_false];exact aD.2 ⟨rfl,rfl⟩
 |y::o,pre,a,m+1,d=>by
  have c:((pre.length:Int)<(all.length:Int)):=by rw[a];simp;omega
  have p:(0:Int)<=(pre.length:Int):=ae;have ap:((pre.length:Int)).toNat=pre.length:=ae;have q:pre.length<all.length:=ae;have k:(all.map λy=>[aa.str y])[pre.length]? =I [aa.str y]:=by rw[a];simp
  have n:((pre++[y]).length:Int)=((pre.length+1:Nat):Int):=by simp
  simp(disch:=try exact ah)only[nw,ua,ai,c,decide_true,h,ap,k];cases e:x==y with
  |true=>
   simp(disch:=try exact ah)only[aR];exact aD.2 ⟨by simp[o3,e],rfl⟩
  |false=>
   have i:=DW (H:=H) (x:=x) N all j h o (pre++[y]) (by simp[a]) m (by simp at d;omega);rw[n]at i;simp(disch:=try exact ah)only[aR,b8,ht];refine i.mono ?_;rintro v H' ⟨rfl,rfl⟩;exact⟨by simp[o3,e],rfl⟩
def O1{H:ad}{x:ay}{l:Nat}(all:List ay)(a:all.length<=1000)(c:H.get l=I (.row X 1 (all.map λy=>[aa.str y]))):
  W (al P aj 113 [.ax l 0 all.length 1 (I all.length),Z x] H) λv H'=>v= D (ez x all)/\H'=H:=by
 refine bt (λ_=>Vu 0) ?_;rw[wW];have d:W (al P aj 129 [.ax l 0 all.length 1 (I all.length),Z x] H) λv H'=>v= J U (o3 x all 0)/\H'=H:=by
  refine bt (λ_=>VH (all.length+1)) ?_;simp only[w7,ai];exact DW (H:=H) (x:=x) (all.length+1) all a c all [] rfl (all.length+1) ae
 refine gP d ?_;have:=Lz x all 0;simp only[aR,b8,this];exact aD.2 ⟨rfl,rfl⟩
def Jq{H:ad}(a:gd H)(x:ay):W (al P aj 97 [Z x] H) λv H'=>v= D (fB x)/\aw H H':=by
 refine bt (λ_=>XE 0) ?_;rw[y1];refine aA (Tm a) ?_;rintro _ _ ⟨rfl,rfl⟩;refine⟨(aw.push _ _).1,?_⟩;refine gP (O1 h aC (ad.a_ _ _)) ?_;exact aD.2 ⟨rfl,aw.push _ _⟩
def Ej:∀(x:ay),iO x=(runN X x==x.length)
 |[]=>rfl
 |c::r=>by
  have d:=Ej r;rw[iO,runN,d,EF (cy c)];have a:(cu c||(!X&&cy c))=(cu c||cy c):=by simp
  rw[a];cases h:cu c||cy c with
  |true=>simp
  |false=>simp
def SR{H:ad}(l:gd H){x:ay}(n:x.length<=1000000000000000000):W (al P aj 98 [Z x] H) λv H'=>v= D (dJ x)/\aw H H':=by
 refine bt (λ_=>XF 0) ?_;unfold dJ;cases x with
 |nil=>
  have a:(([]:List UInt8)==[])=true:=rfl;simp only[so,uO,ef,ai,a,fg];exact aD.2 ⟨by simp,.refl _⟩
 |cons c r=>
  have a:((c::r)==([]:List UInt8))=false:=rfl;have aX:decide (1<=(c::r).length)=true:=by simp
  have o:=vI (s:=c::r) (b:=c) rfl;rw[aX];by_cases h:(c::r).length<=8
  ·have d:(((c::r).length:Nat):Int)<=8:=ae;generalize j:c::r=y at*;simp only[so,uO,ai,a,hi,d,decide_true,o];refine jJ (td _) ?_;have m:cy (y.headD 0)=gx (c.toNat:Int):=by rw[<-j];rfl
   rw[m];cases q:gx (c.toNat:Int)with
   |false=>
    simp only[aR];exact aD.2 ⟨by simp,.refl _⟩
   |true=>
    simp only[aR];refine jJ (Bu n X) ?_;rw[Ej];cases i:(runN X y==y.length)with
    |false=>
     have e:(((runN X y:Nat):Int)==(y.length:Int))=false:=by
      have:runN X y≠y.length:=by simpa using i
      simp;omega
     simp only[ai,e];exact aD.2 ⟨by simp,.refl _⟩
    |true=>
     have e:(((runN X y:Nat):Int)==(y.length:Int))=true:=by
      have:runN X y=y.length:=by simpa using i
      simp;omega
     simp only[ai,e];refine dZ (Jq l y) ?_;rintro _ p ⟨rfl,k⟩;refine⟨k.1,?_⟩;simp only[aR];exact aD.2 ⟨by simp[h],k⟩
  ·have d:¬((((c::r).length:Nat):Int)<=8):=ae;generalize j:c::r=y at*;simp only[so,uO,ai,a,hi,d,decide_false];exact aD.2 ⟨by simp[h],.refl _⟩
def preB(s p:ay):Bool:=decide (p.length<=s.length)&&s.take p.length==p
def DV{H:ad}(s p:ay):W (al P aj 67 [Z s,Z p] H) λv H'=>v= D (preB s p)/\H'=H:=by
 refine bt (λ_=>W_ 0) ?_;rw[yB];have c:W (al P aj 94 [Z s,Z p] H) λv H'=>v= D (preB s p)/\H'=H:=by
  refine bt (λ_=>XB 0) ?_;by_cases h:p.length<=s.length
  ·have a:((p.length:Int)<=(s.length:Int)):=ae;have d:ff P 9 (Z s) u (I (J U (p.length:Int))) u=I (Z (s.take p.length)):=by
    have ap:dP (I (J U (p.length:Int))) s.length s.length=I p.length:=by simp[dP];omega
    simp only[ff,zg,ap];simp[dP]
   simp only[uM,ai,a,decide_true,d];exact aD.2 ⟨by simp[preB,h],rfl⟩
  ·have a:¬((p.length:Int)<=(s.length:Int)):=ae;simp only[uM,ai,a,decide_false];exact aD.2 ⟨by simp[preB,h],rfl⟩
 refine gP c ?_;exact aD.2 ⟨rfl,rfl⟩
