/-
  Texts of one proof, laid together: T4 T5 U6 U7 Qb Qc Qd Qe Qf Qg Qh Lz Qi Ra Rb Rc Rd.
-/
import Derived.Test.YtghmbpmaafnodaaDoorMO
set_option linter.unusedVariables false
set_option linter.unusedSimpArgs false
set_option linter.defProp false
open Option renaming some→D
open Bool renaming true→X,false→U
open Go.b9.aa renaming int→I,str→Y,bool→C
open Go.IntKind renaming i64→J
namespace Go.Proofs.YtghmbpmaafnodaaDoor
open Go.b9
def Fy(T:List Tok)(s x y:aq):Prop:=e4 x y/\(x.aD=0->x.bO=s.bO/\x.cO=s.cO/\left T x<=left T s)
def wR{α:Type}(T:List Tok)(s:aq)(x y:α×aq):Prop:=ei x y/\(x.2.aD=0->x.2.bO=s.bO/\x.2.cO=s.cO/\left T x.2<=left T s)
def ei.eq{α:Type}{p q:α×aq}(h:ei p q)(a:p.2.aD=0):q=p:=by
 rcases h with h|h
 ·exact h.2
 ·exact absurd a h.1
def ei.MV{α:Type}{p q:α×aq}(h:ei p q):e4 p.2 q.2:=by
 rcases h with⟨h,rfl⟩|⟨a,c,d⟩
 ·exact .inl ⟨h,rfl⟩
 ·exact .inr ⟨a,c,d⟩
def wR.st{α:Type}{T:List Tok}{s:aq}{x y:α×aq}(h:wR T s x y):Fy T s x.2 y.2:=⟨h.1.MV,h.2⟩
def e4.eq{x y:aq}(h:e4 x y)(a:x.aD=0):y=x:=by
 rcases h with h|h
 ·exact h.2
 ·exact absurd a h.1
section
variable {T:List Tok}(aE:T.length<=20000000)
include aE
end
section
set_option linter.unusedSectionVars false
section
variable {T:List Tok}(aE:T.length<=20000000)
include aE
end
end
structure pH(T:List Tok):Prop where
 n:T.length<=20000000
 g:Good T ((T.length:Int)-1)
def ke(ak bA bJ bD:aa)(s:aq):bN:= .row U 7 [[ak,I J s.at_,bA,bJ,bD,I J s.aD,I J s.cO]]
structure fj(H:ad)(r:Nat)(T:List Tok)(ak bA bJ bD:aa)(s:aq):Prop where
 rd:H.get r=some (ke ak bA bJ bD s)
 bu:eC H ak T
 a0:0<=s.at_
 aQ:s.at_<T.length
 n:T.length<=20000000
 z:s.aD=0->s.cO=0
 o:s.bO=0
 one:bA.one=true/\bJ.one=true/\bD.one=true
section
variable {H H':ad}{r:Nat}{T:List Tok}{ak bA bJ bD:aa}{s s':aq}
def fj.lt(h:fj H r T ak bA bJ bD s):r<H.next:=ad.aR h.rd
def fj.aK(h:fj H r T ak bA bJ bD s)(p:aM H H'):fj H' r T ak bA bJ bD s:=⟨p.get h.rd,h.bu.aK p,h.a0,h.aQ,h.n,h.z,h.o,h.one⟩
def fj.Et(h:fj H r T ak bA bJ bD s)(m:b2 r H H'):eC H' ak T:=h.bu.aY λl ro els e=>m.get e (by
 rintro rfl;rw[h.rd]at e;simp only[ke,aS,bN.row.injEq]at e;omega)
def fj.set(h:fj H r T ak bA bJ bD s)(s':aq)(a0:0<=s'.at_)(aQ:s'.at_<T.length)(z:s'.aD=0->s'.cO=0)(o:s'.bO=0):b2 r H (H.set r (ke ak bA bJ bD s'))/\fj (H.set r (ke ak bA bJ bD s')) r T ak bA bJ bD s':=by
 have m:b2 r H (H.set r (ke ak bA bJ bD s')):=cX.cz (S:=(· =r)) (cX.refl _ _) (.inl rfl) _;exact⟨m,ad.get_set_same h.lt,h.Et m,a0,aQ,h.n,z,o,h.one⟩
def fj.fin(h:fj H r T ak bA bJ bD s)(m:b2 r H H')(a:H'.get r=D (ke ak bA bJ bD s'))(a0:0<=s'.at_)(aQ:s'.at_<T.length)(z:s'.aD=0->s'.cO=0)(o:s'.bO=0):fj H' r T ak bA bJ bD s':=⟨a,h.Et m,a0,aQ,h.n,z,o,h.one⟩
def pH.next(aE:pH T)(h:(ao T s.at_).kind≠0):s.at_+1<T.length:=by have:=aE.g.lt _ h;omega
def eC.rd(h:eC H ak T):bg (D ak) ak=true:=by
 rcases h with⟨rfl,_⟩|⟨l,i,cap,rfl,_⟩
 ·rfl
 ·exact kT _ _ _ _ _
end
def b5.cells(p:b5):List aa:=[Y p.name,Y p.cf,I J p.c3,I J p.pos]
def fK:hK b5:=⟨4,λ_ _ p cs=>cs=p.cells,λh=>by rw[h];exact⟨rfl,rfl⟩,λ_ h=>h⟩
def qq:jY 23 68 4:=⟨ah,wF,⟨_,(by kernel_rfl:hn P 68=D 48),b1⟩,⟨_,(by kernel_rfl:eF P 68=D (.agg [Y [],Y [],I J 0,I J 0])),rfl,rfl⟩,b1⟩
section
variable {H H':ad}{r:Nat}{T:List Tok}{ak bA bJ bD:aa}{s s':aq}
def c0.pm{ok:Nat->Prop}{l:List b5}{v:aa}(h:c0 fK ok H l v)(p:b5)(q:ok (H.next+1))(o:l.length<=1000000000):
  ∃e H',cR P (H.push (.row U 4 [p.cells])) [23,23] v (.ay H.next 0 1 4 (D 1))=D (e,H')/\c0 fK ok H' (l++[p]) e/\H.next+1<=H'.next/\(∀k,k<H.next->¬ok k->H'.get k=H.get k):=by
 obtain⟨e,H',a,b,c,d⟩:=c0.app (K:=fK) (ok':=ok) qq h (okE:=λ_=>False) (a:=p) (cs:=p.cells) rfl (λ_ _ i=>i.elim) (λ_ _ i _=>i) q o;refine⟨e,H',a,b,c,λk n s=>d k n ?_⟩;rintro L j rfl;rcases h with⟨rfl,_⟩|⟨L',els,rfl,m,_⟩
 ·cases j
 ·cases j;exact s m
def c0.mM{ok:Nat->Prop}{l:List b5}{v:aa}(h:c0 fK ok H l v)(H':ad):b4 P H' .len [23] [v]=D (I J l.length):=by
 rcases h with⟨rfl,rfl⟩|⟨L,els,rfl,_⟩
 ·exact rW
 ·exact ql
def c0.rd{α:Type}{K:hK α}{ok:Nat->Prop}{l:List α}{v:aa}(h:c0 K ok H l v):bg (D v) v=true:=by
 rcases h with⟨rfl,_⟩|⟨L,els,rfl,_⟩
 ·rfl
 ·exact kT _ _ _ _ _
end
abbrev h6(r n:Nat):ad->ad->Prop:=cX λk=>k=r\/n<=k
section
variable {H H':ad}{r:Nat}{T:List Tok}{ak bA bJ bD:aa}{s s':aq}
def fj.mG{H1:ad}{s0:aq}(h:fj H1 r T ak bA bJ bD s0)(m:h6 r H1.next H1 H')(a:H'.get r=D (ke ak bA bJ bD s'))(a0:0<=s'.at_)(aQ:s'.at_<T.length)(z:s'.aD=0->s'.cO=0)(o:s'.bO=0):fj H' r T ak bA bJ bD s':=
 ⟨a,h.bu.aY λl ro els e=>m.get e (by
  have:=ad.aR e;rintro(rfl|c)
  ·rw[h.rd]at e;simp only[ke,aS,bN.row.injEq]at e;omega
  ·omega),a0,aQ,h.n,z,o,h.one⟩
def b2.r2{n:Nat}(m:b2 r H H'):h6 r n H H':=⟨m.1,λl a az=>m.2 l a λe=>az (.inl e)⟩
structure e2(H1 H:ad)(r c n2 esz:Nat)(T:List Tok)(ak bA bJ bD:aa)(x:aa)(rest:List aa)(l:List b5)(v:aa)(s:aq):Prop where
 cC:fj H r T ak bA bJ bD s
 cell:H.get c=some (.row false esz [x::v::rest])
 gv:c0 fK (bb n2) H l v
 m:h6 r H1.next H1 H
 bE:r<H1.next
 bX:H1.next<=c
 ck:c<n2
 dr:n2<=H.next
def e2.mut{H1:ad}{c n2 esz:Nat}{x:aa}{rest:List aa}{l:List b5}{v:aa}(h:e2 H1 H r c n2 esz T ak bA bJ bD x rest l v s)(m:b2 r H H')(cC:fj H' r T ak bA bJ bD s'):e2 H1 H' r c n2 esz T ak bA bJ bD x rest l v s':=by
 have bE:=h.bE;have bX:=h.bX;have ck:=h.ck;have dr:=h.dr;exact⟨cC,m.get h.cell af,h.gv.aY (dd.mut m λk a=>by unfold bb at a;omega),h.m.trans m.r2,bE,bX,ck,by have:=m.1;omega⟩
def e2.add{H1:ad}{c n2 esz:Nat}{x:aa}{rest:List aa}{l:List b5}{v:aa}(u:fj H1 r T ak bA bJ bD s')(h:e2 H1 H r c n2 esz T ak bA bJ bD x rest l v s)(w:l.length<=1000000000)(p:b5):
  ∃i H',cR P (H.push (.row U 4 [p.cells])) [23,23] v (.ay H.next 0 1 4 (D 1))=D (i,H')/\H.next+1<=H'.next/\i.one=X/\H'.get c=D (.row U esz [x::v::rest])/\(H.push (.row U 4 [p.cells])).get c=D (.row U esz [x::v::rest])/\e2 H1 (H'.set c (.row U esz [x::i::rest])) r c n2 esz T ak bA bJ bD x rest (l++[p]) i s:=by
 have bE:=h.bE;have bX:=h.bX;have ck:=h.ck;have dr:=h.dr;obtain⟨i,H',a,b,q,d⟩:=h.gv.pm p (by unfold bb;omega) w;have gc:H'.get c=D (.row U esz [x::v::rest]):=by rw[d c af (by unfold bb;omega)];exact h.cell
 have lc:=ad.aR gc;have n:h6 r H1.next H1 (H'.set c (.row U esz [x::i::rest])):=h.m.trans ⟨by simp;omega,λk j az=>by
  have y:k≠r:=λe=>az (.inl e)
  have A:¬H1.next<=k:=λe=>az (.inr e)
  rw[ad.get_set_other af,d k j (by unfold bb;omega)]⟩
 refine⟨i,H',a,q,b.one,gc,(aM.push _ _).get h.cell,?_,ad.get_set_same lc,b.aY λk x j g=>⟨j,by unfold bb at j;rw[ad.get_set_other af];exact g⟩,n,bE,bX,ck,by simp;omega⟩;exact u.mG n (by rw[ad.get_set_other af,d r af (by unfold bb;omega)];exact h.cC.rd) h.cC.a0 h.cC.aQ h.cC.z h.cC.o
end
def iL:hK e3:=⟨3,λH ok x cs=>∃v,cs=[Y x.name,v,I J x.pos]/\dH fK H ok x.fields v,λ⟨v,h,k⟩=>by rw[h];exact⟨rfl,by simp only[List.all_cons,List.all_nil,hA,gO,k.one,Bool.and_self]⟩,λp ⟨v,h,k⟩=>⟨v,h,k.aY p⟩⟩
def hR:hK Fn:=⟨7,λH ok x cs=>∃v w,cs=[Y x.name,v,C x.has,Y x.dF,I J x.rd,w,I J x.pos]/\dH fK H ok x.params v/\c1 H ok x.body w,λ⟨v,w,h,k,q⟩=>by rw[h];exact⟨rfl,by simp only[List.all_cons,List.all_nil,hA,gO,qv,k.one,q.ee,Bool.and_self]⟩,λp ⟨v,w,h,k,q⟩=>⟨v,w,h,k.aY p,q.aY p.s⟩⟩
def B3:jY 22 65 3:=⟨ah,wE,⟨_,(by kernel_rfl:hn P 65=D 48),b1⟩,⟨_,(by kernel_rfl:eF P 65=D (.agg [Y [],.ar,I J 0])),rfl,rfl⟩,b1⟩
def B2:jY 24 73 7:=⟨ah,wG,⟨_,(by kernel_rfl:hn P 73=D 104),b1⟩,⟨_,(by kernel_rfl:eF P 73=D (.agg [Y [],.ar,C U,Y [],I J 0,.ar,I J 0])),rfl,rfl⟩,b1⟩
section
variable {H H' H1:ad}{r:Nat}{T:List Tok}{ak bA bJ bD:aa}{s s':aq}
def c0.u1{ok:Nat->Prop}{l:List e3}{v:aa}(h:c0 iL ok H l v)(H':ad):b4 P H' .len [22] [v]=D (I J l.length):=by
 rcases h with⟨rfl,rfl⟩|⟨L,els,rfl,_⟩
 ·exact rV
 ·exact qk
def c0.u2{ok:Nat->Prop}{l:List Fn}{v:aa}(h:c0 hR ok H l v)(H':ad):b4 P H' .len [24] [v]=D (I J l.length):=by
 rcases h with⟨rfl,rfl⟩|⟨L,els,rfl,_⟩
 ·exact rX
 ·exact qm
def grow{α:Type}{K:hK α}{t e:Nat}(y:jY t e K.esz){i:Nat->Prop}{l:List α}{v:aa}(q:c0 K i H1 l v)(m:h6 r H1.next H1 H)(p:∀k,i k->r<k)(G:r<H1.next){a:α}{cs:List aa}{n2:Nat}(he:K.V H (bb n2) a cs)(F:H1.next<=n2)(u:l.length<=1000000000):
  ∃j H',cR P (H.push (.row U K.esz [cs])) [t,t] v (.ay H.next 0 1 K.esz (D 1))=D (j,H')/\j.one=X/\(∀b,c0 K (λk=>i k\/H1.next<=k) (H'.set r b) (l++[a]) j)/\H.next+1<=H'.next/\H'.get r=H.get r/\
   (∀k x,¬i k->k<H1.next->k≠r->H1.get k=D x->∀b,(H'.set r b).get k=D x)/\∀b,cX (λk=>r<=k) H1 (H'.set r b):=by
 have hm:=m.1;have z:dd H1 i H i:=λk x d g=>by
  have:=ad.aR g;have:=p k d;exact⟨d,m.get g af⟩
 have s:=q.aY z;have o:∀L n c,v= .ay L 0 n K.esz c->i L/\L<H1.next:=by
  intro L n c h;rcases q with⟨rfl,_⟩|⟨L',els,rfl,aZ,A,_⟩
  ·cases h
  ·cases h;exact⟨aZ,ad.aR A⟩
 obtain⟨j,H',aQ,a2,a3,a4⟩:=s.app y (ok':=λk=>i k\/H1.next<=k) he (λk x d g=>⟨.inr (by unfold bb at d;omega),λL h=>by have:=(o L _ _ h).2;unfold bb at d;omega⟩) (λk x d _=> .inl d) (.inr af) u;refine⟨j,H',aQ,a2.one,λb=>a2.aY λk x d g=>⟨d,?_⟩,a3,a4 r af (λL h=>by have:=p L (o L _ _ h).1;omega),λk x d E w g b=> ?_,λb=>⟨by simp only[ad.di];omega,λk d az=> ?_⟩⟩
 ·rw[ad.get_set_other]
  ·exact g
  ·rintro rfl;rcases d with d|d
   ·have:=p _ d;omega
   ·omega
 ·rw[ad.get_set_other (Ne.symm w),a4 k af (λL h e=>d (e▸(o L _ _ h).1))];exact m.get g af
 ·have B:k<r:=by simpa using az
  rw[ad.get_set_other af,a4 k af (λL h e=>by have:=p L (o L _ _ h).1;omega)];exact m.2 k d af
def xc(H:ad)(r:Nat)(T:List Tok)(ak:aa)(g:dm)(s:aq):Prop:=∃bA bJ bD,∃h d a:Nat->Prop,fj H r T ak bA bJ bD s/\(∀l i n e c,ak= .ay l i n e c->l<r)/\c0 iL h H g.c_ bA/\c0 fK d H g.globals bJ/\c0 hR a H g.funcs bD/\(∀k,h k->r<k/\¬d k/\¬a k)/\(∀k,d k->r<k/\¬a k)/\∀k,a k->r<k
def xc.mut{g:dm}{bA bJ bD:aa}{j h d:Nat->Prop}(v:∀l i n e c,ak= .ay l i n e c->l<r)(s:c0 iL j H g.c_ bA)(u:c0 fK h H g.globals bJ)(b3:c0 hR d H g.funcs bD)(o:∀k,j k->r<k/\¬h k/\¬d k)(p:∀k,h k->r<k/\¬d k)(q:∀k,d k->r<k)(m:b2 r H H')(cC:fj H' r T ak bA bJ bD s'):xc H' r T ak g s':=
 ⟨bA,bJ,bD,j,h,d,cC,v,s.aY (dd.mut m λk a=>by have:=(o k a).1;omega),u.aY (dd.mut m λk a=>by have:=(p k a).1;omega),b3.aY (dd.mut m λk a=>by have:=q k a;omega),o,p,q⟩
end
section
variable {H H' H1:ad}{r:Nat}{T:List Tok}{ak bA bJ bD:aa}{s s':aq}
end
section
variable {H H' H1:ad}{r:Nat}{T:List Tok}{ak bA bJ bD:aa}{s s':aq}
def Gi(aE:T.length<=20000000):ml T:=λs=>by
 obtain⟨p,q,-,a,-,-⟩:=Dp (T:=T) af T.length s (Bm _ _) 0 800000000 800000000 af af af;exact⟨q,a⟩
def e2.rest{c n2 esz:Nat}{x:aa}{rest a:List aa}{l:List b5}{v:aa}{s0:aq}(i:fj H1 r T ak bA bJ bD s0)(h:e2 H1 H r c n2 esz T ak bA bJ bD x rest l v s):e2 H1 (H.set c (.row U esz [x::v::a])) r c n2 esz T ak bA bJ bD x a l v s:=by
 have bE:=h.bE;have bX:=h.bX;have ck:=h.ck;have dr:=h.dr;have e:h6 r H1.next H1 (H.set c (.row U esz [x::v::a])):=h.m.cz (.inl (.inr bX)) _
 exact⟨i.mG e (by rw[ad.get_set_other af];exact h.cC.rd) h.cC.a0 h.cC.aQ h.cC.z h.cC.o,ad.get_set_same af,h.gv.aY λk x d g=>⟨d,by unfold bb at d;rw[ad.get_set_other af];exact g⟩,e,bE,bX,ck,by simp;omega⟩
end
section
variable {H H' H1:ad}{r:Nat}{T:List Tok}{ak bA bJ bD:aa}{s s':aq}
end
def BE:∀(n:Nat) (rest:aB) (p:Nat) (l:List Tok),fr n rest p= .inr l->l.length<=rest.length+1
 |0,_,_,_,h=>by simp[fr]at h
 |n+1,[],p,l,h=>by simp[fr]at h;subst h;simp
 |n+1,c::r,p,l,h=>by
  rw[fr]at h;cases d:fL (c::r)with
  |none=>rw[d]at h;simp at h
  |some q=>
   obtain⟨k,t,z,b⟩:=q;obtain⟨j,i⟩:=Cu d;rw[d]at h;simp only at h;cases a:fr n (((c::r).drop b).drop (cw U ((c::r).drop b))) (p+b+cw U ((c::r).drop b))with
   |inl e=>rw[a]at h;cases h
   |inr l'=>
    rw[a]at h;cases h;have:=BE n _ _ l' a;simp only[List.length_drop,List.length_cons]at this i ⊢;omega
def s6(s:aB):(dq s).1.length<=s.length+1:=by
 unfold dq;split
 ·simp
 ·cases h:oA s with
  |inl e=>simp
  |inr l=>
   have:=BE _ _ _ l h;simp only[List.length_drop]at this;simp only
   omega
def BD:∀(n:Nat) (s:aB) (p:Nat) (l:List Tok),fr n s p= .inr l->∃L q,l=L++[⟨0,[],0,q⟩]
 |0,_,_,_,h=>by cases h
 |n+1,[],p,l,h=>by cases h;exact⟨[],_,rfl⟩
 |n+1,c::r,p,l,h=>by
  rw[fr]at h;split at h
  ·cases h
  ·rename_i k t v m d;split at h
   ·cases h
   ·rename_i l' a;cases h;obtain⟨L,q,rfl⟩:=BD n _ _ _ a;exact⟨⟨k,t,v,p⟩::L,q,rfl⟩
def q5{s:aB}(h:(dq s).2.1=0):pH (dq s).1/\1<=(dq s).1.length:=by
 have d:=s6 s;have i:= @Ey s;have n:s.length<=6000:=by
  unfold dq at h;split at h
  ·simp at h
  ·omega
 obtain⟨L,q,e⟩:∃L q,(dq s).1=L++[⟨0,[],0,q⟩]:=by
  unfold dq at h ⊢;rw[if_neg af]at h ⊢;cases j:oA s with
  |inl e=>rw[j]at h;simp at h
  |inr l=>exact BD _ _ _ _ j
 rw[e]at d i ⊢;simp only[List.length_append,List.length_cons,List.length_nil]at d ⊢;refine⟨⟨by simp;omega,by simp;omega,λa c=> ?_,i⟩,af⟩;have m:=wC c;simp only[List.length_append,List.length_cons,List.length_nil]at m ⊢;by_cases o:a<L.length
 ·omega
 ·exfalso;have k:a.toNat=L.length:=af;apply c;unfold ao;rw[if_neg (by simp;omega),k,List.getElem?_append_right (bf _),Nat.sub_self];rfl
section
variable {H H' H1:ad}{r:Nat}{T:List Tok}{ak bA bJ bD:aa}{s s':aq}
end
section
variable {T:List Tok}{s:aq}
structure ju(T:List Tok)(s:aq):Prop where
 f:s.aD=0
 a:0<=s.at_
 b:s.at_<T.length
 o:s.bO=0
 z:s.cO=0
def ju.in(g:ju T s):In ((T.length:Int)-1) s:=⟨g.a,by have:=g.b;omega,by rw[g.o];omega,by rw[g.o];omega⟩
def ju.rG{s':aq}{k:Int}(g:ju T s)(h:bP ((T.length:Int)-1) s s' k)(d:0<=k)(c:s'.cO=s.cO):ju T s':=⟨h.hs,by have:=h.a;have:=g.a;omega,by have:=h.b;omega,by rw[h.o];exact g.o,by rw[c];exact g.z⟩
def ju.take(aE:pH T)(g:ju T s){x:aB}(e:(bj T x s).aD=0):ju T (bj T x s)/\s.at_+1<=(bj T x s).at_:=by
 obtain⟨h,d,c⟩:=eB aE.g (λ_=>g.in) e;exact⟨g.rG c af (by rw[d];rfl),c.a⟩
def ju.go(aE:pH T)(g:ju T s)(d:(ao T s.at_).kind≠0):ju T (aC s)/\s.at_+1<=(aC s).at_:=by
 obtain⟨e,c⟩:=go_ok aE.g g.in g.f d;exact⟨g.rG c af rfl,c.a⟩
end
section
variable {T:List Tok}{s:aq}
end
section
variable {T:List Tok}{s t:aq}
end
section
variable {T:List Tok}{s t:aq}
