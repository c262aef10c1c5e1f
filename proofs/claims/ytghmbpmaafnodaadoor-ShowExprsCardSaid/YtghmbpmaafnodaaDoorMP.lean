/-
  Texts of one proof, laid together: T4 T5 U6 U7 Qb Qc Qd Qe Qf Qg Qh Lz Qi Ra Rb Rc Rd.
-/
import Derived.Test.YtghmbpmaafnodaaDoorMO
set_option linter.unusedVariables false
set_option linter.unusedSimpArgs false
set_option linter.defProp false
open Option renaming some→D
open Bool renaming true→X,false→U
open Go.bs.aa renaming int→I,str→Z,bool→Y
open Go.IntKind renaming i64→J
namespace Go.Proofs.YtghmbpmaafnodaaDoor
open Go.bs
def Hh(T:List Tok)(s x y:au):Prop:=fp x y/\(x.aG=0->x.bU=s.bU/\x.cP=s.cP/\left T x<=left T s)
def yd{α:Type}(T:List Tok)(s:au)(x y:α×au):Prop:=eD x y/\(x.2.aG=0->x.2.bU=s.bU/\x.2.cP=s.cP/\left T x.2<=left T s)
def eD.eq{α:Type}{p q:α×au}(h:eD p q)(a:p.2.aG=0):q=p:=by
 rcases h with h|h
 ·exact h.2
 ·exact absurd a h.1
def eD.Pa{α:Type}{p q:α×au}(h:eD p q):fp p.2 q.2:=by
 rcases h with⟨h,rfl⟩|⟨a,c,d⟩
 ·exact .inl ⟨h,rfl⟩
 ·exact .inr ⟨a,c,d⟩
def yd.st{α:Type}{T:List Tok}{s:au}{x y:α×au}(h:yd T s x y):Hh T s x.2 y.2:=⟨h.1.Pa,h.2⟩
def fp.eq{x y:au}(h:fp x y)(a:x.aG=0):y=x:=by
 rcases h with h|h
 ·exact h.2
 ·exact absurd a h.1
section
variable {T:List Tok}(aK:T.length<=20000000)
include aK
end
section
set_option linter.unusedSectionVars false
section
variable {T:List Tok}(aK:T.length<=20000000)
include aK
end
end
structure qK(T:List Tok):Prop where
 n:T.length<=20000000
 g:Good T ((T.length:Int)-1)
def kS(ao bL bT bP:aa)(s:au):bW:= .row U 7 [[ao,I J s.at_,bL,bT,bP,I J s.aG,I J s.cP]]
structure fB(H:ad)(r:Nat)(T:List Tok)(ao bL bT bP:aa)(s:au):Prop where
 rd:H.get r=some (kS ao bL bT bP s)
 bJ:eS H ao T
 a0:0<=s.at_
 aT:s.at_<T.length
 n:T.length<=20000000
 z:s.aG=0->s.cP=0
 o:s.bU=0
 one:bL.one=true/\bT.one=true/\bP.one=true
section
variable {H H':ad}{r:Nat}{T:List Tok}{ao bL bT bP:aa}{s s':au}
def fB.lt(h:fB H r T ao bL bT bP s):r<H.next:=ad.aS h.rd
def fB.aM(h:fB H r T ao bL bT bP s)(p:aO H H'):fB H' r T ao bL bT bP s:=⟨p.get h.rd,h.bJ.aM p,h.a0,h.aT,h.n,h.z,h.o,h.one⟩
def fB.Gd(h:fB H r T ao bL bT bP s)(m:cb r H H'):eS H' ao T:=h.bJ.a1 λl ro els e=>m.get e (by
 rintro rfl;rw[h.rd]at e;simp only[kS,aV,bW.row.injEq]at e;omega)
def fB.set(h:fB H r T ao bL bT bP s)(s':au)(a0:0<=s'.at_)(aT:s'.at_<T.length)(z:s'.aG=0->s'.cP=0)(o:s'.bU=0):cb r H (H.set r (kS ao bL bT bP s'))/\fB (H.set r (kS ao bL bT bP s')) r T ao bL bT bP s':=by
 have m:cb r H (H.set r (kS ao bL bT bP s')):=c0.cE (S:=(· =r)) (c0.refl _ _) (.inl rfl) _;exact⟨m,ad.get_set_same h.lt,h.Gd m,a0,aT,h.n,z,o,h.one⟩
def fB.fin(h:fB H r T ao bL bT bP s)(m:cb r H H')(a:H'.get r=D (kS ao bL bT bP s'))(a0:0<=s'.at_)(aT:s'.at_<T.length)(z:s'.aG=0->s'.cP=0)(o:s'.bU=0):fB H' r T ao bL bT bP s':=⟨a,h.Gd m,a0,aT,h.n,z,o,h.one⟩
def qK.next(aK:qK T)(h:(al T s.at_).kind≠0):s.at_+1<T.length:=by have:=aK.g.lt _ h;omega
def eS.rd(h:eS H ao T):bl (D ao) ao=true:=by
 rcases h with⟨rfl,_⟩|⟨l,i,cap,rfl,_⟩
 ·rfl
 ·exact lG _ _ _ _ _
end
def ch.cells(p:ch):List aa:=[Z p.name,Z p.cf,I J p.cS,I J p.pos]
def f_:h4 ch:=⟨4,λ_ _ p cs=>cs=p.cells,λh=>by rw[h];exact⟨rfl,rfl⟩,λ_ h=>h⟩
def rD:ku 23 68 4:=⟨ah,x2,⟨_,(by kernel_rfl:hN P 68=D 48),bf⟩,⟨_,(by kernel_rfl:eV P 68=D (.agg [Z [],Z [],I J 0,I J 0])),rfl,rfl⟩,bf⟩
section
variable {H H':ad}{r:Nat}{T:List Tok}{ao bL bT bP:aa}{s s':au}
def c7.pm{ok:Nat->Prop}{l:List ch}{v:aa}(h:c7 f_ ok H l v)(p:ch)(o:ok (H.next+1))(n:l.length<=1000000000):
  ∃e H',c1 P (H.push (.row U 4 [p.cells])) [23,23] v (.aB H.next 0 1 4 (D 1))=D (e,H')/\c7 f_ ok H' (l++[p]) e/\H.next+1<=H'.next/\(∀k,k<H.next->¬ok k->H'.get k=H.get k):=by
 obtain⟨e,H',a,b,c,d⟩:=c7.app (K:=f_) (ok':=ok) rD h (okE:=λ_=>False) (a:=p) (cs:=p.cells) rfl (λ_ _ i=>i.elim) (λ_ _ i _=>i) o n;refine⟨e,H',a,b,c,λk m q=>d k m ?_⟩;rintro L j rfl;rcases h with⟨rfl,_⟩|⟨L',els,rfl,aE,_⟩
 ·cases j
 ·cases j;exact q aE
def c7.nW{ok:Nat->Prop}{l:List ch}{v:aa}(h:c7 f_ ok H l v)(H':ad):b_ P H' .len [23] [v]=D (I J l.length):=by
 rcases h with⟨rfl,rfl⟩|⟨L,els,rfl,_⟩
 ·exact tf
 ·exact ry
def c7.rd{α:Type}{K:h4 α}{ok:Nat->Prop}{l:List α}{v:aa}(h:c7 K ok H l v):bl (D v) v=true:=by
 rcases h with⟨rfl,_⟩|⟨L,els,rfl,_⟩
 ·rfl
 ·exact lG _ _ _ _ _
end
abbrev iw(r n:Nat):ad->ad->Prop:=c0 λk=>k=r\/n<=k
section
variable {H H':ad}{r:Nat}{T:List Tok}{ao bL bT bP:aa}{s s':au}
def fB.nQ{H1:ad}{s0:au}(h:fB H1 r T ao bL bT bP s0)(m:iw r H1.next H1 H')(a:H'.get r=D (kS ao bL bT bP s'))(a0:0<=s'.at_)(aT:s'.at_<T.length)(z:s'.aG=0->s'.cP=0)(o:s'.bU=0):fB H' r T ao bL bT bP s':=
 ⟨a,h.bJ.a1 λl ro els e=>m.get e (by
  have:=ad.aS e;rintro(rfl|c)
  ·rw[h.rd]at e;simp only[kS,aV,bW.row.injEq]at e;omega
  ·omega),a0,aT,h.n,z,o,h.one⟩
def cb.tl{n:Nat}(m:cb r H H'):iw r n H H':=⟨m.1,λl a ax=>m.2 l a λe=>ax (.inl e)⟩
structure fi(H1 H:ad)(r c n2 esz:Nat)(T:List Tok)(ao bL bT bP:aa)(x:aa)(rest:List aa)(l:List ch)(v:aa)(s:au):Prop where
 cN:fB H r T ao bL bT bP s
 cell:H.get c=some (.row false esz [x::v::rest])
 gR:c7 f_ (bk n2) H l v
 m:iw r H1.next H1 H
 bO:r<H1.next
 b2:H1.next<=c
 cz:c<n2
 dz:n2<=H.next
def fi.mut{H1:ad}{c n2 esz:Nat}{x:aa}{rest:List aa}{l:List ch}{v:aa}(h:fi H1 H r c n2 esz T ao bL bT bP x rest l v s)(m:cb r H H')(cN:fB H' r T ao bL bT bP s'):fi H1 H' r c n2 esz T ao bL bT bP x rest l v s':=by
 have bO:=h.bO;have b2:=h.b2;have cz:=h.cz;have dz:=h.dz;exact⟨cN,m.get h.cell af,h.gR.a1 (dp.mut m λk a=>by unfold bk at a;omega),h.m.trans m.tl,bO,b2,cz,by have:=m.1;omega⟩
def fi.add{H1:ad}{c n2 esz:Nat}{x:aa}{rest:List aa}{l:List ch}{v:aa}(u:fB H1 r T ao bL bT bP s')(h:fi H1 H r c n2 esz T ao bL bT bP x rest l v s)(w:l.length<=1000000000)(p:ch):
  ∃i H',c1 P (H.push (.row U 4 [p.cells])) [23,23] v (.aB H.next 0 1 4 (D 1))=D (i,H')/\H.next+1<=H'.next/\i.one=X/\H'.get c=D (.row U esz [x::v::rest])/\(H.push (.row U 4 [p.cells])).get c=D (.row U esz [x::v::rest])/\fi H1 (H'.set c (.row U esz [x::i::rest])) r c n2 esz T ao bL bT bP x rest (l++[p]) i s:=by
 have bO:=h.bO;have b2:=h.b2;have cz:=h.cz;have dz:=h.dz;obtain⟨i,H',a,b,q,d⟩:=h.gR.pm p (by unfold bk;omega) w;have gc:H'.get c=D (.row U esz [x::v::rest]):=by rw[d c af (by unfold bk;omega)];exact h.cell
 have lc:=ad.aS gc;have n:iw r H1.next H1 (H'.set c (.row U esz [x::i::rest])):=h.m.trans ⟨by simp;omega,λk j ax=>by
  have y:k≠r:=λe=>ax (.inl e)
  have A:¬H1.next<=k:=λe=>ax (.inr e)
  rw[ad.get_set_other af,d k j (by unfold bk;omega)]⟩
 refine⟨i,H',a,q,b.one,gc,(aO.push _ _).get h.cell,?_,ad.get_set_same lc,b.a1 λk x j g=>⟨j,by unfold bk at j;rw[ad.get_set_other af];exact g⟩,n,bO,b2,cz,by simp;omega⟩;exact u.nQ n (by rw[ad.get_set_other af,d r af (by unfold bk;omega)];exact h.cN.rd) h.cN.a0 h.cN.aT h.cN.z h.cN.o
end
def jc:h4 fo:=⟨3,λH ok x cs=>∃v,cs=[Z x.name,v,I J x.pos]/\dU f_ H ok x.fields v,λ⟨v,h,k⟩=>by rw[h];exact⟨rfl,by simp only[List.all_cons,List.all_nil,hp,gF,k.one,Bool.and_self]⟩,λp ⟨v,h,k⟩=>⟨v,h,k.a1 p⟩⟩
def ia:h4 Fn:=⟨7,λH ok x cs=>∃v w,cs=[Z x.name,v,Y x.has,Z x.dS,I J x.rd,w,I J x.pos]/\dU f_ H ok x.params v/\c_ H ok x.body w,λ⟨v,w,h,k,q⟩=>by rw[h];exact⟨rfl,by simp only[List.all_cons,List.all_nil,hp,gF,rI,k.one,q.ej,Bool.and_self]⟩,λp ⟨v,w,h,k,q⟩=>⟨v,w,h,k.a1 p,q.a1 p.s⟩⟩
def Dp:ku 22 65 3:=⟨ah,x1,⟨_,(by kernel_rfl:hN P 65=D 48),bf⟩,⟨_,(by kernel_rfl:eV P 65=D (.agg [Z [],.ar,I J 0])),rfl,rfl⟩,bf⟩
def Dn:ku 24 73 7:=⟨ah,x3,⟨_,(by kernel_rfl:hN P 73=D 104),bf⟩,⟨_,(by kernel_rfl:eV P 73=D (.agg [Z [],.ar,Y U,Z [],I J 0,.ar,I J 0])),rfl,rfl⟩,bf⟩
section
variable {H H' H1:ad}{r:Nat}{T:List Tok}{ao bL bT bP:aa}{s s':au}
def c7.wC{ok:Nat->Prop}{l:List fo}{v:aa}(h:c7 jc ok H l v)(H':ad):b_ P H' .len [22] [v]=D (I J l.length):=by
 rcases h with⟨rfl,rfl⟩|⟨L,els,rfl,_⟩
 ·exact te
 ·exact rv
def c7.wD{ok:Nat->Prop}{l:List Fn}{v:aa}(h:c7 ia ok H l v)(H':ad):b_ P H' .len [24] [v]=D (I J l.length):=by
 rcases h with⟨rfl,rfl⟩|⟨L,els,rfl,_⟩
 ·exact tg
 ·exact rz
def grow{α:Type}{K:h4 α}{t e:Nat}(y:ku t e K.esz){i:Nat->Prop}{l:List α}{v:aa}(q:c7 K i H1 l v)(m:iw r H1.next H1 H)(p:∀k,i k->r<k)(G:r<H1.next){a:α}{cs:List aa}{n2:Nat}(he:K.V H (bk n2) a cs)(F:H1.next<=n2)(u:l.length<=1000000000):
  ∃j H',c1 P (H.push (.row U K.esz [cs])) [t,t] v (.aB H.next 0 1 K.esz (D 1))=D (j,H')/\j.one=X/\(∀b,c7 K (λk=>i k\/H1.next<=k) (H'.set r b) (l++[a]) j)/\H.next+1<=H'.next/\H'.get r=H.get r/\
   (∀k x,¬i k->k<H1.next->k≠r->H1.get k=D x->∀b,(H'.set r b).get k=D x)/\∀b,c0 (λk=>r<=k) H1 (H'.set r b):=by
 have hm:=m.1;have z:dp H1 i H i:=λk x d g=>by
  have:=ad.aS g;have:=p k d;exact⟨d,m.get g af⟩
 have s:=q.a1 z;have o:∀L n c,v= .aB L 0 n K.esz c->i L/\L<H1.next:=by
  intro L n c h;rcases q with⟨rfl,_⟩|⟨L',els,rfl,a6,A,_⟩
  ·cases h
  ·cases h;exact⟨a6,ad.aS A⟩
 obtain⟨j,H',aT,a2,a3,a4⟩:=s.app y (ok':=λk=>i k\/H1.next<=k) he (λk x d g=>⟨.inr (by unfold bk at d;omega),λL h=>by have:=(o L _ _ h).2;unfold bk at d;omega⟩) (λk x d _=> .inl d) (.inr af) u;refine⟨j,H',aT,a2.one,λb=>a2.a1 λk x d g=>⟨d,?_⟩,a3,a4 r af (λL h=>by have:=p L (o L _ _ h).1;omega),λk x d E w g b=> ?_,λb=>⟨by simp only[ad.ds];omega,λk d ax=> ?_⟩⟩
 ·rw[ad.get_set_other]
  ·exact g
  ·rintro rfl;rcases d with d|d
   ·have:=p _ d;omega
   ·omega
 ·rw[ad.get_set_other (Ne.symm w),a4 k af (λL h e=>d (e▸(o L _ _ h).1))];exact m.get g af
 ·have B:k<r:=by simpa using ax
  rw[ad.get_set_other af,a4 k af (λL h e=>by have:=p L (o L _ _ h).1;omega)];exact m.2 k d af
def yw(H:ad)(r:Nat)(T:List Tok)(ao:aa)(g:dv)(s:au):Prop:=∃bL bT bP,∃h d a:Nat->Prop,fB H r T ao bL bT bP s/\(∀l i n e c,ao= .aB l i n e c->l<r)/\c7 jc h H g.dk bL/\c7 f_ d H g.globals bT/\c7 ia a H g.funcs bP/\(∀k,h k->r<k/\¬d k/\¬a k)/\(∀k,d k->r<k/\¬a k)/\∀k,a k->r<k
def yw.mut{g:dv}{bL bT bP:aa}{j h d:Nat->Prop}(v:∀l i n e c,ao= .aB l i n e c->l<r)(s:c7 jc j H g.dk bL)(u:c7 f_ h H g.globals bT)(b3:c7 ia d H g.funcs bP)(o:∀k,j k->r<k/\¬h k/\¬d k)(p:∀k,h k->r<k/\¬d k)(q:∀k,d k->r<k)(m:cb r H H')(cN:fB H' r T ao bL bT bP s'):yw H' r T ao g s':=
 ⟨bL,bT,bP,j,h,d,cN,v,s.a1 (dp.mut m λk a=>by have:=(o k a).1;omega),u.a1 (dp.mut m λk a=>by have:=(p k a).1;omega),b3.a1 (dp.mut m λk a=>by have:=q k a;omega),o,p,q⟩
end
section
variable {H H' H1:ad}{r:Nat}{T:List Tok}{ao bL bT bP:aa}{s s':au}
end
section
variable {H H' H1:ad}{r:Nat}{T:List Tok}{ao bL bT bP:aa}{s s':au}
def vh(aK:T.length<=20000000):nv T:=λs=>by
 obtain⟨p,q,-,a,-,-⟩:=E0 (T:=T) af T.length s (CJ _ _) 0 800000000 800000000 af af af;exact⟨q,a⟩
def fi.rest{c n2 esz:Nat}{x:aa}{rest a:List aa}{l:List ch}{v:aa}{s0:au}(i:fB H1 r T ao bL bT bP s0)(h:fi H1 H r c n2 esz T ao bL bT bP x rest l v s):fi H1 (H.set c (.row U esz [x::v::a])) r c n2 esz T ao bL bT bP x a l v s:=by
 have bO:=h.bO;have b2:=h.b2;have cz:=h.cz;have dz:=h.dz;have e:iw r H1.next H1 (H.set c (.row U esz [x::v::a])):=h.m.cE (.inl (.inr b2)) _
 exact⟨i.nQ e (by rw[ad.get_set_other af];exact h.cN.rd) h.cN.a0 h.cN.aT h.cN.z h.cN.o,ad.get_set_same af,h.gR.a1 λk x d g=>⟨d,by unfold bk at d;rw[ad.get_set_other af];exact g⟩,e,bO,b2,cz,by simp;omega⟩
end
section
variable {H H' H1:ad}{r:Nat}{T:List Tok}{ao bL bT bP:aa}{s s':au}
end
def CZ:∀(n:Nat) (rest:aC) (p:Nat) (l:List Tok),fG n rest p= .inr l->l.length<=rest.length+1
 |0,_,_,_,h=>by simp[fG]at h
 |n+1,[],p,l,h=>by simp[fG]at h;subst h;simp
 |n+1,c::r,p,l,h=>by
  rw[fG]at h;cases d:ga (c::r)with
  |none=>rw[d]at h;simp at h
  |some q=>
   obtain⟨k,t,z,b⟩:=q;obtain⟨j,i⟩:=DZ d;rw[d]at h;simp only at h;cases a:fG n (((c::r).drop b).drop (cG U ((c::r).drop b))) (p+b+cG U ((c::r).drop b))with
   |inl e=>rw[a]at h;cases h
   |inr l'=>
    rw[a]at h;cases h;have:=CZ n _ _ l' a;simp only[List.length_drop,List.length_cons]at this i ⊢;omega
def sn(s:aC):(dx s).1.length<=s.length+1:=by
 unfold dx;split
 ·simp
 ·cases h:pH s with
  |inl e=>simp
  |inr l=>
   have:=CZ _ _ _ l h;simp only[List.length_drop]at this;simp only
   omega
def CY:∀(n:Nat) (s:aC) (p:Nat) (l:List Tok),fG n s p= .inr l->∃L q,l=L++[⟨0,[],0,q⟩]
 |0,_,_,_,h=>by cases h
 |n+1,[],p,l,h=>by cases h;exact⟨[],_,rfl⟩
 |n+1,c::r,p,l,h=>by
  rw[fG]at h;split at h
  ·cases h
  ·rename_i k t v m d;split at h
   ·cases h
   ·rename_i l' a;cases h;obtain⟨L,q,rfl⟩:=CY n _ _ _ a;exact⟨⟨k,t,v,p⟩::L,q,rfl⟩
def uF{s:aC}(h:(dx s).2.1=0):qK (dx s).1/\1<=(dx s).1.length:=by
 have d:=sn s;have i:= @Gh s;have n:s.length<=6000:=by
  unfold dx at h;split at h
  ·simp at h
  ·omega
 obtain⟨L,q,e⟩:∃L q,(dx s).1=L++[⟨0,[],0,q⟩]:=by
  unfold dx at h ⊢;rw[if_neg af]at h ⊢;cases j:pH s with
  |inl e=>rw[j]at h;simp at h
  |inr l=>exact CY _ _ _ _ j
 rw[e]at d i ⊢;simp only[List.length_append,List.length_cons,List.length_nil]at d ⊢;refine⟨⟨by simp;omega,by simp;omega,λa c=> ?_,i⟩,af⟩;have m:=xZ c;simp only[List.length_append,List.length_cons,List.length_nil]at m ⊢;by_cases o:a<L.length
 ·omega
 ·exfalso;have k:a.toNat=L.length:=af;apply c;unfold al;rw[if_neg (by simp;omega),k,List.getElem?_append_right (bj _),Nat.sub_self];rfl
section
variable {H H' H1:ad}{r:Nat}{T:List Tok}{ao bL bT bP:aa}{s s':au}
end
section
variable {T:List Tok}{s:au}
structure jR(T:List Tok)(s:au):Prop where
 f:s.aG=0
 a:0<=s.at_
 b:s.at_<T.length
 o:s.bU=0
 z:s.cP=0
def jR.in(g:jR T s):In ((T.length:Int)-1) s:=⟨g.a,by have:=g.b;omega,by rw[g.o];omega,by rw[g.o];omega⟩
def jR.sW{s':au}{k:Int}(g:jR T s)(h:bY ((T.length:Int)-1) s s' k)(d:0<=k)(c:s'.cP=s.cP):jR T s':=⟨h.hB,by have:=h.a;have:=g.a;omega,by have:=h.b;omega,by rw[h.o];exact g.o,by rw[c];exact g.z⟩
def jR.take(aK:qK T)(g:jR T s){x:aC}(e:(bo T x s).aG=0):jR T (bo T x s)/\s.at_+1<=(bo T x s).at_:=by
 obtain⟨h,d,c⟩:=eQ aK.g (λ_=>g.in) e;exact⟨g.sW c af (by rw[d];rfl),c.a⟩
def jR.go(aK:qK T)(g:jR T s)(d:(al T s.at_).kind≠0):jR T (aF s)/\s.at_+1<=(aF s).at_:=by
 obtain⟨e,c⟩:=go_ok aK.g g.in g.f d;exact⟨g.sW c af rfl,c.a⟩
end
section
variable {T:List Tok}{s:au}
end
section
variable {T:List Tok}{s t:au}
end
section
variable {T:List Tok}{s t:au}
