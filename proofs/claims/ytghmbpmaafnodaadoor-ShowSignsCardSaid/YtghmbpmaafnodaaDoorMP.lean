/-
  Texts of one proof, laid together: T4 T5 U6 U7 Qb Qc Qd Qe Qf Qg Qh Lz Qi Ra Rb Rc Rd.
-/
import Derived.Test.YtghmbpmaafnodaaDoorMO
set_option linter.unusedVariables false
set_option linter.unusedSimpArgs false
set_option linter.defProp false
open Option renaming some→D
open Bool renaming true→X,false→U
open Go.b9.aa renaming int→I,str→Y,bool→C
open Go.IntKind renaming i64→J
namespace Go.Proofs.YtghmbpmaafnodaaDoor
open Go.b9
def E4(T:List Tok)(s x y:av):Prop:=e2 x y/\(x.aF=0->x.bP=s.bP/\x.cS=s.cS/\left T x<=left T s)
def wF{α:Type}(T:List Tok)(s:av)(x y:α×av):Prop:=ee x y/\(x.2.aF=0->x.2.bP=s.bP/\x.2.cS=s.cS/\left T x.2<=left T s)
def ee.eq{α:Type}{p q:α×av}(h:ee p q)(a:p.2.aF=0):q=p:=by
 rcases h with h|h
 ·exact h.2
 ·exact absurd a h.1
def ee.Mh{α:Type}{p q:α×av}(h:ee p q):e2 p.2 q.2:=by
 rcases h with⟨h,rfl⟩|⟨a,c,d⟩
 ·exact .inl ⟨h,rfl⟩
 ·exact .inr ⟨a,c,d⟩
def wF.st{α:Type}{T:List Tok}{s:av}{x y:α×av}(h:wF T s x y):E4 T s x.2 y.2:=⟨h.1.Mh,h.2⟩
def e2.eq{x y:av}(h:e2 x y)(a:x.aF=0):y=x:=by
 rcases h with h|h
 ·exact h.2
 ·exact absurd a h.1
section
variable {T:List Tok}(aE:T.length<=20000000)
include aE
end
section
set_option linter.unusedSectionVars false
section
variable {T:List Tok}(aE:T.length<=20000000)
include aE
end
end
structure pA(T:List Tok):Prop where
 n:T.length<=20000000
 g:Good T ((T.length:Int)-1)
def ka(ao bD bK bG:aa)(s:av):bO:= .row U 7 [[ao,I J s.at_,bD,bK,bG,I J s.aF,I J s.cS]]
structure fe(H:ad)(r:Nat)(T:List Tok)(ao bD bK bG:aa)(s:av):Prop where
 rd:H.get r=some (ka ao bD bK bG s)
 bA:eC H ao T
 a0:0<=s.at_
 aS:s.at_<T.length
 n:T.length<=20000000
 z:s.aF=0->s.cS=0
 ai:s.bP=0
 one:bD.one=true/\bK.one=true/\bG.one=true
section
variable {H H':ad}{r:Nat}{T:List Tok}{ao bD bK bG:aa}{s s':av}
def fe.lt(h:fe H r T ao bD bK bG s):r<H.next:=ad.aR h.rd
def fe.aM(h:fe H r T ao bD bK bG s)(p:aO H H'):fe H' r T ao bD bK bG s:=⟨p.get h.rd,h.bA.aM p,h.a0,h.aS,h.n,h.z,h.ai,h.one⟩
def fe.DW(h:fe H r T ao bD bK bG s)(m:b5 r H H'):eC H' ao T:=h.bA.aX λl ro els e=>m.get e (by
 rintro rfl;rw[h.rd]at e;simp only[ka,aU,bO.row.injEq]at e;omega)
def fe.set(h:fe H r T ao bD bK bG s)(s':av)(a0:0<=s'.at_)(aS:s'.at_<T.length)(z:s'.aF=0->s'.cS=0)(ai:s'.bP=0):b5 r H (H.set r (ka ao bD bK bG s'))/\fe (H.set r (ka ao bD bK bG s')) r T ao bD bK bG s':=by
 have m:b5 r H (H.set r (ka ao bD bK bG s')):=cP.cv (S:=(· =r)) (cP.refl _ _) (.inl rfl) _;exact⟨m,ad.get_set_same h.lt,h.DW m,a0,aS,h.n,z,ai,h.one⟩
def fe.fin(h:fe H r T ao bD bK bG s)(m:b5 r H H')(a:H'.get r=D (ka ao bD bK bG s'))(a0:0<=s'.at_)(aS:s'.at_<T.length)(z:s'.aF=0->s'.cS=0)(ai:s'.bP=0):fe H' r T ao bD bK bG s':=⟨a,h.DW m,a0,aS,h.n,z,ai,h.one⟩
def pA.next(aE:pA T)(h:(au T s.at_).kind≠0):s.at_+1<T.length:=by have:=aE.g.lt _ h;omega
def eC.rd(h:eC H ao T):bh (D ao) ao=true:=by
 rcases h with⟨rfl,_⟩|⟨l,i,cap,rfl,_⟩
 ·rfl
 ·exact kP _ _ _ _ _
end
def b7.cells(p:b7):List aa:=[Y p.name,Y p.cc,I J p.c4,I J p.pos]
def fF:hD b7:=⟨4,λ_ _ p cs=>cs=p.cells,λh=>by rw[h];exact⟨rfl,rfl⟩,λ_ h=>h⟩
def qh:jT 23 68 4:=⟨ah,wm,⟨_,(by kernel_rfl:hf P 68=D 48),cu⟩,⟨_,(by kernel_rfl:eF P 68=D (.agg [Y [],Y [],I J 0,I J 0])),rfl,rfl⟩,cu⟩
section
variable {H H':ad}{r:Nat}{T:List Tok}{ao bD bK bG:aa}{s s':av}
def c0.pm{ok:Nat->Prop}{l:List b7}{v:aa}(h:c0 fF ok H l v)(p:b7)(q:ok (H.next+1))(o:l.length<=1000000000):
  ∃e H',cQ P (H.push (.row U 4 [p.cells])) [23,23] v (.aA H.next 0 1 4 (D 1))=D (e,H')/\c0 fF ok H' (l++[p]) e/\H.next+1<=H'.next/\(∀k,k<H.next->¬ok k->H'.get k=H.get k):=by
 obtain⟨e,H',a,b,c,d⟩:=c0.app (K:=fF) (ok':=ok) qh h (okE:=λ_=>False) (a:=p) (cs:=p.cells) rfl (λ_ _ i=>i.elim) (λ_ _ i _=>i) q o;refine⟨e,H',a,b,c,λk n s=>d k n ?_⟩;rintro L j rfl;rcases h with⟨rfl,_⟩|⟨L',els,rfl,m,_⟩
 ·cases j
 ·cases j;exact s m
def c0.mM{ok:Nat->Prop}{l:List b7}{v:aa}(h:c0 fF ok H l v)(H':ad):bZ P H' .len [23] [v]=D (I J l.length):=by
 rcases h with⟨rfl,rfl⟩|⟨L,els,rfl,_⟩
 ·exact rR
 ·exact qc
def c0.rd{α:Type}{K:hD α}{ok:Nat->Prop}{l:List α}{v:aa}(h:c0 K ok H l v):bh (D v) v=true:=by
 rcases h with⟨rfl,_⟩|⟨L,els,rfl,_⟩
 ·rfl
 ·exact kP _ _ _ _ _
end
abbrev hY(r n:Nat):ad->ad->Prop:=cP λk=>k=r\/n<=k
section
variable {H H':ad}{r:Nat}{T:List Tok}{ao bD bK bG:aa}{s s':av}
def fe.mG{H1:ad}{s0:av}(h:fe H1 r T ao bD bK bG s0)(m:hY r H1.next H1 H')(a:H'.get r=D (ka ao bD bK bG s'))(a0:0<=s'.at_)(aS:s'.at_<T.length)(z:s'.aF=0->s'.cS=0)(ai:s'.bP=0):fe H' r T ao bD bK bG s':=
 ⟨a,h.bA.aX λl ro els e=>m.get e (by
  have:=ad.aR e;rintro(rfl|c)
  ·rw[h.rd]at e;simp only[ka,aU,bO.row.injEq]at e;omega
  ·omega),a0,aS,h.n,z,ai,h.one⟩
def b5.rX{n:Nat}(m:b5 r H H'):hY r n H H':=⟨m.1,λl a aB=>m.2 l a λe=>aB (.inl e)⟩
structure e0(H1 H:ad)(r c n2 esz:Nat)(T:List Tok)(ao bD bK bG:aa)(x:aa)(rest:List aa)(l:List b7)(v:aa)(s:av):Prop where
 cC:fe H r T ao bD bK bG s
 cell:H.get c=some (.row false esz [x::v::rest])
 gl:c0 fF (bf n2) H l v
 m:hY r H1.next H1 H
 bH:r<H1.next
 bX:H1.next<=c
 cj:c<n2
 dq:n2<=H.next
def e0.mut{H1:ad}{c n2 esz:Nat}{x:aa}{rest:List aa}{l:List b7}{v:aa}(h:e0 H1 H r c n2 esz T ao bD bK bG x rest l v s)(m:b5 r H H')(cC:fe H' r T ao bD bK bG s'):e0 H1 H' r c n2 esz T ao bD bK bG x rest l v s':=by
 have bH:=h.bH;have bX:=h.bX;have cj:=h.cj;have dq:=h.dq;exact⟨cC,m.get h.cell af,h.gl.aX (df.mut m λk a=>by unfold bf at a;omega),h.m.trans m.rX,bH,bX,cj,by have:=m.1;omega⟩
def e0.add{H1:ad}{c n2 esz:Nat}{x:aa}{rest:List aa}{l:List b7}{v:aa}(o:fe H1 r T ao bD bK bG s')(h:e0 H1 H r c n2 esz T ao bD bK bG x rest l v s)(u:l.length<=1000000000)(p:b7):
  ∃i H',cQ P (H.push (.row U 4 [p.cells])) [23,23] v (.aA H.next 0 1 4 (D 1))=D (i,H')/\H.next+1<=H'.next/\i.one=X/\H'.get c=D (.row U esz [x::v::rest])/\(H.push (.row U 4 [p.cells])).get c=D (.row U esz [x::v::rest])/\e0 H1 (H'.set c (.row U esz [x::i::rest])) r c n2 esz T ao bD bK bG x rest (l++[p]) i s:=by
 have bH:=h.bH;have bX:=h.bX;have cj:=h.cj;have dq:=h.dq;obtain⟨i,H',a,b,q,d⟩:=h.gl.pm p (by unfold bf;omega) u;have gc:H'.get c=D (.row U esz [x::v::rest]):=by rw[d c af (by unfold bf;omega)];exact h.cell
 have lc:=ad.aR gc;have n:hY r H1.next H1 (H'.set c (.row U esz [x::i::rest])):=h.m.trans ⟨by simp;omega,λk j aB=>by
  have w:k≠r:=λe=>aB (.inl e)
  have y:¬H1.next<=k:=λe=>aB (.inr e)
  rw[ad.get_set_other af,d k j (by unfold bf;omega)]⟩
 refine⟨i,H',a,q,b.one,gc,(aO.push _ _).get h.cell,?_,ad.get_set_same lc,b.aX λk x j g=>⟨j,by unfold bf at j;rw[ad.get_set_other af];exact g⟩,n,bH,bX,cj,by simp;omega⟩;exact o.mG n (by rw[ad.get_set_other af,d r af (by unfold bf;omega)];exact h.cC.rd) h.cC.a0 h.cC.aS h.cC.z h.cC.ai
end
def iC:hD e1:=⟨3,λH ok x cs=>∃v,cs=[Y x.name,v,I J x.pos]/\dH fF H ok x.fields v,λ⟨v,h,k⟩=>by rw[h];exact⟨rfl,by simp only[List.all_cons,List.all_nil,hq,gJ,k.one,Bool.and_self]⟩,λp ⟨v,h,k⟩=>⟨v,h,k.aX p⟩⟩
def hL:hD Fn:=⟨7,λH ok x cs=>∃v w,cs=[Y x.name,v,C x.has,Y x.dF,I J x.rd,w,I J x.pos]/\dH fF H ok x.params v/\c1 H ok x.body w,λ⟨v,w,h,k,q⟩=>by rw[h];exact⟨rfl,by simp only[List.all_cons,List.all_nil,hq,gJ,qm,k.one,q.eb,Bool.and_self]⟩,λp ⟨v,w,h,k,q⟩=>⟨v,w,h,k.aX p,q.aX p.s⟩⟩
def BE:jT 22 65 3:=⟨ah,wk,⟨_,(by kernel_rfl:hf P 65=D 48),cu⟩,⟨_,(by kernel_rfl:eF P 65=D (.agg [Y [],.ar,I J 0])),rfl,rfl⟩,cu⟩
def BD:jT 24 73 7:=⟨ah,wo,⟨_,(by kernel_rfl:hf P 73=D 104),cu⟩,⟨_,(by kernel_rfl:eF P 73=D (.agg [Y [],.ar,C U,Y [],I J 0,.ar,I J 0])),rfl,rfl⟩,cu⟩
section
variable {H H' H1:ad}{r:Nat}{T:List Tok}{ao bD bK bG:aa}{s s':av}
def c0.uU{ok:Nat->Prop}{l:List e1}{v:aa}(h:c0 iC ok H l v)(H':ad):bZ P H' .len [22] [v]=D (I J l.length):=by
 rcases h with⟨rfl,rfl⟩|⟨L,els,rfl,_⟩
 ·exact rQ
 ·exact qb
def c0.uV{ok:Nat->Prop}{l:List Fn}{v:aa}(h:c0 hL ok H l v)(H':ad):bZ P H' .len [24] [v]=D (I J l.length):=by
 rcases h with⟨rfl,rfl⟩|⟨L,els,rfl,_⟩
 ·exact rS
 ·exact qd
def grow{α:Type}{K:hD α}{t e:Nat}(y:jT t e K.esz){i:Nat->Prop}{l:List α}{v:aa}(q:c0 K i H1 l v)(m:hY r H1.next H1 H)(p:∀k,i k->r<k)(G:r<H1.next){a:α}{cs:List aa}{n2:Nat}(he:K.V H (bf n2) a cs)(F:H1.next<=n2)(u:l.length<=1000000000):
  ∃j H',cQ P (H.push (.row U K.esz [cs])) [t,t] v (.aA H.next 0 1 K.esz (D 1))=D (j,H')/\j.one=X/\(∀b,c0 K (λk=>i k\/H1.next<=k) (H'.set r b) (l++[a]) j)/\H.next+1<=H'.next/\H'.get r=H.get r/\
   (∀k x,¬i k->k<H1.next->k≠r->H1.get k=D x->∀b,(H'.set r b).get k=D x)/\∀b,cP (λk=>r<=k) H1 (H'.set r b):=by
 have hm:=m.1;have z:df H1 i H i:=λk x d g=>by
  have:=ad.aR g;have:=p k d;exact⟨d,m.get g af⟩
 have s:=q.aX z;have o:∀L n c,v= .aA L 0 n K.esz c->i L/\L<H1.next:=by
  intro L n c h;rcases q with⟨rfl,_⟩|⟨L',els,rfl,aY,A,_⟩
  ·cases h
  ·cases h;exact⟨aY,ad.aR A⟩
 obtain⟨j,H',aS,a2,a3,a4⟩:=s.app y (ok':=λk=>i k\/H1.next<=k) he (λk x d g=>⟨.inr (by unfold bf at d;omega),λL h=>by have:=(o L _ _ h).2;unfold bf at d;omega⟩) (λk x d _=> .inl d) (.inr af) u;refine⟨j,H',aS,a2.one,λb=>a2.aX λk x d g=>⟨d,?_⟩,a3,a4 r af (λL h=>by have:=p L (o L _ _ h).1;omega),λk x d E w g b=> ?_,λb=>⟨by simp only[ad.dj];omega,λk d aB=> ?_⟩⟩
 ·rw[ad.get_set_other]
  ·exact g
  ·rintro rfl;rcases d with d|d
   ·have:=p _ d;omega
   ·omega
 ·rw[ad.get_set_other (Ne.symm w),a4 k af (λL h e=>d (e▸(o L _ _ h).1))];exact m.get g af
 ·have B:k<r:=by simpa using aB
  rw[ad.get_set_other af,a4 k af (λL h e=>by have:=p L (o L _ _ h).1;omega)];exact m.2 k d af
def wV(H:ad)(r:Nat)(T:List Tok)(ao:aa)(g:dm)(s:av):Prop:=∃bD bK bG,∃h d a:Nat->Prop,fe H r T ao bD bK bG s/\(∀l i n e c,ao= .aA l i n e c->l<r)/\c0 iC h H g.da bD/\c0 fF d H g.globals bK/\c0 hL a H g.funcs bG/\(∀k,h k->r<k/\¬d k/\¬a k)/\(∀k,d k->r<k/\¬a k)/\∀k,a k->r<k
def wV.mut{g:dm}{bD bK bG:aa}{j h d:Nat->Prop}(v:∀l i n e c,ao= .aA l i n e c->l<r)(s:c0 iC j H g.da bD)(u:c0 fF h H g.globals bK)(b3:c0 hL d H g.funcs bG)(o:∀k,j k->r<k/\¬h k/\¬d k)(p:∀k,h k->r<k/\¬d k)(q:∀k,d k->r<k)(m:b5 r H H')(cC:fe H' r T ao bD bK bG s'):wV H' r T ao g s':=
 ⟨bD,bK,bG,j,h,d,cC,v,s.aX (df.mut m λk a=>by have:=(o k a).1;omega),u.aX (df.mut m λk a=>by have:=(p k a).1;omega),b3.aX (df.mut m λk a=>by have:=q k a;omega),o,p,q⟩
end
section
variable {H H' H1:ad}{r:Nat}{T:List Tok}{ao bD bK bG:aa}{s s':av}
end
section
variable {H H' H1:ad}{r:Nat}{T:List Tok}{ao bD bK bG:aa}{s s':av}
def FR(aE:T.length<=20000000):mi T:=λs=>by
 obtain⟨p,q,-,a,-,-⟩:=CU (T:=T) af T.length s (A0 _ _) 0 800000000 800000000 af af af;exact⟨q,a⟩
def e0.rest{c n2 esz:Nat}{x:aa}{rest a:List aa}{l:List b7}{v:aa}{s0:av}(i:fe H1 r T ao bD bK bG s0)(h:e0 H1 H r c n2 esz T ao bD bK bG x rest l v s):e0 H1 (H.set c (.row U esz [x::v::a])) r c n2 esz T ao bD bK bG x a l v s:=by
 have bH:=h.bH;have bX:=h.bX;have cj:=h.cj;have dq:=h.dq;have e:hY r H1.next H1 (H.set c (.row U esz [x::v::a])):=h.m.cv (.inl (.inr bX)) _
 exact⟨i.mG e (by rw[ad.get_set_other af];exact h.cC.rd) h.cC.a0 h.cC.aS h.cC.z h.cC.ai,ad.get_set_same af,h.gl.aX λk x d g=>⟨d,by unfold bf at d;rw[ad.get_set_other af];exact g⟩,e,bH,bX,cj,by simp;omega⟩
end
section
variable {H H' H1:ad}{r:Nat}{T:List Tok}{ao bD bK bG:aa}{s s':av}
end
def Be:∀(n:Nat) (rest:aK) (p:Nat) (l:List Tok),gm n rest p= .inr l->l.length<=rest.length+1
 |0,_,_,_,h=>by simp[gm]at h
 |n+1,[],p,l,h=>by simp[gm]at h;subst h;simp
 |n+1,c::r,p,l,h=>by
  rw[gm]at h;cases d:hp (c::r)with
  |none=>rw[d]at h;simp at h
  |some q=>
   obtain⟨k,t,z,b⟩:=q;obtain⟨j,i⟩:=B3 d;rw[d]at h;simp only at h;cases a:gm n (((c::r).drop b).drop (c2 U ((c::r).drop b))) (p+b+c2 U ((c::r).drop b))with
   |inl e=>rw[a]at h;cases h
   |inr l'=>
    rw[a]at h;cases h;have:=Be n _ _ l' a;simp only[List.length_drop,List.length_cons]at this i ⊢;omega
def wi(s:aK):(dy s).1.length<=s.length+1:=by
 unfold dy;split
 ·simp
 ·cases h:p_ s with
  |inl e=>simp
  |inr l=>
   have:=Be _ _ _ l h;simp only[List.length_drop]at this;simp only
   omega
def Bd:∀(n:Nat) (s:aK) (p:Nat) (l:List Tok),gm n s p= .inr l->∃L q,l=L++[⟨0,[],0,q⟩]
 |0,_,_,_,h=>by cases h
 |n+1,[],p,l,h=>by cases h;exact⟨[],_,rfl⟩
 |n+1,c::r,p,l,h=>by
  rw[gm]at h;split at h
  ·cases h
  ·rename_i k t v m d;split at h
   ·cases h
   ·rename_i l' a;cases h;obtain⟨L,q,rfl⟩:=Bd n _ _ _ a;exact⟨⟨k,t,v,p⟩::L,q,rfl⟩
def qZ{s:aK}(h:(dy s).2.1=0):pA (dy s).1/\1<=(dy s).1.length:=by
 have d:=wi s;have i:= @D0 s;have n:s.length<=6000:=by
  unfold dy at h;split at h
  ·simp at h
  ·omega
 obtain⟨L,q,e⟩:∃L q,(dy s).1=L++[⟨0,[],0,q⟩]:=by
  unfold dy at h ⊢;rw[if_neg af]at h ⊢;cases j:p_ s with
  |inl e=>rw[j]at h;simp at h
  |inr l=>exact Bd _ _ _ _ j
 rw[e]at d i ⊢;simp only[List.length_append,List.length_cons,List.length_nil]at d ⊢;refine⟨⟨by simp;omega,by simp;omega,λa c=> ?_,i⟩,af⟩;have m:=wh c;simp only[List.length_append,List.length_cons,List.length_nil]at m ⊢;by_cases o:a<L.length
 ·omega
 ·exfalso;have k:a.toNat=L.length:=af;apply c;unfold au;rw[if_neg (by simp;omega),k,List.getElem?_append_right (bj _),Nat.sub_self];rfl
section
variable {H H' H1:ad}{r:Nat}{T:List Tok}{ao bD bK bG:aa}{s s':av}
end
section
variable {T:List Tok}{s:av}
structure jo(T:List Tok)(s:av):Prop where
 f:s.aF=0
 a:0<=s.at_
 b:s.at_<T.length
 ai:s.bP=0
 z:s.cS=0
def jo.in(g:jo T s):In ((T.length:Int)-1) s:=⟨g.a,by have:=g.b;omega,by rw[g.ai];omega,by rw[g.ai];omega⟩
def jo.rC{s':av}{k:Int}(g:jo T s)(h:bR ((T.length:Int)-1) s s' k)(d:0<=k)(c:s'.cS=s.cS):jo T s':=⟨h.iy,by have:=h.a;have:=g.a;omega,by have:=h.b;omega,by rw[h.ai];exact g.ai,by rw[c];exact g.z⟩
def jo.take(aE:pA T)(g:jo T s){x:aK}(e:(bl T x s).aF=0):jo T (bl T x s)/\s.at_+1<=(bl T x s).at_:=by
 obtain⟨h,d,c⟩:=eB aE.g (λ_=>g.in) e;exact⟨g.rC c af (by rw[d];rfl),c.a⟩
def jo.go(aE:pA T)(g:jo T s)(d:(au T s.at_).kind≠0):jo T (aD s)/\s.at_+1<=(aD s).at_:=by
 obtain⟨e,c⟩:=go_ok aE.g g.in g.f d;exact⟨g.rC c af rfl,c.a⟩
end
section
variable {T:List Tok}{s:av}
end
section
variable {T:List Tok}{s t:av}
end
section
variable {T:List Tok}{s t:av}
