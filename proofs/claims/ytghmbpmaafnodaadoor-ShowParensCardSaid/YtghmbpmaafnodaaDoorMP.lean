/-
  Texts of one proof, laid together: T4 T5 U6 U7 Qb Qc Qd Qe Qf Qg Qh Lz Qi Ra Rb Rc Rd.
-/
import Derived.Test.YtghmbpmaafnodaaDoorMO
set_option linter.unusedVariables false
set_option linter.unusedSimpArgs false
set_option linter.defProp false
open Option renaming some→D
open Bool renaming true→X,false→U
open Go.b9.aa renaming int→I,str→Y,bool→C
open Go.IntKind renaming i64→J
namespace Go.Proofs.YtghmbpmaafnodaaDoor
open Go.b9
def E5(T:List Tok)(s x y:aw):Prop:=e1 x y/\(x.aF=0->x.bP=s.bP/\x.cS=s.cS/\left T x<=left T s)
def wD{α:Type}(T:List Tok)(s:aw)(x y:α×aw):Prop:=ee x y/\(x.2.aF=0->x.2.bP=s.bP/\x.2.cS=s.cS/\left T x.2<=left T s)
def ee.eq{α:Type}{p q:α×aw}(h:ee p q)(a:p.2.aF=0):q=p:=by
 rcases h with h|h
 ·exact h.2
 ·exact absurd a h.1
def ee.Mj{α:Type}{p q:α×aw}(h:ee p q):e1 p.2 q.2:=by
 rcases h with⟨h,rfl⟩|⟨a,c,d⟩
 ·exact .inl ⟨h,rfl⟩
 ·exact .inr ⟨a,c,d⟩
def wD.st{α:Type}{T:List Tok}{s:aw}{x y:α×aw}(h:wD T s x y):E5 T s x.2 y.2:=⟨h.1.Mj,h.2⟩
def e1.eq{x y:aw}(h:e1 x y)(a:x.aF=0):y=x:=by
 rcases h with h|h
 ·exact h.2
 ·exact absurd a h.1
section
variable {T:List Tok}(aE:T.length<=20000000)
include aE
end
section
set_option linter.unusedSectionVars false
section
variable {T:List Tok}(aE:T.length<=20000000)
include aE
end
end
structure pB(T:List Tok):Prop where
 n:T.length<=20000000
 g:Good T ((T.length:Int)-1)
def kc(ao bD bL bG:aa)(s:aw):bO:= .row U 7 [[ao,I J s.at_,bD,bL,bG,I J s.aF,I J s.cS]]
structure fe(H:ae)(r:Nat)(T:List Tok)(ao bD bL bG:aa)(s:aw):Prop where
 rd:H.get r=some (kc ao bD bL bG s)
 bx:eS H ao T
 a0:0<=s.at_
 aR:s.at_<T.length
 n:T.length<=20000000
 z:s.aF=0->s.cS=0
 ai:s.bP=0
 one:bD.one=true/\bL.one=true/\bG.one=true
section
variable {H H':ae}{r:Nat}{T:List Tok}{ao bD bL bG:aa}{s s':aw}
def fe.lt(h:fe H r T ao bD bL bG s):r<H.next:=ae.aS h.rd
def fe.aM(h:fe H r T ao bD bL bG s)(p:aO H H'):fe H' r T ao bD bL bG s:=⟨p.get h.rd,h.bx.aM p,h.a0,h.aR,h.n,h.z,h.ai,h.one⟩
def fe.D2(h:fe H r T ao bD bL bG s)(m:b5 r H H'):eS H' ao T:=h.bx.aX λl ro els e=>m.get e (by
 rintro rfl;rw[h.rd]at e;simp only[kc,aU,bO.row.injEq]at e;omega)
def fe.set(h:fe H r T ao bD bL bG s)(s':aw)(a0:0<=s'.at_)(aR:s'.at_<T.length)(z:s'.aF=0->s'.cS=0)(ai:s'.bP=0):b5 r H (H.set r (kc ao bD bL bG s'))/\fe (H.set r (kc ao bD bL bG s')) r T ao bD bL bG s':=by
 have m:b5 r H (H.set r (kc ao bD bL bG s')):=cP.cw (S:=(· =r)) (cP.refl _ _) (.inl rfl) _;exact⟨m,ae.get_set_same h.lt,h.D2 m,a0,aR,h.n,z,ai,h.one⟩
def fe.fin(h:fe H r T ao bD bL bG s)(m:b5 r H H')(a:H'.get r=D (kc ao bD bL bG s'))(a0:0<=s'.at_)(aR:s'.at_<T.length)(z:s'.aF=0->s'.cS=0)(ai:s'.bP=0):fe H' r T ao bD bL bG s':=⟨a,h.D2 m,a0,aR,h.n,z,ai,h.one⟩
def pB.next(aE:pB T)(h:(au T s.at_).kind≠0):s.at_+1<T.length:=by have:=aE.g.lt _ h;omega
def eS.rd(h:eS H ao T):bj (D ao) ao=true:=by
 rcases h with⟨rfl,_⟩|⟨l,i,cap,rfl,_⟩
 ·rfl
 ·exact kS _ _ _ _ _
end
def b7.cells(p:b7):List aa:=[Y p.name,Y p.cf,I J p.c4,I J p.pos]
def fE:hC b7:=⟨4,λ_ _ p cs=>cs=p.cells,λh=>by rw[h];exact⟨rfl,rfl⟩,λ_ h=>h⟩
def qi:jV 23 68 4:=⟨ah,wj,⟨_,(by kernel_rfl:hf P 68=D 48),cp⟩,⟨_,(by kernel_rfl:eE P 68=D (.agg [Y [],Y [],I J 0,I J 0])),rfl,rfl⟩,cp⟩
section
variable {H H':ae}{r:Nat}{T:List Tok}{ao bD bL bG:aa}{s s':aw}
def c0.pm{ok:Nat->Prop}{l:List b7}{v:aa}(h:c0 fE ok H l v)(p:b7)(q:ok (H.next+1))(o:l.length<=1000000000):
  ∃e H',cQ P (H.push (.row U 4 [p.cells])) [23,23] v (.aA H.next 0 1 4 (D 1))=D (e,H')/\c0 fE ok H' (l++[p]) e/\H.next+1<=H'.next/\(∀k,k<H.next->¬ok k->H'.get k=H.get k):=by
 obtain⟨e,H',a,b,c,d⟩:=c0.app (K:=fE) (ok':=ok) qi h (okE:=λ_=>False) (a:=p) (cs:=p.cells) rfl (λ_ _ i=>i.elim) (λ_ _ i _=>i) q o;refine⟨e,H',a,b,c,λk n s=>d k n ?_⟩;rintro L j rfl;rcases h with⟨rfl,_⟩|⟨L',els,rfl,m,_⟩
 ·cases j
 ·cases j;exact s m
def c0.mI{ok:Nat->Prop}{l:List b7}{v:aa}(h:c0 fE ok H l v)(H':ae):b2 P H' .len [23] [v]=D (I J l.length):=by
 rcases h with⟨rfl,rfl⟩|⟨L,els,rfl,_⟩
 ·exact rP
 ·exact qe
def c0.rd{α:Type}{K:hC α}{ok:Nat->Prop}{l:List α}{v:aa}(h:c0 K ok H l v):bj (D v) v=true:=by
 rcases h with⟨rfl,_⟩|⟨L,els,rfl,_⟩
 ·rfl
 ·exact kS _ _ _ _ _
end
abbrev hX(r n:Nat):ae->ae->Prop:=cP λk=>k=r\/n<=k
section
variable {H H':ae}{r:Nat}{T:List Tok}{ao bD bL bG:aa}{s s':aw}
def fe.mC{H1:ae}{s0:aw}(h:fe H1 r T ao bD bL bG s0)(m:hX r H1.next H1 H')(a:H'.get r=D (kc ao bD bL bG s'))(a0:0<=s'.at_)(aR:s'.at_<T.length)(z:s'.aF=0->s'.cS=0)(ai:s'.bP=0):fe H' r T ao bD bL bG s':=
 ⟨a,h.bx.aX λl ro els e=>m.get e (by
  have:=ae.aS e;rintro(rfl|c)
  ·rw[h.rd]at e;simp only[kc,aU,bO.row.injEq]at e;omega
  ·omega),a0,aR,h.n,z,ai,h.one⟩
def b5.rV{n:Nat}(m:b5 r H H'):hX r n H H':=⟨m.1,λl a aB=>m.2 l a λe=>aB (.inl e)⟩
structure eR(H1 H:ae)(r c n2 esz:Nat)(T:List Tok)(ao bD bL bG:aa)(x:aa)(rest:List aa)(l:List b7)(v:aa)(s:aw):Prop where
 cC:fe H r T ao bD bL bG s
 cell:H.get c=some (.row false esz [x::v::rest])
 gj:c0 fE (bg n2) H l v
 m:hX r H1.next H1 H
 bH:r<H1.next
 bX:H1.next<=c
 ck:c<n2
 dr:n2<=H.next
def eR.mut{H1:ae}{c n2 esz:Nat}{x:aa}{rest:List aa}{l:List b7}{v:aa}(h:eR H1 H r c n2 esz T ao bD bL bG x rest l v s)(m:b5 r H H')(cC:fe H' r T ao bD bL bG s'):eR H1 H' r c n2 esz T ao bD bL bG x rest l v s':=by
 have bH:=h.bH;have bX:=h.bX;have ck:=h.ck;have dr:=h.dr;exact⟨cC,m.get h.cell af,h.gj.aX (df.mut m λk a=>by unfold bg at a;omega),h.m.trans m.rV,bH,bX,ck,by have:=m.1;omega⟩
def eR.add{H1:ae}{c n2 esz:Nat}{x:aa}{rest:List aa}{l:List b7}{v:aa}(o:fe H1 r T ao bD bL bG s')(h:eR H1 H r c n2 esz T ao bD bL bG x rest l v s)(u:l.length<=1000000000)(p:b7):
  ∃i H',cQ P (H.push (.row U 4 [p.cells])) [23,23] v (.aA H.next 0 1 4 (D 1))=D (i,H')/\H.next+1<=H'.next/\i.one=X/\H'.get c=D (.row U esz [x::v::rest])/\(H.push (.row U 4 [p.cells])).get c=D (.row U esz [x::v::rest])/\eR H1 (H'.set c (.row U esz [x::i::rest])) r c n2 esz T ao bD bL bG x rest (l++[p]) i s:=by
 have bH:=h.bH;have bX:=h.bX;have ck:=h.ck;have dr:=h.dr;obtain⟨i,H',a,b,q,d⟩:=h.gj.pm p (by unfold bg;omega) u;have gc:H'.get c=D (.row U esz [x::v::rest]):=by rw[d c af (by unfold bg;omega)];exact h.cell
 have lc:=ae.aS gc;have n:hX r H1.next H1 (H'.set c (.row U esz [x::i::rest])):=h.m.trans ⟨by simp;omega,λk j aB=>by
  have w:k≠r:=λe=>aB (.inl e)
  have y:¬H1.next<=k:=λe=>aB (.inr e)
  rw[ae.get_set_other af,d k j (by unfold bg;omega)]⟩
 refine⟨i,H',a,q,b.one,gc,(aO.push _ _).get h.cell,?_,ae.get_set_same lc,b.aX λk x j g=>⟨j,by unfold bg at j;rw[ae.get_set_other af];exact g⟩,n,bH,bX,ck,by simp;omega⟩;exact o.mC n (by rw[ae.get_set_other af,d r af (by unfold bg;omega)];exact h.cC.rd) h.cC.a0 h.cC.aR h.cC.z h.cC.ai
end
def iC:hC e0:=⟨3,λH ok x cs=>∃v,cs=[Y x.name,v,I J x.pos]/\dH fE H ok x.fields v,λ⟨v,h,k⟩=>by rw[h];exact⟨rfl,by simp only[List.all_cons,List.all_nil,hq,gH,k.one,Bool.and_self]⟩,λp ⟨v,h,k⟩=>⟨v,h,k.aX p⟩⟩
def hK:hC Fn:=⟨7,λH ok x cs=>∃v w,cs=[Y x.name,v,C x.has,Y x.dF,I J x.rd,w,I J x.pos]/\dH fE H ok x.params v/\c1 H ok x.body w,λ⟨v,w,h,k,q⟩=>by rw[h];exact⟨rfl,by simp only[List.all_cons,List.all_nil,hq,gH,qn,k.one,q.eb,Bool.and_self]⟩,λp ⟨v,w,h,k,q⟩=>⟨v,w,h,k.aX p,q.aX p.s⟩⟩
def BG:jV 22 65 3:=⟨ah,wi,⟨_,(by kernel_rfl:hf P 65=D 48),cp⟩,⟨_,(by kernel_rfl:eE P 65=D (.agg [Y [],.ar,I J 0])),rfl,rfl⟩,cp⟩
def BF:jV 24 73 7:=⟨ah,wk,⟨_,(by kernel_rfl:hf P 73=D 104),cp⟩,⟨_,(by kernel_rfl:eE P 73=D (.agg [Y [],.ar,C U,Y [],I J 0,.ar,I J 0])),rfl,rfl⟩,cp⟩
section
variable {H H' H1:ae}{r:Nat}{T:List Tok}{ao bD bL bG:aa}{s s':aw}
def c0.uQ{ok:Nat->Prop}{l:List e0}{v:aa}(h:c0 iC ok H l v)(H':ae):b2 P H' .len [22] [v]=D (I J l.length):=by
 rcases h with⟨rfl,rfl⟩|⟨L,els,rfl,_⟩
 ·exact rO
 ·exact qd
def c0.uR{ok:Nat->Prop}{l:List Fn}{v:aa}(h:c0 hK ok H l v)(H':ae):b2 P H' .len [24] [v]=D (I J l.length):=by
 rcases h with⟨rfl,rfl⟩|⟨L,els,rfl,_⟩
 ·exact rQ
 ·exact qf
def grow{α:Type}{K:hC α}{t e:Nat}(y:jV t e K.esz){i:Nat->Prop}{l:List α}{v:aa}(q:c0 K i H1 l v)(m:hX r H1.next H1 H)(p:∀k,i k->r<k)(G:r<H1.next){a:α}{cs:List aa}{n2:Nat}(he:K.V H (bg n2) a cs)(F:H1.next<=n2)(u:l.length<=1000000000):
  ∃j H',cQ P (H.push (.row U K.esz [cs])) [t,t] v (.aA H.next 0 1 K.esz (D 1))=D (j,H')/\j.one=X/\(∀b,c0 K (λk=>i k\/H1.next<=k) (H'.set r b) (l++[a]) j)/\H.next+1<=H'.next/\H'.get r=H.get r/\
   (∀k x,¬i k->k<H1.next->k≠r->H1.get k=D x->∀b,(H'.set r b).get k=D x)/\∀b,cP (λk=>r<=k) H1 (H'.set r b):=by
 have hm:=m.1;have z:df H1 i H i:=λk x d g=>by
  have:=ae.aS g;have:=p k d;exact⟨d,m.get g af⟩
 have s:=q.aX z;have o:∀L n c,v= .aA L 0 n K.esz c->i L/\L<H1.next:=by
  intro L n c h;rcases q with⟨rfl,_⟩|⟨L',els,rfl,aZ,A,_⟩
  ·cases h
  ·cases h;exact⟨aZ,ae.aS A⟩
 obtain⟨j,H',aR,a2,a3,a4⟩:=s.app y (ok':=λk=>i k\/H1.next<=k) he (λk x d g=>⟨.inr (by unfold bg at d;omega),λL h=>by have:=(o L _ _ h).2;unfold bg at d;omega⟩) (λk x d _=> .inl d) (.inr af) u;refine⟨j,H',aR,a2.one,λb=>a2.aX λk x d g=>⟨d,?_⟩,a3,a4 r af (λL h=>by have:=p L (o L _ _ h).1;omega),λk x d E w g b=> ?_,λb=>⟨by simp only[ae.dj];omega,λk d aB=> ?_⟩⟩
 ·rw[ae.get_set_other]
  ·exact g
  ·rintro rfl;rcases d with d|d
   ·have:=p _ d;omega
   ·omega
 ·rw[ae.get_set_other (Ne.symm w),a4 k af (λL h e=>d (e▸(o L _ _ h).1))];exact m.get g af
 ·have B:k<r:=by simpa using aB
  rw[ae.get_set_other af,a4 k af (λL h e=>by have:=p L (o L _ _ h).1;omega)];exact m.2 k d af
def wX(H:ae)(r:Nat)(T:List Tok)(ao:aa)(g:dm)(s:aw):Prop:=∃bD bL bG,∃h d a:Nat->Prop,fe H r T ao bD bL bG s/\(∀l i n e c,ao= .aA l i n e c->l<r)/\c0 iC h H g.da bD/\c0 fE d H g.globals bL/\c0 hK a H g.funcs bG/\(∀k,h k->r<k/\¬d k/\¬a k)/\(∀k,d k->r<k/\¬a k)/\∀k,a k->r<k
def wX.mut{g:dm}{bD bL bG:aa}{j h d:Nat->Prop}(v:∀l i n e c,ao= .aA l i n e c->l<r)(s:c0 iC j H g.da bD)(u:c0 fE h H g.globals bL)(b3:c0 hK d H g.funcs bG)(o:∀k,j k->r<k/\¬h k/\¬d k)(p:∀k,h k->r<k/\¬d k)(q:∀k,d k->r<k)(m:b5 r H H')(cC:fe H' r T ao bD bL bG s'):wX H' r T ao g s':=
 ⟨bD,bL,bG,j,h,d,cC,v,s.aX (df.mut m λk a=>by have:=(o k a).1;omega),u.aX (df.mut m λk a=>by have:=(p k a).1;omega),b3.aX (df.mut m λk a=>by have:=q k a;omega),o,p,q⟩
end
section
variable {H H' H1:ae}{r:Nat}{T:List Tok}{ao bD bL bG:aa}{s s':aw}
end
section
variable {H H' H1:ae}{r:Nat}{T:List Tok}{ao bD bL bG:aa}{s s':aw}
def FR(aE:T.length<=20000000):mg T:=λs=>by
 obtain⟨p,q,-,a,-,-⟩:=CZ (T:=T) af T.length s (A2 _ _) 0 800000000 800000000 af af af;exact⟨q,a⟩
def eR.rest{c n2 esz:Nat}{x:aa}{rest a:List aa}{l:List b7}{v:aa}{s0:aw}(i:fe H1 r T ao bD bL bG s0)(h:eR H1 H r c n2 esz T ao bD bL bG x rest l v s):eR H1 (H.set c (.row U esz [x::v::a])) r c n2 esz T ao bD bL bG x a l v s:=by
 have bH:=h.bH;have bX:=h.bX;have ck:=h.ck;have dr:=h.dr;have e:hX r H1.next H1 (H.set c (.row U esz [x::v::a])):=h.m.cw (.inl (.inr bX)) _
 exact⟨i.mC e (by rw[ae.get_set_other af];exact h.cC.rd) h.cC.a0 h.cC.aR h.cC.z h.cC.ai,ae.get_set_same af,h.gj.aX λk x d g=>⟨d,by unfold bg at d;rw[ae.get_set_other af];exact g⟩,e,bH,bX,ck,by simp;omega⟩
end
section
variable {H H' H1:ae}{r:Nat}{T:List Tok}{ao bD bL bG:aa}{s s':aw}
end
def Bg:∀(n:Nat) (rest:aJ) (p:Nat) (l:List Tok),gk n rest p= .inr l->l.length<=rest.length+1
 |0,_,_,_,h=>by simp[gk]at h
 |n+1,[],p,l,h=>by simp[gk]at h;subst h;simp
 |n+1,c::r,p,l,h=>by
  rw[gk]at h;cases d:hp (c::r)with
  |none=>rw[d]at h;simp at h
  |some q=>
   obtain⟨k,t,z,b⟩:=q;obtain⟨j,i⟩:=B5 d;rw[d]at h;simp only at h;cases a:gk n (((c::r).drop b).drop (c2 U ((c::r).drop b))) (p+b+c2 U ((c::r).drop b))with
   |inl e=>rw[a]at h;cases h
   |inr l'=>
    rw[a]at h;cases h;have:=Bg n _ _ l' a;simp only[List.length_drop,List.length_cons]at this i ⊢;omega
def we(s:aJ):(dx s).1.length<=s.length+1:=by
 unfold dx;split
 ·simp
 ·cases h:qb s with
  |inl e=>simp
  |inr l=>
   have:=Bg _ _ _ l h;simp only[List.length_drop]at this;simp only
   omega
def Bf:∀(n:Nat) (s:aJ) (p:Nat) (l:List Tok),gk n s p= .inr l->∃L q,l=L++[⟨0,[],0,q⟩]
 |0,_,_,_,h=>by cases h
 |n+1,[],p,l,h=>by cases h;exact⟨[],_,rfl⟩
 |n+1,c::r,p,l,h=>by
  rw[gk]at h;split at h
  ·cases h
  ·rename_i k t v m d;split at h
   ·cases h
   ·rename_i l' a;cases h;obtain⟨L,q,rfl⟩:=Bf n _ _ _ a;exact⟨⟨k,t,v,p⟩::L,q,rfl⟩
def wh{s:aJ}(h:(dx s).2.1=0):pB (dx s).1/\1<=(dx s).1.length:=by
 have d:=we s;have i:= @D6 s;have n:s.length<=6000:=by
  unfold dx at h;split at h
  ·simp at h
  ·omega
 obtain⟨L,q,e⟩:∃L q,(dx s).1=L++[⟨0,[],0,q⟩]:=by
  unfold dx at h ⊢;rw[if_neg af]at h ⊢;cases j:qb s with
  |inl e=>rw[j]at h;simp at h
  |inr l=>exact Bf _ _ _ _ j
 rw[e]at d i ⊢;simp only[List.length_append,List.length_cons,List.length_nil]at d ⊢;refine⟨⟨by simp;omega,by simp;omega,λa c=> ?_,i⟩,af⟩;have m:=wc c;simp only[List.length_append,List.length_cons,List.length_nil]at m ⊢;by_cases o:a<L.length
 ·omega
 ·exfalso;have k:a.toNat=L.length:=af;apply c;unfold au;rw[if_neg (by simp;omega),k,List.getElem?_append_right (bk _),Nat.sub_self];rfl
section
variable {H H' H1:ae}{r:Nat}{T:List Tok}{ao bD bL bG:aa}{s s':aw}
end
section
variable {T:List Tok}{s:aw}
structure jr(T:List Tok)(s:aw):Prop where
 f:s.aF=0
 a:0<=s.at_
 b:s.at_<T.length
 ai:s.bP=0
 z:s.cS=0
def jr.in(g:jr T s):In ((T.length:Int)-1) s:=⟨g.a,by have:=g.b;omega,by rw[g.ai];omega,by rw[g.ai];omega⟩
def jr.rA{s':aw}{k:Int}(g:jr T s)(h:bR ((T.length:Int)-1) s s' k)(d:0<=k)(c:s'.cS=s.cS):jr T s':=⟨h.iy,by have:=h.a;have:=g.a;omega,by have:=h.b;omega,by rw[h.ai];exact g.ai,by rw[c];exact g.z⟩
def jr.take(aE:pB T)(g:jr T s){x:aJ}(e:(bl T x s).aF=0):jr T (bl T x s)/\s.at_+1<=(bl T x s).at_:=by
 obtain⟨h,d,c⟩:=eB aE.g (λ_=>g.in) e;exact⟨g.rA c af (by rw[d];rfl),c.a⟩
def jr.go(aE:pB T)(g:jr T s)(d:(au T s.at_).kind≠0):jr T (aD s)/\s.at_+1<=(aD s).at_:=by
 obtain⟨e,c⟩:=go_ok aE.g g.in g.f d;exact⟨g.rA c af rfl,c.a⟩
end
section
variable {T:List Tok}{s:aw}
end
section
variable {T:List Tok}{s t:aw}
end
section
variable {T:List Tok}{s t:aw}
