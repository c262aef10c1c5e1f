/-
  Texts of one proof, laid together: Hv15 Hv16 Hv18.
-/
import Derived.Test.YtmhhnnklfcbgfaaGreatMC
set_option linter.unusedVariables false
set_option linter.unusedSimpArgs false
set_option linter.defProp false
open Option renaming some→D,none→I
open Bool renaming true→C,false→Z
namespace Go.bz
def sn(ops:Array Oper)(ms:List Nat)(i j:Nat):Bool:=
 match ops[i]?,ops[j]? with
 |some o,D q=>(i != j)&&(!ca ms j i)&&(ca ms i j||o.apart ops q)
 |_,_=>Z
def wg(ops:Array Oper)(ms:List Nat):List Nat->Bool
 |[]=>C
 |i::is=>is.all (sn ops ms i)&&wg ops ms is
def JO{ops:Array Oper}{ms:List Nat}:∀{is:List Nat},wg ops ms is=C->is.Pairwise λi j=>sn ops ms i j=C
 |[],_=> .nil
 |i::is,h=>by
  simp only[wg,Bool.and_eq_true,List.all_eq_true]at h;exact .cons h.1 (JO h.2)
def Gr(n:Nat)(o:Oper):Bool:=o.after.toList.all λe=> !Region.binds .any e||decide (e.on<n)
def o2(ops:Array Oper)(ms ord:List Nat):Bool:=(List.range ops.size).all (λi=>ord.contains i)&&(ord.all (λi=> !ca ms i i)&&(ops.toList.all (Gr ops.size)&&wg ops ms ord))
def jh(ms:List Nat):List bA->List Nat->Bool
 |[],_=>C
 |t::ts,ids=>match t.k with
  | .cN _ _=>ids.all (λj=>ca ms j t.i)&&jh ms ts (t.i::ids)
  | .new _ _=>jh ms ts (t.i::ids)
  |_=>jh ms ts ids
def vg{ms:List Nat}:∀{A:List bA} {t:bA} {B:List bA} {ids:List Nat} {v:ae} {H:ad},jh ms (A++t::B) ids=C->t.k= .cN v H->
  (∀j∈ids,ca ms j t.i=C)/\∀u∈A,u.k.eQ=C->ca ms u.i t.i=C
 |[],t,B,ids,v,H,h,a1=>by
  simp only[List.nil_append,jh,a1,Bool.and_eq_true,List.all_eq_true]at h;exact⟨h.1,λu hu=>by simp at hu⟩
 |c::A,t,B,ids,v,H,h,a1=>by
  simp only[List.cons_append,jh]at h;split at h
  ·simp only[Bool.and_eq_true]at h;obtain⟨af,ah⟩:=vg h.2 a1;refine⟨λj d=>af j (by simp[d]),λu hu a=> ?_⟩;rcases List.mem_cons.1 hu with rfl|hu
   ·exact af _ (by simp)
   ·exact ah u hu a
  ·obtain⟨af,ah⟩:=vg h a1;refine⟨λj d=>af j (by simp[d]),λu hu a=> ?_⟩;rcases List.mem_cons.1 hu with rfl|hu
   ·exact af _ (by simp)
   ·exact ah u hu a
  ·rename_i f g;obtain⟨af,ah⟩:=vg h a1;refine⟨af,λu hu a=> ?_⟩;rcases List.mem_cons.1 hu with rfl|hu
   ·exfalso;cases e:u.k with
    |new v b=>exact g v b e
    |cN v H=>exact f v H e
    |_=>rw[e]at a;cases a
   ·exact ah u hu a
def fS(ms:List Nat)(rd:ad->Bool)(i:Nat):List bA->ad->Bool
 |[],H=>rd H
 |t::ts,H=>if t.k.eQ then(ca ms t.i i||rd H)&&(ca ms i t.i||fS ms rd i ts (t.k.heap H))else fS ms rd i ts H
def vs{k:K}(h:k.eQ=Z)(H:ad):k.heap H=H:=by
 cases k<;>first|rfl|cases h
def Ei{ms:List Nat}{rd:ad->Bool}{i:Nat}:∀{A B:List bA} {H:ad},fS ms rd i (A++B) H=C->(∀u∈A,u.k.eQ=C->ca ms i u.i=Z)->
  (∀u d,B=u::d->u.k.eQ=C/\ca ms u.i i=Z)->rd (cz A H)=C
 |[],[],H,h,_,_=>h
 |[],u::B,H,h,_,a=>by
  obtain⟨af,ah⟩:=a u B rfl;simp only[List.nil_append,fS,af,if_true,Bool.and_eq_true,Bool.or_eq_true,ah]at h;simpa [cz]using h.1
 |t::A,B,H,h,b,a=>by
  simp only[List.cons_append,fS]at h;split at h
  ·rename_i c;simp only[Bool.and_eq_true,Bool.or_eq_true,b t (by simp) c]at h;rw[cz];exact Ei (h.2.resolve_left (by simp)) (λu hu=>b u (by simp[hu])) a
  ·rename_i c;rw[cz,vs (by simpa using c)];exact Ei h (λu hu=>b u (by simp[hu])) a
def kb(P:Program)(o:Op)(R:ba)(v:ae)(H:ad):Bool:=
 match g_ P o R H with
 |some u=>ae.beq u v
 |none=>Z
def J8{P:Program}{o:Op}{R:ba}{v:ae}{H:ad}(h:kb P o R v H=C):g_ P o R H=D v:=by
 unfold kb at h;split at h
 ·rename_i u hu;rw[hu,ae.beq_eq h]
 ·cases h
def ad.only(H:ad):ad:=match H.get (H.next-1)with
 |some b=>⟨bu.put b H.next .leaf (H.next-1),H.next⟩
 |none=>⟨.leaf,H.next⟩
def ad.qt{H:ad}{b:bn}{l:Nat}{x:bn}(h:(H.push b).only.get l=D x):l=H.next/\x=b:=by
 have e:(H.push b).get ((H.push b).next-1)=D b:=ad.a_ H b;unfold ad.only at h;rw[e]at h;simp only[ad.get,ad.dm,Nat.add_sub_cancel]at h;split at h
 ·by_cases al:H.next=l
  ·subst al;rw[bu.rW _ _ _ _ aa]at h;exact⟨rfl,by simpa using h.symm⟩
  ·rw[bu.qf _ _ _ _ _ al]at h;rw[bu.qd]at h;cases h
 ·cases h
def jJ(k:K):Bool:=match k with
 | .cN _ _=>Z
 |_=>C
def nw(ms:List Nat)(i:Nat):List bA->Bool->Bool
 |[],_=>Z
 |t::ts,s=>match t.k with
  | .new _ _=>(s&&ca ms t.i i&&ts.all λu=>jJ u.k)||nw ms i ts (s|| !ca ms t.i i)
  | .cN _ _=>nw ms i ts (s|| !ca ms t.i i)
  |_=>nw ms i ts s
def lB(ms:List Nat)(rd:ad->Bool)(i:Nat):List bA->ad->Bool->Bool
 |[],_,_=>Z
 |t::ts,H,s=>match t.k with
  | .new _ b=>bif s&&ca ms t.i i&&ts.all (λu=>jJ u.k)then rd (H.push b).only||lB ms rd i ts (H.push b) (s|| !ca ms t.i i)else lB ms rd i ts (H.push b) (s|| !ca ms t.i i)
  | .cN _ H'=>lB ms rd i ts H' (s|| !ca ms t.i i)
  |_=>lB ms rd i ts H s
def Jb{ms:List Nat}{rd:ad->Bool}{i:Nat}:∀{T:List bA} {H:ad} {s:Bool},lB ms rd i T H s=C->
  ∃A u B v b,T=A++u::B/\u.k= .new v b/\ca ms u.i i=C/\(∀x∈B,jJ x.k=C)/\rd ((cz A H).push b).only=C
 |[],H,s,h=>by cases h
 |t::ts,H,s,h=>by
  have c:∀{H':ad} {f:Bool},t.k.heap H=H'->lB ms rd i ts H' f=C->∃A u B v b,t::ts=A++u::B/\u.k= .new v b/\ca ms u.i i=C/\(∀x∈B,jJ x.k=C)/\rd ((cz A H).push b).only=true:=by
   intro H' f e bY;obtain⟨A,u,B,v,b,g,j,l,m,n⟩:=Jb bY;exact⟨t::A,u,B,v,b,by rw[g];rfl,j,l,m,by rw[cz,e];exact n⟩
  unfold lB at h;split at h
  ·rename_i v b a;have d:t.k.heap H=H.push b:=by rw[a];rfl
   cases aq:(s&&ca ms t.i i&&ts.all λu=>jJ u.k)with
   |true=>
    rw[aq,gP,Bool.or_eq_true]at h;simp only[Bool.and_eq_true,List.all_eq_true]at aq;rcases h with h|h
    ·exact⟨[],t,ts,v,b,rfl,a,aq.1.2,aq.2,h⟩
    ·exact c d h
   |false=>rw[aq,jY]at h;exact c d h
  ·rename_i v H' a;exact c (by rw[a];rfl) h
  ·rename_i af ah;refine c (vs ?_ H) h;cases a:t.k with
   |new v b=>exact absurd a (af v b)
   |cN v H'=>exact absurd a (ah v H')
   |_=>rfl
def po(ms:List Nat)(rd:ad->Bool)(i:Nat)(T:List bA)(H:ad):Bool:=bif nw ms i T Z then fS ms rd i T H||lB ms rd i T H Z else fS ms rd i T H
def ZH{ms:List Nat}{rd:ad->Bool}{i:Nat}{T:List bA}{H:ad}(h:po ms rd i T H=C):fS ms rd i T H=C\/lB ms rd i T H Z=true:=by
 unfold po at h;cases aq:nw ms i T Z with
 |true=>rw[aq,gP,Bool.or_eq_true]at h;exact h
 |false=>rw[aq,jY]at h;exact .inl h
def kS(P:Program)(ms:List Nat)(cE:Nat->Bool)(T:List bA)(H:ad):List bA->Bool
 |[]=>C
 |t::ts=>(match t.k with
  | .read v=>cE t.i||po ms (kb P t.o.op t.R v) t.i T H
  |_=>C)&&kS P ms cE T H ts
def MS{P:Program}{ms:List Nat}{cE:Nat->Bool}{T:List bA}{H:ad}{t:bA}{v:ae}(a1:t.k= .read v):∀{ts:List bA},kS P ms cE T H ts=C->t∈ts->cE t.i=C\/po ms (kb P t.o.op t.R v) t.i T H=C
 |[],_,hm=>by simp at hm
 |u::ts,h,hm=>by
  simp only[kS,Bool.and_eq_true]at h;rcases List.mem_cons.1 hm with rfl|hm
  ·have:=h.1;rw[a1]at this;simpa using this
  ·exact MS a1 h.2 hm
section
variable {P:Program}{call:aw}{ops:Array Oper}{ord:List Nat}{c5 bf:ba}{H0 cV:ad}{T:List bA}{ρ0:Env}{w0:World}{Q:Exit->Act->World->Prop}
def cR(a:Array Bool)(i:Nat):Bool:=a.getD i Z
def JM{i j:Nat}{o q:Oper}(a:ops[i]? =D o)(b:ops[j]? =D q)(h:sn ops (b9 ops) i j=C):
  i≠j/\ca (b9 ops) j i=Z/\(ca (b9 ops) i j=C\/o.apart ops q=C):=by
 unfold sn at h;rw[a,b]at h;simp only[Bool.and_eq_true,bne_iff_ne,ne_eq,Bool.not_eq_true',Bool.or_eq_true]at h;exact⟨h.1.1,h.1.2,h.2⟩
def ik(ops:Array Oper)(ms ord:List Nat)(i:Nat):Bool:=
 ord.all λj=>(j==i)||(match ops[j]? with|some o=> !oN o.op|none=>C)||ca ms j i||ca ms i j
def abQ{ms ord:List Nat}{i j:Nat}{o:Oper}(h:ik ops ms ord i=C)(b:j∈ord)(c:j≠i)(aR:ops[j]? =D o)(a:oN o.op=C):ca ms j i=C\/ca ms i j=true:=by
 unfold ik at h;rw[List.all_eq_true]at h;have:=h j b;rw[aR]at this;simpa [c,a]using this
structure Ctx(P:Program)(call:aw)(ops:Array Oper)(ord:List Nat)(c5:ba)(H0:ad)(T:List bA)(bf:ba)(cV:ad):Prop where
 dh:canRun P call ops ord c5 H0=some (T,bf,cV)
 Bn:o2 ops (b9 ops) ord=true
 cN:jh (b9 ops) T []=true
 ki:kS P (b9 ops) (ik ops (b9 ops) ord) T H0 T=true
def Ctx.JN(c:Ctx P call ops ord c5 H0 T bf cV):T.Pairwise λt u=>sn ops (b9 ops) t.i u.i=true:=by
 have h:=c.Bn;simp only[o2,Bool.and_eq_true]at h;have ah:=JO h.2.2.2;rw[<-(kv c.dh).1]at ah;exact(List.pairwise_map.1 ah)
def Ctx.at(c:Ctx P call ops ord c5 H0 T bf cV){A B:List bA}{t:bA}(h:T=A++t::B):
  ops[t.i]? =D t.o/\(∀d,t.R.get d=fq (λ_=>C) d A (c5.get d))/\fi P call ops t.o t.R (cz A H0)=D t.k/\(∀d,t.o.dst=D d->d<c5.size):=
 u4 (by rw[<-h];exact c.dh)
def Ctx.mem(c:Ctx P call ops ord c5 H0 T bf cV){t:bA}(h:t∈T):ops[t.i]? =D t.o:=by
 obtain⟨A,B,h⟩:=List.append_of_mem h;exact(c.at h).1
def Ctx.before(c:Ctx P call ops ord c5 H0 T bf cV){A B:List bA}{t:bA}(h:T=A++t::B){u:bA}(hu:u∈A):
  u.i≠t.i/\ca (b9 ops) t.i u.i=Z/\(ca (b9 ops) u.i t.i=C\/u.o.apart ops t.o=C):=by
 have a:=c.JN;rw[h,List.pairwise_append]at a;exact JM (c.mem (by rw[h];simp[hu])) (c.mem (by rw[h];simp)) (a.2.2 u hu t (by simp))
def Ctx.after(c:Ctx P call ops ord c5 H0 T bf cV){A B:List bA}{t:bA}(h:T=A++t::B){u:bA}(hu:u∈B):
  t.i≠u.i/\ca (b9 ops) u.i t.i=Z/\(ca (b9 ops) t.i u.i=C\/t.o.apart ops u.o=C):=by
 have a:=c.JN;rw[h,List.pairwise_append,List.pairwise_cons]at a;exact JM (c.mem (by rw[h];simp)) (c.mem (by rw[h];simp[hu])) (a.2.1.1 u hu)
def Ctx.looks(c:Ctx P call ops ord c5 H0 T bf cV){A B:List bA}{t:bA}(h:T=A++t::B){L:Nat->Bool}(aq:rh ops L)(hw:kZ L t.o)(b:L t.i=Z):
  ∀d∈t.o.looksAt ops,fq L d T (c5.get d)=t.R.get d:=by
 intro d e;obtain⟨g,j,_,_⟩:=c.at h;rw[j d,h,mU,fq];rw[if_neg (by rintro⟨af,_⟩;rw[b]at af;cases af)];rw[sz (A:=B),sy (L':=λ_=>C)]
 ·intro u hu a;obtain⟨_,_,an⟩:=c.before h hu;rcases an with an|an
  ·exact l2 aq _ _ g hw _ an
  ·exact absurd e ((Oper.apart_spec an).1 d a)
 ·intro u hu a;obtain⟨_,_,an⟩:=c.after h hu;rcases an with an|an
  ·cases k:L u.i with
   |false=>rfl
   |true=>
    have f:=c.mem (t:=u) (by rw[h];simp[hu]);have:=l2 aq _ _ f (aq _ _ f k) _ an;rw[b]at this;cases this
  ·exact absurd e ((Oper.apart_spec an).2.2 d a)
def Ctx.Nr(c:Ctx P call ops ord c5 H0 T bf cV){A B:List bA}{t:bA}(h:T=A++t::B){L L':Nat->Bool}(aq:rh ops L)(l:L t.i=Z)(m:L' t.i=C)(e:∀j,j≠t.i->L' j=L j)(d:Nat)(v:ae):
  fq L' d T v=if t.o.dst=D d then t.k.val else fq L d T v:=by
 have f:∀u∈A,u.o.dst=D d->L' u.i=L u.i:=λu hu _=>e _ (c.before h hu).1
 have g:∀u∈B,u.o.dst=D d->L' u.i=L u.i:=λu hu _=>e _ (Ne.symm (c.after h hu).1)
 rw[h,mU,mU,sy f];simp only[fq];rw[sy g];by_cases a:t.o.dst=D d
 ·rw[if_pos ⟨m,a⟩,if_pos a];refine sz λu hu p=> ?_
  obtain⟨_,_,an⟩:=c.after h hu;rcases an with an|an
  ·cases n:L u.i with
   |false=>rfl
   |true=>
    have b:=c.mem (t:=u) (by rw[h];simp[hu]);have:=l2 aq _ _ b (aq _ _ b n) _ an;rw[l]at this;cases this
  ·exact absurd p ((Oper.apart_spec an).2.1 d a)
 ·rw[if_neg (λx=>a x.2),if_neg a,if_neg (λx=>a x.2)]
def fx.turns{N:Nat}{ρ:Env}{w:World}{L:Nat->Bool}:∀{zC zD:List bA} {H:ad},fa H (zC++zD)->(∀u∈zC,u.k.eQ=C->L u.i=C/\∃v b,u.k= .new v b)->
  fx ρ0 H0 w0 N (dK L (zC++zD) H) ρ H w->fx ρ0 H0 w0 N (dK L zD (cz zC H)) ρ (cz zC H) w
 |[],zD,H,_,_,m=>m
 |c::zC,zD,H,hm,e,m=>by
  by_cases a:c.k.eQ=C
  ·obtain⟨al,v,b,d⟩:=e c (by simp) a;have o:dK L (c::zC++zD) H H.next=D b:=by simp[dK,d,al]
   have l:=m.Ms o;have g:fa (H.push b) (zC++zD):=by have:=hm.2;rw[d]at this;exact this
   have heq:(λk=>if k=H.next then I else dK L (c::zC++zD) H k)=dK L (zC++zD) (H.push b):=by
    funext k
    by_cases f:k=H.next
    ·rw[if_pos f];cases aN:dK L (zC++zD) (H.push b) k with
     |none=>rfl
     |some b'=>have:=sq g aN;simp at this;omega
    ·rw[if_neg f];simp[dK,d,f]
   rw[heq]at l;have:=fx.turns g (λu hu=>e u (by simp[hu])) l;rw[cz,d];exact this
  ·have n:∀v b,c.k≠ .new v b:=λv b h=>by rw[h]at a;exact a rfl
   rw[List.cons_append,qu n]at m;have j:=vs (by simpa using a) H;rw[cz];rw[j]at m ⊢;refine fx.turns ?_ (λu hu=>e u (by simp[hu])) m;have:=hm.2;rwa[j]at this
structure Inv(ops:Array Oper)(c5:ba)(H0:ad)(T:List bA)(N:Nat)(ρ0:Env)(w0:World)(b:Array Bool)(a:Act)(w:World):Prop where
 size:b.size=ops.size
 closed:rh ops (cR b)
 mid:∃ρ T1 T2,T=T1++T2/\(∀t∈T1,t.k.eQ=true->cR b t.i=true)/\(∀t∈T2,(∃v H,t.k= .cN v H)->cR b t.i=false)/\
  fx ρ0 H0 w0 N (dK (cR b) T2 (cz T1 H0)) ρ (cz T1 H0) w/\∃c:ba,dX ρ c a/\c.size=c5.size/\∀d,c.get d=fq (cR b) d T (c5.get d)
def Ctx.final(c:Ctx P call ops ord c5 H0 T bf cV){e:Array Bool}{a:Act}{w:World}(q:Inv ops c5 H0 T cV.next ρ0 w0 e a w)(g:∀t∈T,cR e t.i=C):
  ∃ρ,dX ρ bf a/\Step ρ0 H0 w0 ρ cV w:=by
 obtain⟨ρ,T1,T2,dh,af,ah,m,y,f,s,x⟩:=q.mid;obtain⟨z,n,o,p⟩:=kv c.dh;have l:=p0 c.dh;rw[dh]at l;have r:=(fa.append l).2;have e5:=fx.turns (zC:=T2) (zD:=[]) (L:=cR e) (by simpa using r) (λu hu h=>by
  have al:=g u (by rw[dh];simp[hu]);refine⟨al,?_⟩;cases j:u.k with
  |new v b=>exact⟨v,b,rfl⟩
  |cN v H=>rw[ah u hu ⟨v,H,j⟩]at al;cases al
  |_=>rw[j]at h;cases h) (by simpa using m)
 rw[<-lf,<-dh,<-n]at e5;refine⟨ρ,⟨by rw[o,<-s];exact f.size,λd=> ?_,f.none⟩,e5.done rfl⟩;have:=f.get d;rw[x d,sy (L':=λ_=>C) (λt a1 _=>g t a1),<-p d]at this;exact this
def nU{a:Array Bool}{i:Nat}(h:i∈Region.ready .any ops a)(d:a.size=ops.size):
  ∃o,ops[i]? =D o/\cR a i=Z/\kZ (cR a) o/\i<ops.size:=by
 unfold Region.ready at h;simp only[List.mem_filter,List.mem_range,Bool.and_eq_true,Bool.not_eq_true']at h;obtain⟨b,af,ah⟩:=h;have aR:ops[i]? =D ops[i]:=by simp[b]
 refine⟨ops[i],aR,?_,?_,b⟩
 ·unfold cR;rw[Array.getD_eq_getD_getElem?]at af ⊢;have:i<a.size:=aa;simp[this]at af ⊢;exact af
 ·rw[aR]at ah;simp only[Option.map_some,Option.getD_some,Array.all_eq_true']at ah;intro e he c;have:=ah e he;simpa [c,cR]using this
def wv{a:Array Bool}{i:Nat}{o:Oper}(aR:ops[i]? =D o)(al:cR a i=Z)(hw:kZ (cR a) o)(d:a.size=ops.size):i∈Region.ready .any ops a:=by
 unfold Region.ready;have c:i<ops.size:=(Array.getElem?_eq_some_iff.1 aR).1;simp only[List.mem_filter,List.mem_range,Bool.and_eq_true,Bool.not_eq_true'];refine⟨c,?_,?_⟩
 ·unfold cR at al;rw[Array.getD_eq_getD_getElem?]at al ⊢;have:i<a.size:=aa;simp[this]at al ⊢;exact al
 ·rw[aR];simp only[Option.map_some,Option.getD_some,Array.all_eq_true'];intro e he;by_cases b:Region.binds .any e=C
  ·have:=hw e he b;unfold cR at this;rw[this];simp
  ·simp[b]
def Ctx.EW(c:Ctx P call ops ord c5 H0 T bf cV){a:Array Bool}(w:a.size=ops.size)(aH:Region.ready .any ops a=[]):∀t∈T,cR a t.i=true:=by
 have m:=c.Bn;simp only[o2,Bool.and_eq_true,List.all_eq_true,List.mem_range]at m;obtain⟨q,s,r,_⟩:=m;have k:=(kv c.dh).1;have key:∀(n:Nat) (A:List bA) (t:bA) (B:List bA),A.length=n->T=A++t::B->cR a t.i=true:=by
  intro n
  induction n using Nat.strongRecOn with
  |_ n x=>
   intro A t B hlen h;have aR:=(c.at h).1;cases al:cR a t.i with
   |true=>rfl
   |false=>
    have:t.i∈Region.ready .any ops a:=by
     refine wv aR al (λe he j=> ?_) w;have b:=OL aR he j;have v:e.on<ops.size:=by
      have af:=r t.o (by
       have:=(Array.getElem?_eq_some_iff.1 aR);obtain⟨ah,an⟩:=this;rw[<-an];simp)
      unfold Gr at af;rw[List.all_eq_true]at af;have ah:=af e (by simpa using he);simpa [j]using ah
     have l:=q e.on v;rw[List.contains_iff_mem,<-k,List.mem_map]at l;obtain⟨u,hu,d⟩:=l;rw[h]at hu;rcases List.mem_append.1 hu with hu|hu
     ·obtain⟨f,p,g⟩:=List.append_of_mem hu;rw[<-d];refine x f.length ?_ f u (p++t::B) rfl (by rw[h,g];simp);rw[<-hlen,g];simp
     ·rcases List.mem_cons.1 hu with rfl|hu
      ·exfalso;have af:=s u.i (by rw[<-k,List.mem_map];exact⟨u,by rw[h];simp,rfl⟩);rw[<-d]at b;rw[b]at af;cases af
      ·exfalso;have af:=(c.after h hu).2.1;rw[d,b]at af;cases af
    rw[aH]at this;simp at this
 intro t a1;obtain⟨A,B,h⟩:=List.append_of_mem a1;exact key _ A t B rfl h
def Gi{p q:Nat->Bool}{i:Nat}:∀{l:List Nat},i∈l->(∀j,q j=C->p j=C)->p i=C->q i=Z->l.countP q<l.countP p
 |[],h,_,_,_=>by simp at h
 |j::l,h,himp,a,aN=>by
  have hle:∀l:List Nat,l.countP q<=l.countP p:=λl=>List.countP_mono_left λx _ aA=>himp x aA
  simp only[List.countP_cons];rcases List.mem_cons.1 h with rfl|h
  ·rw[a,aN];have:=hle l;simp;omega
  ·have:=Gi h himp a aN;cases b:q j with
   |true=>rw[himp j b];simp;omega
   |false=>cases p j<;>simp<;>omega
def nJ{a:Array Bool}{i:Nat}(b:i<a.size)(j:Nat):cR (a.setIfInBounds i C) j=if j=i then C else cR a j:=by
 unfold cR;rw[Array.getD_eq_getD_getElem?,Array.getD_eq_getD_getElem?,Array.getElem?_setIfInBounds];by_cases h:i=j
 ·subst h;simp[b]
 ·have bY:¬j=i:=λe=>h e.symm
  simp[h,bY]
end
section
variable {E:Env}{P:Program}{call:aw}{ops:Array Oper}{ord:List Nat}{c5 bf:ba}{H0 cV:ad}{T:List bA}{ρ0:Env}{w0:World}{Q:Exit->Act->World->Prop}
def Ctx.uniq(c:Ctx P call ops ord c5 H0 T bf cV){A B:List bA}{t:bA}(h:T=A++t::B){u:bA}(hu:u∈T)(he:u.i=t.i):u=t:=by
 rw[h]at hu;rcases List.mem_append.1 hu with hu|hu
 ·exact absurd he (c.before h hu).1
 ·rcases List.mem_cons.1 hu with rfl|hu
  ·rfl
  ·exact absurd he.symm (c.after h hu).1
def zg(H0:ad)(T:List bA)(N:Nat)(ρ0:Env)(w0:World)(L:Nat->Bool)(ρ:Env)(w:World)(T1 T2:List bA):Prop:=T=T1++T2/\(∀t∈T1,t.k.eQ=C->L t.i=C)/\(∀t∈T2,(∃v H,t.k= .cN v H)->L t.i=Z)/\fx ρ0 H0 w0 N (dK L T2 (cz T1 H0)) ρ (cz T1 H0) w
def Ctx.next(c:Ctx P call ops ord c5 H0 T bf cV){A B:List bA}{t:bA}(h:T=A++t::B){b:Array Bool}(z:b.size=ops.size)(aq:rh ops (cR b))(al:cR b t.i=Z)
  (hw:kZ (cR b) t.o) {ρ:Env} {f:ba} {a:Act} {x:Value} {w:World} (L:dX ρ f a) (E:f.size=c5.size) (M:∀d,f.get d=fq (cR b) d T (c5.get d)) (aA:bp ρ t.k.val x) {T1 T2:List bA}
  (m:zg H0 T cV.next ρ0 w0 (cR (b.setIfInBounds t.i C)) ρ w T1 T2):Inv ops c5 H0 T cV.next ρ0 w0 (b.setIfInBounds t.i C) (a.put t.o.dst x) w:=by
 obtain⟨aR,_,_,G⟩:=c.at h;have v:t.i<b.size:=by rw[z];exact(Array.getElem?_eq_some_iff.1 aR).1
 have r:cR (b.setIfInBounds t.i C) t.i=true:=by rw[nJ v];simp
 have g:∀j,j≠t.i->cR (b.setIfInBounds t.i C) j=cR b j:=λj p=>by rw[nJ v];simp[p]
 have y:∀j,cR b j=C->cR (b.setIfInBounds t.i C) j=true:=λj p=>by
  by_cases e:j=t.i
  ·rw[e];exact r
  ·rw[g j e];exact p
 have K:∃a7,f.put t.o.dst t.k.val=D a7:=by
  cases H:t.o.dst with
  |none=>exact⟨f,rfl⟩
  |some d=>
   have:=G d H;exact⟨{f with t:=bu.put t.k.val (d+1) f.t d},by simp only[ba.put];rw[if_pos (by rw[E];exact this)]⟩
 obtain⟨a7,l⟩:=K;refine⟨by simpa using z,λi o n u e he s=> ?_,ρ,T1,T2,m.1,m.2.1,m.2.2.1,m.2.2.2,a7,L.put l aA,by rw[ba.size_put l,E],λd=> ?_⟩
 ·by_cases q:i=t.i
  ·subst q;rw[aR]at n;cases n;exact y _ (hw e he s)
  ·rw[g i q]at u;exact y _ (aq i o n u e he s)
 ·rw[ba.qe l d,c.Nr h aq al r g d,M d]
def Ctx.norm(c:Ctx P call ops ord c5 H0 T bf cV){N:Nat}{L:Nat->Bool}{ρ:Env}{w:World}:∀{T2 T1:List bA},zg H0 T N ρ0 w0 L ρ w T1 T2->
  ∃n g,zg H0 T N ρ0 w0 L ρ w n g/\∀u e,g=u::e->u.k.eQ=C/\L u.i=Z
 |[],T1,m=>⟨T1,[],m,λu e h=>by cases h⟩
 |u::T2,T1,m=>by
  by_cases f:u.k.eQ=C/\L u.i=Z
  ·exact⟨T1,u::T2,m,λp e h=>by simp only[List.cons.injEq]at h;rw[<-h.1];exact f⟩
  ·obtain⟨af,ah,an,aM⟩:=m;have l:=p0 c.dh;rw[af]at l;have o:=(fa.append l).2;have e5:=fx.turns (zC:=[u]) (zD:=T2) (L:=L) o (λv a d=>by
    have:v=u:=by simpa using a
    subst this;have al:L v.i=true:=by
     cases a:L v.i with
     |true=>rfl
     |false=>exact absurd ⟨d,a⟩ f
    refine⟨al,?_⟩;cases j:v.k with
    |new x b=>exact⟨x,b,rfl⟩
    |cN x H=>rw[an v (by simp) ⟨x,H,j⟩]at al;cases al
    |_=>rw[j]at d;cases d) aM
   rw[<-lf]at e5;refine c.norm (T2:=T2) (T1:=T1++[u]) ⟨by rw[af];simp,λv a d=> ?_,λv a=>an v (by simp[a]),e5⟩;rcases List.mem_append.1 a with a|a
   ·exact ah v a d
   ·have:v=u:=by simpa using a
    subst this;cases a:L v.i with
    |true=>rfl
    |false=>exact absurd ⟨d,a⟩ f
def Bl{L:Nat->Bool}{u:bA}{v:ae}{b:bn}(hu:u.k= .new v b)(d:L u.i=C):∀{zC zD:List bA} {H:ad},fa H (zC++u::zD)->dK L (zC++u::zD) H (cz zC H).next=D b
 |[],zD,H,_=>by simp[dK,hu,d,cz]
 |c::zC,zD,H,hm=>by
  have a:=Bl hu d (zC:=zC) (zD:=zD) hm.2;have hle:∀{zC:List bA} {H:ad},fa H zC->H.next<=(cz zC H).next:=by
   intro zC
   induction zC with
   |nil=>intro H _;exact bC _
   |cons x zC g=>intro H h;exact Nat.le_trans h.1 (g h.2)
  by_cases aH:∃v b,c.k= .new v b
  ·obtain⟨j,b',e⟩:=aH;have ah:=hle (fa.append hm.2).1;have f:=hm.2;rw[e]at ah f a;simp only[K.heap,ad.dm]at ah a;simp only[List.cons_append,dK,e,cz,K.heap];rw[if_neg aa];exact a
  ·rw[List.cons_append,qu λv b h=>aH ⟨v,b,h⟩,cz];exact a
def Al{l:Nat}:∀{zC:List bA} {H:ad},(∀x∈zC,jJ x.k=C)->l<H.next->(cz zC H).get l=H.get l
 |[],H,_,_=>rfl
 |c::zC,H,a,al=>by
  have d:=a c (by simp);rw[cz];cases e:c.k with
  |new v b=>
   rw[Al (λx aA=>a x (by simp[aA])) (by simp only[K.heap,ad.dm];omega)];exact ad.dO aa
  |cN v H'=>rw[e]at d;cases d
  |_=>exact Al (λx aA=>a x (by simp[aA])) al
def Rel.VS{ρ:Env}{H:ad}{w:World}{b:bn}(g:b.oP=Z)(h:b≠ .dead->∃loc,ρ H.next=D loc/\jR ρ w loc b):Rel ρ (H.push b).only w where
 row l ro esz els aP:=by
  obtain⟨rfl,rfl⟩:=ad.qt aP;obtain⟨loc,af,ah⟩:=h (by intro e;cases e);exact⟨loc,af,ah⟩
 map l es aP:=by
  obtain⟨rfl,rfl⟩:=ad.qt aP;obtain⟨loc,af,ah⟩:=h (by intro e;cases e);exact⟨loc,af,ah⟩
 dz l t esz els aP:=by
  obtain⟨rfl,rfl⟩:=ad.qt aP;obtain⟨loc,af,ah⟩:=h (by intro e;cases e);exact⟨loc,af,ah⟩
 apart l d loc i af ah f _ _:=by
  exfalso;have a:∃x,(H.push b).only.get l=D x:=by
   unfold ad.rw at af;cases aP:(H.push b).only.get l with
   |none=>simp[aP]at af
   |some x=>exact⟨x,rfl⟩
  have c:∃x,(H.push b).only.get d=D x:=by
   unfold ad.live at ah;cases aP:(H.push b).only.get d with
   |none=>simp[aP]at ah
   |some x=>exact⟨x,rfl⟩
  obtain⟨x,a⟩:=a;obtain⟨y,c⟩:=c;exact f ((ad.qt a).1.trans (ad.qt c).1.symm)
 old l s esz els aP:=by
  obtain⟨rfl,rfl⟩:=ad.qt aP;cases g
def count_set{n i fuel:Nat}{a:Array Bool}(d:i<a.size)(f:i<n)(al:cR a i=Z)(g:(List.range n).countP (λj=> !cR a j)<=fuel+1):(List.range n).countP (λj=> !cR (a.setIfInBounds i C) j)<=fuel:=by
 have c:cR (a.setIfInBounds i C) i=true:=by rw[nJ d];simp
 have:=Gi (p:=λj=> !cR a j) (q:=λj=> !cR (a.setIfInBounds i C) j) (i:=i) (l:=List.range n) (by simpa using f)
  (λj b=>by
   by_cases e:j=i
   ·rw[e,c]at b;cases b
   ·rw[nJ d,if_neg e]at b;exact b) (by simp[al]) (by simp[c])
 omega
def Ctx.step(c:Ctx P call ops ord c5 H0 T bf cV)(bt:ed E P call)(bo:E.le ρ0){p:Array Bool}{a:Act}{w:World}(n:Inv ops c5 H0 T cV.next ρ0 w0 p a w){i:Nat}{o:Oper}(aR:ops[i]? =D o)(al:cR p i=Z)(hw:kZ (cR p) o)(ba:i<ops.size)
  {jy:Act->World->Prop} (aL:∀b8 aG,Inv ops c5 H0 T cV.next ρ0 w0 (p.setIfInBounds i C) b8 aG->jy b8 aG):wpOp P ops Q i jy a w:=by
 have bc:=c.Bn;simp only[o2,Bool.and_eq_true,List.all_eq_true,List.mem_range]at bc;have bb:=bc.1 i ba;rw[List.contains_iff_mem,<-(kv c.dh).1,List.mem_map]at bb;obtain⟨t,a1,rfl⟩:=bb;have bF:=c.mem a1;obtain rfl:t.o=o:=Option.some.inj (bF.symm.trans aR);obtain⟨ρ,T1,T2,G,ao,ap,m,aX,Y,aW,aF⟩:=n.mid;have bd:t.i<p.size:=by rw[n.size];exact ba
 have ay:cR (p.setIfInBounds t.i C) t.i=true:=by rw[nJ bd];simp
 have O:∀j,j≠t.i->cR (p.setIfInBounds t.i C) j=cR p j:=λj bx=>by rw[nJ bd];simp[bx]
 obtain⟨aH,aw,q⟩:=List.append_of_mem a1;have a9:∀d∈t.o.looksAt ops,aX.get d=t.R.get d:=λd bu=>by rw[aF d];exact c.looks q n.closed hw al d bu
 have aE:=Oq a9;have bG:Region.wanted t.o (yielded ops a.tmps)=je ops t.R t.o:=(Fj Y t.o).trans (Ou a9);unfold wpOp;rw[aR];simp only[bG];have still:t.k.eQ=Z->∀x,bp ρ t.k.val x->jy (a.put t.o.dst x) w:=by
  intro g x aA;refine aL _ _ (c.next q n.size n.closed al hw Y aW aF aA (T1:=T1) (T2:=T2) ⟨G,λu hu W=> ?_,λu hu ab=> ?_,?_⟩)
  ·have:=ao u hu W;by_cases e:u.i=t.i
   ·rw[e];exact ay
   ·rw[O _ e];exact this
  ·have ai:u.i≠t.i:=λe=>by
    have:=c.uniq q (by rw[G];simp[hu]) e;subst this;obtain⟨v,H,z⟩:=ab;rw[z]at g;cases g
   rw[O _ ai];exact ap u hu ab
  ·rw[so (L':=cR p) λu hu v b z=>O _ λe=>by
    have:=c.uniq q (by rw[G];simp[hu]) e;subst this;rw[z]at g;cases g]
   exact m
 rcases qh (c.at q).2.2.1 with⟨aj,z⟩|⟨aj,z⟩
 ·rw[aj];simp only[if_true];refine .inl ?_;have aY:t.k.eQ=C->∃zC zD,T2=zC++t::zD:=λg=>by
   rw[G]at a1;rcases List.mem_append.1 a1 with a1|a1
   ·have:=ao t a1 g;rw[al]at this;cases this
   ·exact List.append_of_mem a1
  have ag:=p0 c.dh;cases f:t.k with
  |skip=>rw[f]at z;exact z.elim
  |pure v=>
   rw[f]at z;have S:=mx.congr (λx aA=>(aE x aA).symm) z;exact JW S Y λx aA=>still (by rw[f];rfl) x (by rw[f];exact aA)
  |read v=>
   obtain⟨ax,aJ,⟨f1,f2,f3,f4⟩,f5⟩:=c.norm (ρ0:=ρ0) (w0:=w0) (N:=cV.next) (L:=cR p) (ρ:=ρ) (w:=w) (T2:=T2) (T1:=T1) ⟨G,ao,ap,m⟩;have aC:∃aI,Rel ρ aI w/\g_ P t.o.op t.R aI=D v:=by
    rcases MS f c.ki a1 with bv|bD
    ·
      refine⟨_,f4.rel,?_⟩;have a6:g_ P t.o.op t.R (cz aH H0)=D v:=by
       rcases qh (c.at q).2.2.1 with⟨_,a5⟩|⟨aA,_⟩
       ·rw[f]at a5;exact a5
       ·rw[aj]at aA;cases aA
      have a4:∀u∈T,u.k.eQ=C->u.i≠t.i/\(ca (b9 ops) u.i t.i=C\/ca (b9 ops) t.i u.i=C):=λu hu g=>by
       have ai:u.i≠t.i:=λe=>by
        have:=c.uniq q hu e;subst this;rw[f]at g;cases g
       obtain⟨bX,bY,af⟩:=List.append_of_mem hu;refine⟨ai,abQ bv ?_ ai (c.at af).1 (H5 (c.at af).2.2.1 g)⟩;rw[<-(kv c.dh).1,List.mem_map];exact⟨u,hu,rfl⟩
      have bB:∀u∈aH,u.k.eQ=C->cR p u.i=true:=λu hu g=>by
       rcases(a4 u (by rw[q];simp[hu]) g).2 with af|af
       ·exact l2 n.closed _ _ aR hw _ af
       ·have:=(c.before q hu).2.1;rw[af]at this;cases this
      have bw:∀u∈aw,u.k.eQ=C->cR p u.i=false:=λu hu g=>by
       have be:u∈T:=by rw[q];simp[hu]
       rcases(a4 u be g).2 with af|af
       ·have:=(c.after q hu).2.1;rw[af]at this;cases this
       ·cases V:cR p u.i with
        |false=>rfl
        |true=>
         have au:=c.mem be;have:=l2 n.closed _ _ au (n.closed _ _ au V) _ af;rw[al]at this;cases this
      have aV:ax++aJ=aH++t::aw:=by rw[<-f1,<-q]
      rcases List.append_eq_append_iff.1 aV with⟨b8,aq,aO⟩|⟨aK,ae,U⟩
      ·cases b8 with
       |nil=>rw[List.append_nil]at aq;rw[<-aq];exact a6
       |cons u bj=>
        obtain⟨M,s⟩:=f5 u (bj++t::aw) aO;have:=bB u (by rw[aq];simp) M;rw[s]at this;cases this
      ·have bE:∀(zX:List bA) (H:ad),(∀u∈zX,u.k.eQ=Z)->cz zX H=H:=by
        intro zX
        induction zX with
        |nil=>intro H _;rfl
        |cons u zX bI=>intro H aZ;rw[cz,vs (aZ u (by simp))];exact bI H λu hu=>aZ u (by simp[hu])
       rw[ae,lf,bE aK _ ?_]
       ·exact a6
       ·intro u hu;cases g:u.k.eQ with
        |false=>rfl
        |true=>
         have af:=f2 u (by rw[ae];simp[hu]) g;have ah:u∈t::aw:=by rw[U];simp[hu]
         rcases List.mem_cons.1 ah with rfl|ah
         ·rw[f]at g;cases g
         ·have:=bw u ah g;rw[af]at this;cases this
    ·rcases ZH bD with bg|bC
     rotate_left
     ·obtain⟨A,u,B,bV,b,M,s,bk,bl,bm⟩:=Jb bC;have aU:b.hG=true:=TX ((c.at M).2.2.1.trans (congrArg D s));refine⟨_,Rel.VS (bn.hG.old aU) λaz=> ?_,J8 bm⟩;have V:=l2 n.closed _ _ aR hw _ bk;have aV:ax++aJ=A++u::B:=by rw[<-f1,<-M]
      rcases List.append_eq_append_iff.1 aV with⟨b8,aq,aO⟩|⟨aK,ae,U⟩
      ·have aT:=f4.jq (cz A H0).next b (by
        rw[f1]at ag;have r:=(fa.append ag).2;rw[aO]at r ⊢;rw[aq,lf];exact Bl s V r)
       obtain⟨_,_,_,loc,av,am,_⟩:=aT;exact⟨loc,av,am⟩
      ·cases aK with
       |nil=>
        have aT:=f4.jq (cz A H0).next b (by
         rw[f1]at ag;have r:=(fa.append ag).2;rw[List.nil_append]at U;rw[List.append_nil]at ae;rw[<-U]at r ⊢;rw[ae]at r ⊢;exact Bl (zC:=[]) s V r)
        obtain⟨_,_,_,loc,av,am,_⟩:=aT;exact⟨loc,av,am⟩
       |cons x bZ=>
        simp only[List.cons_append,List.cons.injEq]at U;obtain⟨rfl,U⟩:=U;have aP:(cz ax H0).get (cz A H0).next=D b:=by
         rw[ae,lf,cz,s];rw[Al (λx aA=>bl x (by rw[U];simp[aA])) (by simp[K.heap])];exact ad.a_ _ b
        cases b with
        |row ro esz els=>exact f4.rel.row _ _ _ _ aP
        |map es=>exact f4.rel.map _ _ aP
        |dz t esz els=>exact f4.rel.dz _ _ _ _ aP
        |dead=>cases aU
        |old=>cases aU
     refine⟨_,f4.rel,?_⟩;rw[show fS (b9 ops) (kb P t.o.op t.R v) t.i T H0=fS (b9 ops) (kb P t.o.op t.R v) t.i (ax++aJ) H0 by rw[<-f1]]at bg;exact J8 (Ei bg (λu hu W=>by
      cases az:ca (b9 ops) t.i u.i with
      |false=>rfl
      |true=>
       have au:=c.mem (t:=u) (by rw[f1];simp[hu]);have:=l2 n.closed _ _ au (n.closed _ _ au (f2 u hu W)) _ az;rw[al]at this;cases this) (λu bi hu=>by
      obtain⟨M,s⟩:=f5 u bi hu;refine⟨M,?_⟩;cases az:ca (b9 ops) u.i t.i with
      |false=>rfl
      |true=>
       have:=l2 n.closed _ _ aR hw _ az;rw[s]at this;cases this))
   obtain⟨aI,bH,aC⟩:=aC;rw[<-E8 aE]at aC;exact J9 bH aC Y λx aA=>still (by rw[f];rfl) x (by rw[f];exact aA)
  |new v b=>
   obtain⟨zC,zD,y⟩:=aY (by rw[f];rfl);have af:T=(T1++zC)++t::zD:=by rw[G,y];simp
   have aQ:=(c.at af).2.2.1;rcases qh aQ with⟨_,ar⟩|⟨aA,_⟩
   ·rw[f]at ar;have S:=mx.congr (λx aA=>(aE x aA).symm) ar;have r:fa (cz T1 H0) (zC++t::zD):=by
     have:=ag;rw[G,y]at this;exact(fa.append this).2
    obtain⟨av,am⟩:=JQ (L:=cR p) (L':=cR (p.setIfInBounds t.i C)) f al ay r
     (λu hu=>(O _ (c.before af (by simp[hu])).1).symm) (λu hu=>(O _ (Ne.symm (c.after af hu).1)).symm)
    have a3:(cz T1 H0).next<=(cz zC (cz T1 H0)).next:=(fa.append r).1.le
    have a8:(cz zC (cz T1 H0)).next<cV.next:=by
     have ah:=(fa.append r).2;have an:=ah.2.le;rw[f]at an;have aM:cV=cz zD (K.heap (cz zC (cz T1 H0)) (.new v b)):=by
      rw[(kv c.dh).2.1,af,lf,lf,cz,f]
     rw[aM];simp only[K.heap,ad.dm]at an ⊢;omega
    rw[y]at m;have bz:kp P t.o.op aX (cz zC (cz T1 H0)).next=D (v,b):=by rw[<-lf];exact S
    refine Jd bz Y (m.fresh _ a3 a8 am) λx aG bW loc bK bh bO bP bQ bR bS bT bU bL bM bN=> ?_
    have e5:=m.early a3 a8 am bh bO bP bQ bR bS bT bU bL bM bN;rw[<-av]at e5;refine aL _ _ (c.next q n.size n.closed al hw (Y.mono bh) aW aF (by rw[f];exact bK) (T1:=T1) (T2:=zC++t::zD) ⟨by rw[G,y],λu hu W=> ?_,λu hu ab=> ?_,e5⟩)
    ·have:=ao u hu W;by_cases e:u.i=t.i
     ·rw[e];exact ay
     ·rw[O _ e];exact this
    ·have ai:u.i≠t.i:=λe=>by
      have:=c.uniq q (by rw[G,y];simp at hu ⊢;exact .inr hu) e;subst this;obtain⟨bV,H,S⟩:=ab;rw[f]at S;cases S
     rw[O _ ai];exact ap u (by rw[y];exact hu) ab
   ·rw[aj]at aA;cases aA
  |cN v H'=>
   obtain⟨zC,zD,y⟩:=aY (by rw[f];rfl);have af:T=(T1++zC)++t::zD:=by rw[G,y];simp
   have aQ:=(c.at af).2.2.1;rcases qh aQ with⟨_,ar⟩|⟨aA,_⟩
   ·rw[f]at ar;have S:=mx.congr (λx aA=>(aE x aA).symm) ar;have r:fa (cz T1 H0) (zC++t::zD):=by
     have:=ag;rw[G,y]at this;exact(fa.append this).2
    have a2:=c.cN;rw[af]at a2;have a0:=(vg a2 f).2;rw[y]at m;have ak:=fx.turns (zC:=zC) (zD:=t::zD) (L:=cR p) r (λu hu g=>by
     have V:=l2 n.closed _ _ aR hw _ (a0 u (by simp[hu]) g);refine⟨V,?_⟩;cases a7:u.k with
     |new x b=>exact⟨x,b,rfl⟩
     |cN x H=>rw[ap u (by rw[y];simp[hu]) ⟨x,H,a7⟩]at V;cases V
     |_=>rw[a7]at g;cases g) m
    rw[qu (λv b h=>by rw[f]at h;cases h),f]at ak;simp only[K.heap]at ak;have aS:fa H' zD:=by have:=(fa.append r).2.2;rw[f]at this;exact this
    have br:cV=cz zD H':=by rw[(kv c.dh).2.1,af,lf,cz,f];rfl
    have bs:H'.next<=cV.next:=by rw[br];exact aS.le
    rw[lf]at S;refine Gt (H:=cz zC (cz T1 H0)) (H':=H') bt ak.rel ⟨λl M s=>ak.fresh l M aa ?_,Env.le_trans bo ak.le⟩ S Y λx aG bW M s=> ?_
    ·cases aN:dK (cR p) zD H' l with
     |none=>rfl
     |some b=>have:=sq aS aN;omega
    ·have bJ:=ak.step s bs (λl b aN=>sq aS aN);refine aL _ _ (c.next q n.size n.closed al hw (Y.mono s.le) aW aF (by rw[f];exact M) (T1:=T1++zC++[t]) (T2:=zD) ⟨by rw[af];simp,λu hu W=> ?_,λu hu ab=> ?_,?_⟩)
     ·by_cases e:u.i=t.i
      ·rw[e];exact ay
      ·rw[O _ e];simp only[List.mem_append,List.mem_singleton]at hu;rcases hu with(hu|hu)|rfl
       ·exact ao u hu W
       ·exact l2 n.closed _ _ aR hw _ (a0 u (by simp[hu]) W)
       ·exact absurd rfl e
     ·rw[O _ (Ne.symm (c.after af hu).1)];exact ap u (by rw[y];simp[hu]) ab
     ·have bq:cz (T1++zC++[t]) H0=H':=by rw[lf,cz,f];rfl
      rw[bq,so (L':=cR p) λu hu v b z=>O _ (Ne.symm (c.after af hu).1)];exact bJ
   ·rw[aj]at aA;cases aA
 ·rw[aj];simp only[Bool.false_eq_true,if_false];exact still (by rw[z];rfl) undef (by rw[z];exact .tuple [] [] .nil)
def Ctx.any(c:Ctx P call ops ord c5 H0 T bf cV)(n:ed E P call)(l:E.le ρ0)(m:∀ρ a w,dX ρ bf a->Step ρ0 H0 w0 ρ cV w->Q .normal a w):
  ∀(fuel:Nat) (b:Array Bool) (a:Act) (w:World),Inv ops c5 H0 T cV.next ρ0 w0 b a w->(List.range ops.size).countP (λj=> !cR b j)<=fuel->wpAny P .any ops Q fuel b a w:=by
 have k:∀b a w,Inv ops c5 H0 T cV.next ρ0 w0 b a w->Region.ready .any ops b=[]->Q .normal a w:=by
  intro b a w d au;obtain⟨ρ,af,ah⟩:=c.final d (c.EW d.size au);exact m ρ a w af ah
 intro fuel
 induction fuel with
 |zero=>
  intro b a w d g;have au:Region.ready .any ops b=[]:=by
   rw[List.eq_nil_iff_forall_not_mem];intro i e;obtain⟨o,af,ah,an,aM⟩:=nU e d.size;have q:0<(List.range ops.size).countP (λj=> !cR b j):=List.countP_pos_iff.2 ⟨i,by simpa using aM,by simp[ah]⟩;omega
  exact⟨au,k _ _ _ d au⟩
 |succ fuel p=>
  intro b a w d g;refine⟨λau=>k _ _ _ d au,λi e=> ?_⟩;obtain⟨o,aR,al,hw,f⟩:=nU e d.size;exact c.step n l d aR al hw f λb8 r h=>p _ _ _ h (count_set (by rw[d.size];exact f) f al g)
def ac5{id:Nat}{a:Act}{w:World}(hm:P.follows .mixedOrders=C)(m:ed E P call)(c:Ctx P call ops ord c5 H0 T bf cV)(k:Rel ρ0 H0 w)(az:iu E ρ0 H0.next cV.next)(au:dX ρ0 c5 a)
  (g:∀ρ a e,dX ρ bf a->Step ρ0 H0 w ρ cV e->Q .normal a e):(Code.region id ops C).wp P Q a w:=by
 have b:∀j,cR (Array.replicate ops.size Z) j=false:=λj=>by
  unfold cR;rw[Array.getD_eq_getD_getElem?];by_cases h:j<ops.size<;>simp[h]
 refine wp_region_any hm (c.any (ρ0:=ρ0) (w0:=w.drew) m az.le (λρ a e af ah=>g ρ a e af ?_) _ _ _ _ ⟨by simp,λi o _ al=>absurd al (by rw[b];simp),ρ0,[],T,rfl,by simp,λt _ _=>b _,?_,c5,au,rfl,λd=> ?_⟩ ?_)
 ·exact⟨ah.le,ah.next,ah.keep,ah.rel,ah.os,ah.tape,ah.output,ah.size,ah.frame,ah.own,ah.ro,ah.olds⟩
 ·have n:dK (cR (Array.replicate ops.size Z)) T (cz [] H0)=λ_=>none:=by
   have:∀(T:List bA) (H:ad),dK (cR (Array.replicate ops.size Z)) T H=λ_=>none:=by
    intro T
    induction T with
    |nil=>intro H;rfl
    |cons t T f=>
     intro H
     funext l
     unfold dK;split
     ·rw[f,b];simp
     ·rw[f]
   exact this T _
  rw[n];exact fx.start k.drew az.new
 ·rw[sz λt _ _=>b _]
 ·refine Nat.le_trans List.countP_le_length ?_;simp
end
def bu.Bp{α:Type}(x y:α):∀(p q:List lR) (t:bu α),p≠q->bu.eB x p (bu.eB y q t)=bu.eB y q (bu.eB x p t)
 |[],[],_,h=>absurd rfl h
 |[],d::q,.leaf,_=>by cases d<;>simp[bu.eB]
 |[],d::q,.node ..,_=>by cases d<;>simp[bu.eB]
 |d::p,[],.leaf,_=>by cases d<;>simp[bu.eB]
 |d::p,[],.node ..,_=>by cases d<;>simp[bu.eB]
 |d::p,e::q,.leaf,h=>by
  by_cases a:d=e
  ·subst a;have f:=bu.Bp x y p q .leaf (λb=>h (by rw[b]));cases d<;>simp[bu.eB,f]
  ·cases d<;>cases e<;>first|exact absurd rfl a|simp[bu.eB]
 |d::p,e::q,.node v bh a8 bo bJ bT cn cy ea,h=>by
  by_cases a:d=e
  ·subst a;have f:=λc=>bu.Bp x y p q c (λb=>h (by rw[b]))
   cases d<;>simp[bu.eB,f]
  ·cases d<;>cases e<;>first|exact absurd rfl a|simp[bu.eB]
def ad.set_comm{H:ad}{l m:Nat}{b c:bn}(h:l≠m):(H.set l b).set m c=(H.set m c).set l b:=by
 simp only[ad.set,bu.put];rw[bu.Bp _ _ _ _ _ (λe=>h (JP e).symm)]
section
variable {E:Env}{P:Program}{call:aw}{ops:Array Oper}{ord:List Nat}{c5 bf:ba}{H0 cV:ad}{T:List bA}{ρ0:Env}{w0:World}{Q:Exit->Act->World->Prop}
def fK(ops:Array Oper)(b a:Nat):Array Oper:=ops.mapIdx λi o=>if i=b then {o with after:=o.after.push ⟨a,default⟩}else o
def iY(b a i:Nat)(o:Oper):Oper:=if i=b then {o with after:=o.after.push ⟨a,default⟩}else o
def jS(ops:Array Oper)(b a i:Nat):(fK ops b a)[i]? =(ops[i]?).map (iY b a i):=by
 simp only[fK,Array.getElem?_mapIdx];rfl
def k0(ops:Array Oper)(b a:Nat):(fK ops b a).size=ops.size:=by simp[fK]
def m9(b a i:Nat)(o:Oper):(iY b a i o).op=o.op/\(iY b a i o).dst=o.dst/\(iY b a i o).guard=o.guard:=by unfold iY;split<;>exact⟨rfl,rfl,rfl⟩
def y3{b a i:Nat}{o:Oper}{L:Nat->Bool}(h:kZ L o)(c:i=b->L a=C):kZ L (iY b a i o):=by
 unfold iY;split
 ·rename_i e;intro x aA d;simp only[Array.mem_push]at aA;rcases aA with aA|rfl
  ·exact h x aA d
  ·exact c e
 ·exact h
def Eg{b a i:Nat}{o:Oper}{L:Nat->Bool}(h:kZ L (iY b a i o)):kZ L o:=by
 unfold iY at h;split at h
 ·intro x aA c;exact h x (by simp[aA]) c
 ·exact h
def Ot(b a i:Nat)(R:ba)(o:Oper):je (fK ops b a) R (iY b a i o)=je ops R o:=by
 unfold je;rw[(m9 b a i o).2.2];cases o.guard with
 |none=>rfl
 |some p=>
  obtain⟨j,want⟩:=p;simp only[jS];cases c:ops[j]? with
  |none=>rfl
  |some q=>simp only[Option.map_some,(m9 b a j q).2.1]
def iZ(b a:Nat)(t:bA):bA:=⟨t.i,iY b a t.i t.o,t.R,t.k⟩
def zQ(b a:Nat):∀(is:List Nat) (R:ba) (H:ad),canRun P call (fK ops b a) is R H=(canRun P call ops is R H).map λp=>(p.1.map (iZ b a),p.2)
 |[],_,_=>rfl
 |i::is,R,H=>by
  simp only[canRun,jS];cases aR:ops[i]? with
  |none=>rfl
  |some o=>
   simp only[Option.map_some];have c:fi P call (fK ops b a) (iY b a i o) R H=fi P call ops o R H:=by
    unfold fi;rw[Ot,(m9 b a i o).1]
   rw[c,(m9 b a i o).2.1];cases fi P call ops o R H with
   |none=>rfl
   |some k=>
    simp only
    cases R.put o.dst k.val with
    |none=>rfl
    |some a7=>
     simp only
     rw[zQ b a is a7 (k.heap H)];cases canRun P call ops is a7 (k.heap H)with
     |none=>rfl
     |some p=>rfl
def rJ(a:List Nat):∀(is:List Nat) (R:ba) (H:ad),canRun P call ops (is++a) R H=(canRun P call ops is R H).bind λp=>(canRun P call ops a p.2.1 p.2.2).map λq=>(p.1++q.1,q.2)
 |[],R,H=>by
  simp only[List.nil_append,canRun,Option.bind_some];cases canRun P call ops a R H<;>rfl
 |i::is,R,H=>by
  simp only[List.cons_append,canRun];cases ops[i]? with
  |none=>rfl
  |some o=>
   simp only
   cases fi P call ops o R H with
   |none=>rfl
   |some k=>
    simp only
    cases R.put o.dst k.val with
    |none=>rfl
    |some a7=>
     simp only
     rw[rJ a is a7 (k.heap H)];cases canRun P call ops is a7 (k.heap H)with
     |none=>rfl
     |some p=>
      simp only[Option.bind_some];cases canRun P call ops a p.2.1 p.2.2<;>rfl
def El{b a i:Nat}{K:Act->World->Prop}{c:Act}{w:World}(h:wpOp P (fK ops b a) Q i K c w):wpOp P ops Q i K c w:=by
 unfold wpOp at h ⊢;rw[jS]at h;have d:yielded (fK ops b a) c.tmps=yielded ops c.tmps:=by
  funext j
  unfold yielded;rw[jS];cases ops[j]? with
  |none=>rfl
  |some q=>simp only[Option.map_some,Option.bind_some,(m9 b a j q).2.1]
 rw[d]at h;cases aR:ops[i]? with
 |none=>rw[aR]at h;exact h
 |some o=>
  rw[aR]at h;simp only[Option.map_some]at h;unfold iY at h;split at h<;>exact h
def Bs{b a:Nat}{d:Array Bool}(c:d.size=ops.size)(e:cR d a=C){i:Nat}:i∈Region.ready .any (fK ops b a) d↔i∈Region.ready .any ops d:=by
 constructor
 ·intro h;obtain⟨o,af,ah,an,aM⟩:=nU h (by rw[k0];exact c);rw[jS]at af;obtain⟨q,aN,rfl⟩:=Option.map_eq_some_iff.1 af;exact wv aN ah (Eg an) c
 ·intro h;obtain⟨o,af,ah,an,aM⟩:=nU h c;exact wv (by rw[jS,af];rfl) ah (y3 an λ_=>e) (by rw[k0];exact c)
def Ek{b a:Nat}:∀(fuel:Nat) {f:Array Bool} {c:Act} {w:World},f.size=ops.size->cR f a=C->wpAny P .any (fK ops b a) Q fuel f c w->wpAny P .any ops Q fuel f c w
 |0,f,c,w,d,g,h=>by
  refine⟨?_,h.2⟩;rw[List.eq_nil_iff_forall_not_mem];intro i e;have:=(Bs (b:=b) d g).2 e;rw[h.1]at this;simp at this
 |fuel+1,f,c,w,d,g,h=>by
  refine⟨λau=>h.1 ?_,λi e=> ?_⟩
  ·rw[List.eq_nil_iff_forall_not_mem];intro i e;have:=(Bs d g).1 e;rw[au]at this;simp at this
  ·refine wpOp_mono (λj k bY=>Ek fuel (by simpa using d) ?_ bY) (El (h.2 i ((Bs d g).2 e)));obtain⟨o,_,_,_,aM⟩:=nU e d;rw[nJ (by rw[d];exact aM)];split
   ·rfl
   ·exact g
def kk(c5:ba)(H0:ad)(T:List bA)(N:Nat)(ρ0:Env)(w0:World)(L:Nat->Bool)(a:Act)(w:World):Prop:=∃ρ T1 T2,T=T1++T2/\(∀t∈T1,t.k.eQ=C->L t.i=C)/\(∀t∈T2,(∃v H,t.k= .cN v H)->L t.i=Z)/\ fx ρ0 H0 w0 N (dK L T2 (cz T1 H0)) ρ (cz T1 H0) w/\∃b:ba,dX ρ b a/\b.size=c5.size/\∀d,b.get d=fq L d T (c5.get d)
def Am(b a:Nat):∀(T:List bA) (H:ad),cz (T.map (iZ b a)) H=cz T H
 |[],_=>rfl
 |t::T,H=>Am b a T (t.k.heap H)
def wh(b a:Nat)(L:Nat->Bool):∀(T:List bA) (H:ad),dK L (T.map (iZ b a)) H=dK L T H
 |[],_=>rfl
 |t::T,H=>by
  funext l
  simp only[List.map_cons,dK,iZ];cases c:t.k with
  |new v e9=>simp only[wh b a L T (H.push e9)]
  |_=>exact congrFun (wh b a L T _) l
def Bt(b a:Nat)(L:Nat->Bool)(d:Nat):∀(T:List bA) (v:ae),fq L d (T.map (iZ b a)) v=fq L d T v
 |[],_=>rfl
 |t::T,v=>by
  simp only[List.map_cons,fq,iZ,(m9 b a t.i t.o).2.1];exact Bt b a L d T _
def kk.up{b a:Nat}{N:Nat}{L:Nat->Bool}{c:Act}{w:World}(h:kk c5 H0 T N ρ0 w0 L c w):kk c5 H0 (T.map (iZ b a)) N ρ0 w0 L c w:=by
 obtain⟨ρ,T1,T2,rfl,af,ah,an,f,g,i,j⟩:=h;refine⟨ρ,T1.map (iZ b a),T2.map (iZ b a),by simp,λt a1 e=> ?_,λt a1 e=> ?_,?_,f,g,i,λd=> ?_⟩
 ·obtain⟨u,hu,rfl⟩:=List.mem_map.1 a1;exact af u hu e
 ·obtain⟨u,hu,rfl⟩:=List.mem_map.1 a1;exact ah u hu e
 ·rw[Am,wh];exact an
 ·rw[Bt];exact j d
def kk.down{b a:Nat}{N:Nat}{L:Nat->Bool}{c:Act}{w:World}(h:kk c5 H0 (T.map (iZ b a)) N ρ0 w0 L c w):kk c5 H0 T N ρ0 w0 L c w:=by
 obtain⟨ρ,T1,T2,e,af,ah,an,g,i,j,k⟩:=h;obtain⟨et,g6,rfl,rfl,rfl⟩:=List.map_eq_append_iff.1 e;refine⟨ρ,et,g6,rfl,λt a1 f=>af (iZ b a t) (List.mem_map.2 ⟨t,a1,rfl⟩) f,λt a1 f=>ah (iZ b a t) (List.mem_map.2 ⟨t,a1,rfl⟩) f,?_,g,i,j,λd=> ?_⟩
 ·rw[Am,wh]at an;exact an
 ·have:=k d;rwa[Bt]at this
def Bm{L:Nat->Bool}:∀{zD:List bA} {H:ad},(∀t∈zD,∀v b,t.k≠ .new v b)->dK L zD H=λ_=>I
 |[],_,_=>rfl
 |t::zD,H,h=>by
  rw[qu (h t (by simp))];exact Bm λu hu=>h u (by simp[hu])
def Bk{L:Nat->Bool}{zD D':List bA}(h:∀t∈zD,∀v b,t.k≠ .new v b)(bY:∀t∈D',∀v b,t.k≠ .new v b):∀{zC:List bA} {H:ad},dK L (zC++zD) H=dK L (zC++D') H
 |[],H=>by rw[List.nil_append,List.nil_append,Bm h,Bm bY]
 |t::zC,H=>by
  funext l
  simp only[List.cons_append,dK];cases a:t.k with
  |new v e9=>simp only[Bk h bY (zC:=zC) (H:=H.push e9)]
  |_=>exact congrFun (Bk h bY (zC:=zC)) l
def kk.swap{A M:List bA}{ta tb ta2 tb2:bA}{N:Nat}{L:Nat->Bool}{c:Act}{w:World}(q:∀t∈M,t.k.eQ=Z)(j:∃v H,ta.k= .cN v H)(n:∃v H,tb.k= .cN v H)(m:∃v H,ta2.k= .cN v H)(p:∃v H,tb2.k= .cN v H)
  (P:ta2.i=ta.i) (Q:tb2.i=tb.i) (z:ta.o.dst=I) (E:tb.o.dst=I) (B:ta2.o.dst=I) (G:tb2.o.dst=I) (c9:L ta.i=Z) (R:L tb.i=Z) (h:kk c5 H0 (A++ta::(M++[tb])) N ρ0 w0 L c w):kk c5 H0 (A++(M++[tb2,ta2])) N ρ0 w0 L c w:=by
 obtain⟨ρ,T1,T2,e,af,ah,an,u,S,T,U⟩:=h;obtain⟨ao,V,j⟩:=j;obtain⟨bD,Y,n⟩:=n;obtain⟨ab,W,m⟩:=m;obtain⟨ad,aa,p⟩:=p;obtain⟨zC,K,O⟩:∃zC,A=T1++zC/\T2=zC++ta::(M++[tb]):=by
  rcases List.append_eq_append_iff.1 e with⟨x,g,f⟩|⟨x,g,f⟩
  ·cases x with
   |nil=>rw[List.append_nil]at g;exact⟨[],by rw[g,List.append_nil],by rw[List.nil_append]at f;rw[<-f,List.nil_append]⟩
   |cons y x=>
    simp only[List.cons_append,List.cons.injEq]at f;obtain⟨rfl,_⟩:=f;have:=af ta (by rw[g];simp) (by rw[j];rfl);rw[c9]at this;cases this
  ·exact⟨x,g,f⟩
 subst K;subst O;have s:∀t∈M,∀v b,t.k≠ .new v b:=λt a1 v b e=>by have:=q t a1;rw[e]at this;cases this
 refine⟨ρ,T1,zC++(M++[tb2,ta2]),by simp,af,λt a1 r=> ?_,?_,u,S,T,λd=> ?_⟩
 ·simp only[List.mem_append,List.mem_cons,List.not_mem_nil,or_false]at a1;rcases a1 with a1|a1|rfl|rfl
  ·exact ah t (by simp[a1]) r
  ·obtain⟨v,H,e⟩:=r;have:=q t a1;rw[e]at this;cases this
  ·rw[Q];exact R
  ·rw[P];exact c9
 ·rw[Bk (D':=ta::(M++[tb]))]
  ·exact an
  ·intro t a1 v b a;simp only[List.mem_append,List.mem_cons,List.not_mem_nil,or_false]at a1;rcases a1 with a1|rfl|rfl
   ·exact s t a1 v b a
   ·rw[p]at a;cases a
   ·rw[m]at a;cases a
  ·intro t a1 v b a;simp only[List.mem_append,List.mem_cons,List.not_mem_nil,or_false]at a1;rcases a1 with rfl|a1|rfl
   ·rw[j]at a;cases a
   ·exact s t a1 v b a
   ·rw[n]at a;cases a
 ·rw[U d];have aH:∀{x:ae} {t:bA},t.o.dst=I->∀{l:List bA},fq L d (t::l) x=fq L d l x:=λa1=>by
   intro l;simp only[fq,a1];rw[if_neg (by simp)]
  rw[mU,mU,mU,mU,aH z,mU,mU,aH E,aH G,aH B]
def ac4{a b:Nat}{W Y:List Nat}{T1 T2:List bA}{x:ba}(O:a≠b)(a8:Ctx P call (fK ops b a) W c5 H0 T1 bf cV)(bo:Ctx P call (fK ops a b) Y c5 H0 T2 x cV)(n:ed E P call)(l:E.le ρ0)
  (U:∀L c w,L a=Z->L b=Z->kk c5 H0 T1 cV.next ρ0 w0 L c w->kk c5 H0 T2 cV.next ρ0 w0 L c w) (N:x=bf) (s:∀ρ a w,dX ρ bf a->Step ρ0 H0 w0 ρ cV w->Q .normal a w):
  ∀(fuel:Nat) (d:Array Bool) (c:Act) (w:World),Inv (fK ops b a) c5 H0 T1 cV.next ρ0 w0 d c w->cR d a=Z->cR d b=Z->(List.range ops.size).countP (λj=> !cR d j)<=fuel->wpAny P .any ops Q fuel d c w:=by
 subst N;have B:∀d c w,Inv (fK ops b a) c5 H0 T1 cV.next ρ0 w0 d c w->Region.ready .any ops d=[]->Q .normal c w:=by
  intro d c w f au;have g:d.size=ops.size:=by have:=f.size;rwa[k0]at this
  have T:Region.ready .any (fK ops b a) d=[]:=by
   rw[List.eq_nil_iff_forall_not_mem];intro i k;obtain⟨o,af,ah,an,aM⟩:=nU k f.size;rw[jS]at af;obtain⟨q,aN,rfl⟩:=Option.map_eq_some_iff.1 af;have:=wv aN ah (Eg an) g;rw[au]at this;simp at this
  obtain⟨ρ,af,ah⟩:=a8.final f (a8.EW f.size T);exact s ρ c w af ah
 intro fuel
 induction fuel with
 |zero=>
  intro d c w f _ _ z;have g:d.size=ops.size:=by have:=f.size;rwa[k0]at this
  have au:Region.ready .any ops d=[]:=by
   rw[List.eq_nil_iff_forall_not_mem];intro i k;obtain⟨o,af,ah,an,aM⟩:=nU k g;have aa:0<(List.range ops.size).countP (λj=> !cR d j):=List.countP_pos_iff.2 ⟨i,by simpa using aM,by simp[ah]⟩;omega
  exact⟨au,B _ _ _ f au⟩
 |succ fuel V=>
  intro d c w f c9 K z;have g:d.size=ops.size:=by have:=f.size;rwa[k0]at this
  refine⟨λau=>B _ _ _ f au,λi k=> ?_⟩;obtain⟨o,aR,al,hw,p⟩:=nU k g;have H:i<d.size:=by rw[g];exact p
  have t:=count_set H p al z;have m:∀j,cR (d.setIfInBounds i C) j=if j=i then C else cR d j:=λj=>nJ H j
  by_cases r:i=b
  ·
    subst r;have R:Inv (fK ops a i) c5 H0 T2 cV.next ρ0 w0 d c w:=by
     refine⟨by rw[k0];exact g,λj q G u=> ?_,U _ _ _ c9 K f.mid⟩;rw[jS]at G;obtain⟨ab,S,rfl⟩:=Option.map_eq_some_iff.1 G;have M:=f.closed j _ (by rw[jS,S];rfl) u;refine y3 (Eg M) λe=> ?_
     subst e;rw[c9]at u;cases u
    refine El (b:=a) (a:=i) (bo.step n l R (by rw[jS,aR];rfl) al (y3 hw λe=>absurd e.symm O) (by rw[k0];exact p) λb8 v h=> ?_);refine Ek fuel (by simpa using g) (by rw[m,if_pos rfl]) (bo.any n l s fuel _ b8 v h ?_);rw[k0];exact t
  ·refine El (b:=b) (a:=a) (a8.step n l f (by rw[jS,aR];rfl) al (y3 hw λe=>absurd e r) (by rw[k0];exact p) λb8 v h=> ?_);by_cases y:i=a
   ·subst y;refine Ek fuel (by simpa using g) (by rw[m,if_pos rfl]) (a8.any n l s fuel _ b8 v h ?_);rw[k0];exact t
   ·exact V _ _ _ h (by rw[m,if_neg (Ne.symm y)];exact c9) (by rw[m,if_neg (Ne.symm r)];exact K) t
def js(ops:Array Oper)(a:Nat):Option (TypeId×Operand×Operand):=match ops[a]? with
 |some o=>(match o.op,o.guard,o.dst with
  | .store t x y,I,I=>D (t,x,y)
  |_,_,_=>I)
 |none=>I
def nz(ms:List Nat)(ops:Array Oper):List Nat->List Nat->Bool
 |[],_=>C
 |i::is,ids=>match ops[i]? with
  |some o=>(match cls o.op with
   | .new=>nz ms ops is (i::ids)
   | .write=>ids.all (λj=>ca ms j i)&&nz ms ops is (i::ids)
   | .call=>ids.all (λj=>ca ms j i)&&nz ms ops is (i::ids)
   |_=>nz ms ops is ids)
  |none=>C
def J7(ops:Array Oper)(ord:List Nat)(a b:Nat):Bool:=ord.all λi=>match ops[i]? with
 |some o=>(match cls o.op with
  | .read=>ca (b9 ops) i a&&(ca (b9 ops) i b&& !ca (b9 ops) a i)
  | .both=>ca (b9 ops) i a&&(ca (b9 ops) i b&& !ca (b9 ops) a i)
  |_=>C)
 |none=>C
def we(ops:Array Oper)(ord:List Nat):Bool:=o2 ops (b9 ops) ord&&nz (b9 ops) ops ord []
def aa8{o:Op}{R:ba}{H:ad}{v:ae}{H':ad}(h:g2 P call o R H=D (.cN v H')):cls o= .write\/cls o= .call:=by
 unfold g2 at h;split at h
 ·unfold l7 at h;split at h<;>cases h
 ·unfold kz at h;split at h<;>cases h
 ·split at h
  ·cases h
  ·unfold kz at h;split at h<;>cases h
 ·unfold r6 at h;split at h<;>cases h
 ·rename_i aq;exact .inl aq
 ·rename_i aq;exact .inr aq
def aa_{o:Op}{R:ba}{H:ad}{v:ae}{b:bn}(h:g2 P call o R H=D (.new v b)):cls o= .new:=by
 unfold g2 at h;split at h
 ·unfold l7 at h;split at h<;>cases h
 ·unfold kz at h;split at h<;>cases h
 ·split at h
  ·cases h
  ·unfold kz at h;split at h<;>cases h
 ·rename_i aq;exact aq
 ·unfold jH at h;split at h
  ·split at h<;>cases h
  ·cases h
 ·split at h
  ·split at h
   ·unfold jH at h;split at h
    ·split at h<;>cases h
    ·cases h
   ·cases h
  ·cases h
def abb{o:Op}{R:ba}{H:ad}{v:ae}(h:g2 P call o R H=D (.read v)):cls o= .read\/cls o= .both:=by
 unfold g2 at h;split at h
 ·unfold l7 at h;split at h<;>cases h
 ·rename_i aq;exact .inl aq
 ·rename_i aq;exact .inr aq
 ·unfold r6 at h;split at h<;>cases h
 ·unfold jH at h;split at h
  ·split at h<;>cases h
  ·cases h
 ·split at h
  ·split at h
   ·unfold jH at h;split at h
    ·split at h<;>cases h
    ·cases h
   ·cases h
  ·cases h
def Av{o:Oper}{R:ba}{H:ad}{k:K}(h:fi P call ops o R H=D k)(a:k≠ .skip):g2 P call o.op R H=D k:=by
 unfold fi at h;split at h
 ·exact h
 ·simp only[bb]at h;exact absurd h.symm a
def p9{ms:List Nat}:∀{is:List Nat} {R:ba} {H:ad} {T:List bA} {a7:ba} {H':ad} {ids e:List Nat},canRun P call ops is R H=D (T,a7,H')->nz ms ops is ids=C->(∀j∈e,j∈ids)->jh ms T e=C
 |[],R,H,T,a7,H',ids,e,h,_,_=>by
  simp only[canRun,bb,cK]at h;rw[<-h.1];rfl
 |i::is,R,H,T,a7,H',ids,e,h,c,d=>by
  simp only[canRun]at h;split at h
  ·cases h
  ·rename_i o aR;split at h
   ·cases h
   ·rename_i k n;split at h
    ·cases h
    ·rename_i r _;split at h
     ·cases h
     ·rename_i T1 s p f;simp only[bb,cK]at h;obtain⟨rfl,rfl,rfl⟩:=h;simp only[nz,aR]at c;have sub:∀j∈i::e,j∈i::ids:=λj a=>by
       rcases List.mem_cons.1 a with rfl|a
       ·simp
       ·simp[d j a]
      have t:∀j∈e,j∈i::ids:=λj a=>by simp[d j a]
      have aV:∃g,nz ms ops is g=C/\(∀j∈ids,j∈g):=by
       split at c
       ·exact⟨_,c,λj a=>by simp[a]⟩
       ·simp only[Bool.and_eq_true]at c;exact⟨_,c.2,λj a=>by simp[a]⟩
       ·simp only[Bool.and_eq_true]at c;exact⟨_,c.2,λj a=>by simp[a]⟩
       ·exact⟨_,c,λj a=>a⟩
      simp only[jh];cases k with
      |cN v q=>
       have aq:=aa8 (Av n (by simp));simp only[Bool.and_eq_true];rcases aq with aq|aq<;>
       ·rw[aq]at c;simp only[Bool.and_eq_true,List.all_eq_true]at c;refine⟨?_,p9 f c.2 sub⟩;rw[List.all_eq_true];exactλj a=>c.1 j (d j a)
      |new v b=>
       have aq:=aa_ (Av n (by simp));rw[aq]at c;exact p9 f c sub
      |pure v=>obtain⟨g,l,m⟩:=aV;exact p9 f l λj a=>m j (d j a)
      |read v=>obtain⟨g,l,m⟩:=aV;exact p9 f l λj a=>m j (d j a)
      |skip=>obtain⟨g,l,m⟩:=aV;exact p9 f l λj a=>m j (d j a)
def od(P:Program)(ms:List Nat)(cE:Nat->Bool)(T:List bA)(H:ad):List bA->Bool
 |[]=>C
 |t::ts=>(match t.k with
  | .read v=>cE t.i||fS ms (kb P t.o.op t.R v) t.i T H
  |_=>C)&&od P ms cE T H ts
def MV{ms:List Nat}{cE:Nat->Bool}{T:List bA}{H:ad}{t:bA}{v:ae}(a1:t.k= .read v):∀{ts:List bA},od P ms cE T H ts=C->t∈ts->cE t.i=C\/fS ms (kb P t.o.op t.R v) t.i T H=C
 |[],_,hm=>by simp at hm
 |u::ts,h,hm=>by
  simp only[od,Bool.and_eq_true]at h;rcases List.mem_cons.1 hm with rfl|hm
  ·have:=h.1;rw[a1]at this;simpa using this
  ·exact MV a1 h.2 hm
def MT{ms:List Nat}{cE:Nat->Bool}{T:List bA}{H:ad}:∀{ts:List bA},(∀t∈ts,∀v,t.k= .read v->cE t.i=C\/fS ms (kb P t.o.op t.R v) t.i T H=C)->kS P ms cE T H ts=C
 |[],_=>rfl
 |t::ts,h=>by
  simp only[kS,Bool.and_eq_true];refine⟨?_,MT λu hu=>h u (by simp[hu])⟩;cases a:t.k with
  |read v=>
   simp only[Bool.or_eq_true];refine(h t (by simp) v a).imp id λhw=> ?_
   unfold po;cases nw ms t.i T Z with
   |true=>rw[gP,hw];rfl
   |false=>rw[jY,hw]
  |_=>rfl
def Gk{ops:Array Oper}{ord:List Nat}(h:we ops ord=C)(dh:canRun P call ops ord c5 H0=D (T,bf,cV))(hw:∀t∈T,∀v,t.k= .read v->ik ops (b9 ops) ord t.i=C\/fS (b9 ops) (kb P t.o.op t.R v) t.i T H0=C):Ctx P call ops ord c5 H0 T bf cV:=by
 unfold we at h;simp only[Bool.and_eq_true]at h;exact⟨dh,h.1,p9 dh h.2 λj a=>a,MT hw⟩
def WM{ord:List Nat}(dh:canRun P call ops ord c5 H0=D (T,bf,cV)){t:bA}(a1:t∈T){v:ae}(d:t.k= .read v):t.i∈ord/\ops[t.i]? =D t.o/\(cls t.o.op= .read\/cls t.o.op= .both):=by
 obtain⟨A,B,c⟩:=List.append_of_mem a1;obtain⟨b,_,a,_⟩:=u4 (by rw[<-c];exact dh);rw[d]at a;exact⟨by rw[<-(kv dh).1,List.mem_map];exact⟨t,a1,rfl⟩,b,abb (Av a (by simp))⟩
def z6{acc:List Nat}{j:Nat}{e:Edge}:∀{es:List Edge},e∈es->Region.binds .any e=C->(acc[e.on]?.getD 0).testBit j=C->(j0 acc es).testBit j=C
 |[],h,_,_=>by simp at h
 |d::es,h,a,b=>by
  unfold j0;rcases List.mem_cons.1 h with rfl|h
  ·rw[if_pos a];simp[b]
  ·split
   ·simp[z6 h a b]
   ·exact z6 h a b
def U5(ops:Array Oper):(b9 ops).length=ops.size:=by
 have hlen:∀(os:List Oper) (acc:List Nat),(kC os acc).length=acc.length+os.length:=by
  intro os
  induction os with
  |nil=>intro acc;simp[kC]
  |cons o os a=>intro acc;simp[kC,a];omega
 unfold b9;rw[hlen];simp
def u1(b a:Nat):∀(i j:Nat),ca (b9 ops) j i=C->ca (b9 (fK ops b a)) j i=true:=by
 intro i
 induction i using Nat.strongRecOn with
 |_ i g=>
  intro j c;cases aR:ops[i]? with
  |none=>
   unfold ca at c;have:ops.size<=i:=by simpa using aR
   rw[List.getElem?_eq_none (by rw[U5];exact this)]at c;simp at c
  |some o=>
   unfold ca at c ⊢;rw[vS aR]at c;rw[vS (show(fK ops b a)[i]? =D (iY b a i o) by rw[jS,aR];rfl)];simp only[Option.getD_some]at c ⊢;obtain⟨e,af,ah,an⟩:=ve c;have f:e∈(iY b a i o).after.toList:=by
    unfold iY;split
    ·simp;exact .inl (by simpa using af)
    ·exact af
   rcases an with rfl|an
   ·exact vf f ah
   ·refine z6 f ah ?_;rcases Nat.lt_or_ge e.on i with d|h
    ·rw[List.getElem?_take_of_lt d]at an ⊢;exact g e.on d j an
    ·rw[List.getElem?_eq_none (by simp;omega)]at an;simp at an
def Mf{b a:Nat}{ord c:List Nat}{i:Nat}(h:ik ops (b9 ops) ord i=C)(e:∀j∈c,j∈ord):ik (fK ops b a) (b9 (fK ops b a)) c i=true:=by
 unfold ik at h ⊢;rw[List.all_eq_true]at h ⊢;intro j d;have af:=h j (e j d);simp only[Bool.or_eq_true,beq_iff_eq]at af ⊢;rcases af with((af|af)|af)|af
 ·exact .inl (.inl (.inl af))
 ·refine .inl (.inl (.inr ?_));rw[jS];cases aR:ops[j]? with
  |none=>rfl
  |some o=>rw[aR]at af;simp only[Option.map_some,(m9 b a j o).1];exact af
 ·exact .inl (.inr (u1 b a _ _ af))
 ·exact .inr (u1 b a _ _ af)
def y5{ms ms':List Nat}{b a:Nat}(hm:∀i j,ca ms j i=C->ca ms' j i=C){rd:ad->Bool}{i:Nat}:∀{T:List bA} {H:ad},fS ms rd i T H=C->fS ms' rd i (T.map (iZ b a)) H=C
 |[],H,h=>h
 |t::T,H,h=>by
  simp only[List.map_cons,fS,iZ]at h ⊢;split at h
  ·rename_i c;rw[if_pos c];simp only[Bool.and_eq_true,Bool.or_eq_true]at h ⊢;exact⟨h.1.imp (hm _ _) id,h.2.imp (hm _ _) (y5 hm)⟩
  ·rename_i c;rw[if_neg c];exact y5 hm h
def Ej{ms:List Nat}{rd:ad->Bool}{i:Nat}{ta tb:bA}{zX W M:List bA}(b:ta.k.eQ=C)(c:tb.k.eQ=C)(a:∀t∈M,t.k.eQ=Z)(af:ca ms ta.i i=Z)(ah:ca ms i tb.i=C):∀{A:List bA} {H:ad},fS ms rd i (A++ta::zX) H=C->fS ms rd i (A++(M++tb::W)) H=C
 |[],H,h=>by
  simp only[List.nil_append,fS,b,if_true,af,Bool.false_or,Bool.and_eq_true]at h;have key:∀{M:List bA},(∀t∈M,t.k.eQ=Z)->fS ms rd i (M++tb::W) H=true:=by
   intro M
   induction M with
   |nil=>intro _;simp only[List.nil_append,fS,c,if_true,h.1,ah,Bool.or_true,Bool.true_or,Bool.and_self]
   |cons t M e=>
    intro a;simp only[List.cons_append,fS];rw[if_neg (by rw[a t (by simp)];simp)];exact e λu hu=>a u (by simp[hu])
  exact key a
 |t::A,H,h=>by
  simp only[List.cons_append,fS]at h ⊢;split at h
  ·rename_i d;rw[if_pos d];simp only[Bool.and_eq_true,Bool.or_eq_true]at h ⊢;exact⟨h.1,h.2.imp id (Ej b c a af ah)⟩
  ·rename_i d;rw[if_neg d];exact Ej b c a af ah h
def Bo(ops:Array Oper)(xs:List Operand)(i:Nat):Bool:=match ops[i]? with
 |some o=>(match cls o.op,o.guard,o.dst with
  | .pure,I,D d=>xs.all λx=>match x with
   | .tmp t=>t != d
   |_=>C
  | .pure,I,I=>C
  |_,_,_=>Z)
 |none=>Z
def FK{xs:List Operand}:∀{is:List Nat} {R:ba} {H:ad} {M:List bA} {b:ba} {f:ad},is.all (Bo ops xs)=C->canRun P call ops is R H=D (M,b,f)->f=H/\(∀t∈M,t.k.eQ=Z)/\(∀H',canRun P call ops is R H'=D (M,b,H'))/\∀x∈xs,b4 b x=b4 R x
 |[],R,H,M,b,f,_,h=>by
  simp only[canRun,bb,cK]at h;obtain⟨rfl,rfl,rfl⟩:=h;exact⟨rfl,λt a1=>by simp at a1,λH'=>rfl,λ_ _=>rfl⟩
 |i::is,R,H,M,b,f,m,h=>by
  simp only[List.all_cons,Bool.and_eq_true]at m;obtain⟨a,s⟩:=m;simp only[canRun]at h;split at h
  ·cases h
  ·rename_i o aR;unfold Bo at a;rw[aR]at a;simp only at a;have r:cls o.op= .pure/\o.guard=I/\∀d,o.dst=D d->∀x∈xs,∀t,x= .tmp t->t≠d:=by
    split at a
    ·rename_i d aq aP c;refine⟨aq,aP,λp e x aA t a1=> ?_⟩;rw[c]at e;cases e;rw[List.all_eq_true]at a;have:=a x aA;rw[a1]at this;simpa using this
    ·rename_i aq aP c;exact⟨aq,aP,λp e=>by rw[c]at e;cases e⟩
    ·cases a
   obtain⟨a8,bo,bJ⟩:=r;have l:∀H',fi P call ops o R H'=l7 (iE P o.op R):=λH'=>by
    unfold fi je;rw[bo];simp only[g2,a8]
   rw[l]at h;cases g:iE P o.op R with
   |none=>rw[g]at h;cases h
   |some v=>
    rw[g]at h;simp only[l7]at h;split at h
    ·cases h
    ·rename_i n j;split at h
     ·cases h
     ·rename_i T1 G E u;simp only[bb,cK]at h;obtain⟨rfl,rfl,rfl⟩:=h;obtain⟨w,y,z,B⟩:=FK s u;refine⟨w,λt a1=> ?_,λH'=> ?_,λx aA=> ?_⟩
      ·rcases List.mem_cons.1 a1 with rfl|a1
       ·rfl
       ·exact y t a1
      ·have q:R.put o.dst v=D n:=j;simp only[canRun,aR,l,g,l7,K.val,q,K.heap];rw[z H']
      ·rw[B x aA];cases x with
       |tmp t=>
        simp only[b4];rw[ba.qe j t];split
        ·rename_i c;exact absurd rfl (bJ t c _ aA t rfl)
        ·rfl
       |_=>rfl
def zB{H H':ad}{t:TypeId}{u v:ae}(h:cD P H t u v=D H'):∃l i c b,u= .ptr l i c/\l<H.next/\H'=H.set l b/\∀a:ad,a.get l=H.get l->cD P a t u v=D (a.set l b):=by
 unfold cD at h;split at h
 ·rename_i l i c;split at h
  ·rename_i esz els aP;split at h
   ·rename_i e he;split at h
    ·rename_i aq;simp only[bb]at h;exact⟨l,i,c,_,rfl,ad.bE aP,h.symm,λa ah=>by simp only[cD,ah,aP,he];rw[if_pos aq]⟩
    ·cases h
   ·cases h
  ·rename_i d esz els aP;split at h
   ·rename_i e he;split at h
    ·rename_i aq;simp only[bb]at h;exact⟨l,i,c,_,rfl,ad.bE aP,h.symm,λa ah=>by simp only[cD,ah,aP,he];rw[if_pos aq]⟩
    ·cases h
   ·cases h
  ·cases h
 ·cases h
def aax{a:Nat}{t:TypeId}{x y:Operand}(h:js ops a=D (t,x,y)):∃o,ops[a]? =D o/\o.op= .store t x y/\o.guard=I/\o.dst=none:=by
 unfold js at h;split at h
 ·rename_i o aR;split at h
  ·rename_i af ah an;simp only[bb,cK]at h;obtain⟨rfl,rfl,rfl⟩:=h;exact⟨o,aR,af,ah,an⟩
  ·cases h
 ·cases h
def u5{a:Nat}{t:TypeId}{x y:Operand}(h:js ops a=D (t,x,y))(is:List Nat)(R:ba)(H:ad):∃o,ops[a]? =D o/\o.dst=I/\canRun P call ops (a::is) R H=((b4 R x).bind λu=>(b4 R y).bind λv=>cD P H t u v).bind λH'=>(canRun P call ops is R H').map λp=>(⟨a,o,R,.cN (.tuple []) H'⟩::p.1,p.2):=by
 obtain⟨o,af,ah,an,aM⟩:=aax h;refine⟨o,af,aM,?_⟩;have d:fi P call ops o R H=jH H (ku P (.store t x y) R H):=by
  unfold fi je;rw[an,ah];simp only[g2,cls]
 simp only[canRun,af,d,ku];cases hu:b4 R x with
 |none=>rfl
 |some u=>
  simp only[Option.bind_some];cases f:b4 R y with
  |none=>rfl
  |some v=>
   simp only[Option.bind_some];cases e:cD P H t u v with
   |none=>rfl
   |some H'=>
    obtain⟨l,i,c,b,_,_,rfl,_⟩:=zB e;simp only[Option.map_some,jH,ad.vW,bC,if_true,aM,ba.put,K.heap,Option.bind_some];cases canRun P call ops is R (H.set l b)with
    |none=>rfl
    |some p=>rfl
def vL(R:ba)(x:Operand):Option Nat:=match b4 R x with
 |some (.ptr l _ _)=>D l
 |_=>I
def yT(ops:Array Oper)(ord pre:List Nat)(a:Nat)(mid:List Nat)(b:Nat):Bool:=
 match js ops a,js ops b with
 |some (_,c,d),D _=>decide (ord=pre++a::(mid++[b]))&&(decide (a≠b)&&(mid.all (Bo ops [c,d])&&(J7 ops ord a b&&(we (fK ops b a) ord&&we (fK ops a b) (pre++(mid++[b,a]))))))
 |_,_=>Z
def q9(ops:Array Oper)(a b:Nat)(R:ba):Bool:=
 match js ops a,js ops b with
 |some (_,c,_),D (_,aU,_)=>(match vL R c,vL R aU with
  |some l,D m=> !Nat.beq l m
  |_,_=>Z)
 |_,_=>Z
def abn{id a b:Nat}{ord pre mid:List Nat}{act:Act}{w:World}(hm:P.follows .mixedOrders=C)(aV:ed E P call)(p:yT ops ord pre a mid b=C)(K:canRun P call ops ord c5 H0=D (T,bf,cV))(G:q9 ops a b bf=C)(bh:od P (b9 ops) (ik ops (b9 ops) ord) T H0 T=C)
  (aS:Rel ρ0 H0 w) (az:iu E ρ0 H0.next cV.next) (au:dX ρ0 c5 act) (aR:∀ρ a U,dX ρ bf a->Step ρ0 H0 w ρ cV U->Q .normal a U):(Code.region id ops C).wp P Q act w:=by
 unfold yT at p;unfold q9 at G;cases N:js ops a with
 |none=>rw[N]at p;cases p
 |some bm=>
 obtain⟨bJ,ay,aA⟩:=bm;cases aa:js ops b with
 |none=>rw[N,aa]at p;cases p
 |some bn=>
 obtain⟨bK,aU,bN⟩:=bn;rw[N,aa]at p G;simp only[Bool.and_eq_true,decide_eq_true_eq]at p G;obtain⟨a6,aT,aY,ag,aZ,a0⟩:=p;subst a6;have am:=K;rw[rJ]at K;obtain⟨⟨A,z,H1⟩,aN,K⟩:=dY.1 K;obtain⟨⟨bu,bF,bB⟩,B,he⟩:=Option.map_eq_some_iff.1 K;simp only[cK]at he;obtain⟨rfl,rfl,rfl⟩:=he;simp only at B;obtain⟨r,a2,ai,aF⟩:=u5 (P:=P) (call:=call) N (mid++[b]) z H1;rw[aF]at B;obtain⟨bx,O,B⟩:=dY.1 B;obtain⟨⟨c6,bC,bv⟩,V,he⟩:=Option.map_eq_some_iff.1 B;simp only[cK]at he;obtain⟨rfl,rfl,rfl⟩:=he;rw[rJ]at V;obtain⟨⟨M,f,aC⟩,aQ,V⟩:=dY.1 V;obtain⟨⟨b_,bE,bw⟩,x,he⟩:=Option.map_eq_some_iff.1 V;simp only[cK]at he;obtain⟨rfl,rfl,rfl⟩:=he
 simp only at x;obtain⟨rfl,aw,bj,ax⟩:=FK aY aQ;obtain⟨s,a4,aj,aH⟩:=u5 (P:=P) (call:=call) aa [] f aC;rw[aH]at x;obtain⟨bz,S,x⟩:=dY.1 x;simp only[canRun,Option.map_some,bb,cK]at x;obtain⟨rfl,rfl,rfl⟩:=x;obtain⟨bL,bc,O⟩:=dY.1 O;obtain⟨ao,bd,O⟩:=dY.1 O;obtain⟨bM,ar,S⟩:=dY.1 S;obtain⟨bD,bg,S⟩:=dY.1 S;obtain⟨c9,bi,aE,n,rfl,bH,rfl,aJ⟩:=zB O;obtain⟨g,bI,bG,m,rfl,aX,rfl,aK⟩:=zB S;have ap:b4 f ay=D (.ptr c9 bi aE):=(ax ay (by simp)).trans bc;have be:b4 f aA=D ao:=(ax aA (by simp)).trans bd;have ae:c9≠g:=by
  simp only[vL,ap,ar]at G;intro e;subst e;simp at G
 simp only[ad.vW]at aX;have bt:=aK H1 (by rw[ad.cb ae]);have bs:=aJ (H1.set g m) (by rw[ad.cb (Ne.symm ae)]);have aW:(H1.set g m).set c9 n=(H1.set c9 n).set g m:=(ad.set_comm ae).symm;have a9:canRun P call ops (pre++(mid++[b,a])) c5 H0=D (A++(M++[⟨b,s,f,.cN (.tuple []) (H1.set g m)⟩,⟨a,r,f,.cN (.tuple []) ((H1.set c9 n).set g m)⟩]),f,(H1.set c9 n).set g m):=by
  obtain⟨bk,a3,_,aG⟩:=u5 (P:=P) (call:=call) N [] f (H1.set g m);obtain rfl:bk=r:=Option.some.inj (a3.symm.trans a2);obtain⟨bl,a5,_,aI⟩:=u5 (P:=P) (call:=call) aa [a] f H1;obtain rfl:bl=s:=Option.some.inj (a5.symm.trans a4);rw[rJ,aN];simp only[Option.bind_some];rw[rJ,bj H1];simp only[Option.bind_some];rw[aI,ar,bg];simp only[Option.bind_some,bt];rw[aG,ap,be];simp only[Option.bind_some,bs,canRun,Option.map_some,aW]
 have ak:∀t∈A++⟨a,r,z,.cN (.tuple []) (H1.set c9 n)⟩::(M++[⟨b,s,f,.cN (.tuple []) ((H1.set c9 n).set g m)⟩]),∀v,t.k= .read v->ca (b9 ops) a t.i=Z/\ca (b9 ops) t.i b=C/\(ik ops (b9 ops) (pre++a::(mid++[b])) t.i=C\/fS (b9 ops) (kb P t.o.op t.R v) t.i (A++⟨a,r,z,.cN (.tuple []) (H1.set c9 n)⟩::(M++[⟨b,s,f,.cN (.tuple []) ((H1.set c9 n).set g m)⟩])) H0=C):=by
  intro t a1 v q;obtain⟨bp,bq,br⟩:=WM am a1 q;unfold J7 at ag;rw[List.all_eq_true]at ag;have aM:=ag _ bp;rw[bq]at aM;simp only at aM;refine⟨?_,?_,MV q bh a1⟩<;>
  ·rcases br with aq|aq<;>
   ·rw[aq]at aM;simp only[Bool.and_eq_true,Bool.not_eq_true']at aM
    first|exact aM.2.2|exact aM.2.1
 have a8:=Gk aZ (show canRun P call (fK ops b a) (pre++a::(mid++[b])) c5 H0=D (_,_,_) by rw[zQ,am];rfl) (λt a1 v q=>by
  obtain⟨u,hu,rfl⟩:=List.mem_map.1 a1;obtain⟨_,_,ab⟩:=ak u hu v q;refine ab.imp (λh=>Mf h λj Y=>Y) λh=> ?_
  have:=y5 (b:=b) (a:=a) (ms':=b9 (fK ops b a)) (u1 b a) h;simpa only[iZ,(m9 b a u.i u.o).1]using this)
 have a_:∀j∈pre++(mid++[b,a]),j∈pre++a::(mid++[b]):=λj Y=>by
  simp only[List.mem_append,List.mem_cons,List.not_mem_nil,or_false]at Y ⊢;rcases Y with h|h|h|h
  ·exact .inl h
  ·exact .inr (.inr (.inl h))
  ·exact .inr (.inr (.inr h))
  ·exact .inr (.inl h)
 have bo:=Gk a0 (show canRun P call (fK ops a b) (pre++(mid++[b,a])) c5 H0=D (_,_,_) by rw[zQ,a9];rfl) (λt a1 v q=>by
  obtain⟨u,hu,rfl⟩:=List.mem_map.1 a1;have ba:u∈A++⟨a,r,z,.cN (.tuple []) (H1.set c9 n)⟩::(M++[⟨b,s,f,.cN (.tuple []) ((H1.set c9 n).set g m)⟩]):=by
   simp only[List.mem_append,List.mem_cons,List.not_mem_nil,or_false]at hu ⊢;rcases hu with h|h|rfl|rfl
   ·exact .inl h
   ·exact .inr (.inr (.inl h))
   ·cases q
   ·cases q
  obtain⟨an,aM,ab⟩:=ak u ba v q;refine ab.imp (λh=>Mf h a_) λh=> ?_
  have aL:=Ej (tb:=⟨b,s,f,.cN (.tuple []) (H1.set g m)⟩) (W:=[⟨a,r,f,.cN (.tuple []) ((H1.set c9 n).set g m)⟩]) rfl rfl aw an aM h;have:=y5 (b:=a) (a:=b) (ms':=b9 (fK ops a b)) (u1 a b) aL;simpa only[iZ,(m9 a b u.i u.o).1]using this)
 have y:∀j,cR (Array.replicate ops.size Z) j=false:=λj=>by
  unfold cR;rw[Array.getD_eq_getD_getElem?];by_cases h:j<ops.size<;>simp[h]
 refine wp_region_any hm (ac4 (ρ0:=ρ0) (w0:=w.drew) aT a8 bo aV az.le (λL c U aO aP h=> ?_) rfl (λρ a U af ah=>aR ρ a U af ?_) _ _ _ _ ⟨by rw[k0];simp,λi o _ al=>absurd al (by rw[y];simp),ρ0,[],_,rfl,by simp,λt _ _=>y _,?_,c5,au,rfl,λd=> ?_⟩ (y a) (y b) ?_)
 ·exact(kk.swap (ta:=⟨a,r,z,.cN (.tuple []) (H1.set c9 n)⟩) (tb:=⟨b,s,f,.cN (.tuple []) ((H1.set c9 n).set g m)⟩) (ta2:=⟨a,r,f,.cN (.tuple []) ((H1.set c9 n).set g m)⟩) (tb2:=⟨b,s,f,.cN (.tuple []) (H1.set g m)⟩) aw ⟨_,_,rfl⟩ ⟨_,_,rfl⟩ ⟨_,_,rfl⟩ ⟨_,_,rfl⟩ rfl rfl ai aj ai aj aO aP h.down).up
 ·exact⟨ah.le,ah.next,ah.keep,ah.rel,ah.os,ah.tape,ah.output,ah.size,ah.frame,ah.own,ah.ro,ah.olds⟩
 ·have a7:∀(T:List bA) (H:ad),dK (cR (Array.replicate ops.size Z)) T H=λ_=>none:=by
   intro T
   induction T with
   |nil=>intro H;rfl
   |cons t T av=>
    intro H
    funext l
    unfold dK;split
    ·rw[av,y];simp
    ·rw[av]
  rw[a7];exact fx.start aS.drew az.new
 ·rw[sz λt _ _=>y _]
 ·refine Nat.le_trans List.countP_le_length ?_;simp
def m4(ops:Array Oper)(ord:List Nat):Option (Nat×Nat):=match ord.getLast? with
 |none=>I
 |some b=>match js ops b with
  |none=>I
  |some _=>match ord.dropLast.find? (λa=>(js ops a).isSome&& !ca (b9 ops) a b)with
   |none=>I
   |some a=>match yT ops ord (ord.dropLast.takeWhile λi=> !Nat.beq i a) a ((ord.dropLast.dropWhile λi=> !Nat.beq i a).drop 1) b with
    |true=>D (a,b)
    |false=>I
def abm{ops:Array Oper}{ord:List Nat}{a b:Nat}(h:m4 ops ord=D (a,b)):∃pre mid,yT ops ord pre a mid b=true:=by
 unfold m4 at h;split at h
 ·cases h
 ·split at h
  ·cases h
  ·split at h
   ·cases h
   ·split at h
    ·rename_i c;simp only[bb,cK]at h;obtain⟨rfl,rfl⟩:=h;exact⟨_,_,c⟩
    ·cases h
