/-
  Texts of one proof, laid together: Qe Qf Qg Qh Qi Qj Qk Ql.
-/
import Derived.Test.YtmhhnnklfcbgfaaGreatMM
set_option linter.unusedVariables false
set_option linter.unusedSimpArgs false
set_option linter.defProp false
open Option renaming some→D,none→I
open Bool renaming true→C,false→Z
open Go.bz.ae renaming int→J,bool→A
open Go.IntKind renaming i64→X
namespace Go.Proofs.YtmhhnnklfcbgfaaGreat
open Go.bz
section
open Go.a2
set_option maxRecDepth 2000
def c_:ae->Option Nat
 | .aD L _ _ _ _=>D L
 |_=>I
section
variable {H:ad}
def P8{M L:Nat}{cap:Option Nat}{rest:List (List ae)}{aV:List Int}(h:hd H M L cap aV rest){n:Nat}(aH:n<=aV.length)(a:aV.length<=500000000):W (aQ P aK 251 [.iface 288 (.ptr M 0 7),J X 0,J X n] H) λr H'=>(∃b,r= A b)/\∃wk',ix H H' M L cap rest aV wk':=by
 refine Yv (n+1) ?_;simp-implicitDefEqProofs(disch:=try exact ai)only[CW];exact Gn (i0:=0) (N:=n+1) (n+1) 0 H aV aa aH a h aa aa
def n_{M:Nat}{cs:List ae}{v:ae}(g:H.get M=D (.row Z 9 [cs]))(b:v.one=C)(al:cs.length=9):cD P H 246 (.ptr M 0 7) v=D (H.set M (.row Z 9 [cs.set 7 v])):=by
 have a:=dx b;rw[gf (n:=1) aF g rfl (by rw[a];rfl) (by rw[a];simp[b]) bU,a];obtain⟨bh,a8,bo,bJ,bT,cn,cy,ea,e3,rfl⟩:∃bh a8 bo bJ bT cn cy ea e3,cs=[bh,a8,bo,bJ,bT,cn,cy,ea,e3]:=by
  match cs,al with
  |[bh,a8,bo,bJ,bT,cn,cy,ea,e3],_=>exact⟨bh,a8,bo,bJ,bT,cn,cy,ea,e3,rfl⟩
 rfl
def oR{M:Nat}{cs:List ae}{v:ae}(g:H.get M=D (.row Z 9 [cs]))(a:cs[7]? =D v):aI P H 246 (.ptr M 0 7)=D v:=by
 rw[e_ (i:=0) (c:=7) aF g rfl,a]
def bq.mT{B M:Nat}{aV:List Int}{c3:ae}{cs:List ae}(h:bq aT B bk H aV c3)(o:M<B)(b7:H.get M=D (.row Z 9 [cs]))(c:cs[7]? =D c3)(l:aV≠[]):∃L cap rest,c3= .aD L 0 aV.length 1 cap/\B<=L/\(cap=I\/cap=D aV.length)/\hd H M L cap aV rest:=by
 rcases h.e9 with⟨_,e⟩|⟨L,els,cap,rfl,_,g,hle,j,k⟩
 ·exact absurd e l
 ·have f:=h.low L _ _ rfl;have e:els=jV aV++els.drop aV.length:=by
   apply List.ext_getElem?;intro i;by_cases a:i<aV.length
   ·rw[List.getElem?_append_left (by rw[ns];exact a)];obtain⟨d,m,n⟩:=k i aV[i] (by simp[a]);rw[m,show d=[ae.int X aV[i]]from n];exact(uX (by simp[a])).symm
   ·rw[List.getElem?_append_right (by rw[ns];omega),ns,List.getElem?_drop]
    congr 1;omega
  refine⟨L,cap,els.drop aV.length,rfl,f,j,by rw[<-e];exact g,oR b7 c,aa,λb=> ?_⟩;exact oR (by rw[ad.cb aa];exact b7) c
def hd.lc{B M L:Nat}{cap:Option Nat}{aV:List Int}{rest:List (List ae)}(h:hd H M L cap aV rest)(d:B<=L)(aq:cap=I\/cap=D aV.length):bq aT B bk H aV (.aD L 0 aV.length 1 cap):=
 ⟨.inr ⟨L,_,cap,rfl,trivial,h.row,by simp[ns],aq,λi a b=>⟨[J X a],by rw[List.getElem?_append_left (by rw[ns];exact(List.getElem?_eq_some_iff.1 b).1)];exact uX b,rfl⟩⟩,λL' n c e=>by cases e;exact d⟩
structure pF(B M:Nat)(cs:List ae)(c3:ae)(H H':ad)(wk':List Int)(a:ae):Prop where
 lc:bq aT B bk H' wk' a
 A8:jz aT a
 b7:H'.get M=some (.row false 9 [cs.set 7 a])
 next:H.next<=H'.next
 get:∀k,k<H.next->k≠M->c_ c3≠some k->H'.get k=H.get k
 jm:∀L,c_ a=some L->c_ c3=some L\/H.next<=L
def aaf(l:Nat)(n:Int):gd P l 246 1 [(0,J X n)]=D (.aD l 0 1 1 (D 1),.row Z 1 [[J X n]]):=pr lx l rfl rfl rfl
def bq.N4{B:Nat}{l:List Int}{v:ae}{a:Int}(h:bq aT B bk H l v)(d:B<=H.next)(al:l.length<=999999999):
  ∃b H',ee P (H.push (.row Z 1 [[J X a]])) [246,246] v (.aD H.next 0 1 1 (D 1))=D (b,H')/\bq aT B bk H' (l++[a]) b/\cT B H H'/\H.next<H'.next/\(∀k,k<H.next->(∀L n c,v= .aD L 0 n 1 c->k≠L)->H'.get k=H.get k)/\(b=v\/∃n,b= .aD (H.next+1) 0 n 1 I):=
 bq.pT (K:=aT) lx h d (av.refl _) (a:=a) (cs:=[J X a]) rfl (λ_ _=>trivial) al
def WA{B M:Nat}{aV:List Int}{c3:ae}{cs:List ae}(h:bq aT B bk H aV c3)(aH:jz aT c3)(w:M<B)(u:B<=H.next)(b7:H.get M=D (.row Z 9 [cs]))(x:cs.length=9)(i:cs[7]? =D c3)(al:aV.length<=400000000)(v:Int):
  W (aQ P aK 284 [.ptr M 0 7,.iface 3 (J X v)] H) λr H'=>r= .tuple []/\∃R,pF B M cs c3 H H' (aV++[v]) R:=by
 refine YI 0 ?_;obtain⟨Q,H',p,b,s,S,t,f⟩:=h.N4 (a:=v) u aa;have o:pN P 3 Z (.iface 3 (J X v))=D (J X v):=aF;have K:=av.push H (.row Z 1 [[J X v]]);have g:H'.get M=D (.row Z 9 [cs]):=by rw[s.2 M w];exact b7
 have hle:(H.push (.row Z 1 [[J X v]])).next<=H'.next:=by simp;omega
 have E:=b.aD.one;simp-implicitDefEqProofs(disch:=try exact ai)only[C5,aj,aJ,oR b7 i,oR (K.get b7) i,o,aaf,p,n_ g E x,eI h.aD];have G:=ad.bE g;refine aG.2 ⟨rfl,Q,?_,?_,ad.c8 G,by simp;omega,?_,?_⟩
 ·refine⟨?_,b.low⟩;rcases b.e9 with q|⟨L',els,cap,m,N,O,d⟩
  ·exact .inl q
  ·have:=b.low _ _ _ m;exact .inr ⟨L',els,cap,m,N,by rw[ad.cb aa];exact O,d.1,d.2.1,d.2.2⟩
 ·exact aH.app f
 ·intro k y z l;rw[ad.cb (Ne.symm z)];exact t k y λL n c e=>by rintro rfl;rw[e]at l;exact l rfl
 ·intro L j;rcases f with rfl|⟨T,rfl⟩
  ·exact .inl j
  ·cases j;exact .inr aa
def Wz{B M:Nat}{aV:List Int}{v:Int}{c3:ae}{cs:List ae}(h:bq aT B bk H (aV++[v]) c3)(aH:jz aT c3)(N:M<B)(b7:H.get M=D (.row Z 9 [cs]))(u:cs.length=9)(s:cs[7]? =D c3)(al:aV.length<=400000000):
  W (aQ P aK 283 [.ptr M 0 7] H) λr H'=>r= .iface 3 (J X v)/\∃m,pF B M cs c3 H H' aV m/\c_ m=c_ c3:=by
 refine YH 0 ?_;obtain⟨w,s1,s2,hc⟩:=h.pop lx aH;obtain⟨p,i1,i2⟩:∃p,cm P 246 c3 (J X aV.length)=D p/\aI P H 3 p=D (J X v):=by
  obtain⟨p,n,b,c,d⟩:=aO.val (K:=aT) lx uB h.aD (j:=(aV.length:Int)) (a:=v) aa (by simp);exact⟨p,b,by rw[c,show n=[_]from d];rfl⟩
 have g:=h.aD.len lx (H0:= .empty);have l:IntKind.i64.wrap ((((aV++[v]).length:Nat):Int)-1)=(aV.length:Int):=by
  simp only[List.length_append,List.length_cons,List.length_nil,Nat.zero_add];rw[wrap_i64 aa aa];omega
 have y:=s2.aD.one;have z:mE P 3 (J X v)=D (.iface 3 (J X v)):=aF;simp only[List.length_append,List.length_cons,List.length_nil,Nat.zero_add]at g l;have G:∀R:bf,bd R (.const .nilIface)=D .nilIface:=λ_=>rfl
 simp-implicitDefEqProofs(disch:=try exact ai)only[C4,br,aj,aC,G,oR b7 s,g,l,i1,i2,s1,n_ b7 y u,z];have E:=ad.bE b7;have i:c_ w=c_ c3:=by
  rcases h.e9 with⟨_,e⟩|⟨L,els,cap,rfl,_⟩
  ·simp at e
  ·have:hD P 246 (.aD L 0 (aV++[v]).length 1 cap) I (D (J X aV.length)) I=D w:=s1;rcases aH L _ _ rfl with rfl|o
   ·have af:(aV.length:Int)<=(aV.length:Int)+1:=aa;simp[hD,lx.un,lx.ts,eg,af]at this;rw[<-this];rfl
   ·simp at o
 refine aG.2 ⟨rfl,w,⟨?_,hc,ad.c8 E,by simp,?_,?_⟩,i⟩
 ·refine⟨?_,s2.low⟩;rcases s2.e9 with q|⟨L',els,cap,b,c,d,f⟩
  ·exact .inl q
  ·have:=s2.low _ _ _ b;exact .inr ⟨L',els,cap,b,c,by rw[ad.cb aa];exact d,f.1,f.2.1,f.2.2⟩
 ·intro k O x Q;rw[ad.cb (Ne.symm x)]
 ·intro L t;exact .inl (i▸t)
def SS{B M:Nat}{aV:List Int}{c3:ae}{cs:List ae}(h:bq aT B bk H aV c3)(aH:jz aT c3)(c:M<B)(g:B<=H.next)(b7:H.get M=D (.row Z 9 [cs]))(n:cs.length=9)(f:cs[7]? =D c3)(al:aV.length<=300000000)(v:Int):
  W (aQ P aK 222 [.iface 288 (.ptr M 0 7),.iface 3 (J X v)] H) λr H'=>r= .tuple []/\∃wk' u,wk'.Perm (v::aV)/\pF B M cs c3 H H' wk' u:=by
 refine Yd 0 ?_;simp-implicitDefEqProofs(disch:=try exact ai)only[CC,aj,jb,Vd];refine aZ (WA h aH c g b7 n f aa v) ?_;rintro _ H1 ⟨rfl,b,q⟩;refine⟨q.next,?_⟩;have e:(cs.set 7 b)[7]? =D b:=by rw[List.getElem?_set_self aa]
 simp-implicitDefEqProofs(disch:=try exact ai)only[aj,jb,IU,oR q.b7 e];have hlen:W (aQ P aK 223 [b] H1) λr H'=>r= J X ((aV++[v]).length:Nat)/\H'=H1:=by
  refine BD 0 ?_;simp-implicitDefEqProofs(disch:=try exact ai)only[tq,br,q.lc.aD.len lx];exact aG.2 ⟨rfl,rfl⟩
 refine eu hlen ?_;have t:IntKind.i64.wrap ((((aV++[v]).length:Nat):Int)-1)=(aV.length:Int):=by
  simp only[List.length_append,List.length_cons,List.length_nil,Nat.zero_add];rw[wrap_i64 aa aa];omega
 simp-implicitDefEqProofs(disch:=try exact ai)only[aj,aC,t];obtain⟨L,cap,rest,rfl,i,m,mT⟩:=q.lc.mT c q.b7 e (by simp);refine aZ (acr mT (j:=aV.length) (by simp) (by simp;omega)) ?_;rintro _ w ⟨rfl,wk',r⟩;refine⟨by rw[r.next];exact bC _,aG.2 ⟨rfl,wk',.aD L 0 (aV++[v]).length 1 cap,r.perm.trans (List.perm_append_comm),?_⟩⟩;have a:wk'.length=(aV++[v]).length:=r.perm.length_eq;rw[<-a];have jm:=q.jm L rfl;refine⟨r.q.lc i (by rw[a];exact m),?_,?_,?_,?_,?_⟩
 ·rw[a];exact q.A8
 ·rw[r.get M aa,a];exact q.b7
 ·rw[r.next];exact q.next
 ·intro k o s d;have p:k≠L:=by
   rintro rfl;rcases jm with af|af
   ·exact d af
   ·omega
  rw[r.get k p];exact q.get k o s d
 ·intro L' l;cases l;exact jm
def SR{B M:Nat}{aV:List Int}{c3:ae}{cs:List ae}(h:bq aT B bk H aV c3)(aH:jz aT c3)(m:M<B)(b7:H.get M=D (.row Z 9 [cs]))(N:cs.length=9)(d:cs[7]? =D c3)(al:aV.length<=300000000)(p:aV≠[]):
  W (aQ P aK 224 [.iface 288 (.ptr M 0 7)] H) λr H'=>∃v wk' l,r= .iface 3 (J X v)/\(v::wk').Perm aV/\pF B M cs c3 H H' wk' l:=by
 refine Ye 0 ?_;have hlen:W (aQ P aK 223 [c3] H) λr H'=>r= J X (aV.length:Nat)/\H'=H:=by
  refine BD 0 ?_;simp-implicitDefEqProofs(disch:=try exact ai)only[tq,br,h.aD.len lx];exact aG.2 ⟨rfl,rfl⟩
 have s:0<aV.length:=List.length_pos_iff.2 p;have T:IntKind.i64.wrap ((aV.length:Int)-1)=((aV.length-1:Nat):Int):=by rw[wrap_i64 aa aa];omega
 simp-implicitDefEqProofs(disch:=try exact ai)only[CE,aj,jb,IU,oR b7 d];refine eu hlen ?_;obtain⟨L,cap,rest,rfl,E,K,mT⟩:=h.mT m b7 d p;simp-implicitDefEqProofs(disch:=try exact ai)only[aj,aC,T,jb,AZ,mT.eM];refine aZ (D8 mT (i:=0) (j:=aV.length-1) s aa) ?_;rintro _ H1 ⟨rfl,rfl⟩;refine⟨by simp,?_⟩;have u:=ix.swap mT s (show aV.length-1<aV.length by omega);refine aZ (P8 u.q (n:=aV.length-1) (by rw[pw];omega) (by rw[pw];omega)) ?_;rintro _ x ⟨⟨b,rfl⟩,f,w⟩;refine⟨by rw[w.next];exact bC _,?_⟩;have r:=u.trans w;have c:f.length=aV.length:=r.perm.length_eq;obtain⟨g,v,y⟩:∃g v,f=g++[v]:=by
  rcases List.eq_nil_or_concat f with rfl|⟨a,b,e⟩
  ·simp at c;omega
  ·exact⟨a,b,by rw[e,List.concat_eq_append]⟩
 subst y;have t:=r.q.lc E (by rw[c];exact K);have z:x.get M=D (.row Z 9 [cs]):=by rw[r.get M (by have:=mT.ne;omega)];exact b7
 rw[c]at t;simp-implicitDefEqProofs(disch:=try exact ai)only[aj,jb,Vc];refine aZ (Wz t aH m z N d (by simp at c;omega)) ?_;rintro _ U ⟨rfl,l,q,S⟩;refine⟨q.next,aG.2 ⟨v,g,l,rfl,?_,q.lc,q.A8,q.b7,by have:=q.next;rw[r.next]at this;exact this,?_,?_⟩⟩
 ·exact(List.perm_append_comm (l₁:=[v])).trans r.perm
 ·intro k O R o;have Q:k≠L:=by rintro rfl;exact o rfl
  rw[q.get k (by rw[r.next];exact O) R o,r.get k Q]
 ·intro L' G;exact .inl (S▸G)
end
end
section
open Go.a2
set_option maxRecDepth 2000
def gl(l:List Nat):List (List ae):=l.map λn=>[J .u64 (n:Nat)]
def uY{l:List Nat}{i n:Nat}(h:l[i]? =D n):(gl l)[i]? =D [J .u64 (n:Nat)]:=by simp[gl,h]
def E7(l:List Nat)(i n:Nat):(gl l).set i [J .u64 (n:Nat)]=gl (l.set i n):=by simp[gl,List.map_set]
def hq(q:a2.Ask):List ae:=[J X (if q.eM then 3 else 4),J X (q.o:Nat),J X (q.f:Nat)]
def uG:ek a2.Ask:=⟨3,λ_ _ q cs=>cs=hq q,by rintro _ _ q _ rfl;exact⟨rfl,rfl⟩,λ_ h=>h⟩
def sc:eW 284 286 3:=⟨aF,aF,⟨24,aF,bU⟩,⟨.agg [J X 0,J X 0,J X 0],aF,rfl,rfl⟩,bU⟩
def oY:eW 243 251 1:=⟨aF,aF,⟨8,aF,bU⟩,⟨J .u64 0,aF,rfl,rfl⟩,bU⟩
def AU:eW 244 284 1:=⟨aF,aF,⟨24,aF,bU⟩,⟨.aB,aF,rfl,rfl⟩,bU⟩
def ha(p:Nat×Nat):ae×ae:=(.agg [J X (p.1:Nat),J X (p.2:Nat)],.agg [])
def hv(n V a:Nat)(dv:Nat->ae):List ae:=[J X (n:Nat),J X 8,.aD a 0 V 1 (D V),.aD (a+1) 0 V 1 (D V),.aD (a+2) 0 V 1 (D V),.aD (a+3) 0 V 1 (D V),.map (a+4),dv (2*V),.aD (a+5) 0 V 1 (D V)]
structure cj(n V a:Nat)(S:bt)(aV:List Int)(dv:Nat->ae)(es:List (Nat×Nat))(H:ad):Prop where
 b7:H.get (a+6)=some (.row false 9 [hv n V a dv])
 cQ:H.get a=some (.row false 1 (gl S.am))
 eY:H.get (a+1)=some (.row false 1 ((List.range V).map λv=>[dv v]))
 hp:H.get (a+2)=some (.row false 1 ((List.range V).map λv=>[dv (V+v)]))
 gH:H.get (a+3)=some (.row false 1 (gl S.seen))
 gr:H.get (a+4)=some (.map (es.map ha))
 du:H.get (a+5)=some (.row false 1 (dw S.waits))
 c9:S.am.length=V
 aW:S.fM.length=V
 gx:S.asks.length=V
 ls:S.seen.length=V
 lw:S.waits.length=V
 g:∀v,v<V->bq aT (a+7) bk H (aX (S.g v)) (dv v)
 q:∀v,v<V->bq uG (a+7) bk H (S.q v) (dv (V+v))
 w:bq aT (a+7) bk H aV (dv (2*V))
 wn:jz aT (dv (2*V))
 fL:∀o fp L,o<=2*V->fp<=2*V->c_ (dv o)=some L->c_ (dv fp)=some L->o=fp
 perm:aV.Perm (aX S.work)
 jl:∀x y,(x,y)∈es↔x<V/\y∈S.g x
 ji:∀v,(S.g v).Nodup
 iN:∀v,∀b∈S.g v,b<V
 ja:S.work.Nodup
 i_:∀v∈S.work,v<V
 wt:∀u,u<V->S.w u=false->u∉S.work
 ew:∀v,S.a v<2^64
def Bc:∀(V:Nat) {l:List Nat},l.Nodup->(∀x∈l,x<V)->l.length<=V
 |0,l,_,h=>by
  cases l with
  |nil=>simp
  |cons a l=>have:=h a (by simp);omega
 |V+1,l,aH,h=>by
  have af:=Bc V (aH.erase V) (λx aA=>by
   have ah:=(aH.mem_erase_iff.1 aA);have:=h x ah.2;have:=ah.1;omega)
  by_cases hm:V∈l
  ·rw[List.length_erase_of_mem hm]at af;omega
  ·rw[List.erase_of_not_mem hm]at af;omega
section
variable {n V a:Nat}{S:bt}{aV:List Int}{dv:Nat->ae}{es:List (Nat×Nat)}{H:ad}
def cj.lt(h:cj n V a S aV dv es H):a+7<=H.next:=by have:=ad.bE h.b7;omega
def cj.MW(h:cj n V a S aV dv es H):aV.length<=V:=by
 rw[h.perm.length_eq,aX,List.length_map];exact Bc V h.ja h.i_
def cj.Hk(h:cj n V a S aV dv es H)(v:Nat):(S.g v).length<=V:=Bc V (h.ji v) (h.iN v)
def cj.aE{H':ad}(h:cj n V a S aV dv es H)(p:av H H'):cj n V a S aV dv es H':=
 {h with b7:=p.get h.b7,cQ:=p.get h.cQ,eY:=p.get h.eY,hp:=p.get h.hp,gH:=p.get h.gH,gr:=p.get h.gr,du:=p.get h.du,g:=λv b=>(h.g v b).aE p,q:=λv b=>(h.q v b).aE p,w:=h.w.aE p}
def fo(g:H.get (a+6)=D (.row Z 9 [hv n V a dv])):aI P H 3 (.ptr (a+6) 0 0)=D (J X n)/\aI P H 3 (.ptr (a+6) 0 1)=D (J X 8)/\aI P H 243 (.ptr (a+6) 0 2)=D (.aD a 0 V 1 (D V))/\aI P H 31 (.ptr (a+6) 0 3)=D (.aD (a+1) 0 V 1 (D V))/\aI P H 244 (.ptr (a+6) 0 4)=D (.aD (a+2) 0 V 1 (D V))
  /\aI P H 243 (.ptr (a+6) 0 5)=D (.aD (a+3) 0 V 1 (D V))/\aI P H 245 (.ptr (a+6) 0 6)=D (.map (a+4))/\aI P H 246 (.ptr (a+6) 0 7)=D (dv (2*V))/\aI P H 104 (.ptr (a+6) 0 8)=D (.aD (a+5) 0 V 1 (D V)):=by
 rw[hv]at g;have t (t c:Nat) (a1:dM P t=D Z):=e_ (c:=c) (i:=0) a1 g rfl;exact⟨t _ 0 aF,t _ 1 aF,t _ 2 aF,t _ 3 aF,t _ 4 aF,t _ 5 aF,t _ 6 aF,t _ 7 aF,t _ 8 aF⟩
def fX{t e L v:Nat}(y:eW t e 1)(a:v<V):cm P t (.aD L 0 V 1 (D V)) (J X v)=D (.ptr L v 0):=by
 have:=nF (l:=L) (i:=0) (n:=V) (c:=some V) y (j:=(v:Int)) aa aa;simpa using this
def cj.oS(h:cj n V a S aV dv es H){v:Nat}(b:v<V):aI P H 251 (.ptr a v 0)=D (J .u64 (S.a v:Nat)):=by
 rw[e_ aF h.cQ (uY (n:=S.a v) (by have:=h.c9;unfold bt.a;rw[List.getD_eq_getElem?_getD,List.getElem?_eq_getElem aa];rfl))];rfl
def cj.Uk(h:cj n V a S aV dv es H){v:Nat}(b:v<V):aI P H 251 (.ptr (a+3) v 0)=D (J .u64 (S.s v:Nat)):=by
 rw[e_ aF h.gH (uY (n:=S.s v) (by have:=h.ls;unfold bt.s;rw[List.getD_eq_getElem?_getD,List.getElem?_eq_getElem aa];rfl))];rfl
def cj.Eh(h:cj n V a S aV dv es H){v:Nat}(b:v<V):S.waits[v]? =D (S.w v):=by
 have:=h.lw;unfold bt.w;rw[List.getD_eq_getElem?_getD,List.getElem?_eq_getElem aa];rfl
def cj.It(h:cj n V a S aV dv es H){v:Nat}(b:v<V):aI P H 4 (.ptr (a+5) v 0)=D (A (S.w v)):=by
 rw[e_ aF h.du (uW (h.Eh b))];rfl
def cj.Ul(h:cj n V a S aV dv es H){v:Nat}(b:v<V):aI P H 30 (.ptr (a+1) v 0)=D (dv v):=by
 rw[e_ aF h.eY (e:=[dv v]) (by simp[b])];rfl
def cj.r8(h:cj n V a S aV dv es H){v:Nat}(b:v<V):aI P H 284 (.ptr (a+2) v 0)=D (dv (V+v)):=by
 rw[e_ aF h.hp (e:=[dv (V+v)]) (by simp[b])];rfl
def oK(g:H.get (a+6)=D (.row Z 9 [hv n V a dv])){t f:Nat}(e:n+t*8+f<=1000000):W (aQ P aK 184 [.ptr (a+6) 0 0,J X t,J X f] H) λr H'=>r= J X (c1 n t f:Nat)/\H'=H:=by
 refine XZ 0 ?_;have b:bm P .mul 3 Z (J X (t:Int)) (J X 8)=D (J X ((t*8:Nat):Int)):=by
  show D (ae.int X (IntKind.i64.wrap ((t:Int)*8)))=_;rw[wrap_i64 aa aa];simp
 have c:IntKind.i64.wrap ((n:Int)+((t*8:Nat):Int))=((n+t*8:Nat):Int):=by rw[wrap_i64 aa aa];omega
 have d:IntKind.i64.wrap (((n+t*8:Nat):Int)+(f:Int))=((c1 n t f:Nat):Int):=by rw[wrap_i64 aa aa,c1];omega
 simp-implicitDefEqProofs(disch:=try exact ai)only[Cj,aj,aJ,aC,aL,fo g,b,c,d];exact aG.2 ⟨rfl,rfl⟩
end
end
section
open Go.a2
set_option maxRecDepth 2000
def Plain{α:Type}(K:ek α):Prop:=∀{H H':ad} {ok ok':Nat->Prop} {a:α} {cs:List ae},K.V H ok a cs->K.V H' ok' a cs
def fP:Plain aT:=λh=>h
def nT:Plain uG:=λh=>h
def bq.frame{α:Type}{K:ek α}(d:Plain K){B:Nat}{H H':ad}{l:List α}{v:ae}(h:bq K B bk H l v)(aP:∀L,c_ v=D L->H'.get L=H.get L):bq K B bk H' l v:=by
 refine⟨?_,h.low⟩;rcases h.e9 with af|⟨L,els,cap,b,e,f,g,j,k⟩
 ·exact .inl af
 ·exact .inr ⟨L,els,cap,b,e,by rw[aP L (by rw[b];rfl)];exact f,g,j,λi a c=>by obtain⟨cs,m,n⟩:=k i a c;exact⟨cs,m,d n⟩⟩
def bq.iP{α:Type}{K:ek α}{B:Nat}{ok:Nat->Prop}{H:ad}{l:List α}{v:ae}(h:bq K B ok H l v){L:Nat}(e:c_ v=D L):B<=L/\L<H.next:=by
 rcases h.e9 with⟨rfl,_⟩|⟨L',els,cap,rfl,_,g,_⟩
 ·cases e
 ·cases e;exact⟨h.low _ _ _ rfl,ad.bE g⟩
section
variable {n V a:Nat}{S:bt}{aV:List Int}{dv:Nat->ae}{es:List (Nat×Nat)}{H:ad}
def cj.j7(h:cj n V a S aV dv es H){o:Nat}(aR:o<=2*V){L:Nat}(e:c_ (dv o)=D L):a+7<=L/\L<H.next:=by
 by_cases af:o<V
 ·exact(h.g o af).iP e
 ·by_cases ah:o<2*V
  ·have:=h.q (o-V) aa;rw[show V+(o-V)=o by omega]at this;exact this.iP e
  ·obtain rfl:o=2*V:=aa;exact h.w.iP e
def cj.other(h:cj n V a S aV dv es H){c:Nat}(aq:c<7)(b:bn):(∀k,k≠a+c->(H.set (a+c) b).get k=H.get k)/\(∀{α:Type} {K:ek α} {l:List α} {v:ae},Plain K->bq K (a+7) bk H l v->bq K (a+7) bk (H.set (a+c) b) l v):=by
 have af:∀k,k≠a+c->(H.set (a+c) b).get k=H.get k:=λk d=>ad.cb (Ne.symm d)
 exact⟨af,λf al=>al.frame f λL e=>af L (by have:=(al.iP e).1;omega)⟩
def cj.Lz(h:cj n V a S aV dv es H){v:Nat}(b:Bool)(i:∀u,u<V->({S with waits:=S.waits.set v b}:bt).w u=Z->u∉S.work):
  cj n V a {S with waits:=S.waits.set v b} aV dv es (H.set (a+5) (.row Z 1 (dw (S.waits.set v b)))):=by
 obtain⟨d,f⟩:=h.other (c:=5) aa (.row Z 1 (dw (S.waits.set v b)));have j:=h.lt;exact {
  b7:=by rw[d _ aa];exact h.b7,cQ:=by rw[d _ aa];exact h.cQ,eY:=by rw[d _ aa];exact h.eY,hp:=by rw[d _ aa];exact h.hp,gH:=by rw[d _ aa];exact h.gH,gr:=by rw[d _ aa];exact h.gr,du:=ad.c8 aa,
  c9:=h.c9,aW:=h.aW,gx:=h.gx,ls:=h.ls,lw:=by simpa using h.lw,g:=λv e=>f fP (h.g v e),q:=λv e=>f nT (h.q v e),w:=f fP h.w,wn:=h.wn,fL:=h.fL,perm:=h.perm,jl:=h.jl,ji:=h.ji,iN:=h.iN,ja:=h.ja,i_:=h.i_,wt:=i,ew:=h.ew}
def cj.ZL(h:cj n V a S aV dv es H)(v x:Nat)(f:∀u,({S with am:=S.am.set v x}:bt).a u<2^64):
  cj n V a {S with am:=S.am.set v x} aV dv es (H.set a (.row Z 1 (gl (S.am.set v x)))):=by
 obtain⟨b,d⟩:=h.other (c:=0) aa (.row Z 1 (gl (S.am.set v x)));rw[Nat.add_zero]at b d;have i:=h.lt;exact {
  b7:=by rw[b _ aa];exact h.b7,cQ:=ad.c8 aa,eY:=by rw[b _ aa];exact h.eY,hp:=by rw[b _ aa];exact h.hp,gH:=by rw[b _ aa];exact h.gH,gr:=by rw[b _ aa];exact h.gr,du:=by rw[b _ aa];exact h.du,
  c9:=by simpa using h.c9,aW:=h.aW,gx:=h.gx,ls:=h.ls,lw:=h.lw,g:=λv e=>d fP (h.g v e),q:=λv e=>d nT (h.q v e),w:=d fP h.w,wn:=h.wn,fL:=h.fL,perm:=h.perm,jl:=h.jl,ji:=h.ji,iN:=h.iN,ja:=h.ja,i_:=h.i_,wt:=h.wt,ew:=f}
def cj.ZM(h:cj n V a S aV dv es H)(v x:Nat):
  cj n V a {S with seen:=S.seen.set v x} aV dv es (H.set (a+3) (.row Z 1 (gl (S.seen.set v x)))):=by
 obtain⟨b,e⟩:=h.other (c:=3) aa (.row Z 1 (gl (S.seen.set v x)));have f:=h.lt;exact {
  b7:=by rw[b _ aa];exact h.b7,cQ:=by rw[b _ aa];exact h.cQ,eY:=by rw[b _ aa];exact h.eY,hp:=by rw[b _ aa];exact h.hp,gH:=ad.c8 aa,gr:=by rw[b _ aa];exact h.gr,du:=by rw[b _ aa];exact h.du,
  c9:=h.c9,aW:=h.aW,gx:=h.gx,ls:=by simpa using h.ls,lw:=h.lw,g:=λv d=>e fP (h.g v d),q:=λv d=>e nT (h.q v d),w:=e fP h.w,wn:=h.wn,fL:=h.fL,perm:=h.perm,jl:=h.jl,ji:=h.ji,iN:=h.iN,ja:=h.ja,i_:=h.i_,wt:=h.wt,ew:=h.ew}
def dd(dv:Nat->ae)(o:Nat)(v:ae):Nat->ae:=λk=>if k=o then v else dv k
def gp(dv:Nat->ae)(o:Nat)(v:ae):dd dv o v o=v:=if_pos rfl
def eo(dv:Nat->ae){o k:Nat}(v:ae)(h:k≠o):dd dv o v k=dv k:=if_neg h
def abj(n V a:Nat)(dv:Nat->ae)(v:ae):(hv n V a dv).set 7 v=hv n V a (dd dv (2*V) v):=by
 simp only[hv,gp];rfl
def Ma(n V a:Nat)(dv:Nat->ae){o:Nat}(v:ae)(h:o≠2*V):hv n V a (dd dv o v)=hv n V a dv:=by
 simp only[hv,eo dv v (Ne.symm h)]
def z1{V:Nat}{dv:Nat->ae}{o:Nat}{v:ae}(fL:∀o fp L,o<=2*V->fp<=2*V->c_ (dv o)=D L->c_ (dv fp)=D L->o=fp)(aR:o<=2*V)(f:∀L,c_ v=D L->c_ (dv o)=D L\/∀fp,fp<=2*V->c_ (dv fp)≠D L):
  ∀p b L,p<=2*V->b<=2*V->c_ (dd dv o v p)=D L->c_ (dd dv o v b)=D L->p=b:=by
 intro p b L c d e a;by_cases af:p=o<;>by_cases ah:b=o
 ·rw[af,ah]
 ·subst af;rw[gp]at e;rw[eo dv v ah]at a;rcases f L e with q|q
  ·exact absurd (fL _ _ L d aR a q) ah
  ·exact absurd a (q b d)
 ·subst ah;rw[gp]at a;rw[eo dv v af]at e;rcases f L a with q|q
  ·exact absurd (fL _ _ L c aR e q) af
  ·exact absurd e (q p c)
 ·rw[eo dv v af]at e;rw[eo dv v ah]at a;exact fL _ _ L c d e a
def wq{V:Nat}{dv a:Nat->ae}(h:∀v,v<V->a v=dv v):((List.range V).map λv=>[a v])=(List.range V).map λv=>[dv v]:=
 List.map_congr_left λv b=>by rw[h v (by simpa using b)]
def cj.aN(h:cj n V a S aV dv es H)(y:0<V){c:List Nat}{wk':List Int}{d:ae}{H':ad}(q:pF (a+7) (a+6) (hv n V a dv) (dv (2*V)) H H' wk' d)(s:wk'.Perm (aX c))(p:c.Nodup)(m:∀v∈c,v<V)(t:∀u,u<V->S.w u=Z->u∉c):
  cj n V a {S with work:=c} wk' (dd dv (2*V) d) es H':=by
 have z:=h.lt;have low:∀k,k<a+6->H'.get k=H.get k:=λk B=>q.get k aa aa λe=>by have:=(h.j7 (bC _) e).1;omega
 have l:∀o L,o<2*V->c_ (dv o)=D L->H'.get L=H.get L:=λo L aR e=>by
  have al:=h.j7 (Nat.le_of_lt aR) e;exact q.get L al.2 aa λf=>by have:=h.fL _ _ L (Nat.le_of_lt aR) (bC _) e f;omega
 have i:∀v,v<V->dd dv (2*V) d v=dv v:=λv b=>eo _ _ aa
 have j:∀v,v<V->dd dv (2*V) d (V+v)=dv (V+v):=λv b=>eo _ _ aa
 exact {
  b7:=by rw[q.b7,abj],cQ:=by rw[low _ aa];exact h.cQ,eY:=by rw[low _ aa,wq i];exact h.eY,hp:=by rw[low _ aa,wq (dv:=λv=>dv (V+v)) j];exact h.hp,gH:=by rw[low _ aa];exact h.gH,gr:=by rw[low _ aa];exact h.gr,du:=by rw[low _ aa];exact h.du,
  c9:=h.c9,aW:=h.aW,gx:=h.gx,ls:=h.ls,lw:=h.lw,
  g:=λv b=>by rw[i v b];exact(h.g v b).frame fP λL e=>l v L aa e
  q:=λv b=>by rw[j v b];exact(h.q v b).frame nT λL e=>l (V+v) L aa e
  w:=by rw[gp];exact q.lc
  wn:=by rw[gp];exact q.A8
  fL:=z1 h.fL (bC _) λL e=>(q.jm L e).imp id λx fp r f=>by have:=(h.j7 r f).2;omega
  perm:=s,jl:=h.jl,ji:=h.ji,iN:=h.iN,ja:=p,i_:=m,wt:=t,ew:=h.ew}
def Fr(V a:Nat)(dv b:Nat->ae)(H H':ad):Prop:=H.next<=H'.next/\∀k,k<H.next->(k<a\/a+7<=k)->(∀o,o<=2*V->c_ (dv o)≠D k)->H'.get k=H.get k/\∀o,o<=2*V->c_ (b o)≠D k
def Fr.refl(V a:Nat)(dv:Nat->ae)(H:ad):Fr V a dv dv H H:=⟨bC _,λ_ _ _ h=>⟨rfl,h⟩⟩
def Fr.trans{V a:Nat}{d1 d2 d3:Nat->ae}{H1 b c:ad}(h:Fr V a d1 d2 H1 b)(k:Fr V a d2 d3 b c):Fr V a d1 d3 H1 c:=
 ⟨Nat.le_trans h.1 k.1,λj e d al=>by
  obtain⟨f,g⟩:=h.2 j e d al;obtain⟨i,l⟩:=k.2 j (Nat.lt_of_lt_of_le e h.1) d g;exact⟨i.trans f,l⟩⟩
def Fr.aE{V a:Nat}{dv:Nat->ae}{H H':ad}(p:av H H'):Fr V a dv dv H H':=⟨p.1,λk b _ h=>⟨p.2 k b,h⟩⟩
def Fr.set{V a c:Nat}{dv:Nat->ae}(H:ad)(aq:c<7)(b:bn):Fr V a dv dv H (H.set (a+c) b):=⟨by simp,λk e d h=>⟨ad.cb aa,h⟩⟩
def So(n V a:Nat)(c:bt)(keep:Nat->Prop)(dv:Nat->ae)(H:ad)(H':ad):Prop:=∃wk' b es',cj n V a c wk' b es' H'/\(∀o,keep o->b o=dv o)/\Fr V a dv b H H'
def cj.Hg(h:cj n V a S aV dv es H){wk':List Int}{c:ae}{H':ad}(q:pF (a+7) (a+6) (hv n V a dv) (dv (2*V)) H H' wk' c):Fr V a dv (dd dv (2*V) c) H H':=
 ⟨q.next,λk d f al=>⟨q.get k d aa (al _ (bC _)),λo aR e=>by
  by_cases b:o=2*V
  ·subst b;rw[gp]at e;rcases q.jm k e with af|af
   ·exact al _ (bC _) af
   ·omega
  ·rw[eo _ _ b]at e;exact al o aR e⟩⟩
def cj.gy{b:Nat->ae}{H':ad}(h:cj n V a S aV dv es H)(f:Fr V a dv b H H'):cT a H H':=
 ⟨f.1,λk c=>(f.2 k (by have:=h.lt;omega) (.inl c) λo aR e=>by have:=(h.j7 aR e).1;omega).1⟩
def Ef{S:bt}{v u:Nat}{b:Bool}(a:v<S.waits.length):({S with waits:=S.waits.set v b}:bt).w u=if u=v then b else S.w u:=by
 unfold bt.w;exact la a
def IH(h:cj n V a S aV dv es H)(m:V<=1000000){v:Nat}(b:v<V):W (aQ P aK 181 [.ptr (a+6) 0 0,J X v] H) λr H'=>r= .tuple []/\So n V a (hW S v) (λo=>o<2*V) dv H H':=by
 refine XV 0 ?_;have p:=h.lw;cases hw:S.w v with
 |true=>
  have l:=h.It b;rw[hw]at l;simp-implicitDefEqProofs(disch:=try exact ai)only[xk,aj,aJ,aL,fo h.b7,fX oX b,l,Bool.not_true];exact aG.2 ⟨rfl,aV,dv,es,by rw[hW,if_pos hw];exact h,λ_ _=>rfl,.refl _ _ _ _⟩
 |false=>
  have l:=h.It b;rw[hw]at l;have st:=yK (b':=true) h.du (h.Eh b);have g:=h.wt v b hw;have af:=h.Lz (v:=v) C (λu hu e=>by
   rw[Ef aa]at e;by_cases d:u=v
   ·rw[if_pos d]at e;cases e
   ·rw[if_neg d]at e;exact h.wt u hu e)
  have i1:∀l i c,mE P 288 (.ptr l i c)=D (.iface 288 (.ptr l i c)):=λl i c=>aF
  have i2:mE P 3 (J X (v:Nat))=D (.iface 3 (J X (v:Nat))):=aF;simp-implicitDefEqProofs(disch:=try exact ai)only[xk,aj,aJ,aL,fo h.b7,fX oX b,l,Bool.not_false,st,i1,i2];have hlen:=af.MW;have f:=af.lt;refine aZ (SS af.w af.wn (show a+6<a+7 by omega) f af.b7 rfl rfl aa v) ?_;rintro _ k ⟨rfl,wk',j,pm,q⟩;refine⟨q.next,aG.2 ⟨rfl,wk',_,es,?_,λo (aR:o<2*V)=>eo dv j (Nat.ne_of_lt aR),(Fr.set H aa _).trans (af.Hg q)⟩⟩
  ·have e:hW S v={S with waits:=S.waits.set v C,work:=v::S.work}:=by rw[hW,if_neg (by rw[hw];simp)]
   rw[e];refine af.aN aa q (pm.trans ?_) (List.nodup_cons.2 ⟨g,h.ja⟩) ?_ ?_
   ·exact h.perm.cons _
   ·intro u hu;rcases List.mem_cons.1 hu with rfl|hu
    ·exact b
    ·exact h.i_ u hu
   ·intro u hu e hm;rcases List.mem_cons.1 hm with rfl|hm
    ·rw[Ef aa,if_pos rfl]at e;cases e
    ·exact af.wt u hu e hm
def Aq(h:cj n V a S aV dv es H)(i:V<=1000000){v x:Nat}(b:v<V)(aA:x<2^64)(e:S.a v<2^64):W (aQ P aK 220 [.ptr (a+6) 0 0,J X v,J .u64 x] H) λr H'=>r= .tuple []/\So n V a (fm S v x) (λo=>o<2*V) dv H H':=by
 refine Yb 0 ?_;by_cases he:S.a v|||x=S.a v
 ·have d:(((S.a v|||x:Nat):Int) != ((S.a v:Nat):Int))=false:=by rw[he];simp
  simp-implicitDefEqProofs(disch:=try exact ai)only[xH,aj,aJ,aC,aL,fo h.b7,fX oY b,h.oS b,Bh _ _ e aA,d];exact aG.2 ⟨rfl,aV,dv,es,by rw[fm,if_pos he];exact h,λ_ _=>rfl,.refl _ _ _ _⟩
 ·have d:(((S.a v|||x:Nat):Int) != ((S.a v:Nat):Int))=true:=bne_iff_ne.2 λq=>he (by exact_mod_cast q)
  have l:=h.c9;have g:S.am[v]? =D (S.a v):=by unfold bt.a;rw[List.getD_eq_getElem?_getD,List.getElem?_eq_getElem aa];rfl
  have st:cD P H 251 (.ptr a v 0) (J .u64 ((S.a v|||x:Nat):Int))=D (H.set a (.row Z 1 (gl (S.am.set v (S.a v|||x))))):=by
   rw[gf (n:=1) aF h.cQ (uY g) rfl rfl aa,<-E7];rfl
  simp-implicitDefEqProofs(disch:=try exact ai)only[xH,aj,aJ,aC,aL,fo h.b7,fX oY b,h.oS b,Bh _ _ e aA,d,st];have af:=h.ZL v (S.a v|||x) (λu=>by
   unfold bt.a;rw[la aa];split
   ·exact Nat.or_lt_two_pow e aA
   ·exact h.ew u)
  refine aZ (IH af i b) ?_;rintro _ k ⟨rfl,wk',f,es',ah,j,p⟩;refine⟨p.1,aG.2 ⟨rfl,wk',f,es',by rw[fm,if_neg he];exact ah,j,(Fr.set (c:=0) H aa _).trans p⟩⟩
end
end
section
open Go.a2
set_option maxRecDepth 2000
def Nv(x y u v:Int):h6 P 10000 312 (.agg [J X x,J X y]) (.agg [J X u,J X v])=bif x==u then(bif y==v then D C else D Z)else D false:=aF
def Nw(p q:Nat×Nat):h6 P 10000 312 (ha p).1 (ha q).1=D (decide (p=q)):=by
 refine(Nv p.1 p.2 q.1 q.2).trans ?_;obtain⟨x,y⟩:=p;obtain⟨u,v⟩:=q;simp only[cK];by_cases af:x=u<;>by_cases ah:y=v
 ·have a:(((x:Nat):Int)==((u:Nat):Int))=true:=by simp[af]
  have b:(((y:Nat):Int)==((v:Nat):Int))=true:=by simp[ah]
  rw[a,b];simp[af,ah]
 ·have a:(((x:Nat):Int)==((u:Nat):Int))=true:=by simp[af]
  have b:(((y:Nat):Int)==((v:Nat):Int))=false:=beq_eq_false_iff_ne.2 λe=>ah (by exact_mod_cast e)
  rw[a,b];simp[ah]
 ·have a:(((x:Nat):Int)==((u:Nat):Int))=false:=beq_eq_false_iff_ne.2 λe=>af (by exact_mod_cast e)
  rw[a];simp[af]
 ·have a:(((x:Nat):Int)==((u:Nat):Int))=false:=beq_eq_false_iff_ne.2 λe=>af (by exact_mod_cast e)
  rw[a];simp[af]
def zp(p:Nat×Nat):∀(es:List (Nat×Nat)) (i:Nat),(p∉es->lZ P 312 (ha p).1 (es.map ha) i=D I)/\(p∈es->∃j,lZ P 312 (ha p).1 (es.map ha) i=D (D (j,.agg [])))
 |[],i=>⟨λ_=>rfl,λh=>by simp at h⟩
 |e::es,i=>by
  obtain⟨af,ah⟩:=zp p es (i+1);simp only[List.map_cons,lZ,Nw];by_cases he:p=e
  ·rw[decide_eq_true he];exact⟨λh=>absurd (by rw[he];simp) h,λ_=>⟨i,rfl⟩⟩
  ·rw[decide_eq_false he];exact⟨λh=>af λhm=>h (by simp[hm]),λh=>ah (by simpa [he]using h)⟩
def Mw:P.underlying 245=D (.map 312 310):=aF
def U2{H:ad}{K:Nat}{es:List (Nat×Nat)}(g:H.get K=D (.map (es.map ha)))(p:Nat×Nat):k2 P H 245 (.map K) (ha p).1 C=D (.tuple [.agg [],.bool (decide (p∈es))]):=by
 obtain⟨d,a,b,aN⟩:∃d,P.underlying 312=D d/\plainKey d=Z/\nQ P d (ha p).1=true:=⟨.array 2 3,aF,aF,aF⟩;have c:e2 P 310=D (.agg []):=aF;obtain⟨af,ah⟩:=zp p es 0;simp only[k2,Mw,a,c,b,aN,g];by_cases hm:p∈es
 ·obtain⟨j,e⟩:=ah hm;simp[e,hm]
 ·simp[af hm,hm]
def acu{H:ad}{K:Nat}{es:List (Nat×Nat)}(g:H.get K=D (.map (es.map ha)))(p:Nat×Nat)(b:p∉es):iD P H 245 (.map K) (ha p).1 (.agg [])=D (H.set K (.map ((es++[p]).map ha))):=by
 obtain⟨d,a,c,aN⟩:∃d,P.underlying 312=D d/\plainKey d=Z/\nQ P d (ha p).1=true:=⟨.array 2 3,aF,aF,aF⟩;simp only[iD,Mw,a,c,aN,g,(zp p es 0).1 b];simp[ha]
def Bq{V o:Nat}(aR:o<V)(dv:Nat->ae)(v:ae):((List.range V).map λk=>[dv k]).set o [v]=(List.range V).map λk=>[dd dv o v k]:=by
 apply List.ext_getElem?;intro i;by_cases a:i<V
 ·by_cases e:i=o
  ·subst e;rw[List.getElem?_set_self (by simpa using a)];simp[a,dd]
  ·rw[List.getElem?_set_ne (Ne.symm e)];simp[a,dd,e]
 ·rw[List.getElem?_eq_none (by simpa using a),List.getElem?_eq_none (by simpa using a)]
section
variable {n V a:Nat}{S:bt}{aV:List Int}{dv:Nat->ae}{es:List (Nat×Nat)}{H:ad}
def vn{S:bt}{x v:Nat}{l:List Nat}(aA:x<S.fM.length):({S with fM:=S.fM.set x l}:bt).g v=if v=x then l else S.g v:=by
 unfold bt.g;exact la aA
def rO(h:cj n V a S aV dv es H)(G:V<=1000000){x y:Nat}(aA:x<V)(a0:y<V):W (aQ P aK 221 [.ptr (a+6) 0 0,J X x,J X y] H) λr H'=>r= .tuple []/\So n V a (hl S x y) (λo=>V<=o/\o<2*V) dv H H':=by
 refine Yc 0 ?_;have R:dU P 312 [(0,J X (x:Nat)),(1,J X (y:Nat))]=D (ha (x,y)).1:=Fp rfl rfl;have E:=U2 h.gr (x,y);have bd:=h.lt;have Q:=av.push H (.row Z 0 [[]]);have af:=h.aE Q;have ao:cD P (H.push (.row Z 0 [[]])) 310 (.ptr H.next 0 0) (.agg [])=D ((H.push (.row Z 0 [[]])).set H.next (.row Z 0 [[]])):=by
  rw[gf (n:=0) aF (ad.a_ H (.row Z 0 [[]])) rfl rfl rfl bU];rfl
 by_cases hm:(x,y)∈es
 ·have O:=((h.jl x y).1 hm).2;rw[decide_eq_true hm]at E;simp-implicitDefEqProofs(disch:=try exact ai)only[tp,aj,aJ,aL,fo h.b7,R,E,ao,ad.ga];exact aG.2 ⟨rfl,aV,dv,es,by rw[hl,if_pos (.inl O)];exact af,λ_ _=>rfl,.aE Q⟩
 ·rw[decide_eq_false hm]at E;have O:y∉S.g x:=λe=>hm ((h.jl x y).2 ⟨aA,e⟩)
  by_cases N:x=y
  ·have z:(((x:Nat):Int)==((y:Nat):Int))=true:=by simp[N]
   simp-implicitDefEqProofs(disch:=try exact ai)only[tp,aj,aJ,aC,aL,fo h.b7,R,E,ao,ad.ga,z];exact aG.2 ⟨rfl,aV,dv,es,by rw[hl,if_pos (.inr N)];exact af,λ_ _=>rfl,.aE Q⟩
  ·have z:(((x:Nat):Int)==((y:Nat):Int))=false:=beq_eq_false_iff_ne.2 λe=>N (by exact_mod_cast e)
   have up:=acu af.gr (x,y) hm;obtain⟨am,a5⟩:=af.other (c:=4) aa (.map ((es++[(x,y)]).map ha));have ar:=a5 fP (af.g x aA);have be:((H.push (.row Z 0 [[]])).set (a+4) (.map ((es++[(x,y)]).map ha))).next=H.next+1:=by simp
   have Y:=(am (a+6) aa).trans af.b7;have U:=(am (a+1) aa).trans af.eY;have aO:((H.push (.row Z 0 [[]])).set (a+4) (.map ((es++[(x,y)]).map ha))).get (a+4)=D (.map ((es++[(x,y)]).map ha)):=ad.c8 (by simp;omega);have bc:=h.Hk x;generalize bb:(H.push (.row Z 0 [[]])).set (a+4) (.map ((es++[(x,y)]).map ha))=j at*;obtain⟨d,f,a8,bo,bJ,bT,cn,cy⟩:=bq.pT (K:=aT) (ok:=bk) (ok':=bk) b6 ar aa (av.refl j) (a:=(y:Int)) (cs:=[J X (y:Nat)]) rfl (λ_ _=>trivial) (by simp[aX];omega);have ay:ee P (j.push (.row Z 1 [[J X (y:Nat)]])) [30,30] (dv x) (.aD j.next 0 1 1 (D 1))=D (d,f):=a8
   have ax:=av.push j (.row Z 1 [[J X (y:Nat)]]);have ah:∀k,k<a+7->f.get k=j.get k:=λk s=>bJ.2 k s
   have ap:=(ah (a+6) aa).trans Y;have aN:=(ah (a+1) aa).trans U;have au:=bo.aD.one;have ag:=dx au;have a9:cD P f 30 (.ptr (a+1) x 0) d=D (f.set (a+1) (.row Z 1 ((List.range V).map λk=>[dd dv x d k]))):=by
    rw[gf (n:=1) aF aN (e:=[dv x]) (by simp[aA]) (by rw[ag];rfl) (by rw[ag];simp[au]) bU,ag,<-Bq aA];rfl
   have hle:(j.push (.row Z 1 [[J X (y:Nat)]])).next<=f.next:=by simp;omega
   have a1:aI P j 30 (.ptr (a+1) x 0)=D (dv x):=by rw[e_ aF U (e:=[dv x]) (by simp[aA])];rfl
   have a2:aI P (j.push (.row Z 1 [[J X (y:Nat)]])) 30 (.ptr (a+1) x 0)=D (dv x):=by rw[e_ aF (ax.get U) (e:=[dv x]) (by simp[aA])];rfl
   have a7:bF (D (dv x)) (dv x)=true:=eI ar.aD;have a6:∀l i n e c,bF (D (.aD l i n e c)) (.aD l i n e c)=true:=λl i n e c=>by simp[bF,ae.beq]
   have rX:=h.aW;have ak:∀k,k<H.next->k≠a+4->k≠a+1->c_ (dv x)≠D k->(f.set (a+1) (.row Z 1 ((List.range V).map λk=>[dd dv x d k]))).get k=H.get k:=λk s aM ab al=>by
    rw[ad.cb (Ne.symm ab),cn k aa (λL n c e=>by rintro rfl;rw[e]at al;exact al rfl),am k aM,Q.2 k s]
   have B:∀k,k<a+7->k≠a+4->k≠a+1->(f.set (a+1) (.row Z 1 ((List.range V).map λk=>[dd dv x d k]))).get k=H.get k:=λk s aM ab=>ak k aa aM ab λe=>by have:=(h.j7 (o:=x) aa e).1;omega
   have an:∀o L,o<=2*V->o≠x->c_ (dv o)=D L->(f.set (a+1) (.row Z 1 ((List.range V).map λk=>[dd dv x d k]))).get L=H.get L:=λo L aR aU e=>by
    have al:=h.j7 aR e;exact ak L al.2 aa aa λT=>aU (h.fL _ _ L aR aa e T)
   have bf:=ad.bE ap;have a4:∀L,c_ d=D L->c_ (dv x)=D L\/∀fp,fp<=2*V->c_ (dv fp)≠D L:=by
    intro L e;rcases cy with t|⟨a3,t⟩
    ·exact .inl (t▸e)
    ·rw[t]at e;cases e;exact .inr λfp aY T=>by have:=(h.j7 aY T).2;omega
   have aM:cj n V a {S with fM:=S.fM.set x (S.g x++[y])} aV (dd dv x d) (es++[(x,y)]) (f.set (a+1) (.row Z 1 ((List.range V).map λk=>[dd dv x d k]))):=
    {
     b7:=by rw[B _ aa aa aa,Ma _ _ _ _ _ aa];exact h.b7
     cQ:=by rw[B _ aa aa aa];exact h.cQ
     eY:=ad.c8 aa
     hp:=by rw[B _ aa aa aa,wq (dv:=λv=>dv (V+v)) (λv M=>eo _ _ aa)];exact h.hp
     gH:=by rw[B _ aa aa aa];exact h.gH
     gr:=by rw[ad.cb aa,ah _ aa];exact aO
     du:=by rw[B _ aa aa aa];exact h.du
     c9:=h.c9,aW:=by simpa using h.aW,gx:=h.gx,ls:=h.ls,lw:=h.lw
     g:=λv M=>by
      rw[vn aa];by_cases e:v=x
      ·subst e;rw[if_pos rfl,gp];have aH:aX (S.g v++[y])=aX (S.g v)++[(y:Int)]:=by simp[aX]
       rw[aH];exact bo.frame fP λL u=>by
        rw[ad.cb];have:=(bo.iP u).1;omega
      ·rw[if_neg e,eo _ _ e];exact(h.g v M).frame fP λL u=>an v L aa e u
     q:=λv M=>by
      rw[eo _ _ aa];exact(h.q v M).frame nT λL u=>an (V+v) L aa aa u
     w:=by rw[eo _ _ aa];exact h.w.frame fP λL u=>an (2*V) L (bC _) aa u
     wn:=by rw[eo _ _ aa];exact h.wn
     fL:=z1 h.fL aa a4
     perm:=h.perm
     jl:=λp q=>by
      rw[vn aa,List.mem_append,h.jl];by_cases e:p=x
      ·subst e;simp[aA]
      ·simp[e]
     ji:=λv=>by
      rw[vn aa];split
      ·rw[List.nodup_append];exact⟨h.ji x,by simp,λa aq b G=>by simp at G;subst G;rintro rfl;exact O aq⟩
      ·exact h.ji v
     iN:=λv b m=>by
      rw[vn aa]at m;split at m
      ·rcases List.mem_append.1 m with m|m
       ·exact h.iN x b m
       ·simp at m;omega
      ·exact h.iN v b m
     ja:=h.ja,i_:=h.i_,wt:=h.wt,ew:=h.ew}
   have aP:=aM.b7;simp-implicitDefEqProofs(disch:=try exact ai)only[tp,aj,aJ,aC,aL,fo h.b7,fo af.b7,R,E,ao,ad.ga,z,up,fo Y,fo (ax.get Y),fo ap,fX e4 aA,a1,a2,ej,ay,a9,a7,a6,fo aP,fX oY aA,aM.oS aA];refine aZ (Aq aM G a0 (h.ew x) (h.ew y)) ?_;rintro _ ba ⟨rfl,wk',az,es',aS,s,aw⟩;have f4:Fr V a dv (dd dv x d) H (f.set (a+1) (.row Z 1 ((List.range V).map λk=>[dd dv x d k]))):=by
    refine⟨by simp;omega,λk s aq al=>⟨ak k s aa aa (al x aa),λo aR e=> ?_⟩⟩;by_cases z:o=x
    ·subst z;rw[gp]at e;rcases cy with t|⟨a3,t⟩
     ·exact al o aR (t▸e)
     ·rw[t]at e;cases e;omega
    ·rw[eo _ _ z]at e;exact al o aR e
   refine⟨aw.1,aG.2 ⟨rfl,wk',az,es',?_,λo aR=>by rw[s o aR.2];exact eo _ _ aa,f4.trans aw⟩⟩;rw[hl,if_neg (λe=>e.elim O N)];exact aS
end
end
section
open Go.a2
set_option maxRecDepth 2000
def J0{S:bt}{x v:Nat}{l:List a2.Ask}(aA:x<S.asks.length):({S with asks:=S.asks.set x l}:bt).q v=if v=x then l else S.q v:=by
 unfold bt.q;exact la aA
section
variable {n V a:Nat}{S:bt}{aV:List Int}{dv:Nat->ae}{es:List (Nat×Nat)}{H:ad}
def cj.Ff(h:cj n V a S aV dv es H){x:Nat}(aA:x<V)(q:a2.Ask)(al:(S.q x).length<=999999998):
  ∃b d,ee P (H.push (.row Z 3 [hq q])) [284,284] (dv (V+x)) (.aD H.next 0 1 3 (D 1))=D (b,d)/\d.get (a+6)=D (.row Z 9 [hv n V a dv])/\(H.push (.row Z 3 [hq q])).next<=d.next/\(∀k,k<H.next->(k<a\/a+7<=k)->(∀o,o<=2*V->c_ (dv o)≠D k)->d.get k=H.get k)/\
   cD P d 284 (.ptr (a+2) x 0) b=D (d.set (a+2) (.row Z 1 ((List.range V).map λk=>[dd dv (V+x) b (V+k)])))/\
   cj n V a (kt S x q) aV (dd dv (V+x) b) es (d.set (a+2) (.row Z 1 ((List.range V).map λk=>[dd dv (V+x) b (V+k)])))/\Fr V a dv (dd dv (V+x) b) H (d.set (a+2) (.row Z 1 ((List.range V).map λk=>[dd dv (V+x) b (V+k)]))):=by
 have M:=h.lt;have U:=h.gx;obtain⟨b,d,a8,bo,bJ,bT,cn,cy⟩:=bq.pT (K:=uG) (ok:=bk) (ok':=bk) sc (h.q x aA) M (av.refl H) (a:=q) (cs:=hq q) rfl (λ_ _=>trivial) aa;have B:∀k,k<a+7->d.get k=H.get k:=λk f=>bJ.2 k f
 have E:=(B (a+2) aa).trans h.hp;have z:=bo.aD.one;have s:=dx z;have rs:((List.range V).map λk=>[dv (V+k)]).set x [b]=(List.range V).map λk=>[dd dv (V+x) b (V+k)]:=by
  rw[Bq aA (λk=>dv (V+k)) b];refine List.map_congr_left λk _=> ?_
  by_cases e:k=x
  ·subst e;simp[dd]
  ·simp only[dd,if_neg e,if_neg (show¬V+k=V+x by omega)]
 have T:cD P d 284 (.ptr (a+2) x 0) b=D (d.set (a+2) (.row Z 1 ((List.range V).map λk=>[dd dv (V+x) b (V+k)]))):=by
  rw[gf (n:=1) aF E (e:=[dv (V+x)]) (by simp[aA]) (by rw[s];rfl) (by rw[s];simp[z]) bU,s,<-rs];rfl
 have t:∀k,k<H.next->k≠a+2->c_ (dv (V+x))≠D k->(d.set (a+2) (.row Z 1 ((List.range V).map λk=>[dd dv (V+x) b (V+k)]))).get k=H.get k:=λk f r al=>by
  rw[ad.cb (Ne.symm r)];exact cn k f (λL n c e=>by rintro rfl;rw[e]at al;exact al rfl)
 have l:∀k,k<a+7->k≠a+2->(d.set (a+2) (.row Z 1 ((List.range V).map λk=>[dd dv (V+x) b (V+k)]))).get k=H.get k:=λk f r=>t k aa r λe=>by have:=(h.j7 (o:=V+x) aa e).1;omega
 have u:∀o L,o<=2*V->o≠V+x->c_ (dv o)=D L->(d.set (a+2) (.row Z 1 ((List.range V).map λk=>[dd dv (V+x) b (V+k)]))).get L=H.get L:=λo L aR N e=>by
  have al:=h.j7 aR e;exact t L al.2 aa λp=>N (h.fL _ _ L aR aa e p)
 have R:∀L,c_ b=D L->c_ (dv (V+x))=D L\/∀fp,fp<=2*V->c_ (dv fp)≠D L:=by
  intro L e;rcases cy with i|⟨Q,i⟩
  ·exact .inl (i▸e)
  ·rw[i]at e;cases e;exact .inr λfp O p=>by have:=(h.j7 O p).2;omega
 refine⟨b,d,a8,(B _ aa).trans h.b7,by simp;omega,λk f G al=>cn k f (λL n c e=>by rintro rfl;exact al (V+x) aa (by rw[e];rfl)),T,?_,by simp;omega,λk f G al=>⟨t k f aa (al _ aa),λo aR e=> ?_⟩⟩
 ·exact {
   b7:=by rw[l _ aa aa,Ma _ _ _ _ _ aa];exact h.b7
   cQ:=by rw[l _ aa aa];exact h.cQ
   eY:=by rw[l _ aa aa,wq (λv m=>eo _ _ aa)];exact h.eY
   hp:=ad.c8 aa
   gH:=by rw[l _ aa aa];exact h.gH
   gr:=by rw[l _ aa aa];exact h.gr
   du:=by rw[l _ aa aa];exact h.du
   c9:=h.c9,aW:=h.aW,gx:=by simpa [kt]using h.gx,ls:=h.ls,lw:=h.lw
   g:=λv m=>by
    rw[eo _ _ aa];exact(h.g v m).frame fP λL j=>u v L aa aa j
   q:=λv m=>by
    rw[kt,J0 aa];by_cases e:v=x
    ·subst e;rw[if_pos rfl,gp];exact bo.frame nT λL j=>by
      rw[ad.cb];have:=(bo.iP j).1;omega
    ·rw[if_neg e,eo _ _ aa];exact(h.q v m).frame nT λL j=>u (V+v) L aa aa j
   w:=by rw[eo _ _ aa];exact h.w.frame fP λL j=>u (2*V) L (bC _) aa j
   wn:=by rw[eo _ _ aa];exact h.wn
   fL:=z1 h.fL aa R
   perm:=h.perm,jl:=h.jl,ji:=h.ji,iN:=h.iN,ja:=h.ja,i_:=h.i_,wt:=h.wt,ew:=h.ew}
 ·by_cases y:o=V+x
  ·subst y;rw[gp]at e;rcases cy with i|⟨Q,i⟩
   ·exact al _ aR (i▸e)
   ·rw[i]at e;cases e;omega
  ·rw[eo _ _ y]at e;exact al o aR e
def Ls{c:bB}{x y m:Nat}(aq:dk c=[J X 5,J X x,J X y,J X 0])(aA:x<m)(M:y<m)(K:V=n+m*8)(e:V<=1000000){I:Nat}{N:Nat}:∀(j k q:Nat) (S:bt) (aV:List Int) (dv:Nat->ae) (es:List (Nat×Nat)) (H:ad),k+j=8->j<q->cj n V a S aV dv es H->
  H.get I=D (.row Z 4 [dk c])->(I<a\/a+7<=I)->(∀o,o<=2*V->c_ (dv o)≠D I)->
  W (s3 (aQ P aK) N q (.ptr (a+6) 0 0) (.ptr I 0 0) (J X 8) (J X k) H) λr H'=>r= .tuple []/\So n V a (lL n S x y ((List.range 8).drop k)) (λ_=>False) dv H H'
 |_,_,0,_,_,_,_,_,_,hm,_,_,_,_=>aa
 |0,k,q+1,S,aV,dv,es,H,L,_,h,b,d,u=>by
  have g:¬(k:Int)<8:=aa;simp-implicitDefEqProofs(disch:=try exact ai)only[s3,xj,aj,aC,g,decide_false];rw[List.drop_of_length_le (by simp;omega)];exact aG.2 ⟨rfl,aV,dv,es,h,λ_ f=>f.elim,.refl _ _ _ _⟩
 |j+1,k,q+1,S,aV,dv,es,H,L,hm,h,b,d,u=>by
  have g:(k:Int)<8:=aa;have ab:=h.lt;have O:=ad.bE b;have on:=Ls aq aA M K e (I:=I) (N:=N) j (k+1) q;have p:c1 n x k<V:=by unfold c1;omega
  have s:c1 n y k<V:=by unfold c1;omega
  have w:(List.range 8).drop k=k::(List.range 8).drop (k+1):=by
   rw[List.drop_eq_getElem_cons (by simp;omega)];simp
  rw[w,lL];have l:=iQ b aq;simp-implicitDefEqProofs(disch:=try exact ai)only[s3,xj,aj,aJ,aC,aL,g,decide_true,l];refine eu (oK h.b7 aa) ?_;simp-implicitDefEqProofs(disch:=try exact ai)only[aj,aJ,aL,l];refine eu (oK h.b7 aa) ?_;refine aZ (rO h e p s) ?_;rintro _ H1 ⟨rfl,ag,rM,Y,af,_,f1⟩;refine⟨f1.1,?_⟩;obtain⟨E,Q⟩:=f1.2 I O d u;have t:=E.trans b;have i:=iQ t aq;simp-implicitDefEqProofs(disch:=try exact ai)only[aj,aJ,aL,l,i];refine eu (oK af.b7 aa) ?_;simp-implicitDefEqProofs(disch:=try exact ai)only[aj,aJ,aL,i];refine eu (oK af.b7 aa) ?_;refine aZ (rO af e s p) ?_;rintro _ v ⟨rfl,R,hk,z,ah,_,f2⟩
  refine⟨f2.1,?_⟩;obtain⟨G,AK⟩:=f2.2 I (by have:=f1.1;omega) d Q;simp-implicitDefEqProofs(disch:=try exact ai)only[aj,aJ,aC,i,cq (show k<=1000000000 by omega)];refine(on _ R hk z v aa aa ah (G.trans t) d AK).mono ?_;rintro r U ⟨rfl,T,mI,B,an,_,f3⟩;exact⟨rfl,T,mI,B,an,λ_ f=>f.elim,(f1.trans f2).trans f3⟩
def OJ{m:Nat}(h:cj n V a S aV dv es H)(R:V=n+m*8)(s:V<=1000000)(hm:m<=60){c:bB}(hw:c.wf n m)(M:∀v,(S.q v).length<=900000000):W (aQ P aK 180 [.ptr (a+6) 0 0,.agg (dk c)] H) λr H'=>r= .tuple []/\So n V a (pW n S c) (λ_=>False) dv H H':=by
 refine XU 9 ?_;have N:=av.push H (.row Z 4 [dk c]);have g:=ad.a_ H (.row Z 4 [dk c]);have b:=h.aE N;have ab:=h.lt;have u:∀o,o<=2*V->c_ (dv o)≠D H.next:=λo aR e=>by have:=(h.j7 aR e).2;omega
 have j:∀{L:bt} {keep:Nat->Prop} {H':ad},So n V a L keep dv (H.push (.row Z 4 [dk c])) H'->So n V a L (λ_=>False) dv H H':=λ⟨wk',Q,es',T,af,U⟩=>⟨wk',Q,es',T,λ_ f=>f.elim,(Fr.aE N).trans U⟩
 cases c with
 |base x y=>
  have l:=iQ g rfl;simp-implicitDefEqProofs(disch:=try exact ai)only[o8,aj,aJ,aC,aL,k6,l,Int.reduceBEq,ZS _ _ (show y<64 by have:=hw.2;omega)];refine aZ (Aq b s (v:=x) (x:=1<<<y) (by have:=hw.1;omega) ?_ (h.ew x)) ?_
  ·rw[Nat.shiftLeft_eq,Nat.one_mul];exact Nat.pow_lt_pow_right aa (by have:=hw.2;omega)
  rintro _ H1 ⟨rfl,q⟩;exact⟨q.choose_spec.choose_spec.choose_spec.2.2.1,aG.2 ⟨rfl,j q⟩⟩
 |copy x y=>
  have l:=iQ g rfl;simp-implicitDefEqProofs(disch:=try exact ai)only[o8,aj,aJ,aC,aL,k6,l,Int.reduceBEq];refine aZ (rO b s (x:=y) (y:=x) (by have:=hw.2;omega) (by have:=hw.1;omega)) ?_;rintro _ H1 ⟨rfl,q⟩;exact⟨q.choose_spec.choose_spec.choose_spec.2.2.1,aG.2 ⟨rfl,j q⟩⟩
 |load x y f=>
  have l:=iQ g rfl;have d:y<V:=by have:=hw.1;have:=hw.2.1;omega
  obtain⟨Y,O,a8,p,bJ,bT,st,an,f3⟩:=b.Ff d ⟨C,x,f⟩ (by have:=M y;omega);have k:dU P 286 [(0,J X 3),(1,J X (x:Nat)),(2,J X (f:Nat))]=D (.agg (hq ⟨C,x,f⟩)):=zG rfl rfl rfl;have aD:=pr sc (H.push (.row Z 4 [dk (.load x y f)])).next (v:= .agg (hq ⟨C,x,f⟩)) (cs:=hq ⟨C,x,f⟩) rfl rfl rfl
  have pp:=av.push (H.push (.row Z 4 [dk (.load x y f)])) (.row Z 3 [hq ⟨C,x,f⟩]);have w:=iQ (pp.get g) rfl;have z:=iQ ((bT H.next (by simp) aa u).trans g) rfl;have t:=(pp.get b.b7);have B:aI P (H.push (.row Z 4 [dk (.load x y f)])) 284 (.ptr (a+2) y 0)=D (dv (V+y)):=b.r8 d;have E:=(b.aE pp).r8 d;have K:=eI (b.q y d).aD;have G:∀l i n e c,bF (D (.aD l i n e c)) (.aD l i n e c)=true:=λl i n e c=>by simp[bF,ae.beq]
  simp only[kG]at aD a8 bJ;simp-implicitDefEqProofs(disch:=try exact ai)only[o8,aj,aJ,aC,aL,ad.dm,k6,l,Int.reduceBEq,fo b.b7,fX AU d,B,k,aD,a8,fo p,z,w,fo t,E,st,K,G];exact aG.2 ⟨rfl,j (keep:=λ_=>False) ⟨aV,_,es,an,λ_ f=>f.elim,f3⟩⟩
 |store x y f=>
  have l:=iQ g rfl;have d:x<V:=by have:=hw.1;have:=hw.2.1;omega
  obtain⟨Y,O,a8,p,bJ,bT,st,an,f3⟩:=b.Ff d ⟨Z,y,f⟩ (by have:=M x;omega);have k:dU P 286 [(0,J X 4),(1,J X (y:Nat)),(2,J X (f:Nat))]=D (.agg (hq ⟨Z,y,f⟩)):=zG rfl rfl rfl;have aD:=pr sc (H.push (.row Z 4 [dk (.store x y f)])).next (v:= .agg (hq ⟨Z,y,f⟩)) (cs:=hq ⟨Z,y,f⟩) rfl rfl rfl
  have pp:=av.push (H.push (.row Z 4 [dk (.store x y f)])) (.row Z 3 [hq ⟨Z,y,f⟩]);have w:=iQ (pp.get g) rfl;have z:=iQ ((bT H.next (by simp) aa u).trans g) rfl;have t:=(pp.get b.b7);have B:aI P (H.push (.row Z 4 [dk (.store x y f)])) 284 (.ptr (a+2) x 0)=D (dv (V+x)):=b.r8 d;have E:=(b.aE pp).r8 d;have K:=eI (b.q x d).aD;have G:∀l i n e c,bF (D (.aD l i n e c)) (.aD l i n e c)=true:=λl i n e c=>by simp[bF,ae.beq]
  simp only[kG]at aD a8 bJ;simp-implicitDefEqProofs(disch:=try exact ai)only[o8,aj,aJ,aC,aL,ad.dm,k6,l,Int.reduceBEq,fo b.b7,fX AU d,B,k,aD,a8,fo p,z,w,fo t,E,st,K,G];exact aG.2 ⟨rfl,j (keep:=λ_=>False) ⟨aV,_,es,an,λ_ f=>f.elim,f3⟩⟩
 |same x y=>
  have l:=iQ g rfl;simp-implicitDefEqProofs(disch:=try exact ai)only[o8,aj,aJ,aC,aL,k6,l,Int.reduceBEq,fo b.b7];refine(Ls (c:= .same x y) rfl hw.1 hw.2 R s (I:=H.next) 8 0 9 S aV dv es _ aa aa b g aa u).mono ?_;rintro r H' ⟨rfl,q⟩;exact⟨rfl,j q⟩
end
end
section
open Go.a2
set_option maxRecDepth 2000
def IE(S:bt)(v u:Nat):(hW S v).q u=S.q u:=by unfold hW;split<;>rfl
def UZ(S:bt)(v u:Nat):(hW S v).g u=S.g u:=by unfold hW;split<;>rfl
def HZ(S:bt)(v x u:Nat):(fm S v x).q u=S.q u:=by
 unfold fm;split
 ·rfl
 ·rw[IE];rfl
def TT(S:bt)(v x u:Nat):(fm S v x).g u=S.g u:=by
 unfold fm;split
 ·rfl
 ·rw[UZ];rfl
def p8(S:bt)(x y u:Nat):(hl S x y).q u=S.q u:=by
 unfold hl;split
 ·rfl
 ·rw[HZ];rfl
def NY(n t:Nat)(S:bt)(q:a2.Ask)(u:Nat):(mG n t S q).q u=S.q u:=by
 unfold mG;split<;>exact p8 _ _ _ _
def zw(n t:Nat):∀(qs:List a2.Ask) (S:bt) (u:Nat),(kq n t qs S).q u=S.q u
 |[],_,_=>rfl
 |q::qs,S,u=>by rw[kq,zw n t qs,NY]
section
variable {n V a:Nat}{S:bt}{aV:List Int}{dv:Nat->ae}{es:List (Nat×Nat)}{H:ad}
def Um{q:a2.Ask}{L:Nat}(h:H.get L=D (.row Z 3 [hq q])):aI P H 3 (.ptr L 0 0)=D (J X (if q.eM then 3 else 4))/\aI P H 3 (.ptr L 0 1)=D (J X (q.o:Nat))/\aI P H 3 (.ptr L 0 2)=D (J X (q.f:Nat)):=by
 rw[hq]at h;simp-implicitDefEqProofs(disch:=try exact ai)only[R,h]
def aaA{q:a2.Ask}{L:Nat}{r:List ae}(h:H.get L=D (.row Z 3 [r]))(au:r.length=3:=by rfl):cD P H 286 (.ptr L 0 0) (.agg (hq q))=D (H.set L (.row Z 3 [hq q])):=by
 rw[gf (n:=3) aF h rfl rfl (by simp[hq,ae.cells,ae.one]) bU];simp[hq,ae.cells,eZ,List.drop_of_length_le (Nat.le_of_eq au)]
def E0{qs:List a2.Ask}{v t m:Nat}(B:v<V)(a1:t<m)(O:V=n+m*8)(i:V<=1000000)(z:∀q∈qs,q.o<V/\q.f<8)(R:qs.length<=1000000000){N:Nat}:∀(j k r:Nat) (S:bt) (aV:List Int) (dv:Nat->ae) (es:List (Nat×Nat)) (H:ad),k+j=qs.length->j<r->cj n V a S aV dv es H->S.q v=qs->
  W (qQ (aQ P aK) N r (.ptr (a+6) 0 0) (J X t) (dv (V+v)) (J X qs.length) (J X k) H) λr H'=>r= .tuple []/\So n V a (kq n t (qs.drop k) S) (λo=>V<=o/\o<2*V) dv H H'
 |_,_,0,_,_,_,_,_,_,hm,_,_=>aa
 |0,k,r+1,S,aV,dv,es,H,Q,_,h,aN=>by
  have d:¬(k:Int)<(qs.length:Int):=aa;simp-implicitDefEqProofs(disch:=try exact ai)only[qQ,tr,aj,aC,d,decide_false];rw[List.drop_of_length_le aa];exact aG.2 ⟨rfl,aV,dv,es,h,λ_ _=>rfl,.refl _ _ _ _⟩
 |j+1,k,r+1,S,aV,dv,es,H,Q,hm,h,aN=>by
  have d:(k:Int)<(qs.length:Int):=aa;have u:k<qs.length:=aa;have on:=E0 B a1 O i z R (N:=N) j (k+1) r;have al:=h.q v B;rw[aN]at al;obtain⟨p,cs,E,G,rfl⟩:=al.aD.uP (K:=uG) sc Mb (j:=(k:Int)) (a:=qs[k]) aa (by simp[u]);obtain⟨aR,az⟩:=z _ (List.getElem_mem u);have w:=av.push H (.row Z 3 [hq qs[k]]);have af:=h.aE w;have st:=aaA (q:=qs[k]) (ad.a_ H (.row Z 3 [[J X 0,J X 0,J X 0]]));have l:=Um (ad.a_ H (.row Z 3 [hq qs[k]]));have ff:c1 n t qs[k].f<V:=by unfold c1;omega
  have L:=cq (show k<=1000000000 by omega);rw[List.drop_eq_getElem_cons u,kq,mG];cases y:qs[k].eM with
  |true=>
   rw[y]at l;simp-implicitDefEqProofs(disch:=try exact ai)only[qQ,tr,Nat.reduceAdd,aj,aJ,aC,aL,d,decide_true,E,G _ (av.refl _),st,ad.ga,l,Int.reduceBEq];refine eu (oK af.b7 aa) ?_;simp-implicitDefEqProofs(disch:=try exact ai)only[aj,aJ,aL,l];refine aZ (rO af i ff aR) ?_;rintro _ H1 ⟨rfl,wk',e,es',ah,b,f2⟩;refine⟨f2.1,?_⟩;simp-implicitDefEqProofs(disch:=try exact ai)only[CG,aj,aJ,aC,l,L];have c:=on _ wk' e es' H1 aa aa ah (by rw[p8];exact aN);rw[b (V+v) ⟨aa,aa⟩]at c;refine c.mono ?_;rintro r M ⟨rfl,x,mI,g,an,s,f3⟩;exact⟨rfl,x,mI,g,an,λo aR=>(s o aR).trans (b o aR),((Fr.aE w).trans f2).trans f3⟩
  |false=>
   rw[y]at l;simp only[Bool.false_eq_true,if_false]at l;simp-implicitDefEqProofs(disch:=try exact ai)only[qQ,tr,Nat.reduceAdd,aj,aJ,aC,aL,d,decide_true,E,G _ (av.refl _),st,ad.ga,l,Int.reduceBEq];refine eu (oK af.b7 aa) ?_;simp-implicitDefEqProofs(disch:=try exact ai)only[aj,aJ,aL,l];refine aZ (rO af i aR ff) ?_;rintro _ H1 ⟨rfl,wk',e,es',ah,b,f2⟩;refine⟨f2.1,?_⟩;simp-implicitDefEqProofs(disch:=try exact ai)only[CG,aj,aJ,aC,l,L];have c:=on _ wk' e es' H1 aa aa ah (by rw[p8];exact aN);rw[b (V+v) ⟨aa,aa⟩]at c;refine c.mono ?_;rintro r M ⟨rfl,x,mI,g,an,s,f3⟩;exact⟨rfl,x,mI,g,an,λo aR=>(s o aR).trans (b o aR),((Fr.aE w).trans f2).trans f3⟩
def NZ{v t m:Nat}(h:cj n V a S aV dv es H)(b:v<V)(a1:t<m)(c:V=n+m*8)(d:V<=1000000)(g:∀q∈S.q v,q.o<V/\q.f<8)(e:(S.q v).length<=1000000000):W (aQ P aK 225 [.ptr (a+6) 0 0,J X v,J X t] H) λr H'=>r= .tuple []/\So n V a (kq n t (S.q v) S) (λo=>V<=o/\o<2*V) dv H H':=by
 refine Yf ((S.q v).length+1) ?_;simp-implicitDefEqProofs(disch:=try exact ai)only[CF,br,aj,aJ,aL,fo h.b7,fX AU b,h.r8 b,(h.q v b).aD.len sc];exact E0 b a1 c d g e (S.q v).length 0 ((S.q v).length+1) S aV dv es H aa aa h rfl
structure Own(V a:Nat)(dv:Nat->ae)(H:ad)(l:List Int)(x:ae):Prop where
 b:∃B,bq aT B bk H l x
 o:∀L,c_ x=some L->L<H.next/\(L<a\/a+7<=L)/\∀o,o<=2*V->c_ (dv o)≠some L
def Own.ho{b:Nat->ae}{H':ad}{l:List Int}{x:ae}(h:Own V a dv H l x)(f:Fr V a dv b H H'):Own V a b H' l x:=by
 obtain⟨⟨B,c⟩,aR⟩:=h;refine⟨⟨B,c.frame fP λL e=> ?_⟩,λL e=> ?_⟩
 ·obtain⟨af,ah,an⟩:=aR L e;exact(f.2 L af ah an).1
 ·obtain⟨af,ah,an⟩:=aR L e;exact⟨Nat.lt_of_lt_of_le af f.1,ah,(f.2 L af ah an).2⟩
def Fe{ts:List Nat}{v m:Nat}{x:ae}(z:v<V)(l:V=n+m*8)(s:V<=1000000)(y:∀t∈ts,t<m)(al:ts.length<=1000000000){L0:ae->ad->O}{Q:ae->ad->Prop}{N:Nat}:∀(j k r:Nat) (S:bt) (aV:List Int) (dv:Nat->ae) (es:List (Nat×Nat)) (H:ad),k+j=ts.length->j<r->cj n V a S aV dv es H->Own V a dv H (aX ts) x->(∀q∈S.q v,q.o<V/\q.f<8)->(S.q v).length<=1000000000->
  (∀c wk' d es' H',cj n V a c wk' d es' H'->Fr V a dv d H H'->c=n4 n v (ts.drop k) S->W (xn (aQ P aK) N L0 (.ptr (a+6) 0 0) (J X v) H') Q)->
  W (s5 (aQ P aK) N L0 r (.ptr (a+6) 0 0) (J X v) x (J X ts.length) (J X k) H) Q
 |_,_,0,_,_,_,_,_,_,hm,_,_,_,_,_=>aa
 |0,k,r+1,S,aV,dv,es,H,L,_,h,aA,_,_,fin=>by
  have g:¬(k:Int)<(ts.length:Int):=aa;simp-implicitDefEqProofs(disch:=try exact ai)only[s5,xm,aj,aC,g,decide_false];exact fin S aV dv es H h (.refl _ _ _ _) (by rw[List.drop_of_length_le aa];rfl)
 |j+1,k,r+1,S,aV,dv,es,H,L,hm,h,aA,w,u,fin=>by
  have g:(k:Int)<(ts.length:Int):=aa;have i:k<ts.length:=aa;have on:=Fe (x:=x) z l s y al (L0:=L0) (Q:=Q) (N:=N) j (k+1) r;obtain⟨B,K⟩:=aA.b;obtain⟨p,M,R⟩:=K.aD.int (j:=(k:Int)) (a:=(ts[k]:Int)) aa (by simp[aX,i]);rw[List.drop_eq_getElem_cons i]at fin;simp-implicitDefEqProofs(disch:=try exact ai)only[s5,xm,aj,aC,g,decide_true,M,R];refine aZ (NZ h z (y _ (List.getElem_mem i)) l s w u) ?_;rintro _ H1 ⟨rfl,wk',d,es',af,_,f1⟩;refine⟨f1.1,?_⟩;simp-implicitDefEqProofs(disch:=try exact ai)only[aj,aC,cq (show k<=1000000000 by omega)];refine on _ wk' d es' H1 aa aa af (aA.ho f1) (by rw[zw];exact w) (by rw[zw];exact u) λc T hk G E ah f2 e=>fin c T hk G E ah (f1.trans f2) e
def G8{bs:List Nat}{v:Nat}(f:v<V)(m:V<=1000000)(o:∀b∈bs,b<V)(al:bs.length<=1000000000){L0:ae->ad->O}{Q:ae->ad->Prop}{N:Nat}:∀(j k r:Nat) (S:bt) (aV:List Int) (dv:Nat->ae) (es:List (Nat×Nat)) (H:ad),k+j=bs.length->j<r->cj n V a S aV dv es H->S.g v=bs->
  (∀c wk' d es' H',cj n V a c wk' d es' H'->Fr V a dv d H H'->c=k_ v (bs.drop k) S->W (L0 (.ptr (a+6) 0 0) H') Q)->
  W (s4 (aQ P aK) N L0 r (.ptr (a+6) 0 0) (J X v) (dv v) (J X bs.length) (J X k) H) Q
 |_,_,0,_,_,_,_,_,_,hm,_,_,_=>aa
 |0,k,r+1,S,aV,dv,es,H,w,_,h,aN,fin=>by
  have i:¬(k:Int)<(bs.length:Int):=aa;simp-implicitDefEqProofs(disch:=try exact ai)only[s4,xl,aj,aC,i,decide_false];exact fin S aV dv es H h (.refl _ _ _ _) (by rw[List.drop_of_length_le aa];rfl)
 |j+1,k,r+1,S,aV,dv,es,H,w,hm,h,aN,fin=>by
  have i:(k:Int)<(bs.length:Int):=aa;have l:k<bs.length:=aa;have on:=G8 f m o al (L0:=L0) (Q:=Q) (N:=N) j (k+1) r;have q:=h.g v f;rw[aN]at q;obtain⟨p,y,z⟩:=q.aD.int (j:=(k:Int)) (a:=(bs[k]:Int)) aa (by simp[aX,l]);rw[List.drop_eq_getElem_cons l]at fin;simp-implicitDefEqProofs(disch:=try exact ai)only[s4,xl,aj,aJ,aC,aL,i,decide_true,y,z,fo h.b7,fX oY f,h.oS f];refine aZ (Aq h m (o _ (List.getElem_mem l)) (h.ew v) (h.ew _)) ?_;rintro _ H1 ⟨rfl,wk',d,es',af,x,f1⟩;refine⟨f1.1,?_⟩;simp-implicitDefEqProofs(disch:=try exact ai)only[aj,aC,cq (show k<=1000000000 by omega)];have s:=on _ wk' d es' H1 aa aa af (by rw[TT];exact aN) λc B hk u t ah f2 e=>fin c B hk u t ah (f1.trans f2) e
  rw[x v aa]at s;exact s
end
end
section
open Go.a2
set_option maxRecDepth 2000
def Oj{n m V:Nat}{l:List bB}{zX:Nat->Prop}{Y:Nat->Nat->Prop}{S:bt}(i:dH n m l zX Y S)(a:gE n m l)(b:V=n+m*8)(v:Nat):∀q∈S.q v,q.o<V/\q.f<8:=by
 intro q aN;rcases i.qs v q aN with⟨_,h⟩|⟨_,h⟩
 ·have:=a _ h;exact⟨by have:=this.1;omega,this.2.2⟩
 ·have:=a _ h;exact⟨by have:=this.2.1;omega,this.2.2⟩
section
variable {n V a m:Nat}{l:List bB}{S:bt}{aV:List Int}{dv:Nat->ae}{es:List (Nat×Nat)}{H:ad}
def Ho(G:gE n m l)(R:V=n+m*8)(ap:0<V)(T:V<=1000000)(hm:m<=60){N:Nat}(a7:V+65<N):∀(r:Nat) (S:bt) (aV:List Int) (dv:Nat->ae) (es:List (Nat×Nat)) (H:ad),S.M<r->cj n V a S aV dv es H->kn n m l S->(∀v,(S.q v).length<=1000000000)->
  W (xo (aQ P aK) N r (.ptr (a+6) 0 0) H) λr H'=>r= .tuple []/\∃E wk' ak es',cj n V a E wk' ak es' H'/\kn n m l E/\pE S E/\E.work=[]/\Fr V a dv ak H H'
 |0,_,_,_,_,_,au,_,_,_=>aa
 |r+1,S,aV,dv,es,H,au,h,i,aq=>by
  have hlen:W (aQ P aK 223 [dv (2*V)] H) λr H'=>r= J X (aV.length:Nat)/\H'=H:=by
   refine BD 0 ?_;simp-implicitDefEqProofs(disch:=try exact ai)only[tq,br,h.w.aD.len lx];exact aG.2 ⟨rfl,rfl⟩
  have on:=Ho G R ap T hm a7 r;simp-implicitDefEqProofs(disch:=try exact ai)only[xo,Cg,aj,aJ,aL,fo h.b7];refine eu hlen ?_;by_cases K:aV=[]
  ·have hw:S.work=[]:=by
    have:=h.perm.length_eq;rw[K]at this;simp[aX]at this;exact List.length_eq_zero_iff.1 this.symm
   subst K;have al:¬(0:Int)<((([]:List Int).length:Nat):Int):=by simp
   simp-implicitDefEqProofs(disch:=try exact ai)only[aj,aJ,aC];exact aG.2 ⟨rfl,S,[],dv,es,h,i,⟨λ_ _ h=>h,λ_ _ h=>h,λ_=>rfl⟩,hw,.refl _ _ _ _⟩
  ·have al:(0:Int)<((aV.length:Nat):Int):=by have:=List.length_pos_iff.2 K;omega
   have i1:∀l i c,mE P 288 (.ptr l i c)=D (.iface 288 (.ptr l i c)):=λl i c=>aF
   simp-implicitDefEqProofs(disch:=try exact ai)only[aj,aJ,aC,aL,al,decide_true,i1];have bz:=h.MW;have bv:=h.lt;refine aZ (SR h.w h.wn (show a+6<a+7 by omega) h.b7 rfl rfl aa K) ?_;rintro _ f ⟨bj,wk',B,rfl,pm,q⟩;refine⟨q.next,?_⟩;have aw:bj∈aX S.work:=h.perm.mem_iff.1 (pm.mem_iff.1 (by simp));simp only[aX,List.mem_map]at aw;obtain⟨v,Y,rfl⟩:=aw;have d:v<V:=h.i_ v Y;have ba:wk'.Perm (aX (S.work.erase v)):=by
    have aP:=pm.trans h.perm;have aS:(aX S.work).Perm ((v:Int)::aX (S.work.erase v)):=(List.perm_cons_erase Y).map _;exact(List.perm_cons _).1 (aP.trans aS)
   have aH:pN P 3 Z (.iface 3 (J X (v:Nat)))=D (J X (v:Nat)):=aF;have ah:=h.aN ap q ba (h.ja.erase v) (λu hu=>h.i_ u (List.mem_of_mem_erase hu)) (λu hu e hm=>h.wt u hu e (List.mem_of_mem_erase hm));have f2:=h.Hg q;have bh:=yK (b':=false) ah.du (ah.Eh d);have bx:=h.lw;have an:=ah.Lz (v:=v) Z (λu hu e=>by
    by_cases av:u=v
    ·subst av;exact h.ja.not_mem_erase
    ·rw[Ef (by show v<S.waits.length;omega),if_neg av]at e;exact ah.wt u hu e)
   have f3:=f2.trans (Fr.set (dv:=dd dv (2*V) B) f (c:=5) aa (.row Z 1 (dw (S.waits.set v Z))));have bp:({S with work:=S.work.erase v,waits:=S.waits.set v Z}:bt)=jL S v:=rfl;have z:cj n V a (jL S v) wk' (dd dv (2*V) B) es (f.set (a+5) (.row Z 1 (dw (S.waits.set v Z)))):=an;have bg:S.s v|||ob (S.a v) (S.s v)=S.s v|||S.a v:=V9 (h.ew v) (by
    have a9:=h.ls;have:S.s v=S.a v&&&S.s v:=by
     apply Nat.eq_of_testBit_eq;intro j;rw[Nat.testBit_and];cases U:(S.s v).testBit j with
     |false=>simp
     |true=>rw[i.sle v j U];rfl
    rw[this];exact Nat.lt_of_le_of_lt Nat.and_le_left (h.ew v))
   have bb:S.s v<2^64:=by
    have:S.s v=S.a v&&&S.s v:=by
     apply Nat.eq_of_testBit_eq;intro j;rw[Nat.testBit_and];cases U:(S.s v).testBit j with
     |false=>simp
     |true=>rw[i.sle v j U];rfl
    rw[this];exact Nat.lt_of_le_of_lt Nat.and_le_left (h.ew v)
   have a9:=h.ls;have gs:(jL S v).seen[v]? =D (S.s v):=by
    show S.seen[v]? =_;unfold bt.s;rw[List.getD_eq_getElem?_getD,List.getElem?_eq_getElem aa];rfl
   have bi:cD P (f.set (a+5) (.row Z 1 (dw (S.waits.set v Z)))) 251 (.ptr (a+3) v 0) (J .u64 ((S.s v|||S.a v:Nat):Int))=D ((f.set (a+5) (.row Z 1 (dw (S.waits.set v Z)))).set (a+3) (.row Z 1 (gl (S.seen.set v (S.s v|||S.a v))))):=by
    rw[gf (n:=1) aF z.gH (uY gs) rfl rfl aa,<-E7];rfl
   have aM:cj n V a (lM (jL S v) v) wk' (dd dv (2*V) B) es ((f.set (a+5) (.row Z 1 (dw (S.waits.set v Z)))).set (a+3) (.row Z 1 (gl (S.seen.set v (S.s v|||S.a v))))):=z.ZM v (S.s v|||S.a v);have f4:=f3.trans (Fr.set (dv:=dd dv (2*V) B) _ (c:=3) aa (.row Z 1 (gl (S.seen.set v (S.s v|||S.a v)))));have bd:aI P (f.set (a+5) (.row Z 1 (dw (S.waits.set v Z)))) 251 (.ptr a v 0)=D (J .u64 (S.a v:Nat)):=z.oS d;have be:aI P (f.set (a+5) (.row Z 1 (dw (S.waits.set v Z)))) 251 (.ptr (a+3) v 0)=D (J .u64 (S.s v:Nat)):=z.Uk d;simp-implicitDefEqProofs(disch:=try exact ai)only[aj,aJ,aL,aH,fo ah.b7,fo z.b7,fX oX d,fX oY d,bh,bd,be,NR,Bh _ _ bb (yS _ _),bg,bi]
   have bw:=aM.lt;refine aZ (AQ (yS (S.a v) (S.s v))) ?_;rintro x af ⟨O,ab⟩;refine⟨ab.1,?_⟩;have a4:=aM.aE ab;have f5:=f4.trans (Fr.aE ab);have aT:Go.a2.bits (ob (S.a v) (S.s v))=j1 S v:=OS _ _;rw[aT]at O;have aA:Own V a (dd dv (2*V) B) af (aX (j1 S v)) x:=by
    refine⟨⟨_,O⟩,λL e=> ?_⟩;have:=O.iP e;refine⟨this.2,.inr aa,λo aR aO=> ?_⟩;have:=(aM.j7 aR aO).2;omega
   have bc:∀t∈j1 S v,t<m:=by
    intro t a1;simp only[j1,List.mem_filter,Bool.and_eq_true]at a1;exact(i.sound v t a1.2.1).site G
   have bq:(j1 S v).length<=64:=Nat.le_trans (List.length_filter_le _ _) (by simp);have a_:bL P .empty .len [30] [x]=D (J X ((j1 S v).length:Nat)):=by
    have:=O.aD.len b6 (H0:= .empty);simpa [aX]using this
   simp-implicitDefEqProofs(disch:=try exact ai)only[br,a_];have ar:(lM (jL S v) v).q v=S.q v:=rfl;refine Fe (n:=n) (a:=a) (m:=m) d R T bc aa (j1 S v).length 0 N _ wk' _ es af aa aa a4 aA (by rw[ar];exact Oj i G R v) (by rw[ar];exact aq v) ?_;intro p bl p7 aY ax k f6 am;rw[List.drop_zero]at am;have aU:p=nL n S v:=am;have bu:=k.Hk v;have a8:bL P .empty .len [30] [p7 v]=D (J X ((p.g v).length:Nat)):=by
    have:=(k.g v d).aD.len b6 (H0:= .empty);simpa [aX]using this
   simp-implicitDefEqProofs(disch:=try exact ai)only[xn,br,aj,aJ,aL,fo k.b7,fX e4 d,k.Ul d,a8];refine G8 (bs:=p.g v) d T (k.iN v) aa (p.g v).length 0 N p bl p7 aY ax aa aa k rfl ?_;intro ag bm rN a0 ay a5 f7 ao;rw[List.drop_zero,aU]at ao;have aW:ag=yQ n S v:=ao;obtain⟨i7,y,bf⟩:=i.step G Y;rw[<-aW]at i7 y bf;refine(on ag bm rN a0 ay aa a5 i7 (λu=>by rw[y.q];exact aq u)).mono ?_;rintro bA bo ⟨rfl,az,bn,z2,a3,a6,i8,Q,bk,f8⟩;exact⟨rfl,az,bn,z2,a3,a6,i8,⟨λu s e=>Q.a u s (y.a u s e),λu b e=>Q.g u b (y.g u b e),λu=>(Q.q u).trans (y.q u)⟩,bk,((f5.trans f6).trans f7).trans f8⟩
def SM(h:cj n V a S aV dv es H)(j:gE n m l)(d:V=n+m*8)(e:0<V)(f:V<=1000000)(hm:m<=60)(i:kn n m l S)(g:∀v,(S.q v).length<=1000000000):W (aQ P aK 182 [.ptr (a+6) 0 0] H) λr H'=>r= .tuple []/\∃b wk' c es',cj n V a b wk' c es' H'/\kn n m l b/\pE S b/\b.work=[]/\Fr V a dv c H H':=by
 refine XW (S.M+V+66) ?_;simp-implicitDefEqProofs(disch:=try exact ai)only[Cf];exact Ho j d e f hm aa _ S aV dv es H aa h i g
end
end
section
open Go.a2
set_option maxRecDepth 2000
def FE(l:Nat)(k:IntKind)(n:Int):fe l (.int k n)=D (.ptr l 0 0,.row Z 1 [[.int k n]]):=rfl
def Vm(l n:Nat)(aH:n<=1000000000):f_ (g9 P ⟨.leaf,l⟩ 243 (J X n) (J X n)) l=D (.aD l 0 n 1 (D n),.row Z 1 (gl (List.replicate n 0))):=by
 rw[qo (e:=251) (b:=8) (z:= J .u64 0) aF aF aF aF rfl rfl bU bU l n aH];simp[gl,ae.cells]
def vU(l n:Nat)(aH:n<=1000000000):f_ (g9 P ⟨.leaf,l⟩ 31 (J X n) (J X n)) l=D (.aD l 0 n 1 (D n),.row Z 1 ((List.range n).map λ_=>[.aB])):=by
 rw[qo (e:=30) (b:=24) (z:= .aB) aF aF aF aF rfl rfl bU bU l n aH];simp[ae.cells,List.map_const']
def Vp(l n:Nat)(aH:n<=1000000000):f_ (g9 P ⟨.leaf,l⟩ 244 (J X n) (J X n)) l=D (.aD l 0 n 1 (D n),.row Z 1 ((List.range n).map λ_=>[.aB])):=by
 rw[qo (e:=284) (b:=24) (z:= .aB) aF aF aF aF rfl rfl bU bU l n aH];simp[ae.cells,List.map_const']
def Vo(l n:Nat)(aH:n<=1000000000):f_ (g9 P ⟨.leaf,l⟩ 152 (J X n) (J X n)) l=D (.aD l 0 n 1 (D n),.row Z 1 ((List.range n).map λ_=>[.aB])):=by
 rw[qo (e:=31) (b:=24) (z:= .aB) aF aF aF aF rfl rfl bU bU l n aH];simp[ae.cells,List.map_const']
def Lr(n x y:Nat):∀(fs:List Nat) (S:bt) (u:Nat),(lL n S x y fs).q u=S.q u
 |[],_,_=>rfl
 |f::fs,S,u=>by rw[lL,Lr n x y fs,p8,p8]
def Fg(S:bt)(v:Nat)(q:a2.Ask)(u:Nat):((kt S v q).q u).length<=(S.q u).length+1:=by
 unfold kt;by_cases a:v<S.asks.length
 ·rw[J0 a];split
  ·rename_i h;subst h;simp
  ·omega
 ·show(({S with asks:=S.asks.set v (S.q v++[q])}:bt).q u).length<=_;rw[List.set_eq_of_length_le aa];show(S.q u).length<=_;omega
def OI(n:Nat)(S:bt)(c:bB)(u:Nat):((pW n S c).q u).length<=(S.q u).length+1:=by
 cases c with
 |base x y=>show((fm S x (1<<<y)).q u).length<=_;rw[HZ];omega
 |copy x y=>show((hl S y x).q u).length<=_;rw[p8];omega
 |load x y f=>exact Fg _ _ _ _
 |store x y f=>exact Fg _ _ _ _
 |same x y=>show((lL n S x y (List.range 8)).q u).length<=_;rw[Lr];omega
def oW:List Nat->bt->bt
 |[],S=>S
 |v::ak,S=>oW ak (hW S v)
def II:∀(ak:List Nat) (S:bt) (u:Nat),(oW ak S).q u=S.q u
 |[],_,_=>rfl
 |v::ak,S,u=>by rw[oW,II ak,IE]
section
variable {n V a m:Nat}{l:List bB}{S:bt}{aV:List Int}{dv:Nat->ae}{es:List (Nat×Nat)}{H:ad}
def dH.looks{n m:Nat}{l:List bB}:∀(ak:List Nat) (S:bt),kn n m l S->(∀v∈ak,v<n+m*8)->(∀c∈l,nd n S c)->kn n m l (oW ak S)/\∀c∈l,nd n (oW ak S) c
 |[],S,h,_,a=>⟨h,a⟩
 |v::ak,S,h,d,a=>by
  have af:kn n m l (hW S v):=dH.hW h (d v (by simp));exact dH.looks ak _ af (λu hu=>d u (by simp[hu])) λc aq=>(a c aq).oL (U0 S v).b
def cj.start{n V a:Nat}{H:ad}(b7:H.get (a+6)=D (.row Z 9 [hv n V a λ_=> .aB]))(cQ:H.get a=D (.row Z 1 (gl (List.replicate V 0))))(eY:H.get (a+1)=D (.row Z 1 ((List.range V).map λ_=>[.aB])))(hp:H.get (a+2)=D (.row Z 1 ((List.range V).map λ_=>[.aB])))
  (gH:H.get (a+3)=D (.row Z 1 (gl (List.replicate V 0)))) (gr:H.get (a+4)=D (.map [])) (du:H.get (a+5)=D (.row Z 1 (dw (List.replicate V Z)))):cj n V a (fr V) [] (λ_=> .aB) [] H:=
 {
  b7:=b7,cQ:=cQ,eY:=eY,hp:=hp,gH:=gH,gr:=gr,du:=du,c9:=by simp[fr],aW:=by simp[fr],gx:=by simp[fr],ls:=by simp[fr],lw:=by simp[fr]
  g:=λv d=>by
   have:(fr V).g v=[]:=kx;rw[this];exact bq.nil _ _ _ _
  q:=λv d=>by
   have:(fr V).q v=[]:=kx;rw[this];exact bq.nil _ _ _ _
  w:=bq.nil _ _ _ _
  wn:=λL n c e=>by cases e
  fL:=λo fp L _ _ e _=>by cases e
  perm:= .refl _
  jl:=λx y=>by
   have:(fr V).g x=[]:=kx;rw[this];simp
  ji:=λv=>by
   have:(fr V).g v=[]:=kx;rw[this];simp
  iN:=λv b h=>by
   have:(fr V).g v=[]:=kx;rw[this]at h;simp at h
  ja:=List.nodup_nil
  i_:=λv h=>by simp[fr]at h
  wt:=λu _ _=>by simp[fr]
  ew:=λv=>by
   have:(fr V).a v=0:=kx;rw[this];decide}
def Fw{lv:ae}(s:gE n m l)(hm:m<=60)(t:V=n+m*8)(u:V<=1000000)(al:l.length<=800000000){x4 x5 x6 x8:ae}{Q:ae->ad->Prop}{N:Nat}:∀(j k r:Nat) (S:bt) (aV:List Int) (dv:Nat->ae) (es:List (Nat×Nat)) (H:ad),k+j=l.length->j<r->cj n V a S aV dv es H->fG n m l S->(∀v,(S.q v).length<=k)->aO e0 H (· <a) l lv->
  (∀b wk' d es' H',cj n V a b wk' d es' H'->Fr V a dv d H H'->b=pX n (l.drop k) S->(∀v,(b.q v).length<=l.length)->W (wW (aQ P aK) N x4 x5 x6 x8 (J X V) (.ptr (a+6) 0 0) H') Q)->
  W (qH (aQ P aK) N r x4 x5 x6 x8 (J X V) (.ptr (a+6) 0 0) lv (J X l.length) (J X k) H) Q
 |_,_,0,_,_,_,_,_,_,K,_,_,_,_,_=>aa
 |0,k,r+1,S,aV,dv,es,H,G,_,h,y,aN,o,fin=>by
  have g:¬(k:Int)<(l.length:Int):=aa;simp-implicitDefEqProofs(disch:=try exact ai)only[qH,wV,aj,aC,g,decide_false];exact fin S aV dv es H h (.refl _ _ _ _) (by rw[List.drop_of_length_le aa];rfl) λv=>by have:=aN v;omega
 |j+1,k,r+1,S,aV,dv,es,H,G,K,h,y,aN,o,fin=>by
  have g:(k:Int)<(l.length:Int):=aa;have i:k<l.length:=aa;have on:=Fw (lv:=lv) s hm t u al (x4:=x4) (x5:=x5) (x6:=x6) (x8:=x8) (Q:=Q) (N:=N) j (k+1) r;obtain⟨p,L,M⟩:=o.F5 (j:=(k:Int)) (c:=l[k]) aa (by simp[i]);have w:l[k]∈l:=List.getElem_mem i;rw[List.drop_eq_getElem_cons i,pX]at fin;generalize l[k]=c at*;have x:=av.push H (.row Z 4 [dk c]);have st:cD P (H.push (.row Z 4 [[J X 0,J X 0,J X 0,J X 0]])) 56 (.ptr H.next 0 0) (.agg (dk c))=D (H.push (.row Z 4 [dk c])):=by
   rw[gf (n:=4) aF (ad.a_ H _) rfl (by cases c<;>rfl) (by cases c<;>rfl) bU];have:eZ [ae.int X 0,J X 0,J X 0,J X 0] 0 (ae.agg (dk c)).cells=dk c:=by cases c<;>rfl
   show D ((H.push _).set H.next (.row Z 4 [eZ _ 0 _]))=_;rw[this,ad.kH]
  have af:=h.aE x;simp-implicitDefEqProofs(disch:=try exact ai)only[qH,wV,Nat.reduceAdd,aj,aJ,aC,g,decide_true,L,M _ (av.refl _),st,Iu (ad.a_ H (.row Z 4 [dk c]))];refine aZ (OJ af t u hm (s _ w) λv=>by have:=aN v;omega) ?_;rintro _ H1 ⟨rfl,wk',d,es',ah,_,f2⟩;refine⟨f2.1,?_⟩;have f:Fr V a dv d H H1:=(Fr.aE x).trans f2;simp-implicitDefEqProofs(disch:=try exact ai)only[aj,aC,cq (show k<=1000000000 by omega)];exact on _ wk' d es' H1 aa aa ah (y.begin hm s w).1 (λv=>by have:=OI n S c v;have:=aN v;omega) (o.gy (h.gy f)) λb O hk E z an f3 e B=>fin b O hk E z an (f.trans f3) e B
def IK(l:V=n+m*8)(f:V<=1000000){x4 x5 x6 x8:ae}{Q:ae->ad->Prop}{N:Nat}:∀(j k r:Nat) (S:bt) (aV:List Int) (dv:Nat->ae) (es:List (Nat×Nat)) (H:ad),k+j=V->j<r->cj n V a S aV dv es H->
  (∀b wk' c es' H',cj n V a b wk' c es' H'->Fr V a dv c H H'->b=oW ((List.range V).drop k) S->W (wX (aQ P aK) N x4 x5 x6 x8 (.ptr (a+6) 0 0) H') Q)->
  W (sO (aQ P aK) N r x4 x5 x6 x8 (.ptr (a+6) 0 0) (J X V) (J X k) H) Q
 |_,_,0,_,_,_,_,_,_,p,_,_=>aa
 |0,k,r+1,S,aV,dv,es,H,o,_,h,fin=>by
  have d:¬(k:Int)<(V:Int):=aa;simp-implicitDefEqProofs(disch:=try exact ai)only[sO,wU,aj,aC,d,decide_false];exact fin S aV dv es H h (.refl _ _ _ _) (by rw[List.drop_of_length_le (by simp;omega)];rfl)
 |j+1,k,r+1,S,aV,dv,es,H,o,p,h,fin=>by
  have d:(k:Int)<(V:Int):=aa;have on:=IK l f (x4:=x4) (x5:=x5) (x6:=x6) (x8:=x8) (Q:=Q) (N:=N) j (k+1) r;have e:(List.range V).drop k=k::(List.range V).drop (k+1):=by
   rw[List.drop_eq_getElem_cons (by simp;omega)];simp
  rw[e,oW]at fin;simp-implicitDefEqProofs(disch:=try exact ai)only[sO,wU,aj,aC,d,decide_true];refine aZ (IH h f (show k<V by omega)) ?_;rintro _ H1 ⟨rfl,wk',c,es',ah,_,f2⟩;refine⟨f2.1,?_⟩;simp-implicitDefEqProofs(disch:=try exact ai)only[aj,aC,cq (show k<=1000000000 by omega)];exact on _ wk' c es' H1 aa aa ah λb q hk i g an f3 e=>fin b q hk i g an (f2.trans f3) e
