/-
  Texts of one proof, laid together: Rp Rq Rr Rv Rw We Wf Vj Vk Vl.
-/
import Derived.Test.YtghmbpmaafnodaaDoorMS
set_option linter.unusedVariables false
set_option linter.unusedSimpArgs false
set_option linter.defProp false
open Option renaming some→D
open Bool renaming true→X,false→U
open Go.bs.aa renaming int→I,str→Z,bool→Y
open Go.IntKind renaming i64→J
namespace Go.Proofs.YtghmbpmaafnodaaDoor
open Go.bs
open Nat (reduceAdd reduceLeDiff)
def dU.rd{α:Type}{K:h4 α}{H:ad}{ok:Nat->Prop}{l:List α}{v:aa}(h:dU K H ok l v):bl (D v) v=true:=by
 rcases h with⟨rfl,_⟩|⟨L,i,cap,ro,els,rfl,_⟩|⟨L,i,cap,rfl,_⟩
 ·rfl
 ·exact lG _ _ _ _ _
 ·exact lG _ _ _ _ _
def c_.rd{H:ad}{ok:Nat->Prop}{l:List bM}{v:aa}(h:c_ H ok l v):bl (D v) v=true:=by
 rcases h with⟨rfl,_⟩|⟨L,i,cap,ro,els,rfl,_⟩|⟨L,i,cap,rfl,_⟩
 ·rfl
 ·exact lG _ _ _ _ _
 ·exact lG _ _ _ _ _
def Ca(p:ch)(l:List bF):flat (gb p++l)=p.name++([58,32]++(flat (cj p.cf p.cS)++flat l)):=vM _ _ _ _
def tc{p:ch}(h:hg p):(flat (gb p)).length<=40:=by
 have:=e5 h.n;have:=gU h.o;have:=h.o.2.1;unfold gb;rw[wJ];omega
def wF:∀l:List ch,(∀p∈l,hg p)->(flat (eY l)).length<=44*l.length
 |[],_=>by simp[eY,flat]
 |p::r,h=>by
  have c:=tc (h p (by simp));have d:=wF r λx a=>h x (List.mem_cons_of_mem _ a)
  rw[eY,iF,c3,dj,jB];simp only[List.length_cons,List.length_nil];omega
def Cc(x:fo)(l:List bF):flat (tx x++l)=su++([32]++(x.name++([32,123,10]++(flat (eY x.fields)++([125,10]++flat l))))):=by
 unfold tx;simp only[List.cons_append,List.append_assoc,List.nil_append];rw[hl,eo,ja,eo,c2,nR,db,c2,nR];rfl
def B9(x:ch)(l:List bF):flat (tw x++l)=ss++([32]++(flat (gb x)++([59,10]++flat l))):=by
 unfold tw;simp only[List.cons_append,List.append_assoc,List.nil_append];rw[hl,eo,db,c2,nR];rfl
def KD{x:fo}(h:o6 x):(flat (tx x)).length<=400:=by
 have a:=wF x.fields h.f;have c:=e5 h.n;have d:=h.l;have:=Cc x [];rw[List.append_nil,c5,List.append_nil]at this;rw[this];simp only[List.length_append,List.length_cons,List.length_nil,su];omega
def KA{x:ch}(h:hg x):(flat (tw x)).length<=60:=by
 have a:=tc h;have:=B9 x [];rw[List.append_nil,c5,List.append_nil]at this;rw[this];simp only[List.length_append,List.length_cons,List.length_nil,ss];omega
def JA(x:fo)(l:List fh):flat (cT (.r x::l))=su++([32]++(x.name++([32,123,10]++(flat (eY x.fields)++([125,10]++flat (cT l)))))):=by
 rw[cT,pO,Cc]
def Jz(x:ch)(l:List fh):flat (cT (.g x::l))=ss++([32]++(flat (gb x)++([59,10]++flat (cT l)))):=by
 rw[cT,pO,B9]
def CS:∀l:List ch,(∀p∈l,hg p)->(flat (n8 l)).length<=44*l.length
 |[],_=>by simp[n8,flat]
 |p::r,h=>by
  have c:=tc (h p (by simp));have d:=CS r λx a=>h x (List.mem_cons_of_mem _ a)
  rw[n8,dj,eP,c3];simp only[List.length_cons,List.length_nil];omega
def tb(l:List ch)(h:∀p∈l,hg p):(flat (hq l)).length<=44*l.length:=by
 cases l with
 |nil=>simp[hq,flat]
 |cons p r=>
  have c:=tc (h p (by simp));have d:=CS r λx a=>h x (List.mem_cons_of_mem _ a)
  rw[hq,c3,List.length_cons];omega
def iG(f:Fn):aC:=bif f.has then[58,32]++flat (cj f.dS f.rd)else[]
def Jy(f:Fn)(l:List bF):flat (xa f++l)=ns++([32]++(f.name++([40]++(flat (hq f.params)++([41]++(iG f++([32,123,10]++(flat (cU 1 f.body)++([125,10]++flat l))))))))):=by
 unfold xa;simp only[List.cons_append,List.append_assoc,List.nil_append];rw[hl,eo,ja,c2,db,c2];have e:∀m,flat ((bif f.has then bB [58]::cA::cj f.dS f.rd else[])++m)=iG f++flat m:=by
  intro m;unfold iG;cases f.has
  ·rfl
  ·rw[aW,aW,List.cons_append,List.cons_append,c2,eo,db];simp
 rw[e];have:=q8 [] (cU 1 f.body) (nl::l);rw[this,nR];simp
def B_(f:Fn)(l:List fh):flat (cT (.f f::l))=ns++([32]++(f.name++([40]++(flat (hq f.params)++([41]++(iG f++([32,123,10]++(flat (cU 1 f.body)++([125,10]++flat (cT l)))))))))):=by
 rw[cT,pO,Jy]
def pP:∀a b:List fh,cT (a++b)=cT a++cT b
 |[],_=>rfl
 |i::a,b=>by rw[List.cons_append,cT,pP a b,cT,List.append_assoc]
def CR:∀l:List fo,(∀x∈l,o6 x)->(flat (cT (l.map fh.r))).length<=400*l.length
 |[],_=>by simp[cT,flat]
 |x::r,h=>by
  have c:=KD (h x (by simp));have d:=CR r λx a=>h x (List.mem_cons_of_mem _ a)
  rw[List.map_cons,cT,c3,List.length_cons,pO];omega
def CQ:∀l:List ch,(∀x∈l,hg x)->(flat (cT (l.map fh.g))).length<=60*l.length
 |[],_=>by simp[cT,flat]
 |x::r,h=>by
  have c:=KA (h x (by simp));have d:=CQ r λx a=>h x (List.mem_cons_of_mem _ a)
  rw[List.map_cons,cT,c3,List.length_cons,pO];omega
def n9(g:dv):List bF:=cT (g.dk.map .r++(g.globals.map .g++g.funcs.map .f))
structure yB(g:dv):Prop where
 og:∀x∈g.dk,o6 x
 dr:∀x∈g.globals,hg x
 cC:∀x∈g.funcs,o5 x/\dC x.body<=1000000000
 gT:g.dk.length<=100
 nX:g.globals.length<=100
 pI:g.funcs.length<=100
section
variable {H0:ad}{ok:Nat->Prop}{r:Nat}{bL bT bP:aa}{g:dv}
end
def Cv:∀l:List ch,Lib.joinTail [44,32] (l.map λp=>flat (gb p))=flat (n8 l)
 |[]=>rfl
 |p::r=>by
  have a:=Cv r;rw[n8,c2,eo,db,<-a,List.map_cons,Lib.joinTail,List.map_cons,List.flatten_cons,Lib.joinTail];simp
def Cu:∀l:List ch,Lib.join (l.map λp=>flat (gb p)) [44,32]=flat (hq l)
 |[]=>rfl
 |p::r=>by rw[List.map_cons,Lib.join_cons,Cv,hq,db]
def jx(f:Fn):aC:=ns++([32]++(f.name++([40]++(flat (hq f.params)++([41]++(iG f++[32,123]))))))
section
variable {N:Nat}{H0:ad}{r L i n:Nat}{cap:Option Nat}{ro:Bool}{els:List (List aa)}
def Df(G:H0.get L=D (.row ro 4 els))(ai:n<=1000){all:List ch}(m:∀(j:Nat) (a:ch),all[j]? =D a->els[i+j]? =D a.cells)(hw:∀p∈all,hg p)(ak:n=all.length){Q:aa->ad->Prop}(E:∀v H,aO H0 H->(aD P ay 59 [v,Z [44,32]] H=D (Z (flat (hq all)),H))->W (mU (aD P ay) N (.ptr r 0 0) v H) Q):∀(es:List ch) (j k:Nat) (done:List ch) (v:aa) (H:ad),all=done++es->done.length=j->es.length<k->aO H0 H->c7 px (λl=>H0.next<=l) H (done.map λe=>flat (gb e)) v->
  W (lQ (aD P ay) N k (.ptr r 0 0) v (.aB L i n 4 cap) (I J n) (I J j) H) Q
 |_,_,0,_,_,_,_,_,A,_,_=>af
 |[],j,k+1,done,v,H,c,y,A,pp,w=>by
  rw[List.append_nil]at c;subst c;have z:¬((j:Int)<(n:Int)):=af;have aC:=tb all hw;have an:aD P ay 59 [v,Z [44,32]] H=D (Z (flat (hq all)),H):=by
   rw[<-Cu];exact s7 w (by rw[List.length_map];omega) (by rw[Cu];omega)
  simp-implicitDefEqProofs(disch:=try exact aj)only[lQ,p5,reduceAdd,reduceLeDiff,reduceIte,aw,z,decide_false];exact E v H pp an
 |x::es,j,k+1,done,v,H,c,y,A,pp,w=>by
  simp only[List.length_cons]at A;have ax:all.length=done.length+(es.length+1):=by rw[c,List.length_append,List.length_cons]
  have z:(j:Int)<(n:Int):=af;have ao:((j:Int)).toNat=j:=af;have ag:(0:Int)<=(j:Int):=af;have au:IntKind.i64.wrap ((j:Int)+1)=((j+1:Nat):Int):=by rw[wrap_i64 af af];omega
  have O:all[j]? =D x:=by rw[c,List.getElem?_append_right af,y,Nat.sub_self];rfl
  have a6:=m j x O;have aI:=hw x (List.mem_of_getElem? O);have aF:=e5 aI.n;have az:=gU aI.o;have aG:=aI.o.2.1;have aA:=jd x.cf x.cS;have g1:=pp.get G;have B:=aO.push H (.row U 4 [x.cells]);have u:=ad.bI H (.row U 4 [x.cells]);have aH:H.next<(H.push (.row U 4 [x.cells])).next:=by simp
  simp only[ch.cells]at a6 B u;simp-implicitDefEqProofs(disch:=try exact aj)only[lQ,p5,reduceAdd,reduceLeDiff,reduceIte,aw,z,decide_true,ag,ao,g1,a6];refine aP (type20 aI.o.1 aI.o.2.1 af) ?_;rintro _ d ⟨rfl,q⟩;refine⟨q.1,?_⟩;have ae:=q.get u;have s:=pp.trans (B.trans q);have F:=(w.aM B).aM q;have al:flat (gb x)=x.name++[58,32]++flat (cj x.cf x.cS):=by
   have:=Ca x [];rw[List.append_nil,c5,List.append_nil]at this;rw[this];simp
  have aE:aq P .add 9 X (Z x.name) (Z [58,32])=D (Z (x.name++[58,32])):=c4 (by simp only[List.length_cons,List.length_nil];omega);have bn:aq P .add 9 U (Z (x.name++[58,32])) (Z (flat (cj x.cf x.cS)))=D (Z (flat (gb x))):=by
   rw[al];exact c4 (by simp only[List.length_append,List.length_cons,List.length_nil];omega)
  have am:=xN d.next (flat (gb x))
  obtain⟨R,H',an,S,T,b3⟩:=c7.app (K:=px) (ok':=λl=>H0.next<=l) Dq F (okE:=λ_=>False) (a:=flat (gb x)) (cs:=[Z (flat (gb x))]) rfl (λ_ _ h=>h.elim) (λ_ _ h _=>h) (by have:=s.1;show H0.next<=d.next+1;omega) (by rw[List.length_map];omega);have ap:aO H0 H':=by
   refine⟨by have:=s.1;omega,λl m=> ?_⟩;have:=s.1;rw[b3 l af λL M ah=> ?_]
   ·exact s.2 l m
   ·subst ah;rcases F with⟨rfl,_⟩|⟨L',_,rfl,av,_⟩
    ·cases M
    ·cases M;omega
  have ab:c1 P (d.push (.row U 1 [[Z (flat (gb x))]])) [50,50] v (.aB d.next 0 1 1 (D 1))=D (R,H'):=an;have V:(d.push (.row U 1 [[Z (flat (gb x))]])).next<=H'.next:=by rw[ad.bX];exact T
  simp-implicitDefEqProofs(disch:=try exact aj)only[reduceAdd,reduceLeDiff,reduceIte,aw,u,ae,aE,bn,am,ab,eZ,V,au];exact Df G ai m hw ak E es (j+1) k (done++[x]) R H' (by rw[c,List.append_assoc];rfl) (by rw[List.length_append,y];rfl) af ap (by rw[List.map_append];exact S)
end
def JT{H:ad}{ok:Nat->Prop}{f:Fn}{cs:List aa}(h:ia.V H ok f cs)(hw:o5 f):W (aD P ay 30 [.agg cs] H) λv H'=>v= Z (jx f)/\aO H H':=by
 obtain⟨c,bv,rfl,ax,E⟩:=h;have bO:=ax.one;have b2:=E.ej;have B:∀l,dO l (.agg [Z f.name,c,Y f.has,Z f.dS,I J f.rd,bv,I J f.pos])=D (.ptr l 0 0,.row U 7 [[Z f.name,c,Y f.has,Z f.dS,I J f.rd,bv,I J f.pos]]):=λl=>hk l _ (by simp only[List.all_cons,List.all_nil,hp,gF,rI,bO,b2,Bool.and_self])
 have pp:=aO.push H (.row U 7 [[Z f.name,c,Y f.has,Z f.dS,I J f.rd,bv,I J f.pos]]);have dr:=ad.bI H (.row U 7 [[Z f.name,c,Y f.has,Z f.dS,I J f.rd,bv,I J f.pos]]);have am:=e5 hw.n;have al:=tb f.params hw.p;have ab:=hw.l;have F:=λH'=>ax.nW H'
 have K:=ax.a1 (dp.aM pp);have fin:∀v d,aO (H.push (.row U 7 [[Z f.name,c,Y f.has,Z f.dS,I J f.rd,bv,I J f.pos]])) d->(aD P ay 59 [v,Z [44,32]] d=D (Z (flat (hq f.params)),d))->W (mU (aD P ay) 1000 (.ptr H.next 0 0) v d) λv H'=>v= Z (jx f)/\aO H H':=by
  intro v d o an;have g2:=o.get dr;have aE:aq P .add 9 X (Z [102,117,110,99,32]) (Z f.name)=D (Z ([102,117,110,99,32]++f.name)):=c4 (by simp only[List.length_cons,List.length_nil];omega);have bn:aq P .add 9 X (Z ([102,117,110,99,32]++f.name)) (Z [40])=D (Z ([102,117,110,99,32]++f.name++[40])):=c4 (by simp only[List.length_append,List.length_cons,List.length_nil];omega);have b8:aq P .add 9 U (Z ([102,117,110,99,32]++f.name++[40])) (Z (flat (hq f.params)))=D (Z ([102,117,110,99,32]++f.name++[40]++flat (hq f.params))):=c4 (by simp only[List.length_append,List.length_cons,List.length_nil];omega)
  have dK:aq P .add 9 X (Z ([102,117,110,99,32]++f.name++[40]++flat (hq f.params))) (Z [41])=D (Z ([102,117,110,99,32]++f.name++[40]++flat (hq f.params)++[41])):=c4 (by simp only[List.length_append,List.length_cons,List.length_nil];omega);obtain⟨T,aK⟩:∃T,T=[102,117,110,99,32]++f.name++[40]++flat (hq f.params)++[41]:=⟨_,rfl⟩;have ae:T.length<=1000:=by rw[aK];simp only[List.length_append,List.length_cons,List.length_nil];omega
  rw[<-aK]at dK;unfold mU;simp-implicitDefEqProofs(disch:=try exact aj)only[reduceAdd,reduceLeDiff,reduceIte,aw,an,eZ,bj,g2];rw[aE,dT,bn,dT,b8,dT,dK,dT];have s:∀q:aC,iG f=q->T++(q++[32,123])=jx f:=by
   intro q A;rw[aK];unfold jx;rw[A];simp[ns]
  clear aK aE bn b8 dK;rcases hw.r with⟨e,i⟩|⟨e,ah,ag⟩
  ·have ai:=gU i;have ao:=i.2.1;have ak:=jd f.dS f.rd;have k:iG f=[58,32]++flat (cj f.dS f.rd):=by unfold iG;rw[e];rfl
   rw[e]at g2;simp-implicitDefEqProofs(disch:=try exact aj)only[reduceAdd,reduceLeDiff,reduceIte,aw,g2];refine aP (type20 (x:=f.dS) (z:=f.rd) i.1 i.2.1 af) ?_;rintro _ O ⟨rfl,w⟩;refine⟨w.1,?_⟩;have kG:aq P .add 9 X (Z [58,32]) (Z (flat (cj f.dS f.rd)))=D (Z ([58,32]++flat (cj f.dS f.rd))):=c4 (by simp only[List.length_append,List.length_cons,List.length_nil];omega);have nK:aq P .add 9 U (Z T) (Z ([58,32]++flat (cj f.dS f.rd)))=D (Z (T++([58,32]++flat (cj f.dS f.rd)))):=c4 (by simp only[List.length_append,List.length_cons,List.length_nil];omega);have lu:aq P .add 9 X (Z (T++([58,32]++flat (cj f.dS f.rd)))) (Z [32,123])=D (Z (T++([58,32]++flat (cj f.dS f.rd))++[32,123])):=c4 (by simp only[List.length_append,List.length_cons,List.length_nil];omega)
   rw[kG,dT,nK,dT,ox,lu,dT];exact ba.2 ⟨by rw[List.append_assoc T,s _ k],pp.trans (o.trans w)⟩
  ·have k:iG f=[]:=by unfold iG;rw[e];rfl
   rw[e]at g2;simp-implicitDefEqProofs(disch:=try exact aj)only[reduceAdd,reduceLeDiff,reduceIte,aw,g2];have lu:aq P .add 9 X (Z T) (Z [32,123])=D (Z (T++[32,123])):=c4 (by simp only[List.length_append,List.length_cons,List.length_nil];omega);rw[ox,lu,dT];exact ba.2 ⟨by rw[<-s _ k];rfl,pp.trans o⟩
 refine cF (λ_=>Mi 1000) ?_;rw[tY];simp-implicitDefEqProofs(disch:=try exact aj)only[reduceAdd,reduceLeDiff,reduceIte,aw,B,dr,F];by_cases m:f.params.length=0
 ·have L:=List.length_eq_zero_iff.1 m;have y:¬((0:Int)<((0:Nat):Int)):=af;have an:aD P ay 59 [.ar,Z [44,32]] (H.push (.row U 7 [[Z f.name,c,Y f.has,Z f.dS,I J f.rd,bv,I J f.pos]]))=D (Z (flat (hq f.params)),H.push (.row U 7 [[Z f.name,c,Y f.has,Z f.dS,I J f.rd,bv,I J f.pos]])):=by
   rw[L];exact s7 (ok:=λ_=>True) (l:=[]) (.inl ⟨rfl,rfl⟩) (Nat.zero_le _) (Nat.zero_le _)
  rw[m];simp-implicitDefEqProofs(disch:=try exact aj)only[lQ,p5,reduceAdd,reduceLeDiff,reduceIte,aw,y,decide_false];exact fin _ _ (.refl _) an
 ·obtain⟨Q,i2,R,ap,S,rfl,u,G⟩:=K.row m;have M:f_.esz=4:=rfl;rw[M]at u;exact Df (N:=1000) u af (λj a h=>by obtain⟨cs,an,aE⟩:=G j a h;rw[an,show cs=a.cells from aE]) hw.p rfl fin f.params 0 1000 [] .ar _ rfl rfl af (.refl _) (.inl ⟨rfl,rfl⟩)
def kQ:pad 0=[]:=rfl
def zE:∀l:aC,bytesOf (eL l)=D l
 |[]=>rfl
 |c::l=>by
  have a:=zE l;unfold eL at a ⊢;rw[List.map_cons,bytesOf,a];simp[Go.bs.byteOf]
open Classical in
def Pm{H:ad}{p m:Nat}{acc:aC}(h:fW H p m acc)(d:acc.length<=100000000000000):∃H',aD P ay 32 [.ptr p 0 0] H=D (Z acc,H')/\H'.next=H.next/\∀l,l≠m->H'.get l=H.get l:=by
 obtain⟨-,-,a,b,c,-,j⟩:=h;rcases j with⟨rfl,rfl⟩|⟨i,rfl,n⟩
 ·refine⟨H,mr ?_,rfl,λ_ _=>rfl⟩;unfold ay;simp only[c]
 ·refine⟨H.set m .dead,mr ?_,by simp,λl d=>ad.get_set_other (λe=>d e.symm)⟩;have an:bytesOf (((eL acc).drop 0).take acc.length)=D acc:=by
   rw[List.drop_zero,List.take_of_length_le (by rw[lr];omega)];exact zE acc
  have k:0<acc.length/\0+acc.length<=(eL acc).length/\True/\acc.length<=140737488355328/\((eL acc).drop 0).take acc.length=acc.map (λb=>[I .u8 b.toNat]):=⟨List.length_pos_iff.2 i,by rw[lr];omega,trivial,af,by rw[List.drop_zero,List.take_of_length_le (by rw[lr];omega)];rfl⟩;unfold ay;simp only[c,n,an];rw[if_pos k]
section
variable {N:Nat}{H0:ad}{r L i n n0 p m0:Nat}{cap:Option Nat}{ro:Bool}{els:List (List aa)}{ok:Nat->Prop}{Q:aa->ad->Prop}{acc:aC}
def Dk(q:∀l,ok l->l<n0)(M:ok L)(aC:n<=100){all:List Fn}(aF:n=all.length)(hw:∀x∈all,o5 x/\dC x.body<=1000000000)
  (O:∀m H,e1 n0 p m H (acc++flat (cT (all.map .f)))->cR p m0 H0 m H->W (mO (aD P ay) N (.ptr p 0 0) H) Q):∀(es:List Fn) (j k:Nat) (done:List Fn) (m:Nat) (H:ad),all=done++es->done.length=j->es.length<k->H.get L=D (.row ro 7 els)->(∀(j:Nat) (a:Fn),all[j]? =D a->∃cs,els[i+j]? =D cs/\ia.V H ok a cs)->e1 n0 p m H (acc++flat (cT (done.map .f)))->acc.length+(flat (cT (done.map .f))).length+2000000000*es.length<=400000000000->cR p m0 H0 m H->
  W (lJ (aD P ay) N k (.ptr p 0 0) (.aB L i n 7 cap) (I J n) (I J j) H) Q
 |_,_,0,_,_,_,_,_,E,_,_,_,_,_=>af
 |[],j,k+1,done,m,H,e,z,E,A,F,c,R,w=>by
  rw[List.append_nil]at e;subst e;have B:¬((j:Int)<(n:Int)):=af;simp-implicitDefEqProofs(disch:=try exact aj)only[lJ,p0,reduceAdd,reduceLeDiff,reduceIte,aw,B,decide_false];exact O m H c w
 |x::es,j,k+1,done,m,H,e,z,E,A,F,c,R,w=>by
  simp only[List.length_cons]at E R;have a0:all.length=done.length+(es.length+1):=by rw[e,List.length_append,List.length_cons]
  have B:(j:Int)<(n:Int):=af;have aH:((j:Int)).toNat=j:=af;have av:(0:Int)<=(j:Int):=af;have aU:IntKind.i64.wrap ((j:Int)+1)=((j+1:Nat):Int):=by rw[wrap_i64 af af];omega
  have ag:all[j]? =D x:=by rw[e,List.getElem?_append_right af,z,Nat.sub_self];rfl
  obtain⟨cs,a6,ae⟩:=F j x ag;obtain⟨aI,aK⟩:=hw x (List.mem_of_getElem? ag);have aJ:=ae;obtain⟨ak,bv,rfl,ax,S⟩:=ae;have bO:=ax.one;have b2:=S.ej;have a8:=e5 aI.n;have a5:=tb x.params aI.p;have aZ:=aI.l;have a7:(iG x).length<=30:=by
   unfold iG;rcases aI.r with⟨y,aa⟩|⟨y,_⟩
   ·have:=gU aa;have:=aa.2.1;have:=jd x.dS x.rd;rw[y,aW];simp only[List.length_append,List.length_cons,List.length_nil];omega
   ·rw[y];simp
  have a4:(jx x).length<=1000:=by unfold jx;simp only[List.length_append,List.length_cons,List.length_nil,ns];omega
  have aA:jx x≠[]:=by unfold jx ns;simp
  have u:=aO.push H (.row U 7 [[Z x.name,ak,Y x.has,Z x.dS,I J x.rd,bv,I J x.pos]]);have aq:=ad.bI H (.row U 7 [[Z x.name,ak,Y x.has,Z x.dS,I J x.rd,bv,I J x.pos]]);have az:=JT (ia.a1 (dp.aM u) aJ) aI;have aL:=c.aM u;have am:H.next≠p/\H.next≠m:=by have:=c.lm;have:=c.iW.lt;omega
  obtain⟨d,a3,T⟩:=aI.b;simp-implicitDefEqProofs(disch:=try exact aj)only[lJ,p0,reduceAdd,reduceLeDiff,reduceIte,aw,B,decide_true,av,aH,A,a6,bO,b2];refine aP az ?_;rintro _ G ⟨rfl,o⟩;refine⟨o.1,?_⟩;have K:=o.get aq;have aG:=xN G.next (jx x)
  simp-implicitDefEqProofs(disch:=try exact aj)only[bh,bx,aG];refine aP (gE (aL.aM o) (deep:=0) rfl [jx x] (by simpa using aA) (by simp) af (by simp only[List.flatten_cons,List.flatten_nil,List.length_append,List.length_cons,List.length_nil];omega) rfl rfl rfl) ?_;rintro _ ao ⟨aR,m4,aN,v⟩;refine⟨aR,?_⟩;have au:=v.get K am.1 am.2;have cY:=(S.aM (u.trans o)).a1 (v.a1 c.aI c.hm q).s;have a9:H.next≠m4:=by have:=v.1;have:=ad.aS K;omega
  simp-implicitDefEqProofs(disch:=try exact aj)only[reduceAdd,reduceLeDiff,reduceIte,aw,au];refine aP (IC x.body d 1 T af aK ao ok bv _ n0 p m4 _ rfl cY q aN (by simp only[List.flatten_cons,List.flatten_nil,List.length_append,List.length_cons,List.length_nil,kQ];omega)) ?_;rintro _ aY ⟨m5,aQ,al⟩;refine⟨al.next,?_⟩;have a2:=rp (deep:=1) T af;simp-implicitDefEqProofs(disch:=try exact aj)only[bh,bx];refine aP (gE aQ (deep:=0) rfl [[125]] (by simp) (by simp) af (by simp only[List.flatten_cons,List.flatten_nil,List.length_append,List.length_cons,List.length_nil,kQ];omega) rfl rfl rfl) ?_;rintro _ ap ⟨aT,m6,ah,aV⟩
  refine⟨aT,?_⟩;simp-implicitDefEqProofs(disch:=try exact aj)only[bh,bx,da,aU];have aX:cR p m H m G:=cR.aM (u.trans o);have wt:=((aX.trans v).trans al).trans aV;have ai:=wt.a1 c.aI c.hm q;have ab:acc++flat (cT (done.map .f))++(pad 0++([jx x].flatten++[10]))++flat (cU 1 x.body)++(pad 0++([[125]].flatten++[10]))=acc++flat (cT ((done++[x]).map .f)):=by
   rw[List.map_append,pP,db,List.map_cons,List.map_nil,B_,cT,c5,kQ];unfold jx;simp
  rw[ab]at ah;have hlen:(flat (cT ((done++[x]).map fh.f))).length<=(flat (cT (done.map fh.f))).length+2000000000:=by
   have:=congrArg List.length ab;simp only[List.length_append,List.flatten_cons,List.flatten_nil,List.length_cons,List.length_nil,kQ]at this;omega
  exact Dk q M aC aF hw O es (j+1) k (done++[x]) m6 ap (by rw[e,List.append_assoc];rfl) (by rw[List.length_append,z];rfl) af (ai L _ M A).2 (λj a h=>by obtain⟨cs,an,aE⟩:=F j a h;exact⟨cs,an,ia.a1 ai aE⟩) ah af (w.trans wt)
end
def D4:∀a b:List ch,eY (a++b)=eY a++eY b
 |[],_=>rfl
 |x::a,b=>by rw[List.cons_append,eY,eY,D4 a b];simp
def Lo(x:ch):flat (eY [x])=[32,32]++(flat (gb x)++[59,10]):=by
 rw[eY,eY,vK,db,c2,nR,c5];rfl
section
variable {N:Nat}{H0:ad}{r L i n n0 p m0:Nat}{cap:Option Nat}{ro:Bool}{els:List (List aa)}{ok:Nat->Prop}{Q:aa->ad->Prop}{acc:aC}
def Cb(x:ch):flat (gb x)=x.name++([58,32]++flat (cj x.cf x.cS)):=by
 have:=Ca x [];rw[List.append_nil,c5,List.append_nil]at this;exact this
def Dl(K:∀l,ok l->l<n0)(B:ok L)(V:n<=100){all:List ch}(aa:n=all.length)(hw:∀x∈all,hg x)(G:∀(j:Nat) (a:ch),all[j]? =D a->els[i+j]? =D a.cells)
  (E:∀m H,e1 n0 p m H (acc++flat (cT (all.map .g)))->cR p m0 H0 m H->W (mN (aD P ay) N (.ptr r 0 0) (.ptr p 0 0) H) Q):∀(es:List ch) (j k:Nat) (done:List ch) (m:Nat) (H:ad),all=done++es->done.length=j->es.length<k->H.get L=D (.row ro 4 els)->e1 n0 p m H (acc++flat (cT (done.map .g)))->acc.length+(flat (cT (done.map .g))).length+1000*es.length<=100000000000->cR p m0 H0 m H->
  W (lK (aD P ay) N k (.ptr r 0 0) (.ptr p 0 0) (.aB L i n 4 cap) (I J n) (I J j) H) Q
 |_,_,0,_,_,_,_,_,v,_,_,_,_=>af
 |[],j,k+1,done,m,H,c,q,v,s,d,F,w=>by
  rw[List.append_nil]at c;subst c;have u:¬((j:Int)<(n:Int)):=af;simp-implicitDefEqProofs(disch:=try exact aj)only[lK,p1,reduceAdd,reduceLeDiff,reduceIte,aw,u,decide_false];exact E m H d w
 |x::es,j,k+1,done,m,H,c,q,v,s,d,F,w=>by
  simp only[List.length_cons]at v F;have al:all.length=done.length+(es.length+1):=by rw[c,List.length_append,List.length_cons]
  have u:(j:Int)<(n:Int):=af;have ab:((j:Int)).toNat=j:=af;have T:(0:Int)<=(j:Int):=af;have ah:IntKind.i64.wrap ((j:Int)+1)=((j+1:Nat):Int):=by rw[wrap_i64 af af];omega
  have O:all[j]? =D x:=by rw[c,List.getElem?_append_right af,q,Nat.sub_self];rfl
  have a6:=G j x O;have aI:=hw x (List.mem_of_getElem? O);have ao:=e5 aI.n;have am:=gU aI.o;have ap:=aI.o.2.1;have an:=jd x.cf x.cS;have y:=aO.push H (.row U 4 [x.cells]);have h:=ad.bI H (.row U 4 [x.cells]);simp only[ch.cells]at a6 y h;simp-implicitDefEqProofs(disch:=try exact aj)only[lK,p1,reduceAdd,reduceLeDiff,reduceIte,aw,u,decide_true,T,ab,s,a6];refine aP (type20 (x:=x.cf) (z:=x.cS) aI.o.1 aI.o.2.1 af) ?_;rintro _ ak ⟨rfl,e⟩;refine⟨e.1,?_⟩;have A:=e.get h;simp-implicitDefEqProofs(disch:=try exact aj)only[reduceAdd,reduceLeDiff,reduceIte,aw,A,Fx];refine aP (gE (d.aM (y.trans e)) (deep:=0) rfl [[103,108,111,98,97,108,32],x.name,[58,32],flat (cj x.cf x.cS),[59]] (by simp) (by simp) af (by simp only[List.flatten_cons,List.flatten_nil,List.length_append,List.length_cons,List.length_nil];omega) rfl rfl rfl) ?_
  rintro _ S ⟨ag,m4,R,ai⟩;refine⟨ag,?_⟩;simp-implicitDefEqProofs(disch:=try exact aj)only[reduceAdd,reduceLeDiff,reduceIte,aw,h,A,ah];have wt:=(cR.aM (p:=p) (m:=m) (y.trans e)).trans ai;have ae:=wt.a1 d.aI d.hm K;have M:acc++flat (cT (done.map .g))++(pad 0++([[103,108,111,98,97,108,32],x.name,[58,32],flat (cj x.cf x.cS),[59]].flatten++[10]))=acc++flat (cT ((done++[x]).map .g)):=by
   rw[List.map_append,pP,db,List.map_cons,List.map_nil,Jz,cT,c5,kQ,Cb];simp[ss]
  rw[M]at R;have hlen:(flat (cT ((done++[x]).map fh.g))).length<=(flat (cT (done.map fh.g))).length+1000:=by
   have:=congrArg List.length M;simp only[List.length_append,List.flatten_cons,List.flatten_nil,List.length_cons,List.length_nil,kQ]at this;omega
  exact Dl K B V aa hw G E es (j+1) k (done++[x]) m4 S (by rw[c,List.append_assoc];rfl) (by rw[List.length_append,q];rfl) af (ae L _ B s).2 R af (w.trans wt)
def Dj{A:aa->aa->aa->aa->aa->ad->O}{V bC ab:aa}(M:∀l,ok l->l<n0)(E:ok L)(ah:n<=100){all:List ch}(ai:n=all.length)(hw:∀x∈all,hg x)(K:∀(j:Nat) (a:ch),all[j]? =D a->els[i+j]? =D a.cells)
  (F:∀m H,e1 n0 p m H (acc++flat (eY all))->cR p m0 H0 m H->W (mP (aD P ay) N A (.ptr r 0 0) (.ptr p 0 0) V bC ab H) Q):∀(es:List ch) (j k:Nat) (done:List ch) (m:Nat) (H:ad),all=done++es->done.length=j->es.length<k->H.get L=D (.row ro 4 els)->e1 n0 p m H (acc++flat (eY done))->acc.length+(flat (eY done)).length+1000*es.length<=100000000000->cR p m0 H0 m H->
  W (lL (aD P ay) N A k (.ptr r 0 0) (.ptr p 0 0) V bC ab (.aB L i n 4 cap) (I J n) (I J j) H) Q
 |_,_,0,_,_,_,_,_,v,_,_,_,_=>af
 |[],j,k+1,done,m,H,c,q,v,s,d,G,w=>by
  rw[List.append_nil]at c;subst c;have u:¬((j:Int)<(n:Int)):=af;simp-implicitDefEqProofs(disch:=try exact aj)only[lL,p3,reduceAdd,reduceLeDiff,reduceIte,aw,u,decide_false];exact F m H d w
 |x::es,j,k+1,done,m,H,c,q,v,s,d,G,w=>by
  simp only[List.length_cons]at v G;have aq:all.length=done.length+(es.length+1):=by rw[c,List.length_append,List.length_cons]
  have u:(j:Int)<(n:Int):=af;have ak:((j:Int)).toNat=j:=af;have ag:(0:Int)<=(j:Int):=af;have an:IntKind.i64.wrap ((j:Int)+1)=((j+1:Nat):Int):=by rw[wrap_i64 af af];omega
  have S:all[j]? =D x:=by rw[c,List.getElem?_append_right af,q,Nat.sub_self];rfl
  have a6:=K j x S;have aI:=hw x (List.mem_of_getElem? S);have az:=e5 aI.n;have au:=gU aI.o;have aA:=aI.o.2.1;have av:=jd x.cf x.cS;have y:=aO.push H (.row U 4 [x.cells]);have h:=ad.bI H (.row U 4 [x.cells]);simp only[ch.cells]at a6 y h;simp-implicitDefEqProofs(disch:=try exact aj)only[lL,p3,reduceAdd,reduceLeDiff,reduceIte,aw,u,decide_true,ag,ak,s,a6];refine aP (type20 (x:=x.cf) (z:=x.cS) aI.o.1 aI.o.2.1 af) ?_;rintro _ ap ⟨rfl,e⟩;refine⟨e.1,?_⟩;have B:=e.get h;simp-implicitDefEqProofs(disch:=try exact aj)only[reduceAdd,reduceLeDiff,reduceIte,aw,B,xM];refine aP (gE (d.aM (y.trans e)) (deep:=1) rfl [x.name,[58,32],flat (cj x.cf x.cS),[59]] (by simp) (by simp) af (by simp only[List.flatten_cons,List.flatten_nil,List.length_append,List.length_cons,List.length_nil];omega) rfl rfl rfl) ?_
  rintro _ ae ⟨am,m4,T,ao⟩;refine⟨am,?_⟩;simp-implicitDefEqProofs(disch:=try exact aj)only[reduceAdd,reduceLeDiff,reduceIte,aw,h,B,an];have wt:=(cR.aM (p:=p) (m:=m) (y.trans e)).trans ao;have al:=wt.a1 d.aI d.hm M;have R:acc++flat (eY done)++(pad 1++([x.name,[58,32],flat (cj x.cf x.cS),[59]].flatten++[10]))=acc++flat (eY (done++[x])):=by
   rw[D4,db,Lo,Cb,show pad 1=[32,32]from rfl];simp
  rw[R]at T;have hlen:(flat (eY (done++[x]))).length<=(flat (eY done)).length+1000:=by
   have:=congrArg List.length R;have ax:=hT 1;simp only[List.length_append,List.flatten_cons,List.flatten_nil,List.length_cons,List.length_nil]at this;omega
  exact Dj M E ah ai hw K F es (j+1) k (done++[x]) m4 ae (by rw[c,List.append_assoc];rfl) (by rw[List.length_append,q];rfl) af (al L _ E s).2 T af (w.trans wt)
