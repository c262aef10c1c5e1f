/-
  Texts of one proof, laid together: Rp Rq Rr Rv Rw We Wf Vj Vk Vl.
-/
import Derived.Test.YtghmbpmaafnodaaDoorMS
set_option linter.unusedVariables false
set_option linter.unusedSimpArgs false
set_option linter.defProp false
open Option renaming some→D
open Bool renaming true→X,false→U
open Go.b9.aa renaming int→I,str→Y,bool→C
open Go.IntKind renaming i64→J
namespace Go.Proofs.YtghmbpmaafnodaaDoor
open Go.b9
open Nat (reduceAdd reduceLeDiff)
def dH.rd{α:Type}{K:hK α}{H:ad}{ok:Nat->Prop}{l:List α}{v:aa}(h:dH K H ok l v):bg (D v) v=true:=by
 rcases h with⟨rfl,_⟩|⟨L,i,cap,ro,els,rfl,_⟩|⟨L,i,cap,rfl,_⟩
 ·rfl
 ·exact kT _ _ _ _ _
 ·exact kT _ _ _ _ _
def c1.rd{H:ad}{ok:Nat->Prop}{l:List bB}{v:aa}(h:c1 H ok l v):bg (D v) v=true:=by
 rcases h with⟨rfl,_⟩|⟨L,i,cap,ro,els,rfl,_⟩|⟨L,i,cap,rfl,_⟩
 ·rfl
 ·exact kT _ _ _ _ _
 ·exact kT _ _ _ _ _
def AM(p:b5)(l:List bw):flat (fM p++l)=p.name++([58,32]++(flat (ca p.cf p.c3)++flat l)):=uu _ _ _ _
def rT{p:b5}(h:gI p):(flat (fM p)).length<=40:=by
 have:=eN h.n;have:=fs h.o;have:=h.o.2.1;unfold fM;rw[u9];omega
def u4:∀l:List b5,(∀p∈l,gI p)->(flat (eI l)).length<=44*l.length
 |[],_=>by simp[eI,flat]
 |p::r,h=>by
  have c:=rT (h p (by simp));have d:=u4 r λx a=>h x (List.mem_cons_of_mem _ a)
  rw[eI,ik,cV,c9,je];simp only[List.length_cons,List.length_nil];omega
def AO(x:e3)(l:List bw):flat (r9 x++l)=q_++([32]++(x.name++([32,123,10]++(flat (eI x.fields)++([125,10]++flat l))))):=by
 unfold r9;simp only[List.cons_append,List.append_assoc,List.nil_append];rw[gL,dY,iK,dY,cT,mH,c2,cT,mH];rfl
def AK(x:b5)(l:List bw):flat (r8 x++l)=q9++([32]++(flat (fM x)++([59,10]++flat l))):=by
 unfold r8;simp only[List.cons_append,List.append_assoc,List.nil_append];rw[gL,dY,c2,cT,mH];rfl
def IG{x:e3}(h:nY x):(flat (r9 x)).length<=400:=by
 have a:=u4 x.fields h.f;have c:=eN h.n;have d:=h.l;have:=AO x [];rw[List.append_nil,cY,List.append_nil]at this;rw[this];simp only[List.length_append,List.length_cons,List.length_nil,q_];omega
def ID{x:b5}(h:gI x):(flat (r8 x)).length<=60:=by
 have a:=rT h;have:=AK x [];rw[List.append_nil,cY,List.append_nil]at this;rw[this];simp only[List.length_append,List.length_cons,List.length_nil,q9];omega
def HF(x:e3)(l:List eZ):flat (cI (.r x::l))=q_++([32]++(x.name++([32,123,10]++(flat (eI x.fields)++([125,10]++flat (cI l)))))):=by
 rw[cI,oF,AO]
def HE(x:b5)(l:List eZ):flat (cI (.g x::l))=q9++([32]++(flat (fM x)++([59,10]++flat (cI l)))):=by
 rw[cI,oF,AK]
def Bw:∀l:List b5,(∀p∈l,gI p)->(flat (mW l)).length<=44*l.length
 |[],_=>by simp[mW,flat]
 |p::r,h=>by
  have c:=rT (h p (by simp));have d:=Bw r λx a=>h x (List.mem_cons_of_mem _ a)
  rw[mW,c9,ey,cV];simp only[List.length_cons,List.length_nil];omega
def rS(l:List b5)(h:∀p∈l,gI p):(flat (gP l)).length<=44*l.length:=by
 cases l with
 |nil=>simp[gP,flat]
 |cons p r=>
  have c:=rT (h p (by simp));have d:=Bw r λx a=>h x (List.mem_cons_of_mem _ a)
  rw[gP,cV,List.length_cons];omega
def il(f:Fn):aB:=bif f.has then[58,32]++flat (ca f.dF f.rd)else[]
def HD(f:Fn)(l:List bw):flat (vy f++l)=mh++([32]++(f.name++([40]++(flat (gP f.params)++([41]++(il f++([32,123,10]++(flat (cJ 1 f.body)++([125,10]++flat l))))))))):=by
 unfold vy;simp only[List.cons_append,List.append_assoc,List.nil_append];rw[gL,dY,iK,cT,c2,cT];have e:∀m,flat ((bif f.has then bK [58]::ct::ca f.dF f.rd else[])++m)=il f++flat m:=by
  intro m;unfold il;cases f.has
  ·rfl
  ·rw[aU,aU,List.cons_append,List.cons_append,cT,dY,c2];simp
 rw[e];have:=p0 [] (cJ 1 f.body) (nl::l);rw[this,mH];simp
def AL(f:Fn)(l:List eZ):flat (cI (.f f::l))=mh++([32]++(f.name++([40]++(flat (gP f.params)++([41]++(il f++([32,123,10]++(flat (cJ 1 f.body)++([125,10]++flat (cI l)))))))))):=by
 rw[cI,oF,HD]
def oG:∀a b:List eZ,cI (a++b)=cI a++cI b
 |[],_=>rfl
 |i::a,b=>by rw[List.cons_append,cI,oG a b,cI,List.append_assoc]
def Bv:∀l:List e3,(∀x∈l,nY x)->(flat (cI (l.map eZ.r))).length<=400*l.length
 |[],_=>by simp[cI,flat]
 |x::r,h=>by
  have c:=IG (h x (by simp));have d:=Bv r λx a=>h x (List.mem_cons_of_mem _ a)
  rw[List.map_cons,cI,cV,List.length_cons,oF];omega
def Bu:∀l:List b5,(∀x∈l,gI x)->(flat (cI (l.map eZ.g))).length<=60*l.length
 |[],_=>by simp[cI,flat]
 |x::r,h=>by
  have c:=ID (h x (by simp));have d:=Bu r λx a=>h x (List.mem_cons_of_mem _ a)
  rw[List.map_cons,cI,cV,List.length_cons,oF];omega
def mX(g:dm):List bw:=cI (g.c_.map .r++(g.globals.map .g++g.funcs.map .f))
structure xf(g:dm):Prop where
 nc:∀x∈g.c_,nY x
 dh:∀x∈g.globals,gI x
 cq:∀x∈g.funcs,nX x/\dv x.body<=1000000000
 gw:g.c_.length<=100
 mN:g.globals.length<=100
 oB:g.funcs.length<=100
section
variable {H0:ad}{ok:Nat->Prop}{r:Nat}{bA bJ bD:aa}{g:dm}
end
def A9:∀l:List b5,Lib.joinTail [44,32] (l.map λp=>flat (fM p))=flat (mW l)
 |[]=>rfl
 |p::r=>by
  have a:=A9 r;rw[mW,cT,dY,c2,<-a,List.map_cons,Lib.joinTail,List.map_cons,List.flatten_cons,Lib.joinTail];simp
def A8:∀l:List b5,Lib.join (l.map λp=>flat (fM p)) [44,32]=flat (gP l)
 |[]=>rfl
 |p::r=>by rw[List.map_cons,Lib.join_cons,A9,gP,c2]
def jb(f:Fn):aB:=mh++([32]++(f.name++([40]++(flat (gP f.params)++([41]++(il f++[32,123]))))))
section
variable {N:Nat}{H0:ad}{r L i n:Nat}{cap:Option Nat}{ro:Bool}{els:List (List aa)}
def BV(M:H0.get L=D (.row ro 4 els))(am:n<=1000){all:List b5}(m:∀(j:Nat) (a:b5),all[j]? =D a->els[i+j]? =D a.cells)(hw:∀p∈all,gI p)(ao:n=all.length){Q:aa->ad->Prop}(F:∀v H,aM H0 H->(aA P aw 59 [v,Y [44,32]] H=D (Y (flat (gP all)),H))->W (lY (aA P aw) N (.ptr r 0 0) v H) Q):∀(es:List b5) (j k:Nat) (done:List b5) (v:aa) (H:ad),all=done++es->done.length=j->es.length<k->aM H0 H->c0 om (λl=>H0.next<=l) H (done.map λe=>flat (fM e)) v->
  W (k3 (aA P aw) N k (.ptr r 0 0) v (.ay L i n 4 cap) (I J n) (I J j) H) Q
 |_,_,0,_,_,_,_,_,B,_,_=>af
 |[],j,k+1,done,v,H,c,z,B,pp,y=>by
  rw[List.append_nil]at c;subst c;have A:¬((j:Int)<(n:Int)):=af;have aG:=rS all hw;have u:aA P aw 59 [v,Y [44,32]] H=D (Y (flat (gP all)),H):=by
   rw[<-A8];exact rN y (by rw[List.length_map];omega) (by rw[A8];omega)
  simp-implicitDefEqProofs(disch:=try exact aj)only[k3,oX,reduceAdd,reduceLeDiff,reduceIte,av,A,decide_false];exact F v H pp u
 |x::es,j,k+1,done,v,H,c,z,B,pp,y=>by
  simp only[List.length_cons]at B;have aC:all.length=done.length+(es.length+1):=by rw[c,List.length_append,List.length_cons]
  have A:(j:Int)<(n:Int):=af;have au:((j:Int)).toNat=j:=af;have ak:(0:Int)<=(j:Int):=af;have az:IntKind.i64.wrap ((j:Int)+1)=((j+1:Nat):Int):=by rw[wrap_i64 af af];omega
  have R:all[j]? =D x:=by rw[c,List.getElem?_append_right af,z,Nat.sub_self];rfl
  have aZ:=m j x R;have aF:=hw x (List.mem_of_getElem? R);have aH:=eN aF.n;have aD:=fs aF.o;have aI:=aF.o.2.1;have aE:=hS x.cf x.c3;have g1:=pp.get M;have E:=aM.push H (.row U 4 [x.cells]);have w:=ad.bx H (.row U 4 [x.cells]);have aJ:H.next<(H.push (.row U 4 [x.cells])).next:=by simp
  simp only[b5.cells]at aZ E w;simp-implicitDefEqProofs(disch:=try exact aj)only[k3,oX,reduceAdd,reduceLeDiff,reduceIte,av,A,decide_true,ak,au,g1,aZ];refine aL (type20 aF.o.1 aF.o.2.1 af) ?_;rintro _ d ⟨rfl,q⟩;refine⟨q.1,?_⟩;have ai:=q.get w;have s:=pp.trans (E.trans q);have G:=(y.aK E).aK q;have ap:flat (fM x)=x.name++[58,32]++flat (ca x.cf x.c3):=by
   have:=AM x [];rw[List.append_nil,cY,List.append_nil]at this;rw[this];simp
  have ag:an P .add 9 X (Y x.name) (Y [58,32])=D (Y (x.name++[58,32])):=cW (by simp only[List.length_cons,List.length_nil];omega);have ah:an P .add 9 U (Y (x.name++[58,32])) (Y (flat (ca x.cf x.c3)))=D (Y (flat (fM x))):=by
   rw[ap];exact cW (by simp only[List.length_append,List.length_cons,List.length_nil];omega)
  have aq:=wj d.next (flat (fM x))
  obtain⟨S,H',u,T,V,b3⟩:=c0.app (K:=om) (ok':=λl=>H0.next<=l) B4 G (okE:=λ_=>False) (a:=flat (fM x)) (cs:=[Y (flat (fM x))]) rfl (λ_ _ h=>h.elim) (λ_ _ h _=>h) (by have:=s.1;show H0.next<=d.next+1;omega) (by rw[List.length_map];omega);have ax:aM H0 H':=by
   refine⟨by have:=s.1;omega,λl m=> ?_⟩;have:=s.1;rw[b3 l af λL O al=> ?_]
   ·exact s.2 l m
   ·subst al;rcases G with⟨rfl,_⟩|⟨L',_,rfl,aB,_⟩
    ·cases O
    ·cases O;omega
  have ae:cR P (d.push (.row U 1 [[Y (flat (fM x))]])) [50,50] v (.ay d.next 0 1 1 (D 1))=D (S,H'):=u;have ab:(d.push (.row U 1 [[Y (flat (fM x))]])).next<=H'.next:=by rw[ad.bQ];exact V
  simp-implicitDefEqProofs(disch:=try exact aj)only[reduceAdd,reduceLeDiff,reduceIte,av,w,ai,ag,ah,aq,ae,eK,ab,az];exact BV M am m hw ao F es (j+1) k (done++[x]) S H' (by rw[c,List.append_assoc];rfl) (by rw[List.length_append,z];rfl) af ax (by rw[List.map_append];exact T)
end
def HU{H:ad}{ok:Nat->Prop}{f:Fn}{cs:List aa}(h:hR.V H ok f cs)(hw:nX f):W (aA P aw 30 [.agg cs] H) λv H'=>v= Y (jb f)/\aM H H':=by
 obtain⟨c,bv,rfl,az,R⟩:=h;have bE:=az.one;have bX:=R.ee;have Q:∀l,dT l (.agg [Y f.name,c,C f.has,Y f.dF,I J f.rd,bv,I J f.pos])=D (.ptr l 0 0,.row U 7 [[Y f.name,c,C f.has,Y f.dF,I J f.rd,bv,I J f.pos]]):=λl=>hr l _ (by simp only[List.all_cons,List.all_nil,hA,gO,qv,bE,bX,Bool.and_self])
 have pp:=aM.push H (.row U 7 [[Y f.name,c,C f.has,Y f.dF,I J f.rd,bv,I J f.pos]]);have dh:=ad.bx H (.row U 7 [[Y f.name,c,C f.has,Y f.dF,I J f.rd,bv,I J f.pos]]);have aF:=eN hw.n;have aD:=rS f.params hw.p;have ao:=hw.l;have S:=λH'=>az.mM H'
 have ae:=az.aY (dd.aK pp);have fin:∀v d,aM (H.push (.row U 7 [[Y f.name,c,C f.has,Y f.dF,I J f.rd,bv,I J f.pos]])) d->(aA P aw 59 [v,Y [44,32]] d=D (Y (flat (gP f.params)),d))->W (lY (aA P aw) 1000 (.ptr H.next 0 0) v d) λv H'=>v= Y (jb f)/\aM H H':=by
  intro v d w e;have g2:=w.get dh;have k:an P .add 9 X (Y [102,117,110,99,32]) (Y f.name)=D (Y ([102,117,110,99,32]++f.name)):=cW (by simp only[List.length_cons,List.length_nil];omega);have A:an P .add 9 X (Y ([102,117,110,99,32]++f.name)) (Y [40])=D (Y ([102,117,110,99,32]++f.name++[40])):=cW (by simp only[List.length_append,List.length_cons,List.length_nil];omega);have B:an P .add 9 U (Y ([102,117,110,99,32]++f.name++[40])) (Y (flat (gP f.params)))=D (Y ([102,117,110,99,32]++f.name++[40]++flat (gP f.params))):=cW (by simp only[List.length_append,List.length_cons,List.length_nil];omega)
  have o:an P .add 9 X (Y ([102,117,110,99,32]++f.name++[40]++flat (gP f.params))) (Y [41])=D (Y ([102,117,110,99,32]++f.name++[40]++flat (gP f.params)++[41])):=cW (by simp only[List.length_append,List.length_cons,List.length_nil];omega);obtain⟨T,aE⟩:∃T,T=[102,117,110,99,32]++f.name++[40]++flat (gP f.params)++[41]:=⟨_,rfl⟩;have ap:T.length<=1000:=by rw[aE];simp only[List.length_append,List.length_cons,List.length_nil];omega
  rw[<-aE]at o;unfold lY;simp-implicitDefEqProofs(disch:=try exact aj)only[reduceAdd,reduceLeDiff,reduceIte,av,e,eK,bf,g2];rw[k,dG,A,dG,B,dG,o,dG];have E:∀y:aB,il f=y->T++(y++[32,123])=jb f:=by
   intro y O;rw[aE];unfold jb;rw[O];simp[mh]
  clear aE k A B o;rcases hw.r with⟨i,m⟩|⟨i,au,aq⟩
  ·have ax:=fs m;have aG:=m.2.1;have aC:=hS f.dF f.rd;have s:il f=[58,32]++flat (ca f.dF f.rd):=by unfold il;rw[i];rfl
   rw[i]at g2;simp-implicitDefEqProofs(disch:=try exact aj)only[reduceAdd,reduceLeDiff,reduceIte,av,g2];refine aL (type20 (x:=f.dF) (z:=f.rd) m.1 m.2.1 af) ?_;rintro _ ai ⟨rfl,G⟩;refine⟨G.1,?_⟩;have K:an P .add 9 X (Y [58,32]) (Y (flat (ca f.dF f.rd)))=D (Y ([58,32]++flat (ca f.dF f.rd))):=cW (by simp only[List.length_append,List.length_cons,List.length_nil];omega);have L:an P .add 9 U (Y T) (Y ([58,32]++flat (ca f.dF f.rd)))=D (Y (T++([58,32]++flat (ca f.dF f.rd)))):=cW (by simp only[List.length_append,List.length_cons,List.length_nil];omega);have q:an P .add 9 X (Y (T++([58,32]++flat (ca f.dF f.rd)))) (Y [32,123])=D (Y (T++([58,32]++flat (ca f.dF f.rd))++[32,123])):=cW (by simp only[List.length_append,List.length_cons,List.length_nil];omega)
   rw[K,dG,L,dG,np,q,dG];exact a_.2 ⟨by rw[List.append_assoc T,E _ s],pp.trans (w.trans G)⟩
  ·have s:il f=[]:=by unfold il;rw[i];rfl
   rw[i]at g2;simp-implicitDefEqProofs(disch:=try exact aj)only[reduceAdd,reduceLeDiff,reduceIte,av,g2];have q:an P .add 9 X (Y T) (Y [32,123])=D (Y (T++[32,123])):=cW (by simp only[List.length_append,List.length_cons,List.length_nil];omega);rw[np,q,dG];exact a_.2 ⟨by rw[<-E _ s];rfl,pp.trans w⟩
 refine cA (λ_=>Kh 1000) ?_;rw[sC];simp-implicitDefEqProofs(disch:=try exact aj)only[reduceAdd,reduceLeDiff,reduceIte,av,Q,dh,S];by_cases u:f.params.length=0
 ·have ag:=List.length_eq_zero_iff.1 u;have M:¬((0:Int)<((0:Nat):Int)):=af;have e:aA P aw 59 [.ar,Y [44,32]] (H.push (.row U 7 [[Y f.name,c,C f.has,Y f.dF,I J f.rd,bv,I J f.pos]]))=D (Y (flat (gP f.params)),H.push (.row U 7 [[Y f.name,c,C f.has,Y f.dF,I J f.rd,bv,I J f.pos]])):=by
   rw[ag];exact rN (ok:=λ_=>True) (l:=[]) (.inl ⟨rfl,rfl⟩) (Nat.zero_le _) (Nat.zero_le _)
  rw[u];simp-implicitDefEqProofs(disch:=try exact aj)only[k3,oX,reduceAdd,reduceLeDiff,reduceIte,av,M,decide_false];exact fin _ _ (.refl _) e
 ·obtain⟨ak,i2,al,aH,am,rfl,F,ab⟩:=ae.row u;have ah:fK.esz=4:=rfl;rw[ah]at F;exact BV (N:=1000) F af (λj a h=>by obtain⟨cs,e,k⟩:=ab j a h;rw[e,show cs=a.cells from k]) hw.p rfl fin f.params 0 1000 [] .ar _ rfl rfl af (.refl _) (.inl ⟨rfl,rfl⟩)
def kc:pad 0=[]:=rfl
def yh:∀l:aB,bytesOf (ev l)=D l
 |[]=>rfl
 |c::l=>by
  have a:=yh l;unfold ev at a ⊢;rw[List.map_cons,bytesOf,a];simp[Go.b9.byteOf]
open Classical in
def M5{H:ad}{p m:Nat}{acc:aB}(h:fG H p m acc)(d:acc.length<=100000000000000):∃H',aA P aw 32 [.ptr p 0 0] H=D (Y acc,H')/\H'.next=H.next/\∀l,l≠m->H'.get l=H.get l:=by
 obtain⟨-,-,a,b,c,-,k⟩:=h;rcases k with⟨rfl,rfl⟩|⟨j,rfl,o⟩
 ·refine⟨H,lD ?_,rfl,λ_ _=>rfl⟩;unfold aw;simp only[c]
 ·refine⟨H.set m .dead,lD ?_,by simp,λl d=>ad.get_set_other (λe=>d e.symm)⟩;have i:bytesOf (((ev acc).drop 0).take acc.length)=D acc:=by
   rw[List.drop_zero,List.take_of_length_le (by rw[kK];omega)];exact yh acc
  have n:0<acc.length/\0+acc.length<=(ev acc).length/\True/\acc.length<=140737488355328/\((ev acc).drop 0).take acc.length=acc.map (λb=>[I .u8 b.toNat]):=⟨List.length_pos_iff.2 j,by rw[kK];omega,trivial,af,by rw[List.drop_zero,List.take_of_length_le (by rw[kK];omega)];rfl⟩;unfold aw;simp only[c,o,i];rw[if_pos n]
section
variable {N:Nat}{H0:ad}{r L i n n0 p m0:Nat}{cap:Option Nat}{ro:Bool}{els:List (List aa)}{ok:Nat->Prop}{Q:aa->ad->Prop}{acc:aB}
def BZ(q:∀l,ok l->l<n0)(M:ok L)(aE:n<=100){all:List Fn}(aG:n=all.length)(hw:∀x∈all,nX x/\dv x.body<=1000000000)
  (O:∀m H,eM n0 p m H (acc++flat (cI (all.map .f)))->cF p m0 H0 m H->W (lS (aA P aw) N (.ptr p 0 0) H) Q):∀(es:List Fn) (j k:Nat) (done:List Fn) (m:Nat) (H:ad),all=done++es->done.length=j->es.length<k->H.get L=D (.row ro 7 els)->(∀(j:Nat) (a:Fn),all[j]? =D a->∃cs,els[i+j]? =D cs/\hR.V H ok a cs)->eM n0 p m H (acc++flat (cI (done.map .f)))->acc.length+(flat (cI (done.map .f))).length+2000000000*es.length<=400000000000->cF p m0 H0 m H->
  W (kW (aA P aw) N k (.ptr p 0 0) (.ay L i n 7 cap) (I J n) (I J j) H) Q
 |_,_,0,_,_,_,_,_,E,_,_,_,_,_=>af
 |[],j,k+1,done,m,H,e,z,E,A,F,c,R,w=>by
  rw[List.append_nil]at e;subst e;have B:¬((j:Int)<(n:Int)):=af;simp-implicitDefEqProofs(disch:=try exact aj)only[kW,oS,reduceAdd,reduceLeDiff,reduceIte,av,B,decide_false];exact O m H c w
 |x::es,j,k+1,done,m,H,e,z,E,A,F,c,R,w=>by
  simp only[List.length_cons]at E R;have a2:all.length=done.length+(es.length+1):=by rw[e,List.length_append,List.length_cons]
  have B:(j:Int)<(n:Int):=af;have aI:((j:Int)).toNat=j:=af;have aB:(0:Int)<=(j:Int):=af;have aV:IntKind.i64.wrap ((j:Int)+1)=((j+1:Nat):Int):=by rw[wrap_i64 af af];omega
  have ag:all[j]? =D x:=by rw[e,List.getElem?_append_right af,z,Nat.sub_self];rfl
  obtain⟨cs,aZ,ae⟩:=F j x ag;obtain⟨aF,aN⟩:=hw x (List.mem_of_getElem? ag);have aJ:=ae;obtain⟨ak,bv,rfl,az,S⟩:=ae;have bE:=az.one;have bX:=S.ee;have a8:=eN aF.n;have a6:=rS x.params aF.p;have a1:=aF.l;have a7:(il x).length<=30:=by
   unfold il;rcases aF.r with⟨y,aa⟩|⟨y,_⟩
   ·have:=fs aa;have:=aa.2.1;have:=hS x.dF x.rd;rw[y,aU];simp only[List.length_append,List.length_cons,List.length_nil];omega
   ·rw[y];simp
  have a5:(jb x).length<=1000:=by unfold jb;simp only[List.length_append,List.length_cons,List.length_nil,mh];omega
  have aD:jb x≠[]:=by unfold jb mh;simp
  have u:=aM.push H (.row U 7 [[Y x.name,ak,C x.has,Y x.dF,I J x.rd,bv,I J x.pos]]);have au:=ad.bx H (.row U 7 [[Y x.name,ak,C x.has,Y x.dF,I J x.rd,bv,I J x.pos]]);have aC:=HU (hR.aY (dd.aK u) aJ) aF;have aO:=c.aK u;have am:H.next≠p/\H.next≠m:=by have:=c.lm;have:=c.iF.lt;omega
  obtain⟨d,a4,T⟩:=aF.b;simp-implicitDefEqProofs(disch:=try exact aj)only[kW,oS,reduceAdd,reduceLeDiff,reduceIte,av,B,decide_true,aB,aI,A,aZ,bE,bX];refine aL aC ?_;rintro _ G ⟨rfl,o⟩;refine⟨o.1,?_⟩;have K:=o.get au;have aH:=wj G.next (jb x)
  simp-implicitDefEqProofs(disch:=try exact aj)only[bd,br,aH];refine aL (gk (aO.aK o) (deep:=0) rfl [jb x] (by simpa using aD) (by simp) af (by simp only[List.flatten_cons,List.flatten_nil,List.length_append,List.length_cons,List.length_nil];omega) rfl rfl rfl) ?_;rintro _ an ⟨aS,m4,aP,v⟩;refine⟨aS,?_⟩;have ax:=v.get K am.1 am.2;have cN:=(S.aK (u.trans o)).aY (v.aY c.aF c.hm q).s;have a9:H.next≠m4:=by have:=v.1;have:=ad.aR K;omega
  simp-implicitDefEqProofs(disch:=try exact aj)only[reduceAdd,reduceLeDiff,reduceIte,av,ax];refine aL (GU x.body d 1 T af aN an ok bv _ n0 p m4 _ rfl cN q aP (by simp only[List.flatten_cons,List.flatten_nil,List.length_append,List.length_cons,List.length_nil,kc];omega)) ?_;rintro _ a0 ⟨m5,aQ,al⟩;refine⟨al.next,?_⟩;have a3:=qf (deep:=1) T af;simp-implicitDefEqProofs(disch:=try exact aj)only[bd,br];refine aL (gk aQ (deep:=0) rfl [[125]] (by simp) (by simp) af (by simp only[List.flatten_cons,List.flatten_nil,List.length_append,List.length_cons,List.length_nil,kc];omega) rfl rfl rfl) ?_;rintro _ ao ⟨aT,m6,ah,aW⟩
  refine⟨aT,?_⟩;simp-implicitDefEqProofs(disch:=try exact aj)only[bd,br,c7,aV];have aX:cF p m H m G:=cF.aK (u.trans o);have wt:=((aX.trans v).trans al).trans aW;have ai:=wt.aY c.aF c.hm q;have ab:acc++flat (cI (done.map .f))++(pad 0++([jb x].flatten++[10]))++flat (cJ 1 x.body)++(pad 0++([[125]].flatten++[10]))=acc++flat (cI ((done++[x]).map .f)):=by
   rw[List.map_append,oG,c2,List.map_cons,List.map_nil,AL,cI,cY,kc];unfold jb;simp
  rw[ab]at ah;have hlen:(flat (cI ((done++[x]).map eZ.f))).length<=(flat (cI (done.map eZ.f))).length+2000000000:=by
   have:=congrArg List.length ab;simp only[List.length_append,List.flatten_cons,List.flatten_nil,List.length_cons,List.length_nil,kc]at this;omega
  exact BZ q M aE aG hw O es (j+1) k (done++[x]) m6 ao (by rw[e,List.append_assoc];rfl) (by rw[List.length_append,z];rfl) af (ai L _ M A).2 (λj a h=>by obtain⟨cs,ap,aq⟩:=F j a h;exact⟨cs,ap,hR.aY ai aq⟩) ah af (w.trans wt)
end
def Cx:∀a b:List b5,eI (a++b)=eI a++eI b
 |[],_=>rfl
 |x::a,b=>by rw[List.cons_append,eI,eI,Cx a b];simp
def Jt(x:b5):flat (eI [x])=[32,32]++(flat (fM x)++[59,10]):=by
 rw[eI,eI,uq,c2,cT,mH,cY];rfl
section
variable {N:Nat}{H0:ad}{r L i n n0 p m0:Nat}{cap:Option Nat}{ro:Bool}{els:List (List aa)}{ok:Nat->Prop}{Q:aa->ad->Prop}{acc:aB}
def AN(x:b5):flat (fM x)=x.name++([58,32]++flat (ca x.cf x.c3)):=by
 have:=AM x [];rw[List.append_nil,cY,List.append_nil]at this;exact this
def B0(K:∀l,ok l->l<n0)(B:ok L)(V:n<=100){all:List b5}(aa:n=all.length)(hw:∀x∈all,gI x)(G:∀(j:Nat) (a:b5),all[j]? =D a->els[i+j]? =D a.cells)
  (E:∀m H,eM n0 p m H (acc++flat (cI (all.map .g)))->cF p m0 H0 m H->W (lR (aA P aw) N (.ptr r 0 0) (.ptr p 0 0) H) Q):∀(es:List b5) (j k:Nat) (done:List b5) (m:Nat) (H:ad),all=done++es->done.length=j->es.length<k->H.get L=D (.row ro 4 els)->eM n0 p m H (acc++flat (cI (done.map .g)))->acc.length+(flat (cI (done.map .g))).length+1000*es.length<=100000000000->cF p m0 H0 m H->
  W (kX (aA P aw) N k (.ptr r 0 0) (.ptr p 0 0) (.ay L i n 4 cap) (I J n) (I J j) H) Q
 |_,_,0,_,_,_,_,_,v,_,_,_,_=>af
 |[],j,k+1,done,m,H,c,q,v,s,d,F,w=>by
  rw[List.append_nil]at c;subst c;have u:¬((j:Int)<(n:Int)):=af;simp-implicitDefEqProofs(disch:=try exact aj)only[kX,oT,reduceAdd,reduceLeDiff,reduceIte,av,u,decide_false];exact E m H d w
 |x::es,j,k+1,done,m,H,c,q,v,s,d,F,w=>by
  simp only[List.length_cons]at v F;have al:all.length=done.length+(es.length+1):=by rw[c,List.length_append,List.length_cons]
  have u:(j:Int)<(n:Int):=af;have ab:((j:Int)).toNat=j:=af;have T:(0:Int)<=(j:Int):=af;have ah:IntKind.i64.wrap ((j:Int)+1)=((j+1:Nat):Int):=by rw[wrap_i64 af af];omega
  have O:all[j]? =D x:=by rw[c,List.getElem?_append_right af,q,Nat.sub_self];rfl
  have aZ:=G j x O;have aF:=hw x (List.mem_of_getElem? O);have ao:=eN aF.n;have am:=fs aF.o;have ap:=aF.o.2.1;have an:=hS x.cf x.c3;have y:=aM.push H (.row U 4 [x.cells]);have h:=ad.bx H (.row U 4 [x.cells]);simp only[b5.cells]at aZ y h;simp-implicitDefEqProofs(disch:=try exact aj)only[kX,oT,reduceAdd,reduceLeDiff,reduceIte,av,u,decide_true,T,ab,s,aZ];refine aL (type20 (x:=x.cf) (z:=x.c3) aF.o.1 aF.o.2.1 af) ?_;rintro _ ak ⟨rfl,e⟩;refine⟨e.1,?_⟩;have A:=e.get h;simp-implicitDefEqProofs(disch:=try exact aj)only[reduceAdd,reduceLeDiff,reduceIte,av,A,DR];refine aL (gk (d.aK (y.trans e)) (deep:=0) rfl [[103,108,111,98,97,108,32],x.name,[58,32],flat (ca x.cf x.c3),[59]] (by simp) (by simp) af (by simp only[List.flatten_cons,List.flatten_nil,List.length_append,List.length_cons,List.length_nil];omega) rfl rfl rfl) ?_
  rintro _ S ⟨ag,m4,R,ai⟩;refine⟨ag,?_⟩;simp-implicitDefEqProofs(disch:=try exact aj)only[reduceAdd,reduceLeDiff,reduceIte,av,h,A,ah];have wt:=(cF.aK (p:=p) (m:=m) (y.trans e)).trans ai;have ae:=wt.aY d.aF d.hm K;have M:acc++flat (cI (done.map .g))++(pad 0++([[103,108,111,98,97,108,32],x.name,[58,32],flat (ca x.cf x.c3),[59]].flatten++[10]))=acc++flat (cI ((done++[x]).map .g)):=by
   rw[List.map_append,oG,c2,List.map_cons,List.map_nil,HE,cI,cY,kc,AN];simp[q9]
  rw[M]at R;have hlen:(flat (cI ((done++[x]).map eZ.g))).length<=(flat (cI (done.map eZ.g))).length+1000:=by
   have:=congrArg List.length M;simp only[List.length_append,List.flatten_cons,List.flatten_nil,List.length_cons,List.length_nil,kc]at this;omega
  exact B0 K B V aa hw G E es (j+1) k (done++[x]) m4 S (by rw[c,List.append_assoc];rfl) (by rw[List.length_append,q];rfl) af (ae L _ B s).2 R af (w.trans wt)
def BY{A:aa->aa->aa->aa->aa->ad->O}{V bH ab:aa}(M:∀l,ok l->l<n0)(E:ok L)(ah:n<=100){all:List b5}(ai:n=all.length)(hw:∀x∈all,gI x)(K:∀(j:Nat) (a:b5),all[j]? =D a->els[i+j]? =D a.cells)
  (F:∀m H,eM n0 p m H (acc++flat (eI all))->cF p m0 H0 m H->W (lT (aA P aw) N A (.ptr r 0 0) (.ptr p 0 0) V bH ab H) Q):∀(es:List b5) (j k:Nat) (done:List b5) (m:Nat) (H:ad),all=done++es->done.length=j->es.length<k->H.get L=D (.row ro 4 els)->eM n0 p m H (acc++flat (eI done))->acc.length+(flat (eI done)).length+1000*es.length<=100000000000->cF p m0 H0 m H->
  W (kY (aA P aw) N A k (.ptr r 0 0) (.ptr p 0 0) V bH ab (.ay L i n 4 cap) (I J n) (I J j) H) Q
 |_,_,0,_,_,_,_,_,v,_,_,_,_=>af
 |[],j,k+1,done,m,H,c,q,v,s,d,G,w=>by
  rw[List.append_nil]at c;subst c;have u:¬((j:Int)<(n:Int)):=af;simp-implicitDefEqProofs(disch:=try exact aj)only[kY,oV,reduceAdd,reduceLeDiff,reduceIte,av,u,decide_false];exact F m H d w
 |x::es,j,k+1,done,m,H,c,q,v,s,d,G,w=>by
  simp only[List.length_cons]at v G;have aq:all.length=done.length+(es.length+1):=by rw[c,List.length_append,List.length_cons]
  have u:(j:Int)<(n:Int):=af;have ak:((j:Int)).toNat=j:=af;have ag:(0:Int)<=(j:Int):=af;have an:IntKind.i64.wrap ((j:Int)+1)=((j+1:Nat):Int):=by rw[wrap_i64 af af];omega
  have S:all[j]? =D x:=by rw[c,List.getElem?_append_right af,q,Nat.sub_self];rfl
  have aZ:=K j x S;have aF:=hw x (List.mem_of_getElem? S);have aB:=eN aF.n;have au:=fs aF.o;have aC:=aF.o.2.1;have ax:=hS x.cf x.c3;have y:=aM.push H (.row U 4 [x.cells]);have h:=ad.bx H (.row U 4 [x.cells]);simp only[b5.cells]at aZ y h;simp-implicitDefEqProofs(disch:=try exact aj)only[kY,oV,reduceAdd,reduceLeDiff,reduceIte,av,u,decide_true,ag,ak,s,aZ];refine aL (type20 (x:=x.cf) (z:=x.c3) aF.o.1 aF.o.2.1 af) ?_;rintro _ ap ⟨rfl,e⟩;refine⟨e.1,?_⟩;have B:=e.get h;simp-implicitDefEqProofs(disch:=try exact aj)only[reduceAdd,reduceLeDiff,reduceIte,av,B,wi];refine aL (gk (d.aK (y.trans e)) (deep:=1) rfl [x.name,[58,32],flat (ca x.cf x.c3),[59]] (by simp) (by simp) af (by simp only[List.flatten_cons,List.flatten_nil,List.length_append,List.length_cons,List.length_nil];omega) rfl rfl rfl) ?_
  rintro _ ae ⟨am,m4,T,ao⟩;refine⟨am,?_⟩;simp-implicitDefEqProofs(disch:=try exact aj)only[reduceAdd,reduceLeDiff,reduceIte,av,h,B,an];have wt:=(cF.aK (p:=p) (m:=m) (y.trans e)).trans ao;have al:=wt.aY d.aF d.hm M;have R:acc++flat (eI done)++(pad 1++([x.name,[58,32],flat (ca x.cf x.c3),[59]].flatten++[10]))=acc++flat (eI (done++[x])):=by
   rw[Cx,c2,Jt,AN,show pad 1=[32,32]from rfl];simp
  rw[R]at T;have hlen:(flat (eI (done++[x]))).length<=(flat (eI done)).length+1000:=by
   have:=congrArg List.length R;have az:=hx 1;simp only[List.length_append,List.flatten_cons,List.flatten_nil,List.length_cons,List.length_nil]at this;omega
  exact BY M E ah ai hw K F es (j+1) k (done++[x]) m4 ae (by rw[c,List.append_assoc];rfl) (by rw[List.length_append,q];rfl) af (al L _ E s).2 T af (w.trans wt)
