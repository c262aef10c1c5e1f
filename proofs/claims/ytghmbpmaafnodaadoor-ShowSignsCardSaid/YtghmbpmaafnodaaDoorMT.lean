/-
  Texts of one proof, laid together: Rp Rq Rr Rv Rw We Wf Vj Vk Vl.
-/
import Derived.Test.YtghmbpmaafnodaaDoorMS
set_option linter.unusedVariables false
set_option linter.unusedSimpArgs false
set_option linter.defProp false
open Option renaming some→D
open Bool renaming true→X,false→U
open Go.b9.aa renaming int→I,str→Y,bool→C
open Go.IntKind renaming i64→J
namespace Go.Proofs.YtghmbpmaafnodaaDoor
open Go.b9
open Nat (reduceAdd reduceLeDiff)
def dH.rd{α:Type}{K:hD α}{H:ad}{ok:Nat->Prop}{l:List α}{v:aa}(h:dH K H ok l v):bh (D v) v=true:=by
 rcases h with⟨rfl,_⟩|⟨L,i,cap,ro,els,rfl,_⟩|⟨L,i,cap,rfl,_⟩
 ·rfl
 ·exact kP _ _ _ _ _
 ·exact kP _ _ _ _ _
def c1.rd{H:ad}{ok:Nat->Prop}{l:List bE}{v:aa}(h:c1 H ok l v):bh (D v) v=true:=by
 rcases h with⟨rfl,_⟩|⟨L,i,cap,ro,els,rfl,_⟩|⟨L,i,cap,rfl,_⟩
 ·rfl
 ·exact kP _ _ _ _ _
 ·exact kP _ _ _ _ _
def Ao(p:b7)(l:List bN):flat (fG p++l)=p.name++([58,32]++(flat (cX p.cc p.c4)++flat l)):=ui _ _ _ _
def rO{p:b7}(h:gC p):(flat (fG p)).length<=40:=by
 have:=eO h.n;have:=gq h.ai;have:=h.ai.2.1;unfold fG;rw[u1];omega
def uX:∀l:List b7,(∀p∈l,gC p)->(flat (eI l)).length<=44*l.length
 |[],_=>by simp[eI,flat]
 |p::r,h=>by
  have c:=rO (h p (by simp));have d:=uX r λx a=>h x (List.mem_cons_of_mem _ a)
  rw[eI,h6,cV,c_,iY];simp only[List.length_cons,List.length_nil];omega
def Aq(x:e1)(l:List bN):flat (r5 x++l)=q5++([32]++(x.name++([32,123,10]++(flat (eI x.fields)++([125,10]++flat l))))):=by
 unfold r5;simp only[List.cons_append,List.append_assoc,List.nil_append];rw[gF,dV,iA,dV,cT,mH,c3,cT,mH];rfl
def Am(x:b7)(l:List bN):flat (r4 x++l)=q4++([32]++(flat (fG x)++([59,10]++flat l))):=by
 unfold r4;simp only[List.cons_append,List.append_assoc,List.nil_append];rw[gF,dV,c3,cT,mH];rfl
def Ia{x:e1}(h:nU x):(flat (r5 x)).length<=400:=by
 have a:=uX x.fields h.f;have c:=eO h.n;have d:=h.l;have:=Aq x [];rw[List.append_nil,cY,List.append_nil]at this;rw[this];simp only[List.length_append,List.length_cons,List.length_nil,q5];omega
def H9{x:b7}(h:gC x):(flat (r4 x)).length<=60:=by
 have a:=rO h;have:=Am x [];rw[List.append_nil,cY,List.append_nil]at this;rw[this];simp only[List.length_append,List.length_cons,List.length_nil,q4];omega
def Hd(x:e1)(l:List eX):flat (cH (.r x::l))=q5++([32]++(x.name++([32,123,10]++(flat (eI x.fields)++([125,10]++flat (cH l)))))):=by
 rw[cH,oz,Aq]
def Hc(x:b7)(l:List eX):flat (cH (.g x::l))=q4++([32]++(flat (fG x)++([59,10]++flat (cH l)))):=by
 rw[cH,oz,Am]
def A9:∀l:List b7,(∀p∈l,gC p)->(flat (mV l)).length<=44*l.length
 |[],_=>by simp[mV,flat]
 |p::r,h=>by
  have c:=rO (h p (by simp));have d:=A9 r λx a=>h x (List.mem_cons_of_mem _ a)
  rw[mV,c_,ew,cV];simp only[List.length_cons,List.length_nil];omega
def rN(l:List b7)(h:∀p∈l,gC p):(flat (gK l)).length<=44*l.length:=by
 cases l with
 |nil=>simp[gK,flat]
 |cons p r=>
  have c:=rO (h p (by simp));have d:=A9 r λx a=>h x (List.mem_cons_of_mem _ a)
  rw[gK,cV,List.length_cons];omega
def h7(f:Fn):aK:=bif f.has then[58,32]++flat (cX f.dF f.rd)else[]
def Hb(f:Fn)(l:List bN):flat (vn f++l)=me++([32]++(f.name++([40]++(flat (gK f.params)++([41]++(h7 f++([32,123,10]++(flat (cI 1 f.body)++([125,10]++flat l))))))))):=by
 unfold vn;simp only[List.cons_append,List.append_assoc,List.nil_append];rw[gF,dV,iA,cT,c3,cT];have e:∀m,flat ((bif f.has then bQ [58]::cq::cX f.dF f.rd else[])++m)=h7 f++flat m:=by
  intro m;unfold h7;cases f.has
  ·rfl
  ·rw[aZ,aZ,List.cons_append,List.cons_append,cT,dV,c3];simp
 rw[e];have:=pS [] (cI 1 f.body) (nl::l);rw[this,mH];simp
def An(f:Fn)(l:List eX):flat (cH (.f f::l))=me++([32]++(f.name++([40]++(flat (gK f.params)++([41]++(h7 f++([32,123,10]++(flat (cI 1 f.body)++([125,10]++flat (cH l)))))))))):=by
 rw[cH,oz,Hb]
def oA:∀a b:List eX,cH (a++b)=cH a++cH b
 |[],_=>rfl
 |i::a,b=>by rw[List.cons_append,cH,oA a b,cH,List.append_assoc]
def A8:∀l:List e1,(∀x∈l,nU x)->(flat (cH (l.map eX.r))).length<=400*l.length
 |[],_=>by simp[cH,flat]
 |x::r,h=>by
  have c:=Ia (h x (by simp));have d:=A8 r λx a=>h x (List.mem_cons_of_mem _ a)
  rw[List.map_cons,cH,cV,List.length_cons,oz];omega
def A7:∀l:List b7,(∀x∈l,gC x)->(flat (cH (l.map eX.g))).length<=60*l.length
 |[],_=>by simp[cH,flat]
 |x::r,h=>by
  have c:=H9 (h x (by simp));have d:=A7 r λx a=>h x (List.mem_cons_of_mem _ a)
  rw[List.map_cons,cH,cV,List.length_cons,oz];omega
def mW(g:dm):List bN:=cH (g.da.map .r++(g.globals.map .g++g.funcs.map .f))
structure wZ(g:dm):Prop where
 nb:∀x∈g.da,nU x
 di:∀x∈g.globals,gC x
 cn:∀x∈g.funcs,nT x/\dv x.body<=1000000000
 gn:g.da.length<=100
 mN:g.globals.length<=100
 ou:g.funcs.length<=100
section
variable {H0:ad}{ok:Nat->Prop}{r:Nat}{bD bK bG:aa}{g:dm}
end
def AN:∀l:List b7,Lib.joinTail [44,32] (l.map λp=>flat (fG p))=flat (mV l)
 |[]=>rfl
 |p::r=>by
  have a:=AN r;rw[mV,cT,dV,c3,<-a,List.map_cons,Lib.joinTail,List.map_cons,List.flatten_cons,Lib.joinTail];simp
def AM:∀l:List b7,Lib.join (l.map λp=>flat (fG p)) [44,32]=flat (gK l)
 |[]=>rfl
 |p::r=>by rw[List.map_cons,Lib.join_cons,AN,gK,c3]
def iV(f:Fn):aK:=me++([32]++(f.name++([40]++(flat (gK f.params)++([41]++(h7 f++[32,123]))))))
section
variable {N:Nat}{H0:ad}{r L i n:Nat}{cap:Option Nat}{ro:Bool}{els:List (List aa)}
def Bv(G:H0.get L=D (.row ro 4 els))(am:n<=1000){all:List b7}(m:∀(j:Nat) (a:b7),all[j]? =D a->els[i+j]? =D a.cells)(hw:∀p∈all,gC p)(an:n=all.length){Q:aa->ad->Prop}(E:∀v H,aO H0 H->(aC P ay 59 [v,Y [44,32]] H=D (Y (flat (gK all)),H))->W (lT (aC P ay) N (.ptr r 0 0) v H) Q):∀(es:List b7) (j k:Nat) (done:List b7) (v:aa) (H:ad),all=done++es->done.length=j->es.length<k->aO H0 H->c0 od (λl=>H0.next<=l) H (done.map λe=>flat (fG e)) v->
  W (kZ (aC P ay) N k (.ptr r 0 0) v (.aA L i n 4 cap) (I J n) (I J j) H) Q
 |_,_,0,_,_,_,_,_,A,_,_=>af
 |[],j,k+1,done,v,H,c,y,A,pp,w=>by
  rw[List.append_nil]at c;subst c;have z:¬((j:Int)<(n:Int)):=af;have aF:=rN all hw;have s:aC P ay 59 [v,Y [44,32]] H=D (Y (flat (gK all)),H):=by
   rw[<-AM];exact rI w (by rw[List.length_map];omega) (by rw[AM];omega)
  simp-implicitDefEqProofs(disch:=try exact al)only[kZ,oQ,reduceAdd,reduceLeDiff,reduceIte,ax,z,decide_false];exact E v H pp s
 |x::es,j,k+1,done,v,H,c,y,A,pp,w=>by
  simp only[List.length_cons]at A;have aB:all.length=done.length+(es.length+1):=by rw[c,List.length_append,List.length_cons]
  have z:(j:Int)<(n:Int):=af;have au:((j:Int)).toNat=j:=af;have aj:(0:Int)<=(j:Int):=af;have aw:IntKind.i64.wrap ((j:Int)+1)=((j+1:Nat):Int):=by rw[wrap_i64 af af];omega
  have O:all[j]? =D x:=by rw[c,List.getElem?_append_right af,y,Nat.sub_self];rfl
  have aY:=m j x O;have aG:=hw x (List.mem_of_getElem? O);have aH:=eO aG.n;have aD:=gq aG.ai;have aI:=aG.ai.2.1;have aE:=iD x.cc x.c4;have g1:=pp.get G;have B:=aO.push H (.row U 4 [x.cells]);have u:=ad.bC H (.row U 4 [x.cells]);have aJ:H.next<(H.push (.row U 4 [x.cells])).next:=by simp
  simp only[b7.cells]at aY B u;simp-implicitDefEqProofs(disch:=try exact al)only[kZ,oQ,reduceAdd,reduceLeDiff,reduceIte,ax,z,decide_true,aj,au,g1,aY];refine aN (type20 aG.ai.1 aG.ai.2.1 af) ?_;rintro _ d ⟨rfl,o⟩;refine⟨o.1,?_⟩;have ah:=o.get u;have q:=pp.trans (B.trans o);have F:=(w.aM B).aM o;have ao:flat (fG x)=x.name++[58,32]++flat (cX x.cc x.c4):=by
   have:=Ao x [];rw[List.append_nil,cY,List.append_nil]at this;rw[this];simp
  have ae:aq P .add 9 X (Y x.name) (Y [58,32])=D (Y (x.name++[58,32])):=cW (by simp only[List.length_cons,List.length_nil];omega);have ag:aq P .add 9 U (Y (x.name++[58,32])) (Y (flat (cX x.cc x.c4)))=D (Y (flat (fG x))):=by
   rw[ao];exact cW (by simp only[List.length_append,List.length_cons,List.length_nil];omega)
  have ap:=vY d.next (flat (fG x))
  obtain⟨R,H',s,S,T,b3⟩:=c0.app (K:=od) (ok':=λl=>H0.next<=l) BF F (okE:=λ_=>False) (a:=flat (fG x)) (cs:=[Y (flat (fG x))]) rfl (λ_ _ h=>h.elim) (λ_ _ h _=>h) (by have:=q.1;show H0.next<=d.next+1;omega) (by rw[List.length_map];omega);have av:aO H0 H':=by
   refine⟨by have:=q.1;omega,λl m=> ?_⟩;have:=q.1;rw[b3 l af λL M ak=> ?_]
   ·exact q.2 l m
   ·subst ak;rcases F with⟨rfl,_⟩|⟨L',_,rfl,az,_⟩
    ·cases M
    ·cases M;omega
  have ab:cQ P (d.push (.row U 1 [[Y (flat (fG x))]])) [50,50] v (.aA d.next 0 1 1 (D 1))=D (R,H'):=s;have V:(d.push (.row U 1 [[Y (flat (fG x))]])).next<=H'.next:=by rw[ad.bT];exact T
  simp-implicitDefEqProofs(disch:=try exact al)only[reduceAdd,reduceLeDiff,reduceIte,ax,u,ah,ae,ag,ap,ab,eK,V,aw];exact Bv G am m hw an E es (j+1) k (done++[x]) R H' (by rw[c,List.append_assoc];rfl) (by rw[List.length_append,y];rfl) af av (by rw[List.map_append];exact S)
end
def Hr{H:ad}{ok:Nat->Prop}{f:Fn}{cs:List aa}(h:hL.V H ok f cs)(hw:nT f):W (aC P ay 30 [.agg cs] H) λv H'=>v= Y (iV f)/\aO H H':=by
 obtain⟨c,bv,rfl,aB,R⟩:=h;have bH:=aB.one;have bX:=R.eb;have Q:∀l,dS l (.agg [Y f.name,c,C f.has,Y f.dF,I J f.rd,bv,I J f.pos])=D (.ptr l 0 0,.row U 7 [[Y f.name,c,C f.has,Y f.dF,I J f.rd,bv,I J f.pos]]):=λl=>hh l _ (by simp only[List.all_cons,List.all_nil,hq,gJ,qm,bH,bX,Bool.and_self])
 have pp:=aO.push H (.row U 7 [[Y f.name,c,C f.has,Y f.dF,I J f.rd,bv,I J f.pos]]);have di:=ad.bC H (.row U 7 [[Y f.name,c,C f.has,Y f.dF,I J f.rd,bv,I J f.pos]]);have aD:=eO hw.n;have az:=rN f.params hw.p;have an:=hw.l;have S:=λH'=>aB.mM H'
 have ae:=aB.aX (df.aM pp);have fin:∀v d,aO (H.push (.row U 7 [[Y f.name,c,C f.has,Y f.dF,I J f.rd,bv,I J f.pos]])) d->(aC P ay 59 [v,Y [44,32]] d=D (Y (flat (gK f.params)),d))->W (lT (aC P ay) 1000 (.ptr H.next 0 0) v d) λv H'=>v= Y (iV f)/\aO H H':=by
  intro v d w e;have g2:=w.get di;have k:aq P .add 9 X (Y [102,117,110,99,32]) (Y f.name)=D (Y ([102,117,110,99,32]++f.name)):=cW (by simp only[List.length_cons,List.length_nil];omega);have A:aq P .add 9 X (Y ([102,117,110,99,32]++f.name)) (Y [40])=D (Y ([102,117,110,99,32]++f.name++[40])):=cW (by simp only[List.length_append,List.length_cons,List.length_nil];omega);have B:aq P .add 9 U (Y ([102,117,110,99,32]++f.name++[40])) (Y (flat (gK f.params)))=D (Y ([102,117,110,99,32]++f.name++[40]++flat (gK f.params))):=cW (by simp only[List.length_append,List.length_cons,List.length_nil];omega)
  have o:aq P .add 9 X (Y ([102,117,110,99,32]++f.name++[40]++flat (gK f.params))) (Y [41])=D (Y ([102,117,110,99,32]++f.name++[40]++flat (gK f.params)++[41])):=cW (by simp only[List.length_append,List.length_cons,List.length_nil];omega);obtain⟨T,aE⟩:∃T,T=[102,117,110,99,32]++f.name++[40]++flat (gK f.params)++[41]:=⟨_,rfl⟩;have ao:T.length<=1000:=by rw[aE];simp only[List.length_append,List.length_cons,List.length_nil];omega
  rw[<-aE]at o;unfold lT;simp-implicitDefEqProofs(disch:=try exact al)only[reduceAdd,reduceLeDiff,reduceIte,ax,e,eK,bj,g2];rw[k,dG,A,dG,B,dG,o,dG];have E:∀y:aK,h7 f=y->T++(y++[32,123])=iV f:=by
   intro y O;rw[aE];unfold iV;rw[O];simp[me]
  clear aE k A B o;rcases hw.r with⟨i,m⟩|⟨i,au,ap⟩
  ·have av:=gq m;have aF:=m.2.1;have aw:=iD f.dF f.rd;have s:h7 f=[58,32]++flat (cX f.dF f.rd):=by unfold h7;rw[i];rfl
   rw[i]at g2;simp-implicitDefEqProofs(disch:=try exact al)only[reduceAdd,reduceLeDiff,reduceIte,ax,g2];refine aN (type20 (x:=f.dF) (z:=f.rd) m.1 m.2.1 af) ?_;rintro _ ai ⟨rfl,G⟩;refine⟨G.1,?_⟩;have K:aq P .add 9 X (Y [58,32]) (Y (flat (cX f.dF f.rd)))=D (Y ([58,32]++flat (cX f.dF f.rd))):=cW (by simp only[List.length_append,List.length_cons,List.length_nil];omega);have L:aq P .add 9 U (Y T) (Y ([58,32]++flat (cX f.dF f.rd)))=D (Y (T++([58,32]++flat (cX f.dF f.rd)))):=cW (by simp only[List.length_append,List.length_cons,List.length_nil];omega);have q:aq P .add 9 X (Y (T++([58,32]++flat (cX f.dF f.rd)))) (Y [32,123])=D (Y (T++([58,32]++flat (cX f.dF f.rd))++[32,123])):=cW (by simp only[List.length_append,List.length_cons,List.length_nil];omega)
   rw[K,dG,L,dG,nn,q,dG];exact bb.2 ⟨by rw[List.append_assoc T,E _ s],pp.trans (w.trans G)⟩
  ·have s:h7 f=[]:=by unfold h7;rw[i];rfl
   rw[i]at g2;simp-implicitDefEqProofs(disch:=try exact al)only[reduceAdd,reduceLeDiff,reduceIte,ax,g2];have q:aq P .add 9 X (Y T) (Y [32,123])=D (Y (T++[32,123])):=cW (by simp only[List.length_append,List.length_cons,List.length_nil];omega);rw[nn,q,dG];exact bb.2 ⟨by rw[<-E _ s];rfl,pp.trans w⟩
 refine cz (λ_=>JC 1000) ?_;rw[sv];simp-implicitDefEqProofs(disch:=try exact al)only[reduceAdd,reduceLeDiff,reduceIte,ax,Q,di,S];by_cases u:f.params.length=0
 ·have ag:=List.length_eq_zero_iff.1 u;have M:¬((0:Int)<((0:Nat):Int)):=af;have e:aC P ay 59 [.ar,Y [44,32]] (H.push (.row U 7 [[Y f.name,c,C f.has,Y f.dF,I J f.rd,bv,I J f.pos]]))=D (Y (flat (gK f.params)),H.push (.row U 7 [[Y f.name,c,C f.has,Y f.dF,I J f.rd,bv,I J f.pos]])):=by
   rw[ag];exact rI (ok:=λ_=>True) (l:=[]) (.inl ⟨rfl,rfl⟩) (Nat.zero_le _) (Nat.zero_le _)
  rw[u];simp-implicitDefEqProofs(disch:=try exact al)only[kZ,oQ,reduceAdd,reduceLeDiff,reduceIte,ax,M,decide_false];exact fin _ _ (.refl _) e
 ·obtain⟨aj,i2,ak,aG,am,rfl,F,ab⟩:=ae.row u;have ah:fF.esz=4:=rfl;rw[ah]at F;exact Bv (N:=1000) F af (λj a h=>by obtain⟨cs,e,k⟩:=ab j a h;rw[e,show cs=a.cells from k]) hw.p rfl fin f.params 0 1000 [] .ar _ rfl rfl af (.refl _) (.inl ⟨rfl,rfl⟩)
def j8:pad 0=[]:=rfl
def xY:∀l:aK,bytesOf (et l)=D l
 |[]=>rfl
 |c::l=>by
  have a:=xY l;unfold et at a ⊢;rw[List.map_cons,bytesOf,a];simp[Go.b9.byteOf]
open Classical in
def Mq{H:ad}{p m:Nat}{acc:aK}(h:fB H p m acc)(d:acc.length<=100000000000000):∃H',aC P ay 32 [.ptr p 0 0] H=D (Y acc,H')/\H'.next=H.next/\∀l,l≠m->H'.get l=H.get l:=by
 obtain⟨-,-,a,b,c,-,k⟩:=h;rcases k with⟨rfl,rfl⟩|⟨j,rfl,o⟩
 ·refine⟨H,lA ?_,rfl,λ_ _=>rfl⟩;unfold ay;simp only[c]
 ·refine⟨H.set m .dead,lA ?_,by simp,λl d=>ad.get_set_other (λe=>d e.symm)⟩;have i:bytesOf (((et acc).drop 0).take acc.length)=D acc:=by
   rw[List.drop_zero,List.take_of_length_le (by rw[kG];omega)];exact xY acc
  have n:0<acc.length/\0+acc.length<=(et acc).length/\True/\acc.length<=140737488355328/\((et acc).drop 0).take acc.length=acc.map (λb=>[I .u8 b.toNat]):=⟨List.length_pos_iff.2 j,by rw[kG];omega,trivial,af,by rw[List.drop_zero,List.take_of_length_le (by rw[kG];omega)];rfl⟩;unfold ay;simp only[c,o,i];rw[if_pos n]
section
variable {N:Nat}{H0:ad}{r L i n n0 p m0:Nat}{cap:Option Nat}{ro:Bool}{els:List (List aa)}{ok:Nat->Prop}{Q:aa->ad->Prop}{acc:aK}
def Bz(q:∀l,ok l->l<n0)(M:ok L)(aE:n<=100){all:List Fn}(aF:n=all.length)(hw:∀x∈all,nT x/\dv x.body<=1000000000)
  (O:∀m H,eN n0 p m H (acc++flat (cH (all.map .f)))->cG p m0 H0 m H->W (lN (aC P ay) N (.ptr p 0 0) H) Q):∀(es:List Fn) (j k:Nat) (done:List Fn) (m:Nat) (H:ad),all=done++es->done.length=j->es.length<k->H.get L=D (.row ro 7 els)->(∀(j:Nat) (a:Fn),all[j]? =D a->∃cs,els[i+j]? =D cs/\hL.V H ok a cs)->eN n0 p m H (acc++flat (cH (done.map .f)))->acc.length+(flat (cH (done.map .f))).length+2000000000*es.length<=400000000000->cG p m0 H0 m H->
  W (kS (aC P ay) N k (.ptr p 0 0) (.aA L i n 7 cap) (I J n) (I J j) H) Q
 |_,_,0,_,_,_,_,_,E,_,_,_,_,_=>af
 |[],j,k+1,done,m,H,e,z,E,A,F,c,R,w=>by
  rw[List.append_nil]at e;subst e;have B:¬((j:Int)<(n:Int)):=af;simp-implicitDefEqProofs(disch:=try exact al)only[kS,oL,reduceAdd,reduceLeDiff,reduceIte,ax,B,decide_false];exact O m H c w
 |x::es,j,k+1,done,m,H,e,z,E,A,F,c,R,w=>by
  simp only[List.length_cons]at E R;have a2:all.length=done.length+(es.length+1):=by rw[e,List.length_append,List.length_cons]
  have B:(j:Int)<(n:Int):=af;have aI:((j:Int)).toNat=j:=af;have aw:(0:Int)<=(j:Int):=af;have aU:IntKind.i64.wrap ((j:Int)+1)=((j+1:Nat):Int):=by rw[wrap_i64 af af];omega
  have ag:all[j]? =D x:=by rw[e,List.getElem?_append_right af,z,Nat.sub_self];rfl
  obtain⟨cs,aY,ae⟩:=F j x ag;obtain⟨aG,aK⟩:=hw x (List.mem_of_getElem? ag);have aJ:=ae;obtain⟨aj,bv,rfl,aB,S⟩:=ae;have bH:=aB.one;have bX:=S.eb;have a8:=eO aG.n;have a6:=rN x.params aG.p;have a1:=aG.l;have a7:(h7 x).length<=30:=by
   unfold h7;rcases aG.r with⟨y,aa⟩|⟨y,_⟩
   ·have:=gq aa;have:=aa.2.1;have:=iD x.dF x.rd;rw[y,aZ];simp only[List.length_append,List.length_cons,List.length_nil];omega
   ·rw[y];simp
  have a5:(iV x).length<=1000:=by unfold iV;simp only[List.length_append,List.length_cons,List.length_nil,me];omega
  have aD:iV x≠[]:=by unfold iV me;simp
  have u:=aO.push H (.row U 7 [[Y x.name,aj,C x.has,Y x.dF,I J x.rd,bv,I J x.pos]]);have au:=ad.bC H (.row U 7 [[Y x.name,aj,C x.has,Y x.dF,I J x.rd,bv,I J x.pos]]);have az:=Hr (hL.aX (df.aM u) aJ) aG;have aL:=c.aM u;have am:H.next≠p/\H.next≠m:=by have:=c.lm;have:=c.iu.lt;omega
  obtain⟨d,a4,T⟩:=aG.b;simp-implicitDefEqProofs(disch:=try exact al)only[kS,oL,reduceAdd,reduceLeDiff,reduceIte,ax,B,decide_true,aw,aI,A,aY,bH,bX];refine aN az ?_;rintro _ G ⟨rfl,o⟩;refine⟨o.1,?_⟩;have K:=o.get au;have aH:=vY G.next (iV x)
  simp-implicitDefEqProofs(disch:=try exact al)only[bg,br,aH];refine aN (ga (aL.aM o) (deep:=0) rfl [iV x] (by simpa using aD) (by simp) af (by simp only[List.flatten_cons,List.flatten_nil,List.length_append,List.length_cons,List.length_nil];omega) rfl rfl rfl) ?_;rintro _ an ⟨aS,m4,aP,v⟩;refine⟨aS,?_⟩;have av:=v.get K am.1 am.2;have cK:=(S.aM (u.trans o)).aX (v.aX c.aG c.hm q).s;have a9:H.next≠m4:=by have:=v.1;have:=ad.aR K;omega
  simp-implicitDefEqProofs(disch:=try exact al)only[reduceAdd,reduceLeDiff,reduceIte,ax,av];refine aN (Gn x.body d 1 T af aK an ok bv _ n0 p m4 _ rfl cK q aP (by simp only[List.flatten_cons,List.flatten_nil,List.length_append,List.length_cons,List.length_nil,j8];omega)) ?_;rintro _ a0 ⟨m5,aQ,ak⟩;refine⟨ak.next,?_⟩;have a3:=p6 (deep:=1) T af;simp-implicitDefEqProofs(disch:=try exact al)only[bg,br];refine aN (ga aQ (deep:=0) rfl [[125]] (by simp) (by simp) af (by simp only[List.flatten_cons,List.flatten_nil,List.length_append,List.length_cons,List.length_nil,j8];omega) rfl rfl rfl) ?_;rintro _ ao ⟨aT,m6,ah,aV⟩
  refine⟨aT,?_⟩;simp-implicitDefEqProofs(disch:=try exact al)only[bg,br,c5,aU];have aW:cG p m H m G:=cG.aM (u.trans o);have wt:=((aW.trans v).trans ak).trans aV;have ai:=wt.aX c.aG c.hm q;have ab:acc++flat (cH (done.map .f))++(pad 0++([iV x].flatten++[10]))++flat (cI 1 x.body)++(pad 0++([[125]].flatten++[10]))=acc++flat (cH ((done++[x]).map .f)):=by
   rw[List.map_append,oA,c3,List.map_cons,List.map_nil,An,cH,cY,j8];unfold iV;simp
  rw[ab]at ah;have hlen:(flat (cH ((done++[x]).map eX.f))).length<=(flat (cH (done.map eX.f))).length+2000000000:=by
   have:=congrArg List.length ab;simp only[List.length_append,List.flatten_cons,List.flatten_nil,List.length_cons,List.length_nil,j8]at this;omega
  exact Bz q M aE aF hw O es (j+1) k (done++[x]) m6 ao (by rw[e,List.append_assoc];rfl) (by rw[List.length_append,z];rfl) af (ai L _ M A).2 (λj a h=>by obtain⟨cs,ap,aq⟩:=F j a h;exact⟨cs,ap,hL.aX ai aq⟩) ah af (w.trans wt)
end
def B5:∀a b:List b7,eI (a++b)=eI a++eI b
 |[],_=>rfl
 |x::a,b=>by rw[List.cons_append,eI,eI,B5 a b];simp
def IN(x:b7):flat (eI [x])=[32,32]++(flat (fG x)++[59,10]):=by
 rw[eI,eI,ug,c3,cT,mH,cY];rfl
section
variable {N:Nat}{H0:ad}{r L i n n0 p m0:Nat}{cap:Option Nat}{ro:Bool}{els:List (List aa)}{ok:Nat->Prop}{Q:aa->ad->Prop}{acc:aK}
def Ap(x:b7):flat (fG x)=x.name++([58,32]++flat (cX x.cc x.c4)):=by
 have:=Ao x [];rw[List.append_nil,cY,List.append_nil]at this;exact this
def BA(G:∀l,ok l->l<n0)(A:ok L)(T:n<=100){all:List b7}(V:n=all.length)(hw:∀x∈all,gC x)(F:∀(j:Nat) (a:b7),all[j]? =D a->els[i+j]? =D a.cells)
  (B:∀m H,eN n0 p m H (acc++flat (cH (all.map .g)))->cG p m0 H0 m H->W (lM (aC P ay) N (.ptr r 0 0) (.ptr p 0 0) H) Q):∀(es:List b7) (j k:Nat) (done:List b7) (m:Nat) (H:ad),all=done++es->done.length=j->es.length<k->H.get L=D (.row ro 4 els)->eN n0 p m H (acc++flat (cH (done.map .g)))->acc.length+(flat (cH (done.map .g))).length+1000*es.length<=100000000000->cG p m0 H0 m H->
  W (kT (aC P ay) N k (.ptr r 0 0) (.ptr p 0 0) (.aA L i n 4 cap) (I J n) (I J j) H) Q
 |_,_,0,_,_,_,_,_,u,_,_,_,_=>af
 |[],j,k+1,done,m,H,c,o,u,q,d,E,w=>by
  rw[List.append_nil]at c;subst c;have s:¬((j:Int)<(n:Int)):=af;simp-implicitDefEqProofs(disch:=try exact al)only[kT,oM,reduceAdd,reduceLeDiff,reduceIte,ax,s,decide_false];exact B m H d w
 |x::es,j,k+1,done,m,H,c,o,u,q,d,E,w=>by
  simp only[List.length_cons]at u E;have ak:all.length=done.length+(es.length+1):=by rw[c,List.length_append,List.length_cons]
  have s:(j:Int)<(n:Int):=af;have aa:((j:Int)).toNat=j:=af;have S:(0:Int)<=(j:Int):=af;have ag:IntKind.i64.wrap ((j:Int)+1)=((j+1:Nat):Int):=by rw[wrap_i64 af af];omega
  have M:all[j]? =D x:=by rw[c,List.getElem?_append_right af,o,Nat.sub_self];rfl
  have aY:=F j x M;have aG:=hw x (List.mem_of_getElem? M);have ao:=eO aG.n;have am:=gq aG.ai;have ap:=aG.ai.2.1;have an:=iD x.cc x.c4;have v:=aO.push H (.row U 4 [x.cells]);have h:=ad.bC H (.row U 4 [x.cells]);simp only[b7.cells]at aY v h;simp-implicitDefEqProofs(disch:=try exact al)only[kT,oM,reduceAdd,reduceLeDiff,reduceIte,ax,s,decide_true,S,aa,q,aY];refine aN (type20 (x:=x.cc) (z:=x.c4) aG.ai.1 aG.ai.2.1 af) ?_;rintro _ aj ⟨rfl,e⟩;refine⟨e.1,?_⟩;have y:=e.get h;simp-implicitDefEqProofs(disch:=try exact al)only[reduceAdd,reduceLeDiff,reduceIte,ax,y,Dj];refine aN (ga (d.aM (v.trans e)) (deep:=0) rfl [[103,108,111,98,97,108,32],x.name,[58,32],flat (cX x.cc x.c4),[59]] (by simp) (by simp) af (by simp only[List.flatten_cons,List.flatten_nil,List.length_append,List.length_cons,List.length_nil];omega) rfl rfl rfl) ?_
  rintro _ R ⟨ae,m4,O,ah⟩;refine⟨ae,?_⟩;simp-implicitDefEqProofs(disch:=try exact al)only[reduceAdd,reduceLeDiff,reduceIte,ax,h,y,ag];have wt:=(cG.aM (p:=p) (m:=m) (v.trans e)).trans ah;have ab:=wt.aX d.aG d.hm G;have K:acc++flat (cH (done.map .g))++(pad 0++([[103,108,111,98,97,108,32],x.name,[58,32],flat (cX x.cc x.c4),[59]].flatten++[10]))=acc++flat (cH ((done++[x]).map .g)):=by
   rw[List.map_append,oA,c3,List.map_cons,List.map_nil,Hc,cH,cY,j8,Ap];simp[q4]
  rw[K]at O;have hlen:(flat (cH ((done++[x]).map eX.g))).length<=(flat (cH (done.map eX.g))).length+1000:=by
   have:=congrArg List.length K;simp only[List.length_append,List.flatten_cons,List.flatten_nil,List.length_cons,List.length_nil,j8]at this;omega
  exact BA G A T V hw F B es (j+1) k (done++[x]) m4 R (by rw[c,List.append_assoc];rfl) (by rw[List.length_append,o];rfl) af (ab L _ A q).2 O af (w.trans wt)
def By{y:aa->aa->aa->aa->aa->ad->O}{T bx V:aa}(K:∀l,ok l->l<n0)(B:ok L)(ag:n<=100){all:List b7}(ah:n=all.length)(hw:∀x∈all,gC x)(G:∀(j:Nat) (a:b7),all[j]? =D a->els[i+j]? =D a.cells)
  (E:∀m H,eN n0 p m H (acc++flat (eI all))->cG p m0 H0 m H->W (lO (aC P ay) N y (.ptr r 0 0) (.ptr p 0 0) T bx V H) Q):∀(es:List b7) (j k:Nat) (done:List b7) (m:Nat) (H:ad),all=done++es->done.length=j->es.length<k->H.get L=D (.row ro 4 els)->eN n0 p m H (acc++flat (eI done))->acc.length+(flat (eI done)).length+1000*es.length<=100000000000->cG p m0 H0 m H->
  W (kU (aC P ay) N y k (.ptr r 0 0) (.ptr p 0 0) T bx V (.aA L i n 4 cap) (I J n) (I J j) H) Q
 |_,_,0,_,_,_,_,_,u,_,_,_,_=>af
 |[],j,k+1,done,m,H,c,o,u,q,d,F,w=>by
  rw[List.append_nil]at c;subst c;have s:¬((j:Int)<(n:Int)):=af;simp-implicitDefEqProofs(disch:=try exact al)only[kU,oO,reduceAdd,reduceLeDiff,reduceIte,ax,s,decide_false];exact E m H d w
 |x::es,j,k+1,done,m,H,c,o,u,q,d,F,w=>by
  simp only[List.length_cons]at u F;have aq:all.length=done.length+(es.length+1):=by rw[c,List.length_append,List.length_cons]
  have s:(j:Int)<(n:Int):=af;have aj:((j:Int)).toNat=j:=af;have ae:(0:Int)<=(j:Int):=af;have an:IntKind.i64.wrap ((j:Int)+1)=((j+1:Nat):Int):=by rw[wrap_i64 af af];omega
  have R:all[j]? =D x:=by rw[c,List.getElem?_append_right af,o,Nat.sub_self];rfl
  have aY:=G j x R;have aG:=hw x (List.mem_of_getElem? R);have az:=eO aG.n;have au:=gq aG.ai;have aB:=aG.ai.2.1;have av:=iD x.cc x.c4;have v:=aO.push H (.row U 4 [x.cells]);have h:=ad.bC H (.row U 4 [x.cells]);simp only[b7.cells]at aY v h;simp-implicitDefEqProofs(disch:=try exact al)only[kU,oO,reduceAdd,reduceLeDiff,reduceIte,ax,s,decide_true,ae,aj,q,aY];refine aN (type20 (x:=x.cc) (z:=x.c4) aG.ai.1 aG.ai.2.1 af) ?_;rintro _ ap ⟨rfl,e⟩;refine⟨e.1,?_⟩;have A:=e.get h;simp-implicitDefEqProofs(disch:=try exact al)only[reduceAdd,reduceLeDiff,reduceIte,ax,A,vX];refine aN (ga (d.aM (v.trans e)) (deep:=1) rfl [x.name,[58,32],flat (cX x.cc x.c4),[59]] (by simp) (by simp) af (by simp only[List.flatten_cons,List.flatten_nil,List.length_append,List.length_cons,List.length_nil];omega) rfl rfl rfl) ?_
  rintro _ ab ⟨am,m4,S,ao⟩;refine⟨am,?_⟩;simp-implicitDefEqProofs(disch:=try exact al)only[reduceAdd,reduceLeDiff,reduceIte,ax,h,A,an];have wt:=(cG.aM (p:=p) (m:=m) (v.trans e)).trans ao;have ak:=wt.aX d.aG d.hm K;have M:acc++flat (eI done)++(pad 1++([x.name,[58,32],flat (cX x.cc x.c4),[59]].flatten++[10]))=acc++flat (eI (done++[x])):=by
   rw[B5,c3,IN,Ap,show pad 1=[32,32]from rfl];simp
  rw[M]at S;have hlen:(flat (eI (done++[x]))).length<=(flat (eI done)).length+1000:=by
   have:=congrArg List.length M;have aw:=hl 1;simp only[List.length_append,List.flatten_cons,List.flatten_nil,List.length_cons,List.length_nil]at this;omega
  exact By K B ag ah hw G E es (j+1) k (done++[x]) m4 ab (by rw[c,List.append_assoc];rfl) (by rw[List.length_append,o];rfl) af (ak L _ B q).2 S af (w.trans wt)
