/-
  Texts of one proof, laid together: Pv Pw ShC.
-/
import Derived.Test.YtghmbpmaafnodaaDoorMI
set_option linter.unusedVariables false
set_option linter.unusedSimpArgs false
set_option linter.defProp false
open Option renaming some→D,none→C
open Bool renaming true→X,false→U
open Go.bn.aa renaming int→I,str→Z
open Go.IntKind renaming i64→J
namespace Go.Proofs.YtghmbpmaafnodaaDoor
open Go.bn
def l4(w:aC):Prop:=∀b r,w=b::r->dn b=U/\dv b=U
def oo(l:List bK):Prop:=∀r,l4 (flat r)->l4 (flat (l++r))
def jg(l:List bK):Prop:=∀t∈aP l,t.pos=0
structure cH(l:List bK):Prop where
 z:jg l
 k:∀r,jC r->l4 (flat r)->jC (l++r)
structure eT(l:List bK):Prop where
 z:jg l
 k:∀r,jC r->jC (l++r)
def eT.z1{l:List bK}(h:eT l):cH l:=⟨h.z,λr a _=>h.k r a⟩
def jg.app{l m:List bK}(h:jg l)(a8:jg m):jg (l++m):=by
 intro t a;rw[dQ,List.mem_append]at a;exact a.elim (h t) (a8 t)
def jg.tok{t:Tok}{l:List bK}(h:t.pos=0)(a8:jg l):jg (.t t::l):=by
 intro u hu;rw[aP,List.mem_cons]at hu;rcases hu with rfl|hu
 ·exact h
 ·exact a8 u hu
def cH.nil:cH []:=⟨λt a=>(List.not_mem_nil a).elim,λr h _=>h⟩
def eT.nil:eT []:=⟨λt a=>(List.not_mem_nil a).elim,λr h=>h⟩
def cH.app{l m:List bK}(h:cH l)(a8:cH m)(c:oo m):cH (l++m):=
 ⟨h.z.app a8.z,λr d a=>by rw[List.append_assoc];exact h.k _ (a8.k r d a) (c r a)⟩
def cH.apps{l m:List bK}(h:cH l)(a8:eT m)(a:∀r,l4 (flat (m++r))):eT (l++m):=
 ⟨h.z.app a8.z,λr c=>by rw[List.append_assoc];exact h.k _ (a8.k r c) (a r)⟩
def eT.app{l m:List bK}(h:eT l)(a8:eT m):eT (l++m):=
 ⟨h.z.app a8.z,λr a=>by rw[List.append_assoc];exact h.k _ (a8.k r a)⟩
def eT.BZ{l m:List bK}(h:eT l)(a8:cH m):cH (l++m):=
 ⟨h.z.app a8.z,λr c a=>by rw[List.append_assoc];exact h.k _ (a8.k r c a)⟩
def eT.b{s:aC}{l:List bK}(ar:s.all h9=X)(h:eT l):eT (.b s::l):=⟨h.z,λr a=>⟨ar,h.k r a⟩⟩
def cH.b{s:aC}{l:List bK}(ar:s.all h9=X)(h:cH l):cH (.b s::l):=⟨h.z,λr c a=>⟨ar,h.k r c a⟩⟩
def jD(x:aC):Prop:=jE ⟨4,x,0,0⟩/\∀b,lF ⟨4,x,0,0⟩ b=X
def G9{t:Tok}(h:∀b,lF t b=X):∀w,nz t w=X
 |[]=>rfl
 |b::_=>h b
def eT.bw{x:aC}{l:List bK}(a:jD x)(h:eT l):eT (bw x::l):=⟨jg.tok rfl h.z,λr c=>⟨a.1,G9 a.2 _,h.k r c⟩⟩
def cH.bw{x:aC}{l:List bK}(a:jD x)(h:cH l):cH (bw x::l):=⟨jg.tok rfl h.z,λr d c=>⟨a.1,G9 a.2 _,h.k r d c⟩⟩
def xX(x:aC):Prop:=jE ⟨4,x,0,0⟩/\lF ⟨4,x,0,0⟩ 32=X
def cH.op{x:aC}{l:List bK}(a:xX x)(h:cH l):cH (Go.Proofs.YtghmbpmaafnodaaDoor.bw x::b9::l):=⟨jg.tok rfl h.z,λr d c=>⟨a.1,a.2,⟨aK,h.k r d c⟩⟩⟩
def G_{t:Tok}(d:(t.kind==4)=U){w:aC}(h:l4 w):nz t w=true:=by
 cases w with
 |nil=>rfl
 |cons b r=>
  obtain⟨a,c⟩:=h b r rfl;rw[nz,lF,d,aN,a,c];rfl
def cH.tok{t:Tok}{l:List bK}(j:jE t)(d:(t.kind==4)=U)(c:t.pos=0)(h:cH l)(e:oo l):cH (.t t::l):=⟨jg.tok c h.z,λr i a=>⟨j,G_ d (e r a),h.k r i a⟩⟩
def eT.tok{t:Tok}{l:List bK}(i:jE t)(c:(t.kind==4)=U)(a:t.pos=0)(h:eT l)(d:∀r,l4 (flat (l++r))):eT (.t t::l):=⟨jg.tok a h.z,λr e=>⟨i,G_ c (d r),h.k r e⟩⟩
def oa{x:aC}(h:ek x=X):jE ⟨1,x,0,0⟩:= .inl ⟨rfl,rfl,h⟩
def h1{x:aC}(h:gk x=X):jE ⟨3,x,0,0⟩:= .inr (.inl ⟨rfl,rfl,h⟩)
def oo.nil:oo []:=λ_ h=>h
def v_{c:UInt8}{w:aC}(h:dn c=U/\dv c=U):l4 (c::w):=by
 intro b r e;cases e;exact h
def ia{c:UInt8}{x:aC}(h:dn c=U/\dv c=U)(l r:List bK):l4 (flat ((bw (c::x)::l)++r)):=v_ h
def gL(l r:List bK):l4 (flat ((b9::l)++r)):=v_ aK
def PG(l r:List bK):l4 (flat ((nl::l)++r)):=v_ aK
def n9{c:UInt8}(h:iV c hT=X):jE ⟨4,[c],0,0⟩:= .inr (.inr (.inr ⟨rfl,rfl,.inr ⟨c,rfl,h⟩⟩))
def uP{x:aC}(h:fx x jd=X):jE ⟨4,x,0,0⟩:= .inr (.inr (.inr ⟨rfl,rfl,.inl h⟩))
def lU{c:UInt8}(h:iV c hT=X)(a8:(c==60||(c==61||(c==33||(c==38||(c==124||c==47)))))=U):jD [c]:=by
 refine⟨n9 h,λb=> ?_⟩;simp only[Bool.or_eq_false_iff,beq_eq_false_iff_ne]at a8;obtain⟨aT,a2,a3,a4,a5,a⟩:=a8;have aq:∀y:UInt8,y≠c->∀z:UInt8,([y,z]==[c,b])=false:=λy d z=>by simp[d]
 simp only[lF,beq_self_eq_true,aS,List.length_cons,List.length_nil,List.cons_append,List.nil_append,fx,jd];rw[aq 60 (Ne.symm aT),aq 61 (Ne.symm a2),aq 33 (Ne.symm a3),aq 38 (Ne.symm a4),aq 124 (Ne.symm a5)];simp[a]
def sS:jD [40]:=lU aK aK
def sT:jD [41]:=lU aK aK
def AF:jD [91]:=lU aK aK
def uO:jD [93]:=lU aK aK
def I2:jD [123]:=lU aK aK
def I3:jD [125]:=lU aK aK
def I4:jD [44]:=lU aK aK
def Uc:jD [46]:=lU aK aK
def I5:jD [58]:=lU aK aK
def AE:jD [59]:=lU aK aK
def Ub:jD [45]:=lU aK aK
def AG:xX [61]:=⟨n9 aK,by decide+kernel⟩
def Ud{k:Int}(h:14<=k)(a8:k<=24):xX (fc k):=by
 have a:k=14\/k=15\/k=16\/k=17\/k=18\/k=19\/k=20\/k=21\/k=22\/k=23\/k=24:=ae;rcases a with rfl|rfl|rfl|rfl|rfl|rfl|rfl|rfl|rfl|rfl|rfl
 ·exact⟨n9 (c:=43) aK,by decide+kernel⟩
 ·exact⟨n9 (c:=45) aK,by decide+kernel⟩
 ·exact⟨n9 (c:=42) aK,by decide+kernel⟩
 ·exact⟨n9 (c:=47) aK,by decide+kernel⟩
 ·exact⟨n9 (c:=37) aK,by decide+kernel⟩
 ·exact⟨n9 (c:=60) aK,by decide+kernel⟩
 ·exact⟨uP (x:=[60,61]) aK,by decide+kernel⟩
 ·exact⟨uP (x:=[61,61]) aK,by decide+kernel⟩
 ·exact⟨uP (x:=[33,61]) aK,by decide+kernel⟩
 ·exact⟨uP (x:=[38,38]) aK,by decide+kernel⟩
 ·exact⟨uP (x:=[124,124]) aK,by decide+kernel⟩
def wz{x:aC}(a:jD x)(n:Nat):eT (rep n (bw x)):=by
 unfold rep
 induction n with
 |zero=>exact .nil
 |succ n c=>rw[List.replicate_succ];exact .bw a c
def zE{c:UInt8}(h:dn c=U/\dv c=U)(n:Nat):oo (rep n (bw [c])):=by
 intro r a;unfold rep;cases n with
 |zero=>exact a
 |succ n=>rw[List.replicate_succ];exact v_ h
def wy{x:aC}{z:Int}(h:iv x z):cH (cn x z):=by
 unfold cn;refine(wz AF _).BZ ?_;obtain⟨-,-,a⟩:=h;unfold re;rcases a with a|rfl|rfl
 ·rw[G0 a,aN];exact .tok (oa a) rfl rfl (wz uO _).z1 (zE aK _)
 ·rw[show gk [105,110,116]=X from aK,aS];exact .tok (h1 aK) rfl rfl (wz uO _).z1 (zE aK _)
 ·rw[show gk [98,111,111,108]=X from aK,aS];exact .tok (h1 aK) rfl rfl (wz uO _).z1 (zE aK _)
def pL(l:List bK):Prop:=∀r,∃b w,flat (l++r)=b::w/\b≠61
def pL.app{l:List bK}(h:pL l)(m:List bK):pL (l++m):=λr=>by rw[List.append_assoc];exact h _
def PA{x:aC}(h:ek x=X):∃c r,x=c::r/\dn c=true:=by
 unfold ek at h;simp only[Bool.and_eq_true,decide_eq_true_eq]at h;cases x with
 |nil=>simp at h
 |cons c r=>exact⟨c,r,rfl,h.2.2.1⟩
def D8{x:aC}(h:ek x=X)(l:List bK):pL (cC x::l):=by
 obtain⟨c,r,rfl,a⟩:=PA h;intro q;exact⟨c,_,rfl,λe=>by subst e;exact absurd a aK⟩
def vu{m:Nat}{e:aE}(h:pL (aY e)):pL (b_ m e):=by
 by_cases a:e.cc<m
 ·rw[qq a];exactλr=>⟨40,_,rfl,aK⟩
 ·rw[mr a];exact h
def v8:dn 40=U/\dv 40=false:=aK
def t_:dn 41=U/\dv 41=false:=aK
def G1:dn 44=U/\dv 44=false:=aK
def PD:dn 46=U/\dv 46=false:=aK
def PE:dn 58=U/\dv 58=false:=aK
def zB:dn 59=U/\dv 59=false:=aK
def PF:dn 91=U/\dv 91=false:=aK
def G2:dn 93=U/\dv 93=false:=aK
def um{m:Nat}{e:aE}(h:cH (aY e)):cH (b_ m e):=by
 by_cases a:e.cc<m
 ·rw[qq a];exact .bw sS (h.app (.bw sT .nil) λr _=>ia t_ _ _)
 ·rw[mr a];exact h
def HN:∀l:List aE,(∀e∈l,cH (aY e))->cH (en (cD l))
 |[],_=> .nil
 |[e],h=>by rw[cD,cD,en];exact h e (List.mem_cons_self)
 |e::f::es,h=>by
  have c:=HN (f::es) λx a=>h x (List.mem_cons_of_mem _ a)
  rw[cD,show cD (f::es)=(f.cc,aY f)::cD es from rfl,en]
  ·rw[<-show cD (f::es)=(f.cc,aY f)::cD es from rfl];exact(h e (List.mem_cons_self)).app (.bw I4 (.b aK c)) λr _=>ia G1 _ _
  ·simp
def nA{d m:Nat}{e:aE}(h:cA d m e):cH (aY e)/\pL (aY e):=by
 induction h with
 |par _ _ _ o=>exact o
 | @int d m n p _ v y=>
  rw[dZ];refine⟨cH.tok (.inr (.inr (.inl ⟨rfl,rfl,v,y⟩))) rfl rfl .nil .nil,λr=> ?_⟩;obtain⟨c,q,e,-⟩:=yt 20 n.toNat [] (by rw[uq];omega) ae;have E:dv c=true:=ys 20 n.toNat [] (λ_ h=>(List.not_mem_nil h).elim) c (by rw[e];exact List.mem_cons_self);refine⟨c,q++flat r,?_,λe=>by subst e;exact absurd E aK⟩;show ho 20 n.toNat []++flat r=_;rw[e];rfl
 | @bool d m n p _ H=>
  rw[dZ];rcases H with rfl|rfl
  ·exact⟨cH.tok (h1 (x:=[102,97,108,115,101]) aK) rfl rfl .nil .nil,λr=>⟨102,_,rfl,aK⟩⟩
  ·exact⟨cH.tok (h1 (x:=[116,114,117,101]) aK) rfl rfl .nil .nil,λr=>⟨116,_,rfl,aK⟩⟩
 | @null d m x z p _ j=>
  rw[dZ];exact⟨cH.tok (h1 aK) rfl rfl (cH.b aK (wy j)) λr _=>gL _ _,λr=>⟨110,_,rfl,aK⟩⟩
 | @var d m x p _ j=>
  rw[dZ];exact⟨cH.tok (oa j) rfl rfl .nil .nil,D8 j []⟩
 | @field d m x p e _ j _ o=>
  rw[oW];exact⟨(um o.1).app (.bw Uc (.tok (oa j) rfl rfl .nil .nil)) λr _=>ia PD _ _,(vu o.2).app _⟩
 | @item d m p e i _ _ _ ih1 ih2=>
  rw[oX];exact⟨(um ih1.1).app (.bw AF (ih2.1.app (.bw uO .nil) λr _=>ia G2 _ _)) λr _=>ia PF _ _,(vu ih1.2).app _⟩
 | @call d m x p l _ j _ o=>
  rw[oV];exact⟨.tok (oa j) rfl rfl (.bw sS ((HN l λe he=>(o e he).1).app (.bw sT .nil) λr _=>ia t_ _ _)) λr _=>ia v8 _ _,D8 j _⟩
 | @new d m x p _ j=>
  rw[dZ];exact⟨cH.tok (h1 aK) rfl rfl (cH.b aK (cH.tok (oa j) rfl rfl .nil .nil)) λr _=>gL _ _,λr=>⟨110,_,rfl,aK⟩⟩
 | @make d m x z p e _ j _ o=>
  rw[oZ];exact⟨.tok (h1 aK) rfl rfl (.b aK (.bw AF ((wy j).app (.bw uO (.bw sS (o.1.app (.bw sT .nil) λr _=>ia t_ _ _))) λr _=>ia G2 _ _))) λr _=>gL _ _,λr=>⟨110,_,rfl,aK⟩⟩
 | @len d m p e _ _ o=>
  rw[oY];exact⟨.tok (h1 aK) rfl rfl (.bw sS (o.1.app (.bw sT .nil) λr _=>ia t_ _ _)) λr _=>ia v8 _ _,λr=>⟨108,_,rfl,aK⟩⟩
 | @read d m p _=>
  rw[dZ];exact⟨cH.tok (h1 aK) rfl rfl (cH.bw sS (cH.bw sT .nil)) λr _=>ia v8 _ _,λr=>⟨114,_,rfl,aK⟩⟩
 | @sign d m k p e _ s _ o=>
  rw[mv s];have aF:=um (m:=6) o.1;have F:=vu (m:=6) o.2;rcases s with rfl|rfl
  ·exact⟨cH.bw Ub aF,λr=>⟨45,_,rfl,aK⟩⟩
  ·refine⟨⟨jg.tok rfl aF.z,λr K A=>⟨n9 (c:=33) aK,?_,aF.k r K A⟩⟩,λr=>⟨33,_,rfl,aK⟩⟩;obtain⟨b,w,e,B⟩:=F r;show nz ⟨4,[33],0,0⟩ (flat (b_ 6 _++r))=X;rw[e];show lF ⟨4,[33],0,0⟩ b=X;have aq:([33,61]==[33,b])=false:=by simp[Ne.symm B]
   simp only[lF,beq_self_eq_true,aS,List.length_cons,List.length_nil,List.cons_append,List.nil_append,fx,jd,aq];simp
 | @bin d m k p a b _ s G _ _ u L=>
  rw[oU s];exact⟨(um u.1).app (.b aK (.op (Ud s G) (um L.1))) λr _=>gL _ _,(vu u.2).app _⟩
def kn(d:Nat):(pad d).all h9=true:=by
 unfold pad;rw[List.all_eq_true];intro c a;rw[List.eq_of_mem_replicate a];rfl
def sg{x o:aC}{z:Int}(c:ek x=X)(a:iv o z):cH (eX x o z):=
 .tok (oa c) rfl rfl (.bw I5 (.b aK (wy a))) λr _=>ia PE _ _
def o2:cH [bw [59]]:= .bw AE .nil
def oQ:oo [bw [59]]:=λr _=>ia zB _ _
def wv{d:aC}{B:List bK}(a:d.all h9=X)(h:eT B):cH (dO d B):=
 .b aK (.bw I2 (.b aK (eT.BZ h (.b a (.bw I3 .nil)))))
def PH(d:aC)(B:List bK):oo (dO d B):=λr _=>gL _ _
def cH.line{l:List bK}(h:cH l):eT (l++[nl]):=h.apps (.b aK .nil) λr=>PG _ _
def uo{d deep:Nat}:∀l:List bf,(∀s∈l,eT (dL deep s))->eT (bH deep l)
 |[],_=>by rw[bH];exact .nil
 |s::r,h=>by rw[bH];exact(h s (List.mem_cons_self)).app (uo (d:=d) r λx a=>h x (List.mem_cons_of_mem _ a))
def Qf{d:Nat}{s:bf}(h:ez d s):∀deep,eT (dL deep s):=by
 induction h with
 | @var d x y z p a i=>
  intro deep;rw[dL];exact .b (kn _) (cH.line (show cH (wd oh::b9::(eX x y z++[bw [59]]))from .tok (h1 aK) rfl rfl (.b aK ((sg a i).app o2 oQ)) λr _=>gL _ _))
 | @lets d x y z p e a i hw=>
  intro deep;rw[dL];exact .b (kn _) (cH.line (show cH (wd oe::b9::(eX x y z++b9::bw [61]::b9::(aY e++[bw [59]])))from .tok (h1 aK) rfl rfl (.b aK ((sg a i).app (.b aK (.op AG ((nA hw).1.app o2 oQ))) λr _=>gL _ _)) λr _=>gL _ _))
 | @set d x p e a hw=>
  intro deep;rw[dL];exact .b (kn _) (cH.line (show cH (cC x::b9::bw [61]::b9::(aY e++[bw [59]]))from .tok (oa a) rfl rfl (.b aK (.op AG ((nA hw).1.app o2 oQ))) λr _=>gL _ _))
 | @put d p e f m hw l=>
  intro deep;rw[dL];exact .b (kn _) (cH.line (show cH (aY e++b9::bw [61]::b9::(aY f++[bw [59]]))from(nA hw).1.app (.b aK (.op AG ((nA l).1.app o2 oQ))) λr _=>gL _ _))
 | @ifs d p e b c hw k o j n=>
  intro deep;rw[dL];refine .b (kn _) (cH.line (show cH (wd lf::b9::(aY e++(dO (pad deep) (bH (deep+1) b)++bif c.isEmpty then[]else b9::wd lY::dO (pad deep) (bH (deep+1) c))))from ?_));have B:=wv (kn deep) (uo (d:=d) (deep:=deep+1) b λs ar=>j s ar _);have zC:=wv (kn deep) (uo (d:=d) (deep:=deep+1) c λs ar=>n s ar _);refine .tok (h1 aK) rfl rfl (.b aK ((nA hw).1.app ?_ ?_)) λr _=>gL _ _
  ·cases c.isEmpty with
   |true=>exact B.app .nil .nil
   |false=>exact B.app (.b aK (.tok (h1 aK) rfl rfl zC λr _=>gL _ _)) λr _=>gL _ _
  ·intro r _;rw[List.append_assoc];exact gL _ _
 | @«while» d p e b hw k j=>
  intro deep;rw[dL];have B:=wv (kn deep) (uo (d:=d) (deep:=deep+1) b λs ar=>j s ar _);exact .b (kn _) (cH.line (show cH (wd oi::b9::(aY e++dO (pad deep) (bH (deep+1) b)))from .tok (h1 aK) rfl rfl (.b aK ((nA hw).1.app B (PH _ _))) λr _=>gL _ _))
 |my=>
  intro deep;rw[dL];exact .b (kn _) (cH.line (show cH (wd kM::[bw [59]])from .tok (h1 aK) rfl rfl o2 oQ))
 | @mz d p e hw=>
  intro deep;rw[dL];exact .b (kn _) (cH.line (show cH (wd kM::b9::(aY e++[bw [59]]))from .tok (h1 aK) rfl rfl (.b aK ((nA hw).1.app o2 oQ)) λr _=>gL _ _))
 | @print d p e hw=>
  intro deep;rw[dL];exact .b (kn _) (cH.line (show cH (wd og::b9::(aY e++[bw [59]]))from .tok (h1 aK) rfl rfl (.b aK ((nA hw).1.app o2 oQ)) λr _=>gL _ _))
 | @call d p e m hw=>
  intro deep;rw[dL];exact .b (kn _) (cH.line (show cH (aY e++[bw [59]])from(nA hw).1.app o2 oQ))
def HO:∀l:List bB,(∀p∈l,fM p)->eT (eN l)
 |[],_=> .nil
 |p::r,h=>by
  have aF:=h p (List.mem_cons_self);have c:=HO r λx a=>h x (List.mem_cons_of_mem _ a)
  rw[eN];exact .b aK ((sg aF.n aF.o).apps (.bw AE (.b aK c)) λr=>ia zB _ _)
def HP:∀l:List bB,(∀p∈l,fM p)->cH (jq l)/\oo (jq l)
 |[],_=>⟨.nil,.nil⟩
 |p::r,h=>by
  have aF:=h p (List.mem_cons_self);have a:=HP r λx c=>h x (List.mem_cons_of_mem _ c)
  rw[jq];exact⟨.bw I4 (.b aK ((sg aF.n aF.o).app a.1 a.2)),λr _=>ia G1 _ _⟩
def Qe:∀l:List bB,(∀p∈l,fM p)->cH (fQ l)
 |[],_=> .nil
 |p::r,h=>by
  have aF:=h p (List.mem_cons_self);have a:=HP r λx c=>h x (List.mem_cons_of_mem _ c)
  rw[fQ];exact(sg aF.n aF.o).app a.1 a.2
def Qd{i:dV}(h:rp i):eT (iW i):=by
 cases i with
 |r x=>
  refine eT.tok (h1 aK) rfl rfl (.b aK (.tok (oa h.n) rfl rfl (.b aK (.bw I2 (.b aK ((HO _ h.f).app (.bw I3 (.b aK .nil)))))) λr=>gL _ _)) λr=>gL _ _
 |g x=>
  exact eT.tok (h1 aK) rfl rfl (.b aK ((sg h.n h.o).apps (.bw AE (.b aK .nil)) λr=>ia zB _ _)) λr=>gL _ _
 |f x=>
  obtain⟨d,j,c⟩:=h.b;have B:=wv (d:=[]) aK (uo (d:=d) (deep:=1) x.body λs ar=>Qf (c s ar) _);have ad:cH (bif x.has then bw [58]::b9::cn x.c4 x.rd else[]):=by
   rcases h.r with⟨a,e⟩|⟨a,-⟩
   ·rw[a];exact .bw I5 (.b aK (wy e))
   ·rw[a];exact .nil
  refine eT.tok (h1 aK) rfl rfl (.b aK (.tok (oa h.n) rfl rfl (.bw sS ((Qe _ h.p).apps (.bw sT (ad.apps B.line λr=> ?_)) λr=>ia t_ _ _)) λr=>ia v8 _ _)) λr=>gL _ _
  rw[List.append_assoc];exact gL _ _
def zZ:∀l:List dV,(∀i∈l,rp i)->eT (cm l)
 |[],_=> .nil
 |i::l,h=>(Qd (h i (List.mem_cons_self))).app (zZ l λx a=>h x (List.mem_cons_of_mem _ a))
def z6:∀(a:List bK) (p:Nat),jg a->dy (qv a p)=aP a++[⟨0,[],0,0⟩]
 |[],_,_=>rfl
 | .b s::r,p,h=>z6 r (p+s.length) h
 | .t t::r,p,h=>by
  have d:=h t (by rw[aP];exact List.mem_cons_self);have c:=z6 r (p+(im t).length) λu hu=>h u (by rw[aP];exact List.mem_cons_of_mem _ hu)
  rw[qv,aP];unfold dy at c ⊢;rw[List.map_cons,c];obtain⟨k,x,n,q⟩:=t;have:q=0:=d;subst this;rfl
def BD(l m:List Tok):∀(p:List Tok),bV (p++(l++m)) p.length l:=by
 induction l with
 |nil=>intro p;trivial
 |cons t l a=>
  intro p;refine⟨?_,?_⟩
  ·unfold aj;rw[if_neg (by simp only[List.length_append,List.length_cons];omega)];rw[show((p.length:Int)).toNat=p.length by omega,List.getElem?_append_right (bo _),Nat.sub_self];rfl
  ·have:=a (p++[t]);rw[List.append_assoc,List.length_append]at this;rw[show((p.length:Int)+1)=((p.length+[t].length:Nat):Int) by simp];exact this
def Qy{l:List dV}(hw:∀i∈l,rp i)(o:(bE.none.fh l).b7.length<=12)(p:(bE.none.fh l).globals.length<=8)(s:(bE.none.fh l).funcs.length<=16)(u:(flat (cm l)).length<=6000)(j:h3 (dy (dB (flat (cm l))).1)){q:bE×al}(m:eh (dB (flat (cm l))).1 800000000 800000000 .none ⟨0,0,0,0⟩=D q):
  (dB (flat (cm l))).2.1=0/\q.2.an=0/\q.1.aQ=(bE.none.fh l).aQ:=by
 have aF:=zZ l hw;have n:jC (cm l):=by have:=aF.k [] trivial;rwa[List.append_nil]at this
 have v:=J7 n u;rw[v]at m j ⊢;simp only at m j ⊢;have e:=z6 (cm l) 0 aF.z;have len:=xo (cm l) n;rw[e]at j;have T1:=BD (aP (cm l)) [⟨0,[],0,0⟩] [];simp only[List.nil_append,List.length_nil]at T1;have T2:(aj (aP (cm l)++[⟨0,[],0,0⟩]) ((0:Int)+((aP (cm l)).length:Int))).kind=0:=by
  have:=BD [⟨0,[],0,0⟩] [] (aP (cm l));rw[List.append_nil]at this;rw[Int.zero_add,this.1]
 obtain⟨K,h⟩:=HV j l .none 0 hw o p s ae T1 T2 ae;have a:=HU (qv (cm l) 0) 800000000 800000000 .none ⟨0,0,0,0⟩;rw[m,e]at a;have b:∀k,eh (aP (cm l)++[⟨0,[],0,0⟩]) (800000000+k) (800000000+k) bE.none.aQ (al.aQ ⟨0,0,0,0⟩)=ft bE.aQ (D q):=by
  intro k
  induction k with
  |zero=>exact a
  |succ k w=>exact sa _ _ _ _ _ w
 have c:=h (800000000+K) (800000000+K) ae ae;have d:=b K;rw[show(al.aQ ⟨0,0,0,0⟩)=st 0 0 from rfl,c]at d;simp only[ft,Option.map_some,aZ,cj]at d;refine⟨trivial,?_,d.1.symm⟩;have:=congrArg al.an d.2;exact this.symm
def oc(l:List Fn):Nat:=(l.map λf=>ec f.body).sum
def Vg(l:List Fn)(f:Fn):oc (l++[f])=oc l+ec f.body:=by simp[oc]
structure Bm(a:Int)(g:bE):Prop where
 o9:∀x∈g.b7,ox x
 dI:∀x∈g.globals,fM x
 cP:∀x∈g.funcs,ow x
 h_:g.b7.length<=12
 qg:g.globals.length<=8
 r_:g.funcs.length<=16
 w:(oc g.funcs:Int)<=400*a
section
variable {T:List Tok}{E:Int}{s s' s2:al}
def zU(ay:Good T E)(e:c_ E s)(h:(c7 T s).2.an=0):fM (c7 T s).1/\cf E s (c7 T s).2 1:=by
 obtain⟨a,c,d⟩:=A_ ay e h;exact⟨⟨a,c⟩,d.less ae⟩
def tm{α:Type}{p:α->Prop}{l:List α}{x:α}(h:∀y∈l,p y)(c:p x):∀y∈l++[x],p y:=by
 intro y a;rcases List.mem_append.1 a with a|a
 ·exact h y a
 ·simp only[List.mem_cons,List.not_mem_nil,or_false]at a;subst a;exact c
def Em(ay:Good T E):∀(n:Nat) (l:List bB) (s:al) (p:List bB×al),c_ E s->(s.an=0->l.length<=8/\∀x∈l,fM x)->gp T n l s=D p->p.2.an=0->cf E s p.2 0/\p.1.length<=8/\∀x∈p.1,fM x
 |0,_,_,_,_,_,h,_=>by cases h
 |n+1,l,s,p,d,he,h,aF=>by
  rw[gp]at h;cases e:(s.an==0&& !aV T s [125])with
  |false=>
   rw[e,aN]at h;cases h;exact⟨.refl (d aF) aF,he aF⟩
  |true=>
   rw[e,aS]at h;simp only[Bool.and_eq_true,beq_iff_eq]at e;obtain⟨aq,aH⟩:=he e.1;cases i:((aj T s.at_).kind==1&&l.length==8)with
   |true=>
    rw[i,aS]at h;cases h;exact absurd aF (eA aK)
   |false=>
    rw[i,aN]at h;have o:=λa=>zU ay d a
    have ip:c_ E (c7 T s).2:=cf.to d (λc=>(o c).2) ae;have t1:=λa=>fA ay (x:=[59]) ip a
    have it:c_ E (bh T [59] (c7 T s).2):=cf.to ip (λc=>(t1 c).2.2) ae;obtain⟨bb,y,z⟩:=Em ay n _ _ p it (λa=>by
     obtain⟨-,-,eI⟩:=t1 a;obtain⟨A,F⟩:=o eI.f;have w:(aj T s.at_).kind=1:=by
      have k:(bA T s).2.an=0:=by
       have u:(dd T s).2.an=0:=eI.f;have q:=λa=>mo ay d a
       have j:=λa=>fA ay (s:=(bA T s).2) (x:=[58]) (cf.to d (λc=>(q c).2) ae) a
       have b3:=qn ay (s:=bh T [58] (bA T s).2) (cf.to d (λc=>(q (j c).2.2.f).2.trans (j c).2.2) ae) u;exact(j b3.2.f).2.2.f
      unfold bA at k;cases m:(s.an==0&&(aj T s.at_).kind==1)with
      |true=>simp only[Bool.and_eq_true,beq_iff_eq]at m;exact m.2
      |false=>rw[m,aN]at k;exact absurd k (eA aK)
     have B:l.length≠8:=by
      intro v;rw[w,v]at i;simp at i
     exact⟨by rw[List.length_append,List.length_singleton];omega,tm aH A⟩) h aF
    obtain⟨-,-,eI⟩:=t1 bb.f;exact⟨(((o eI.f).2.trans eI).trans bb).less ae,y,z⟩
def MX(ay:Good T E)(c:c_ E s)(h:(iy T s).an=0):cf E s (iy T s) 1:=by
 unfold iy at h ⊢;cases a:aV T (bh T [44] s) [41]with
 |true=>rw[a,aS]at h;exact absurd h (eA aK)
 |false=>rw[a,aN]at h;rw[aN];exact(fA ay c h).2.2
def HH(ay:Good T E):∀(n:Nat) (l:List bB) (s:al) (p:List bB×al),c_ E s->(s.an=0->l.length<=6/\∀x∈l,fM x)->e6 T n l s=D p->p.2.an=0->cf E s p.2 0/\p.1.length<=6/\∀x∈p.1,fM x
 |0,_,_,_,_,_,h,_=>by cases h
 |n+1,l,s,p,c,he,h,aF=>by
  rw[e6]at h;cases i:(s.an==0&& !aV T s [41])with
  |false=>
   rw[i,aN]at h;cases h;exact⟨.refl (c aF) aF,he aF⟩
  |true=>
   rw[i,aS]at h;simp only[Bool.and_eq_true,beq_iff_eq]at i;obtain⟨aq,aH⟩:=he i.1;cases j:((aj T s.at_).kind==1&&l.length==6)with
   |true=>
    rw[j,aS]at h;cases h;exact absurd aF (eA aK)
   |false=>
    rw[j,aN]at h;have q:=λa=>zU ay c a
    have ip:c_ E (c7 T s).2:=cf.to c (λe=>(q e).2) ae;have m:∀a:(bif aV T (c7 T s).2 [41]then(c7 T s).2 else iy T (c7 T s).2).an=0,cf E (c7 T s).2 (bif aV T (c7 T s).2 [41]then(c7 T s).2 else iy T (c7 T s).2) 0:=by
     intro a;cases d:aV T (c7 T s).2 [41]with
     |true=>rw[d,aS]at a;rw[aS];exact .refl (ip a) a
     |false=>rw[d,aN]at a;rw[aN];exact(MX ay ip a).less ae
    have it:c_ E (bif aV T (c7 T s).2 [41]then(c7 T s).2 else iy T (c7 T s).2):=cf.to ip m ae;obtain⟨bb,z,A⟩:=HH ay n _ _ p it (λa=>by
     have eI:=m a;obtain⟨B,G⟩:=q eI.f;have y:(aj T s.at_).kind=1:=by
      have o:(bA T s).2.an=0:=by
       have v:(dd T s).2.an=0:=eI.f;have u:=λa=>mo ay c a
       have k:=λa=>fA ay (s:=(bA T s).2) (x:=[58]) (cf.to c (λe=>(u e).2) ae) a
       have b3:=qn ay (s:=bh T [58] (bA T s).2) (cf.to c (λe=>(u (k e).2.2.f).2.trans (k e).2.2) ae) v;exact(k b3.2.f).2.2.f
      unfold bA at o;cases d:(s.an==0&&(aj T s.at_).kind==1)with
      |true=>simp only[Bool.and_eq_true,beq_iff_eq]at d;exact d.2
      |false=>rw[d,aN]at o;exact absurd o (eA aK)
     have F:l.length≠6:=by
      intro w;rw[y,w]at j;simp at j
     exact⟨by rw[List.length_append,List.length_singleton];omega,tm aH B⟩) h aF
    have eI:=m bb.f;exact⟨(((q eI.f).2.trans eI).trans bb).less ae,z,A⟩
def QF(ay:Good T E){n:Nat}{p:ep×al}(e:c_ E s)(h:iG T n s=D p)(aF:p.2.an=0):cf E s p.2 1/\ox p.1:=by
 unfold iG at h;obtain⟨q,g1,g2⟩:=gG h;cases g2;have i:=λa=>mo ay e a
 have i1:c_ E (bA T s).2:=cf.to e (λc=>(i c).2) ae;have t1:=λa=>fA ay (x:=[123]) i1 a
 have i2:c_ E (bh T [123] (bA T s).2):=cf.to i1 (λc=>(t1 c).2.2) ae;have f1:=λa=>Em ay n [] _ q i2 (λ_=>⟨by simp,λx l=>by cases l⟩) g1 a
 have i3:c_ E q.2:=cf.to i2 (λc=>(f1 c).1) ae;obtain⟨-,-,z⟩:=fA ay (x:=[125]) i3 aF;obtain⟨aT,a2,a3⟩:=f1 z.f;obtain⟨-,-,d⟩:=t1 aT.f;obtain⟨j,k⟩:=i d.f;exact⟨((((k.trans d).trans aT).trans z)).less ae,⟨j,a2,a3⟩⟩
def QM(ay:Good T E)(d:c_ E s)(h:(e7 T s).2.an=0):cf E s (e7 T s).2 0/\(((e7 T s).1.1=X/\iv (e7 T s).1.2.1 (e7 T s).1.2.2)\/((e7 T s).1.1=U/\(e7 T s).1.2.1=[]/\(e7 T s).1.2.2=0)):=by
 unfold e7 at h ⊢;cases c:aV T s [58]with
 |true=>
  rw[c,aS]at h;rw[aS];have g:=gJ ay (d (e5 c).1) c;obtain⟨a,b⟩:=qn ay (g.hq d ae) h;exact⟨(g.trans b).less ae,.inl ⟨rfl,a⟩⟩
 |false=>
  rw[c,aN]at h;rw[aN];exact⟨.refl (d h) h,.inr ⟨rfl,rfl,rfl⟩⟩
def N5(ay:Good T E)(y:h3 T){n:Nat}{p:Fn×al}(o:c_ E s)(h:iB T n s=D p)(aF:p.2.an=0):cf E s p.2 1/\ow p.1/\(ec p.1.body:Int)<=400*(p.2.at_-s.at_):=by
 unfold iB at h;obtain⟨q,g1,g2⟩:=gG h;obtain⟨b,g3,g4⟩:=gG g2;cases g4;have u:=λe=>mo ay o e
 have i1:c_ E (bA T s).2:=cf.to o (λi=>(u i).2) ae;have t1:=λe=>fA ay (x:=[40]) i1 e
 have i2:c_ E (bh T [40] (bA T s).2):=cf.to i1 (λi=>(t1 i).2.2) ae;have f1:=λe=>HH ay n [] _ q i2 (λ_=>⟨by simp,λx z=>by cases z⟩) g1 e
 have i3:c_ E q.2:=cf.to i2 (λi=>(f1 i).1) ae;have t2:=λe=>fA ay (x:=[41]) i3 e
 have i4:c_ E (bh T [41] q.2):=cf.to i3 (λi=>(t2 i).2.2) ae;have v:=λe=>QM ay i4 e
 have i5:c_ E (e7 T (bh T [41] q.2)).2:=cf.to i4 (λi=>(v i).1) ae;obtain⟨k,F,d,G,A⟩:=(z_ ay y n).block _ b i5 g3 aF;obtain⟨m1,m2⟩:=v k.f;obtain⟨-,-,l⟩:=t2 m1.f;obtain⟨aT,a2,a3⟩:=f1 l.f;obtain⟨-,-,j⟩:=t1 aT.f;obtain⟨w,m⟩:=u j.f;have B:=(i5 k.f).c;have av:=m.a;have H:=j.a;have K:=aT.a;have L:=l.a;have M:=m1.a;exact⟨(((((m.trans j).trans aT).trans l).trans m1).trans k).less ae,⟨w,a2,a3,m2,d,ae,A⟩,by simp only;omega⟩
def si(ay:Good T E)(m:h3 T)(N:Nat):∀(n:Nat) (g:bE) (s:al) (p:bE×al),c_ E s->(s.an=0->Bm s.at_ g)->eh T N n g s=D p->p.2.an=0->Bm p.2.at_ p.1/\p.2.at_<=E
 |0,_,_,_,_,_,h,_=>by cases h
 |n+1,g,s,p,i,he,h,aF=>by
  rw[eh]at h;cases k:(s.an==0&&(aj T s.at_).kind != 0)with
  |false=>
   rw[k,aN]at h;cases h;exact⟨he aF,(i aF).b⟩
  |true=>
   rw[k,aS]at h;simp only[Bool.and_eq_true,beq_iff_eq]at k;have G:=he k.1;cases hm:((isRec T s&&g.b7.length==12)||((iT T s&&g.globals.length==8)||(isFun T s&&g.funcs.length==16)))with
   |true=>
    rw[hm,aS]at h;exact si ay m N n g _ p (λd=>absurd d (eA aK)) (λd=>absurd d (eA aK)) h aF
   |false=>
    rw[hm,aN]at h;simp only[Bool.or_eq_false_iff]at hm;cases u:isRec T s with
    |true=>
     rw[u,aS]at h;obtain⟨q,g1,g2⟩:=gG h;have e:=gJ ay (i k.1) u;have j:=λd=>QF ay (e.hq i ae) g1 d
     have A:=e.a;have H:g.b7.length≠12:=by
      intro o;have:=hm.1;rw[u,o]at this;simp at this
     have:=G.h_;refine si ay m N n _ q.2 p (cf.to (e.hq i ae) (λl=>(j l).1) ae) (λd=> ?_) g2 aF;obtain⟨a,b⟩:=j d;have:=a.a;have:=G.w;exact⟨tm G.o9 b,G.dI,G.cP,by rw[List.length_append,List.length_singleton];omega,G.qg,G.r_,by simp only;omega⟩
    |false=>
     rw[u,aN]at h;cases v:iT T s with
     |true=>
      rw[v,aS]at h;have e:=gJ ay (i k.1) v;have A:=e.a;have B:=e.hq i ae;have j:=λd=>zU ay B d
      have F:c_ E (c7 T (aw s)).2:=cf.to B (λl=>(j l).2) ae;have t1:=λd=>fA ay (x:=[59]) F d
      have L:g.globals.length≠8:=by
       intro o;have:=hm.2.1;rw[v,o]at this;simp at this
      have:=G.qg;refine si ay m N n _ _ p (cf.to F (λl=>(t1 l).2.2) ae) (λd=> ?_) h aF;obtain⟨-,-,z⟩:=t1 d;obtain⟨a,b⟩:=j z.f;have:=z.a;have:=b.a;have:=G.w;exact⟨G.o9,tm G.dI a,G.cP,G.h_,by rw[List.length_append,List.length_singleton];omega,G.r_,by simp only;omega⟩
     |false=>
      rw[v,aN]at h;cases y:isFun T s with
      |true=>
       rw[y,aS]at h;obtain⟨q,g1,g2⟩:=gG h;have e:=gJ ay (i k.1) y;have j:=λd=>N5 ay m (e.hq i ae) g1 d
       have A:=e.a;have K:g.funcs.length≠16:=by
        intro o;have:=hm.2.2;rw[y,o]at this;simp at this
       have:=G.r_;refine si ay m N n _ q.2 p (cf.to (e.hq i ae) (λl=>(j l).1) ae) (λd=> ?_) g2 aF;obtain⟨a,b,c⟩:=j d;have:=a.a;have:=G.w;exact⟨G.o9,G.dI,tm G.cP b,G.h_,G.qg,by rw[List.length_append,List.length_singleton];omega,by simp only;rw[Vg];omega⟩
      |false=>
       rw[y,aN]at h;exact si ay m N n g _ p (λd=>absurd d (eA aK)) (λd=>absurd d (eA aK)) h aF
end
def dG(x:aC)(r:List bK):(flat (bw x::r)).length=x.length+(flat r).length:=by rw[flat,List.length_append];rfl
def jm(x:aC)(r:List bK):(flat (wd x::r)).length=x.length+(flat r).length:=by rw[flat,List.length_append];rfl
def oN(x:aC)(r:List bK):(flat (cC x::r)).length=x.length+(flat r).length:=by rw[flat,List.length_append];rfl
def j0(x:aC)(r:List bK):(flat (.b x::r)).length=x.length+(flat r).length:=by rw[flat,List.length_append];rfl
def fw(r:List bK):(flat (b9::r)).length=1+(flat r).length:=j0 [32] r
def k0(r:List bK):(flat (nl::r)).length=1+(flat r).length:=j0 [10] r
def dj(a b:List bK):(flat (a++b)).length=(flat a).length+(flat b).length:=by rw[dw,List.length_append]
def fG:(flat []).length=0:=rfl
def zh(x:aC):∀n,(flat (rep n (bw x))).length=n*x.length
 |0=>by simp[rep,flat]
 |n+1=>by have:=zh x n;unfold rep at this ⊢;rw[List.replicate_succ,dG,this,Nat.succ_mul];omega
def kD(x:aC)(z:Int):(flat (cn x z)).length=2*z.toNat+x.length:=by
 have e:(flat (re x::rep z.toNat (bw [93]))).length=x.length+(flat (rep z.toNat (bw [93]))).length:=by
  unfold re;cases gk x
  ·exact oN _ _
  ·exact jm _ _
 unfold cn;rw[dj,e,zh,zh];simp only[List.length_cons,List.length_nil];omega
def zj{k:Int}(h:14<=k)(a8:k<=24):(fc k).length<=2:=by
 have a:k=14\/k=15\/k=16\/k=17\/k=18\/k=19\/k=20\/k=21\/k=22\/k=23\/k=24:=ae;rcases a with rfl|rfl|rfl|rfl|rfl|rfl|rfl|rfl|rfl|rfl|rfl<;>decide
def tO(m:Nat)(e:aE):(flat (b_ m e)).length<=(flat (aY e)).length+2:=by
 by_cases h:e.cc<m
 ·rw[qq h,dG,dj,dG,fG];simp only[List.length_cons,List.length_nil];omega
 ·rw[mr h];omega
def F0:∀l:List aE,(∀e∈l,(flat (aY e)).length+4<=c9 e)->(flat (en (cD l))).length<=cr l
 |[],_=>by simp[cD,en,flat,cr]
 |[e],h=>by rw[qu];have:=h e (by simp);simp only[en,cr];omega
 |e::f::r,h=>by
  have i:=h e (by simp);have c:=F0 (f::r) λx d=>h x (List.mem_cons_of_mem _ d)
  rw[cD]at c;rw[cD,cD,en,dj,dG,fw,cr]
  ·simp only[List.length_cons,List.length_nil];omega
  ·intro a;cases a
def O4{n p:Int}:(flat [.t ⟨2,[],n,p⟩]).length<=20:=by
 have:=C0 20 n.toNat [];simpa [flat,bK.rb,im]using this
def r6{d m:Nat}{e:aE}(h:cA d m e):(flat (aY e)).length+4<=c9 e:=by
 induction h with
 |par _ _ _ c=>exact c
 | @int d m n p _ _ _=>
  rw[dZ,c9,cr];have:(flat (mu {kind:=1,n:=n,pos:=p} (cD []))).length<=20:=O4 (p:=0);simp only[List.length_nil];omega
 | @bool d m n p _ h=>
  rw[dZ,c9,cr];have:(flat (mu {kind:=2,n:=n,pos:=p} (cD []))).length<=5:=by
   rcases h with rfl|rfl
   ·exact bo 5
   ·exact(by decide:4<=5)
  simp only[List.length_nil];omega
 | @null d m x z p _ h=>
  rw[dZ,c9,cr];have:(flat (mu {kind:=3,b4:=x,cy:=z,pos:=p} (cD []))).length=5+(2*z.toNat+x.length):=by
   show(flat (wd [110,117,108,108]::b9::cn x z)).length=_;rw[jm,fw,kD];simp only[List.length_cons,List.length_nil];omega
  have:=h.2.1;simp only[List.length_nil];omega
 | @var d m x p _ h=>
  rw[dZ,c9,cr];have:(flat (mu {kind:=4,name:=x,pos:=p} (cD []))).length=x.length:=by
   show(flat [cC x]).length=_;rw[oN,fG];omega
  simp only[List.length_nil];omega
 | @field d m x p e _ _ _ c=>
  rw[oW,c9,cr,cr,dj,dG,oN,fG];have:=tO 7 e;simp only[List.length_cons,List.length_nil];omega
 | @item d m p e i _ _ _ ih1 ih2=>
  rw[oX,c9,cr,cr,cr,dj,dG,dj,dG,fG];have:=tO 7 e;simp only[List.length_cons,List.length_nil];omega
 | @call d m x p l _ _ _ c=>
  rw[oV,c9,oN,dG,dj,dG,fG];have:=F0 l c;simp only[List.length_cons,List.length_nil];omega
 | @new d m x p _ _=>
  rw[dZ,c9,cr];have:(flat (mu {kind:=8,b4:=x,pos:=p} (cD []))).length=4+x.length:=by
   show(flat [wd [110,101,119],b9,cC x]).length=_;rw[jm,fw,oN,fG];simp only[List.length_cons,List.length_nil];omega
  simp only[List.length_nil];omega
 | @make d m x z p e _ h _ c=>
  rw[oZ,c9,cr,cr,jm,fw,dG,dj,kD,dG,dG,dj,dG,fG];have:=h.2.1;simp only[List.length_cons,List.length_nil];omega
 | @len d m p e _ _ c=>
  rw[oY,c9,cr,cr,jm,dG,dj,dG,fG];simp only[List.length_cons,List.length_nil];omega
 | @read d m p _=>
  rw[dZ,c9,cr];have:(flat (mu {kind:=11,pos:=p} (cD []))).length=6:=rfl;simp only[List.length_nil];omega
 | @sign d m k p e _ h _ c=>
  rw[mv h,c9,cr,cr,dG];have:=tO 6 e;have:(bif k==12 then[45]else[33]:aC).length=1:=by cases k==12<;>rfl
  simp only[List.length_nil];omega
 | @bin d m k p a b _ j o _ _ ih1 ih2=>
  rw[oU j,c9,cr,cr,cr,dj,fw,dG,fw];have:=tO (cG k) a;have:=tO (cG k+1) b;have:=zj j o;simp only[List.length_nil];omega
def tR:∀l:List aE,40*l.length<=cr l
 |[]=>by simp[cr]
 | .mk a ks::r=>by have:=tR r;rw[cr,c9,List.length_cons];omega
def iC{d:Nat}{e:aE}(h:cA d 0 e):(flat (aY e)).length<=c9 e:=by have:=r6 h;omega
def jl(deep:Nat):(pad deep).length=2*deep:=by unfold pad;rw[List.length_replicate]
def zk(x o:aC)(z:Int):(flat (eX x o z)).length=x.length+2+(2*z.toNat+o.length):=by
 unfold eX;rw[oN,dG,fw,kD];simp only[List.length_cons,List.length_nil];omega
def zf(d:aC)(B:List bK):(flat (dO d B)).length=4+(flat B).length+d.length:=by
 unfold dO;rw[fw,dG,k0,dj,j0,dG,fG];simp only[List.length_cons,List.length_nil];omega
def tQ{deep:Nat}:∀l:List bf,(∀s∈l,(flat (dL deep s)).length<=e9 s)->(flat (bH deep l)).length<=ec l
 |[],_=>by simp[bH,flat,ec]
 |s::r,h=>by
  have c:=h s (by simp);have d:=tQ r λx a=>h x (List.mem_cons_of_mem _ a)
  rw[bH,dj,ec];omega
def zi{d:Nat}{s:bf}(h:ez d s):∀deep,deep+d<=51->(flat (dL deep s)).length<=e9 s:=by
 induction h with
 | @var d x o z p l i=>
  intro deep a;rw[dL,j0,dj,k0,jl,fG,e9,cr];have:=i.2.1;have:(flat (fo {kind:=1,name:=x,b4:=o,cy:=z,pos:=p} [] (bH (deep+1) []) ([]:List bf).isEmpty (bH (deep+1) []) (pad deep))).length=4+(x.length+2+(2*z.toNat+o.length))+1:=by
   show(flat (wd oh::b9::(eX x o z++[bw [59]]))).length=_;rw[jm,fw,dj,zk,dG,fG];simp only[List.length_cons,List.length_nil,oh];omega
  simp only[List.length_nil];omega
 | @lets d x o z p e l i hw=>
  intro deep a;rw[dL,j0,dj,k0,jl,fG,e9,cr,cr];have:=i.2.1;have he:=iC hw;have:(flat (fo {kind:=2,name:=x,b4:=o,cy:=z,pos:=p} [e] (bH (deep+1) []) ([]:List bf).isEmpty (bH (deep+1) []) (pad deep))).length=4+(x.length+2+(2*z.toNat+o.length))+3+(flat (aY e)).length+1:=by
   show(flat (wd oe::b9::(eX x o z++b9::bw [61]::b9::(aY e++[bw [59]])))).length=_;rw[jm,fw,dj,zk,fw,dG,fw,dj,dG,fG];simp only[List.length_cons,List.length_nil,oe];omega
  simp only[List.length_nil];omega
 | @set d x p e l hw=>
  intro deep a;rw[dL,j0,dj,k0,jl,fG,e9,cr,cr];have he:=iC hw;have:(flat (fo {kind:=3,name:=x,pos:=p} [e] (bH (deep+1) []) ([]:List bf).isEmpty (bH (deep+1) []) (pad deep))).length=x.length+3+(flat (aY e)).length+1:=by
   show(flat (cC x::b9::bw [61]::b9::(aY e++[bw [59]]))).length=_;rw[oN,fw,dG,fw,dj,dG,fG];simp only[List.length_cons,List.length_nil];omega
  simp only[List.length_nil];omega
 | @put d p e f q hw k=>
  intro deep a;rw[dL,j0,dj,k0,jl,fG,e9,cr,cr,cr];have he:=iC hw;have k:=iC k;have:(flat (fo {kind:=4,pos:=p} [e,f] (bH (deep+1) []) ([]:List bf).isEmpty (bH (deep+1) []) (pad deep))).length=(flat (aY e)).length+3+(flat (aY f)).length+1:=by
   show(flat (aY e++b9::bw [61]::b9::(aY f++[bw [59]]))).length=_;rw[dj,fw,dG,fw,dj,dG,fG];simp only[List.length_cons,List.length_nil];omega
  simp only[List.length_nil];omega
 | @ifs d p e b c hw n w j u=>
  intro deep a;rw[dL,j0,dj,k0,jl,fG,e9,cr,cr];have he:=iC hw;have m:=tQ b (λs ar=>j s ar (deep+1) ae);have v:=tQ c (λs ar=>u s ar (deep+1) ae);have:(flat (fo {kind:=5,pos:=p} [e] (bH (deep+1) b) c.isEmpty (bH (deep+1) c) (pad deep))).length<=3+(flat (aY e)).length+(4+(flat (bH (deep+1) b)).length+2*deep)+(5+(4+(flat (bH (deep+1) c)).length+2*deep)):=by
   show(flat (wd lf::b9::(aY e++(dO (pad deep) (bH (deep+1) b)++bif c.isEmpty then[]else b9::wd lY::dO (pad deep) (bH (deep+1) c))))).length<=_;rw[jm,fw,dj,dj,zf,jl];cases c.isEmpty
   ·rw[aN,fw,jm,zf,jl];simp only[List.length_cons,List.length_nil,lf,lY];omega
   ·rw[aS,fG];simp only[List.length_cons,List.length_nil,lf];omega
  simp only[List.length_nil];omega
 | @«while» d p e b hw n j=>
  intro deep a;rw[dL,j0,dj,k0,jl,fG,e9,cr,cr];have he:=iC hw;have m:=tQ b (λs ar=>j s ar (deep+1) ae);have:(flat (fo {kind:=6,pos:=p} [e] (bH (deep+1) b) ([]:List bf).isEmpty (bH (deep+1) []) (pad deep))).length=6+(flat (aY e)).length+(4+(flat (bH (deep+1) b)).length+2*deep):=by
   show(flat (wd oi::b9::(aY e++dO (pad deep) (bH (deep+1) b)))).length=_;rw[jm,fw,dj,zf,jl];simp only[List.length_cons,List.length_nil,oi];omega
  simp only[List.length_nil];omega
 | @my d p=>
  intro deep a;rw[dL,j0,dj,k0,jl,fG,e9,cr];have:(flat (fo {kind:=7,pos:=p} [] (bH (deep+1) []) ([]:List bf).isEmpty (bH (deep+1) []) (pad deep))).length=7:=rfl;simp only[List.length_nil];omega
 | @mz d p e hw=>
  intro deep a;rw[dL,j0,dj,k0,jl,fG,e9,cr,cr];have he:=iC hw;have:(flat (fo {kind:=7,pos:=p} [e] (bH (deep+1) []) ([]:List bf).isEmpty (bH (deep+1) []) (pad deep))).length=7+(flat (aY e)).length+1:=by
   show(flat (wd kM::b9::(aY e++[bw [59]]))).length=_;rw[jm,fw,dj,dG,fG];simp only[List.length_cons,List.length_nil,kM];omega
  simp only[List.length_nil];omega
 | @print d p e hw=>
  intro deep a;rw[dL,j0,dj,k0,jl,fG,e9,cr,cr];have he:=iC hw;have:(flat (fo {kind:=8,pos:=p} [e] (bH (deep+1) []) ([]:List bf).isEmpty (bH (deep+1) []) (pad deep))).length=6+(flat (aY e)).length+1:=by
   show(flat (wd og::b9::(aY e++[bw [59]]))).length=_;rw[jm,fw,dj,dG,fG];simp only[List.length_cons,List.length_nil,og];omega
  simp only[List.length_nil];omega
 | @call d p e q hw=>
  intro deep a;rw[dL,j0,dj,k0,jl,fG,e9,cr,cr];have he:=iC hw;have:(flat (fo {kind:=9,pos:=p} [e] (bH (deep+1) []) ([]:List bf).isEmpty (bH (deep+1) []) (pad deep))).length=(flat (aY e)).length+1:=by
   show(flat (aY e++[bw [59]])).length=_;rw[dj,dG,fG];simp only[List.length_cons,List.length_nil]
  simp only[List.length_nil];omega
section
set_option maxRecDepth 100000
noncomputable section
def qD(G:aD)(ag:aa)(H:af):O:=cX H [I J 0,Z [],I J 0,I J 0] λe h=>j (cp ag) λV=>j (aJ P 59 V 1) λW=>j (ao P h 3 W) λbD=>j (au P .lss 3 X bD (I J 0)) λa=>aM a U h (cJ ag) λab n=>aM a U n (br (cp ab)) λv o=>aM a U o (br (aJ P 59 v 1)) λw i=>aM a U i (qr (ao P i 3 w)) λx p=>aM a U p (cJ ag) λy s=>aM a U s (br (cp y)) λz u=>aM a U u (br (aJ P 59 z 0)) λA k=>aM a U k (qr (ao P k 36 A)) λbR l=>aM a U l (λq=>iM (cx P .empty .len [36] [bR]) (cx P l .len [36] [bR]) q) λB m=>aM a U m (br (au P .geq 3 U x B)) λE c=>j (cE a (D (.bool X)) (D E)) λF=>a7 (D F) (bm c (ba P c 61 e (.agg [I J 0,Z [],I J 0,I J 0])) λd=>j (ao P d 61 e) λr=>D (r,d)) (j (cp ag) λK=>j (aJ P 59 K 0) λL=>j (ao P c 36 L) λM=>j (cp ag) λN=>j (aJ P 59 N 1) λQ=>j (ao P c 3 Q) λR=>j (cF P 36 M R) λS=>j (ao P c 61 S) λT=>bm c (ba P c 61 e T) λd=>j (ao P d 61 e) λr=>D (r,d))
def Rb(N:Nat){ag:aa}{H:af}{r:aa×af}(h:qD (aI P aB) ag H=D r):aI P aB 22 [ag] H=D r:=cZ N (S:=λG=>qD G ag H) Tryd.func22 (λ_=>by delta qD;kernel_rfl) h
def wR(G:aD)(ag:aa)(H:af):O:=j (cp ag) λa=>j (aJ P 59 a 3) λc=>j (aJ P 29 c 0) λbD=>j (ao P H 27 bD) λd=>j (au P .eql 27 X d (I J 0)) λe=>D (e,H)
def Ra(N:Nat){ag:aa}{H:af}{r:aa×af}(h:wR (aI P aB) ag H=D r):aI P aB 21 [ag] H=D r:=cZ N (S:=λG=>wR G ag H) Tryd.func21 (λ_=>by delta wR;kernel_rfl) h
def qF(G:aD)(ag av:aa)(H:af):O:=aO H (G 21 [ag] H) λl a=>a7 (D l) (aO a (G 22 [ag] a) λm c=>j (c0 P 61 m 3) λe=>j (cS P 29 [(0,av),(1,e)]) λh=>j (cp ag) λi=>j (aJ P 59 i 3) λk=>bm c (ba P c 29 k h) λd=>D (.tuple [],d)) (D (.tuple [],a))
def Rd(N:Nat){ag av:aa}{H:af}{r:aa×af}(h:qF (aI P aB) ag av H=D r):aI P aB 24 [ag,av] H=D r:=cZ N (S:=λG=>qF G ag av H) Tryd.func24 (λ_=>by delta qF;kernel_rfl) h
def qE(G:aD)(ag av:aa)(h bD:aa)(H:af):O:=aO H (G 21 [ag] H) λa i=>aM a X i (br (aJ P 61 h 0)) λq d=>aM a X d (qr (ao P d 3 q)) λs k=>aM a X k (cJ bD) λu l=>aM a X l (br (au P .eql 3 U s u)) λv m=>j (cE a (D v) (D (.bool U))) λc=>aM c X m (br (aJ P 61 h 1)) λw e=>aM c X e (qr (ao P e 9 w)) λx n=>aM c X n (cJ av) λy o=>aM c X o (br (au P .eql 9 U x y)) λz p=>j (cE c (D z) (D (.bool U))) λA=>D (A,p)
def Ss(G:aD)(N:Nat):∀ad H,bC P G N (o (o (o (o (bI Tryd.f23))))) (bs Tryd.f23) [] (bs Tryd.f23) ad H=qE G (ad 0) (ad 1) (ad 5) (ad 6) H:=by
 refine bZ (aL _) λad H=> ?_
 delta qE;kernel_rfl
def mG(G:aD)(ag av:aa)(H:af):O:=aO H (G 22 [ag] H) λq h=>cX h [I J 0,Z [],I J 0,I J 0] λc d=>bm d (ba P d 61 c q) λi=>j (fC P 9 av (I J 0)) λm=>j (au P .geq 5 X m (I .u8 97)) λa=>aM a X i (cJ av) λn k=>aM a X k (br (fC P 9 n (I J 0))) λo l=>aM a X l (br (au P .leq 5 X o (I .u8 122))) λp e=>j (cE a (D p) (D (.bool U))) λbR=>a7 (D bR) (qE G ag av c (I J 3) e) (qE G ag av c (I J 4) e)
def Rc(N:Nat){ag av:aa}{H:af}{r:aa×af}(h:mG (aI P aB) ag av H=D r):aI P aB 23 [ag,av] H=D r:=cZ N (S:=λG=>mG G ag av H) Tryd.func23 (λG=>eo ((aX ah ((aX ah ((aX ah ((aX ah (Ss G N) (aL _))) (aL _))) (aL _))) (aL _))) (by delta mG;generalize qE G=a;revert a;refine id ?_;intro a;kernel_rfl)) h
def qG(G:aD)(ag av:aa)(H:af):O:=aO H (G 23 [ag,av] H) λbD a=>j (fD .not bD) λl=>a7 (D l) (aO a (G 24 [ag,I J 2] a) λm c=>D (.tuple [],c)) (j (cp ag) λd=>j (aJ P 59 d 1) λe=>j (ao P a 3 e) λh=>j (au P .add 3 X h (I J 1)) λi=>j (cp ag) λk=>j (aJ P 59 k 1) λbR=>bm a (ba P a 3 bR i) λc=>D (.tuple [],c))
def Rg(N:Nat){ag av:aa}{H:af}{r:aa×af}(h:qG (aI P aB) ag av H=D r):aI P aB 27 [ag,av] H=D r:=cZ N (S:=λG=>qG G ag av H) Tryd.func27 (λ_=>by delta qG;kernel_rfl) h
def xf(ag m:aa)(a:af):O:=j (cp ag) λd=>j (aJ P 59 d 2) λe=>j (ao P a 3 e) λh=>j (au P .add 3 X h (I J 1)) λi=>j (cp ag) λk=>j (aJ P 59 k 2) λl=>bm a (ba P a 3 l i) λc=>D (.tuple [],c)
def n4(G:aD)(ag av:aa)(H:af):O:=aO H (G 23 [ag,av] H) λbD d=>aM bD X d (cJ ag) λp e=>aM bD X e (br (cp p)) λq h=>aM bD X h (br (aJ P 59 q 2)) λl c=>aM bD X c (qr (ao P c 3 l)) λm i=>aM bD X i (br (au P .geq 3 X m (I J 50))) λn a=>j (cE bD (D n) (D (.bool U))) λo=>a7 (D o) (aO a (G 24 [ag,I J 4] a) λs k=>D (.tuple [],k)) (aO a (G 27 [ag,av] a) (xf ag))
def RP(N:Nat){ag av:aa}{H:af}{r:aa×af}(h:n4 (aI P aB) ag av H=D r):aI P aB 77 [ag,av] H=D r:=cZ N (S:=λG=>n4 G ag av H) Tryd.func77 (λ_=>by delta n4 xf;kernel_rfl) h
def uJ(G:aD)(ag av:aa)(H:af):O:=aO H (G 27 [ag,av] H) λbD a=>j (cp ag) λk=>j (aJ P 59 k 2) λl=>j (ao P a 3 l) λd=>j (au P .sub 3 X d (I J 1)) λe=>j (cp ag) λh=>j (aJ P 59 h 2) λi=>bm a (ba P a 3 i e) λc=>D (.tuple [],c)
def RR(N:Nat){ag av:aa}{H:af}{r:aa×af}(h:uJ (aI P aB) ag av H=D r):aI P aB 79 [ag,av] H=D r:=cZ N (S:=λG=>uJ G ag av H) Tryd.func79 (λ_=>by delta uJ;kernel_rfl) h
def sM(c:aa)(a:af):O:=some ((Z []),a)
def nW(G:aD)(ag:aa)(H:af):O:=aO H (G 22 [ag] H) λA l=>cX l [I J 0,Z [],I J 0,I J 0] λd e=>bm e (ba P e 61 d A) λh=>aO h (G 21 [ag] h) λc m=>aM c X m (br (aJ P 61 d 0)) λB i=>aM c X i (qr (ao P i 3 B)) λo n=>aM c X n (br (au P .eql 3 X o (I J 1))) λp a=>j (cE c (D p) (D (.bool U))) λq=>a7 (D q) (j (cp ag) λs=>j (aJ P 59 s 1) λu=>j (ao P a 3 u) λbR=>j (au P .add 3 X bR (I J 1)) λv=>j (cp ag) λw=>j (aJ P 59 w 1) λx=>bm a (ba P a 3 x v) λk=>j (aJ P 61 d 1) λy=>j (ao P k 9 y) λz=>D (z,k)) (aO a (G 24 [ag,I J 2] a) (sM))
def RA(N:Nat){ag:aa}{H:af}{r:aa×af}(h:nW (aI P aB) ag H=D r):aI P aB 55 [ag] H=D r:=cZ N (S:=λG=>nW G ag H) Tryd.func55 (λ_=>by delta nW sM;kernel_rfl) h
def gQ(G:aD)(N:Nat)(c d:aa)(H:af):O:=j (ao P H 40 d) λe=>bm H (ba P H 40 c e) λa=>j (ao P a 40 c) λr=>D (r,a)
def Te(G:aD)(N:Nat):∀ad H,bC P G N (o (o (o (o (o (o (bI Tryd.f53))))))) (bs Tryd.f53) [] (bs Tryd.f53) ad H=gQ G N (ad 2) (ad 4) H:=by
 refine bZ (aL _) λad H=> ?_
 delta gQ;kernel_rfl
def hX(G:aD)(N:Nat)(h:aa->aa->aa->aa->aa->af->O)(ag a:aa)(c d e:aa)(H:af):O:=j (au P .lss 3 U e c) λk=>a7 (D k) (aO H (G 27 [ag,Z [93]] H) λm i=>j (au P .add 3 X e (I J 1)) λl=>h ag a c d l i) (gQ G N a d H)
def ps(G:aD)(N:Nat):Nat->aa->aa->aa->aa->aa->af->O
 |0,_,_,_,_,_,_=>C
 |n+1,ag,a,c,d,e,H=>hX G N (ps G N n) ag a c d e H
def Ta(G:aD)(N:Nat)(c:aa->aa->aa->aa->aa->af->O):∀ad H,bC P G N (bd (bd (o (bd (o (o (o (o (o (bI Tryd.f53)))))))))) (λad H=>c (ad 0) (ad 2) (ad 3) (ad 4) (ad 5) H) [(3,(λad H=>gQ G N (ad 2) (ad 4) H))] (bs Tryd.f53) ad H=hX G N c (ad 0) (ad 2) (ad 3) (ad 4) (ad 5) H:=by
 refine bZ (aL _) λad H=> ?_
 delta hX;generalize gQ G N=a;revert a;refine id ?_;intro a;kernel_rfl
def iH(G:aD)(N:Nat)(ag a:aa)(c d:aa)(H:af):O:=ps G N N ag a c d (I J 0) H
def Td(G:aD)(N:Nat):∀ad H,bC P G N (o (o (o (o (o (bI Tryd.f53)))))) (bs Tryd.f53) [] (bs Tryd.f53) ad H=iH G N (ad 0) (ad 2) (ad 3) (ad 4) H:=by
 refine bZ ((aX ah (Te G N) ((aX ah ((dx ah ((eP (k:=λm ad H=>ps G N m (ad 0) (ad 2) (ad 3) (ad 4) (ad 5) H) ah (λad H=>ah) (λm=>Ta G N (ps G N m)))))) (aL _))))) λad H=> ?_
 delta iH;generalize ps G N N=a;revert a;refine id ?_;intro a;kernel_rfl
def ie(G:aD)(N:Nat)(ag e:aa)(h d m:aa)(H:af):O:=a7 (D m) (aO H (G 22 [ag] H) λn a=>j (c0 P 61 n 1) λo=>j (aJ P 40 d 0) λp=>bm a (ba P a 9 p o) λc=>j (cp ag) λq=>j (aJ P 59 q 1) λs=>j (ao P c 3 s) λu=>j (au P .add 3 X u (I J 1)) λv=>j (cp ag) λw=>j (aJ P 59 w 1) λx=>bm c (ba P c 3 x v) λi=>iH G N ag e h d i) (aO H (G 55 [ag] H) λk a=>j (aJ P 40 d 0) λl=>bm a (ba P a 9 l k) λc=>iH G N ag e h d c)
def Tf(G:aD)(N:Nat):∀ad H,bC P G N (o (bd (bd (o (o (o (o (bI Tryd.f53)))))))) (λad H=>iH G N (ad 0) (ad 2) (ad 3) (ad 4) H) [(2,(λad H=>iH G N (ad 0) (ad 2) (ad 3) (ad 4) H))] (bs Tryd.f53) ad H=ie G N (ad 0) (ad 2) (ad 3) (ad 4) (ad 27) H:=by
 refine bZ (aL _) λad H=> ?_
 delta ie;generalize iH G N=a;revert a;refine id ?_;intro a;kernel_rfl
def i_(G:aD)(N:Nat)(ag i c:aa)(H:af):O:=j (cS P 40 [(1,c)]) λm=>cX H [Z [],I J 0] λd e=>bm e (ba P e 40 d m) λh=>aO h (G 23 [ag,Z [105,110,116]] h) λk a=>a7 (D k) (ie G N ag i c d k a) (aO a (G 23 [ag,Z [98,111,111,108]] a) λn l=>ie G N ag i c d n l)
def Tc(G:aD)(N:Nat):∀ad H,bC P G N (o (o (o (bI Tryd.f53)))) (bs Tryd.f53) [] (bs Tryd.f53) ad H=i_ G N (ad 0) (ad 2) (ad 3) H:=by
 refine bZ ((aX ah ((aX ah (Td G N) ((dx ah ((aX ah (Tf G N) (aL _))))))) (aL _))) λad H=> ?_
 delta i_;generalize ie G N=a;revert a;refine id ?_;intro a;kernel_rfl
def ic(G:aD)(N:Nat)(i:aa->aa->aa->af->O)(ag d e:aa)(H:af):O:=aO H (G 23 [ag,Z [91]] H) λq a=>a7 (D q) (j (au P .eql 3 X e (I J 3)) λs=>a7 (D s) (aO a (G 24 [ag,I J 4] a) λu c=>bm c (ba P c 40 d (.agg [Z [],I J 0])) λh=>j (ao P h 40 d) λr=>D (r,h)) (j (cp ag) λk=>j (aJ P 59 k 1) λl=>j (ao P a 3 l) λbR=>j (au P .add 3 X bR (I J 1)) λm=>j (cp ag) λn=>j (aJ P 59 n 1) λo=>bm a (ba P a 3 o m) λc=>j (au P .add 3 X e (I J 1)) λp=>i ag d p c)) (i_ G N ag d e a)
def pt(G:aD)(N:Nat):Nat->aa->aa->aa->af->O
 |0,_,_,_,_=>C
 |n+1,ag,a,c,H=>ic G N (pt G N n) ag a c H
def Tb(G:aD)(N:Nat)(c:aa->aa->aa->af->O):∀ad H,bC P G N (bd (bd (bd (o (o (bI Tryd.f53)))))) (λad H=>c (ad 0) (ad 2) (ad 3) H) [(0,(λad H=>i_ G N (ad 0) (ad 2) (ad 3) H))] (bs Tryd.f53) ad H=ic G N c (ad 0) (ad 2) (ad 3) H:=by
 refine bZ (aL _) λad H=> ?_
 delta ic;generalize i_ G N=a;revert a;refine id ?_;intro a;kernel_rfl
def hW(G:aD)(N:Nat)(ag:aa)(H:af):O:=cX H [Z [],I J 0] λc a=>pt G N N ag c (I J 0) a
def Rz(N:Nat){ag:aa}{H:af}{r:aa×af}(h:hW (aI P aB) N ag H=D r):aI P aB 53 [ag] H=D r:=cZ N (S:=λG=>hW G N ag H) Tryd.func53 (λG=>eo ((aX ah ((aX ah ((aX ah (Tc G N) ((dx ah ((eP (k:=λm ad H=>pt G N m (ad 0) (ad 2) (ad 3) H) ah (λad H=>ah) (λm=>Tb G N (pt G N m)))))))) (aL _))) (aL _))) (by delta hW;generalize pt G N N=a;revert a;refine id ?_;intro a;kernel_rfl)) h
def mR(G:aD)(N:Nat)(H:af):O:=some ((I J 0),H)
def Tx(G:aD)(N:Nat):∀ad H,bC P G N (o (o (o (o (o (bI Tryd.f70)))))) (bs Tryd.f70) [] (bs Tryd.f70) ad H=mR G N H:=by
 refine bZ (aL _) λad H=> ?_
 delta mR;kernel_rfl
def qZ(G:aD)(N:Nat)(e:aa->aa->aa->aa->aa->af->O)(ag d:aa)(c bD a:aa)(H:af):O:=j (cF P 131 c ag) λh=>j (ao P H 50 h) λi=>bg P .len [50] [i] H λk=>j (au P .lss 3 U a k) λl=>a7 (D l) (j (cF P 131 c ag) λn=>j (ao P H 50 n) λo=>j (cF P 50 o a) λp=>j (ao P H 9 p) λq=>j (aJ P 61 d 1) λs=>j (ao P H 9 s) λu=>j (au P .eql 9 U q u) λv=>a7 (D v) (j (cF P 132 bD ag) λw=>j (ao P H 51 w) λx=>j (cF P 51 x a) λy=>j (ao P H 3 y) λz=>D (z,H)) (j (au P .add 3 X a (I J 1)) λm=>e ag d c bD m H)) (mR G N H)
def mS(G:aD)(N:Nat):Nat->aa->aa->aa->aa->aa->af->O
 |0,_,_,_,_,_,_=>C
 |n+1,ag,a,c,bD,d,H=>qZ G N (mS G N n) ag a c bD d H
def Tw(G:aD)(N:Nat)(c:aa->aa->aa->aa->aa->af->O):∀ad H,bC P G N (bd (bd (o (bd (o (o (o (o (bI Tryd.f70))))))))) (λad H=>c (ad 0) (ad 3) (ad 5) (ad 6) (ad 7) H) [(0,(λad H=>mR G N H))] (bs Tryd.f70) ad H=qZ G N c (ad 0) (ad 3) (ad 5) (ad 6) (ad 7) H:=by
 refine bZ (aL _) λad H=> ?_
 delta qZ;generalize mR G N=a;revert a;refine id ?_;intro a;kernel_rfl
def pA(G:aD)(N:Nat)(ag av:aa)(H:af):O:=ca H (dR (H).next av) λq a=>j (aJ P 61 q 0) λM=>j (ao P a 3 M) λQ=>j (au P .neq 3 X Q (I J 4)) λu=>a7 (D u) (D ((I J 0),a)) (ca a (D (.aG (a).next 0 1 1 (D 1),.row U 1 [[Z [124,124]]])) λv h=>ca h (D (.aG (h).next 0 1 1 (D 1),.row U 1 [[Z [38,38]]])) λw i=>ca i (D (.aG (i).next 0 4 1 (D 4),.row U 1 [[Z [60]],[Z [60,61]],[Z [61,61]],[Z [33,61]]])) λx k=>ca k (D (.aG (k).next 0 2 1 (D 2),.row U 1 [[Z [43]],[Z [45]]])) λy l=>ca l (D (.aG (l).next 0 3 1 (D 3),.row U 1 [[Z [42]],[Z [47]],[Z [37]]])) λz m=>ca m (cl P (m).next 131 5 [(0,v),(1,w),(2,x),(3,y),(4,z)]) λbR n=>ca n (D (.aG (n).next 0 1 1 (D 1),.row U 1 [[I J 24]])) λA o=>ca o (D (.aG (o).next 0 1 1 (D 1),.row U 1 [[I J 23]])) λB p=>ca p (D (.aG (p).next 0 4 1 (D 4),.row U 1 [[I J 19],[I J 20],[I J 21],[I J 22]])) λE c=>ca c (D (.aG (c).next 0 2 1 (D 2),.row U 1 [[I J 14],[I J 15]])) λF d=>ca d (D (.aG (d).next 0 3 1 (D 3),.row U 1 [[I J 16],[I J 17],[I J 18]])) λK e=>ca e (cl P (e).next 132 5 [(0,A),(1,B),(2,E),(3,F),(4,K)]) λL s=>mS G N N ag q bR L (I J 0) s)
def RO(N:Nat){ag av:aa}{H:af}{r:aa×af}(h:pA (aI P aB) N ag av H=D r):aI P aB 70 [ag,av] H=D r:=cZ N (S:=λG=>pA G N ag av H) Tryd.func70 (λG=>eo ((aX ah ((aX ah ((aX ah ((aX ah ((aX ah (Tx G N) ((aX ah ((dx ah ((eP (k:=λm ad H=>mS G N m (ad 0) (ad 3) (ad 5) (ad 6) (ad 7) H) ah (λad H=>ah) (λm=>Tw G N (mS G N m)))))) (aL _))))) (aL _))) (aL _))) (aL _))) (aL _))) (by delta pA;generalize mS G N N=a;revert a;refine id ?_;intro a;kernel_rfl)) h
def qM(G:aD)(N:Nat)(c e:aa)(H:af):O:=j (ao P H 45 e) λd=>bm H (ba P H 45 c d) λa=>j (ao P a 45 c) λr=>D (r,a)
def SO(G:aD)(N:Nat):∀ad H,bC P G N (o (o (o (o (bI Tryd.f40))))) (bs Tryd.f40) [] (bs Tryd.f40) ad H=qM G N (ad 4) (ad 5) H:=by
 refine bZ (aL _) λad H=> ?_
 delta qM;kernel_rfl
def j5(a:aa->aa->aa->aa->af->O)(ag av:aa)(d e:aa)(c:af):O:=a ag av d e c
def uF(G:aD)(N:Nat)(A:aa->aa->aa->aa->af->O)(ag av:aa)(z e:aa)(H:af):O:=aO H (G 21 [ag] H) λd B=>aM d X B (cJ av) λQ K=>aM d X K (cJ ag) λR m=>aM d X m (λq=>eQ m (G 22 [R] m) q) λS n=>aM d X n (λq=>eQ n (G 70 [Q,S] n) q) λT L=>aM d X L (br (au P .neq 3 X T (I J 0))) λV o=>j (cE d (D V) (D (.bool U))) λW=>a7 (D W) (aO o (G 22 [ag] o) λab M=>cX M [I J 0,Z [],I J 0,I J 0] λbD x=>bm x (ba P x 61 bD ab) λp=>j (cp ag) λad=>j (aJ P 59 ad 1) λae=>j (ao P p 3 ae) λah=>j (au P .add 3 X ah (I J 1)) λai=>j (cp ag) λaj=>j (aJ P 59 aj 1) λak=>bm p (ba P p 3 ak ai) λv=>j (au P .add 3 X av (I J 1)) λal=>aO v (G 40 [ag,al] v) λam E=>cX E [I J 0,I J 0,Z [],Z [],I J 0,aa.aA,I J 0,I J 0,I J 0,I J 0,I J 0] λl w=>bm w (ba P w 45 l am) λa=>j (ao P a 61 bD) λy=>aO a (G 70 [av,y] a) λan c=>j (ao P c 45 e) λs=>j (ao P c 45 l) λu=>ca c (cl P (c).next 41 2 [(0,s),(1,u)]) λap h=>j (aJ P 61 bD 3) λi=>j (ao P h 3 i) λk=>j (cS P 45 [(0,an),(4,ap),(5,k)]) λaq=>bm h (ba P h 45 e aq) λF=>bif ((bp (ao P a 61 bD) y&&X)&&((bp (ao P a 45 e) s&&(bp (ao P c 45 e) s&&X))&&((bp (ao P a 45 l) u&&(bp (ao P c 45 l) u&&X))&&((bp (ao P a 3 i) k&&(bp (ao P c 3 i) k&&(bp (ao P h 3 i) k&&X)))&&X))))then(j5 A ag av z e F)else C) (qM G N z e o)
def qN(G:aD)(N:Nat):Nat->aa->aa->aa->aa->af->O
 |0,_,_,_,_,_=>C
 |n+1,ag,av,a,c,H=>uF G N (qN G N n) ag av a c H
def SN(G:aD)(N:Nat)(c:aa->aa->aa->aa->af->O):∀ad H,bC P G N (bd (bd (bd (o (o (o (bI Tryd.f40))))))) (λad H=>c (ad 0) (ad 1) (ad 4) (ad 5) H) [(0,(λad H=>qM G N (ad 4) (ad 5) H))] (bs Tryd.f40) ad H=uF G N c (ad 0) (ad 1) (ad 4) (ad 5) H:=by
 refine bZ (aL _) λad H=> ?_
 delta uF j5;generalize qM G N=a;revert a;refine id ?_;intro a;kernel_rfl
def jL(G:aD)(N:Nat)(ag av:aa)(c d:aa)(a:af):O:=qN G N N ag av c d a
def jM(G:aD)(N:Nat)(d ag:aa)(av e c:aa)(a:af):O:=bm a (ba P a 45 c d) (jL G N ag av e c)
def jN(G:aD)(N:Nat)(ag av:aa)(d c:aa)(a:af):O:=cX a [I J 0,I J 0,Z [],Z [],I J 0,aa.aA,I J 0,I J 0,I J 0,I J 0,I J 0] (jM G N c ag av d)
def jK(G:aD)(N:Nat)(ag av:aa)(H:af):O:=cX H [I J 0,I J 0,Z [],Z [],I J 0,aa.aA,I J 0,I J 0,I J 0,I J 0,I J 0] λc a=>j (au P .eql 3 X av (I J 5)) λk=>a7 (D k) (aO a (G 69 [ag] a) λh d=>bm d (ba P d 45 c h) λe=>j (ao P e 45 c) λr=>D (r,e)) (j (au P .add 3 X av (I J 1)) λi=>aO a (G 40 [ag,i] a) (jN G N ag av c))
def Rq(N:Nat){ag av:aa}{H:af}{r:aa×af}(h:jK (aI P aB) N ag av H=D r):aI P aB 40 [ag,av] H=D r:=cZ N (S:=λG=>jK G N ag av H) Tryd.func40 (λG=>eo ((aX ah ((aX ah ((aX ah ((aX ah (SO G N) ((dx ah ((eP (k:=λm ad H=>qN G N m (ad 0) (ad 1) (ad 4) (ad 5) H) ah (λad H=>ah) (λm=>SN G N (qN G N m)))))))) (aL _))) (aL _))) (aL _))) (by delta jK jN jM jL;generalize qN G N N=a;revert a;refine id ?_;intro a;kernel_rfl)) h
def n3(G:aD)(ag k:aa)(l K:aa)(H:af):O:=j (aJ P 61 l 1) λo=>j (ao P H 9 o) λp=>aO H (G 77 [ag,p] H) λL e=>aO e (G 40 [ag,I J 5] e) λq n=>cX n [I J 0,I J 0,Z [],Z [],I J 0,aa.aA,I J 0,I J 0,I J 0,I J 0,I J 0] λm h=>bm h (ba P h 45 m q) λa=>j (cp ag) λs=>j (aJ P 59 s 2) λu=>j (ao P a 3 u) λv=>j (au P .sub 3 X v (I J 1)) λw=>j (cp ag) λx=>j (aJ P 59 x 2) λy=>bm a (ba P a 3 y w) λc=>j (ao P c 45 m) λz=>ca c (cl P (c).next 41 1 [(0,z)]) λA d=>j (aJ P 61 l 3) λB=>j (ao P d 3 B) λE=>j (cS P 45 [(0,K),(4,A),(5,E)]) λF=>bm d (ba P d 45 k F) λi=>j (ao P i 45 k) λr=>D (r,i)
def Tv(G:aD)(N:Nat):∀ad H,bC P G N (o (o (o (o (bI Tryd.f69))))) (bs Tryd.f69) [] (bs Tryd.f69) ad H=n3 G (ad 0) (ad 2) (ad 3) (ad 4) H:=by
 refine bZ (aL _) λad H=> ?_
 delta n3;kernel_rfl
def kK(G:aD)(ag a:aa)(h:af):O:=aO h (G 22 [ag] h) λv o=>cX o [I J 0,Z [],I J 0,I J 0] λe i=>bm i (ba P i 61 e v) λk=>aO k (G 23 [ag,Z [45]] k) λs c=>a7 (D s) (n3 G ag a e (I J 12) c) (aO c (G 23 [ag,Z [33]] c) λu d=>a7 (D u) (n3 G ag a e (I J 13) d) (aO d (G 83 [ag] d) λp l=>aO l (G 82 [ag,p] l) λq m=>bm m (ba P m 45 a q) λn=>j (ao P n 45 a) λr=>D (r,n)))
def j6(G:aD)(ag:aa)(H:af):O:=cX H [I J 0,I J 0,Z [],Z [],I J 0,aa.aA,I J 0,I J 0,I J 0,I J 0,I J 0] (kK G ag)
def RN(N:Nat){ag:aa}{H:af}{r:aa×af}(h:j6 (aI P aB) ag H=D r):aI P aB 69 [ag] H=D r:=cZ N (S:=λG=>j6 G ag H) Tryd.func69 (λG=>eo ((aX ah ((aX ah ((aX ah ((aX ah (Tv G N) (aL _))) (aL _))) (aL _))) (aL _))) (by delta j6 kK;generalize n3 G=a;revert a;refine id ?_;intro a;kernel_rfl)) h
def q2(G:aD)(N:Nat)(d c:aa)(H:af):O:=j (ao P H 45 d) λe=>bm H (ba P H 45 c e) λa=>j (ao P a 45 c) λr=>D (r,a)
def TD(G:aD)(N:Nat):∀ad H,bC P G N (o (o (bI Tryd.f82))) (bs Tryd.f82) [] (bs Tryd.f82) ad H=q2 G N (ad 3) (ad 4) H:=by
 refine bZ (aL _) λad H=> ?_
 delta q2;kernel_rfl
def k9(a:aa->aa->aa->af->O)(ag d e:aa)(c:af):O:=a ag d e c
def mT(a:aa->aa->aa->af->O)(ag d e:aa)(c:af):O:=a ag d e c
def j7(G:aD)(p:aa->aa->aa->af->O)(ag a:aa)(u s:aa)(q:af):O:=aO q (G 23 [ag,Z [46]] q) λbR h=>a7 (D bR) (j (cp ag) λv=>j (aJ P 59 v 1) λw=>j (ao P h 3 w) λx=>j (au P .add 3 X x (I J 1)) λy=>j (cp ag) λz=>j (aJ P 59 z 1) λA=>bm h (ba P h 3 A y) λd=>aO d (G 55 [ag] d) λB e=>j (ao P e 45 a) λo=>ca e (cl P (e).next 41 1 [(0,o)]) λE c=>j (aJ P 61 u 3) λl=>j (ao P c 3 l) λm=>j (cS P 45 [(0,(I J 5)),(2,B),(4,E),(5,m)]) λF=>bm c (ba P c 45 a F) λi=>bif ((bp (ao P d 45 a) o&&(bp (ao P e 45 a) o&&X))&&((bp (ao P d 3 l) m&&(bp (ao P e 3 l) m&&(bp (ao P c 3 l) m&&X)))&&X))then(k9 p ag a s i)else C) (aO h (G 77 [ag,Z [91]] h) λS d=>aO d (G 40 [ag,I J 0] d) λH e=>cX e [I J 0,I J 0,Z [],Z [],I J 0,aa.aA,I J 0,I J 0,I J 0,I J 0,I J 0] λbD c=>bm c (ba P c 45 bD H) λi=>aO i (G 79 [ag,Z [93]] i) λT k=>j (ao P k 45 a) λK=>j (ao P k 45 bD) λL=>ca k (cl P (k).next 41 2 [(0,K),(1,L)]) λM n=>j (aJ P 61 u 3) λN=>j (ao P n 3 N) λQ=>j (cS P 45 [(0,(I J 6)),(4,M),(5,Q)]) λR=>bm n (ba P n 45 a R) (mT p ag a s))
def j8(G:aD)(d:aa->aa->aa->af->O)(e ag:aa)(h i c:aa)(a:af):O:=bm a (ba P a 61 c e) (j7 G d ag h c i)
def j9(G:aD)(a:aa->aa->aa->af->O)(ag e:aa)(h d:aa)(c:af):O:=cX c [I J 0,Z [],I J 0,I J 0] (j8 G a d ag e h)
def lR(G:aD)(c:aa->aa->aa->af->O)(a:af)(ag d e:aa):O:=aO a (G 22 [ag] a) (j9 G c ag d e)
def uK(G:aD)(N:Nat)(i:aa->aa->aa->af->O)(ag e h:aa)(H:af):O:=aO H (G 23 [ag,Z [46]] H) λc k=>aM c U k (cJ ag) λl a=>aM c U a (λq=>eQ a (G 23 [l,Z [91]] a) q) λm d=>j (cE c (D (.bool X)) (D m)) λn=>a7 (D n) (lR G i d ag e h) (q2 G N e h d)
def pB(G:aD)(N:Nat):Nat->aa->aa->aa->af->O
 |0,_,_,_,_=>C
 |n+1,ag,a,c,H=>uK G N (pB G N n) ag a c H
def TC(G:aD)(N:Nat)(c:aa->aa->aa->af->O):∀ad H,bC P G N (bd (bd (bd (o (bI Tryd.f82))))) (λad H=>c (ad 0) (ad 3) (ad 4) H) [(0,(λad H=>q2 G N (ad 3) (ad 4) H))] (bs Tryd.f82) ad H=uK G N c (ad 0) (ad 3) (ad 4) H:=by
 refine bZ (aL _) λad H=> ?_
 delta uK lR j9 j8 j7 mT k9;generalize q2 G N=a;revert a;refine id ?_;intro a;kernel_rfl
def j_(G:aD)(N:Nat)(ag c d:aa)(a:af):O:=pB G N N ag c d a
def ka(G:aD)(N:Nat)(ag c:aa)(a:af):O:=cX a [I J 0,I J 0,Z [],Z [],I J 0,aa.aA,I J 0,I J 0,I J 0,I J 0,I J 0] (j_ G N ag c)
def jP(G:aD)(N:Nat)(ag av:aa)(H:af):O:=ca H (dR (H).next av) (ka G N ag)
def RU(N:Nat){ag av:aa}{H:af}{r:aa×af}(h:jP (aI P aB) N ag av H=D r):aI P aB 82 [ag,av] H=D r:=cZ N (S:=λG=>jP G N ag av H) Tryd.func82 (λG=>eo ((aX ah ((aX ah (TD G N) ((dx ah ((eP (k:=λm ad H=>pB G N m (ad 0) (ad 3) (ad 4) H) ah (λad H=>ah) (λm=>TC G N (pB G N m)))))))) (aL _))) (by delta jP ka j_;generalize pB G N N=a;revert a;refine id ?_;intro a;kernel_rfl)) h
def q4(G:aD)(ag:aa)(H:af):O:=cX H [I J 0,I J 0,Z [],Z [],I J 0,aa.aA,I J 0,I J 0,I J 0,I J 0,I J 0] λk c=>aO c (G 77 [ag,Z [40]] c) λp d=>aO d (G 40 [ag,I J 0] d) λo m=>cX m [I J 0,I J 0,Z [],Z [],I J 0,aa.aA,I J 0,I J 0,I J 0,I J 0,I J 0] λl e=>bm e (ba P e 45 l o) λh=>aO h (G 79 [ag,Z [41]] h) λq a=>j (ao P a 45 l) λn=>bm a (ba P a 45 k n) λi=>j (ao P i 45 k) λr=>D (r,i)
def RZ(N:Nat){ag:aa}{H:af}{r:aa×af}(h:q4 (aI P aB) ag H=D r):aI P aB 92 [ag] H=D r:=cZ N (S:=λG=>q4 G ag H) Tryd.func92 (λ_=>by delta q4;kernel_rfl) h
def mU(G:aD)(ag d m:aa)(H:af):O:=aO H (G 55 [ag] H) λl i=>aO i (G 23 [ag,Z [40]] i) λn c=>j (fD .not n) λo=>a7 (D o) (j (aJ P 61 m 3) λp=>j (ao P c 3 p) λq=>j (cS P 45 [(0,(I J 4)),(2,l),(5,q)]) λs=>bm c (ba P c 45 d s) λa=>j (ao P a 45 d) λr=>D (r,a)) (aO c (G 93 [ag] c) λu a=>j (aJ P 61 m 3) λe=>j (ao P a 3 e) λh=>j (cS P 45 [(0,(I J 7)),(2,l),(4,u),(5,h)]) λv=>bm a (ba P a 45 d v) λk=>bif ((bp (ao P c 3 e) h&&(bp (ao P a 3 e) h&&X))&&X)then(j (ao P k 45 d) λr=>D (r,k))else C)
def TE(G:aD)(N:Nat):∀ad H,bC P G N (o (o (o (bI Tryd.f83)))) (bs Tryd.f83) [] (bs Tryd.f83) ad H=mU G (ad 0) (ad 2) (ad 3) H:=by
 refine bZ (aL _) λad H=> ?_
 delta mU;kernel_rfl
def hH(ag:aa)(c:af)(h e:aa):O:=j (cp ag) λi=>j (aJ P 59 i 1) λk=>j (ao P c 3 k) λl=>j (au P .add 3 X l (I J 1)) λm=>j (cp ag) λn=>j (aJ P 59 n 1) λo=>bm c (ba P c 3 o m) λa=>j (aJ P 61 h 2) λp=>j (ao P a 3 p) λq=>j (aJ P 61 h 3) λs=>j (ao P a 3 s) λu=>j (cS P 45 [(0,(I J 1)),(1,q),(5,u)]) λv=>bm a (ba P a 45 e v) λd=>j (ao P d 45 e) λr=>D (r,d)
def q3(G:aD)(c d e:aa)(H:af):O:=j (aJ P 61 d 3) λh=>j (ao P H 3 h) λi=>j (cS P 45 [(0,(I J 2)),(1,e),(5,i)]) λk=>bm H (ba P H 45 c k) λa=>j (ao P a 45 c) λr=>D (r,a)
def TG(G:aD)(N:Nat):∀ad H,bC P G N (o (o (o (bd (o (o (o (bd (bd (o (o (bI Tryd.f83)))))))))))) (λad H=>mU G (ad 0) (ad 2) (ad 3) H) [(0,(λad H=>mU G (ad 0) (ad 2) (ad 3) H))] (bs Tryd.f83) ad H=q3 G (ad 2) (ad 3) (ad 4) H:=by
 refine bZ (aL _) λad H=> ?_
 delta q3;kernel_rfl
def hI(G:aD)(ag:aa)(H:af)(c d:aa):O:=j (cp ag) λe=>j (aJ P 59 e 1) λh=>j (ao P H 3 h) λi=>j (au P .add 3 X i (I J 1)) λk=>j (cp ag) λl=>j (aJ P 59 l 1) λm=>bm H (ba P H 3 m k) λa=>j (aJ P 61 c 1) λn=>j (ao P a 9 n) λo=>j (au P .eql 9 X o (Z [116,114,117,101])) λp=>a7 (D p) (q3 G d c (I J 1) a) (q3 G d c (I J 0) a)
def hJ(G:aD)(ag:aa)(c:af)(l k:aa):O:=j (cp ag) λm=>j (aJ P 59 m 1) λn=>j (ao P c 3 n) λo=>j (au P .add 3 X o (I J 1)) λp=>j (cp ag) λq=>j (aJ P 59 q 1) λs=>bm c (ba P c 3 s p) λd=>aO d (G 53 [ag] d) λu a=>j (aJ P 61 l 3) λe=>j (ao P a 3 e) λh=>j (cS P 45 [(0,(I J 3)),(3,u),(5,h)]) λv=>bm a (ba P a 45 k v) λi=>bif ((bp (ao P d 3 e) h&&(bp (ao P a 3 e) h&&X))&&X)then(j (ao P i 45 k) λr=>D (r,i))else C
def hK(G:aD)(ag:aa)(a:af)(i h:aa):O:=j (cp ag) λk=>j (aJ P 59 k 1) λl=>j (ao P a 3 l) λm=>j (au P .add 3 X m (I J 1)) λn=>j (cp ag) λo=>j (aJ P 59 o 1) λp=>bm a (ba P a 3 p n) λc=>j (aJ P 61 i 3) λq=>j (ao P c 3 q) λs=>aO c (G 91 [ag,s] c) λu d=>bm d (ba P d 45 h u) λe=>j (ao P e 45 h) λr=>D (r,e)
def hL(G:aD)(ag:aa)(e:af)(m l:aa):O:=j (cp ag) λn=>j (aJ P 59 n 1) λo=>j (ao P e 3 o) λp=>j (au P .add 3 X p (I J 1)) λq=>j (cp ag) λs=>j (aJ P 59 s 1) λu=>bm e (ba P e 3 u q) λh=>aO h (G 92 [ag] h) λv i=>ca i (cl P (i).next 41 1 [(0,v)]) λw a=>j (aJ P 61 m 3) λc=>j (ao P a 3 c) λd=>j (cS P 45 [(0,(I J 10)),(4,w),(5,d)]) λx=>bm a (ba P a 45 l x) λk=>bif ((bp (ao P h 3 c) d&&(bp (ao P i 3 c) d&&(bp (ao P a 3 c) d&&X)))&&X)then(j (ao P k 45 l) λr=>D (r,k))else C
def ht(G:aD)(ag:aa)(a:af)(p i:aa):O:=j (cp ag) λq=>j (aJ P 59 q 1) λs=>j (ao P a 3 s) λu=>j (au P .add 3 X u (I J 1)) λv=>j (cp ag) λk=>j (aJ P 59 k 1) λl=>bm a (ba P a 3 l v) λd=>aO d (G 77 [ag,Z [40]] d) λw e=>aO e (G 79 [ag,Z [41]] e) λx c=>j (aJ P 61 p 3) λm=>j (ao P c 3 m) λn=>j (cS P 45 [(0,(I J 11)),(5,n)]) λo=>bm c (ba P c 45 i o) λh=>j (ao P h 45 i) λr=>D (r,h)
def gS(G:aD)(a:af)(ag e:aa):O:=aO a (G 92 [ag] a) λh c=>bm c (ba P c 45 e h) λd=>j (ao P d 45 e) λr=>D (r,d)
def hv(G:aD)(ag c d:aa)(a:af):O:=mU G ag c d a
def gT(G:aD)(ag c:aa)(e d:aa)(a:af):O:=a7 (D d) (gS G a ag c) (hv G ag c e a)
def hx(G:aD)(a:af)(ag c d:aa):O:=aO a (G 23 [ag,Z [40]] a) (gT G ag c d)
def gU(G:aD)(ag d:aa)(c e:aa)(a:af):O:=a7 (D e) (ht G ag a d c) (hx G a ag c d)
def hy(G:aD)(a:af)(ag d c:aa):O:=aO a (G 23 [ag,Z [114,101,97,100]] a) (gU G ag d c)
def gV(G:aD)(ag d:aa)(c e:aa)(a:af):O:=a7 (D e) (hL G ag a d c) (hy G a ag d c)
def hz(G:aD)(a:af)(ag d c:aa):O:=aO a (G 23 [ag,Z [108,101,110]] a) (gV G ag d c)
def gW(G:aD)(ag d:aa)(c e:aa)(a:af):O:=a7 (D e) (hK G ag a d c) (hz G a ag d c)
def hA(G:aD)(a:af)(ag d c:aa):O:=aO a (G 23 [ag,Z [110,101,119]] a) (gW G ag d c)
def gX(G:aD)(ag d:aa)(c e:aa)(a:af):O:=a7 (D e) (hJ G ag a d c) (hA G a ag d c)
def gY(G:aD)(H:af)(ag c a:aa):O:=aO H (G 23 [ag,Z [110,117,108,108]] H) (gX G ag c a)
def pC(G:aD)(ag a:aa)(c d:aa)(H:af):O:=a7 (D d) (hI G ag H c a) (gY G H ag c a)
def TF(G:aD)(N:Nat):∀ad H,bC P G N (o (o (o (bd (bd (o (o (bI Tryd.f83)))))))) (λad H=>mU G (ad 0) (ad 2) (ad 3) H) [(0,(λad H=>mU G (ad 0) (ad 2) (ad 3) H))] (bs Tryd.f83) ad H=pC G (ad 0) (ad 2) (ad 3) (ad 28) H:=by
 refine bZ ((d_ ah ((aX ah ((aX ah ((aX ah (TG G N) (aL _))) (aL _))) (aL _))) (aL _))) λad H=> ?_
 delta pC gY gX hA gW hz gV hy gU hx gT hv gS ht hL hK hJ hI;generalize mU G=a;generalize q3 G=c;revert a c;refine id ?_;intro a c;kernel_rfl
def hB(G:aD)(ag c:aa)(d e:aa)(a:af):O:=pC G ag c d e a
def gZ(G:aD)(ag c:aa)(d e:aa)(a:af):O:=pC G ag c d e a
def hC(G:aD)(a:af)(ag c d:aa):O:=aO a (G 23 [ag,Z [102,97,108,115,101]] a) (gZ G ag c d)
def g_(G:aD)(ag c:aa)(d e:aa)(a:af):O:=a7 (D e) (hB G ag c d e a) (hC G a ag c d)
def ha(G:aD)(a:af)(ag c d:aa):O:=aO a (G 23 [ag,Z [116,114,117,101]] a) (g_ G ag c d)
def gr(G:aD)(ag:aa)(a:af)(d c e:aa):O:=a7 (D e) (hH ag a d c) (ha G a ag c d)
def gu(G:aD)(c ag:aa)(h e d:aa)(a:af):O:=j (cE c (D d) (D (.bool U))) (gr G ag a h e)
def gv(G:aD)(a ag:aa)(h e d:aa)(c:af):O:=aM a X c (br (au P .eql 3 X d (I J 2))) (gu G a ag h e)
def gw(G:aD)(c ag:aa)(h e d:aa)(a:af):O:=aM c X a (qr (ao P a 3 d)) (gv G c ag h e)
def gx(G:aD)(c ag:aa)(e a:aa)(d:af):O:=aM a X d (br (aJ P 61 c 0)) (gw G a ag c e)
def hD(G:aD)(ag d c:aa)(a:af):O:=aO a (G 21 [ag] a) (gx G d ag c)
def hE(G:aD)(e ag:aa)(d c:aa)(a:af):O:=bm a (ba P a 61 c e) (hD G ag c d)
def hF(G:aD)(ag c d:aa)(a:af):O:=cX a [I J 0,Z [],I J 0,I J 0] (hE G d ag c)
def hG(G:aD)(ag c:aa)(a:af):O:=aO a (G 22 [ag] a) (hF G ag c)
def gR(G:aD)(ag:aa)(H:af):O:=cX H [I J 0,I J 0,Z [],Z [],I J 0,aa.aA,I J 0,I J 0,I J 0,I J 0,I J 0] (hG G ag)
def RV(N:Nat){ag:aa}{H:af}{r:aa×af}(h:gR (aI P aB) ag H=D r):aI P aB 83 [ag] H=D r:=cZ N (S:=λG=>gR G ag H) Tryd.func83 (λG=>eo ((aX ah ((aX ah ((aX ah (TE G N) ((dx ah ((aX ah ((d_ ah (aL _) ((aX ah (TF G N) (aL _))))) (aL _))))))) (aL _))) (aL _))) (by delta gR hG hF hE hD gx gw gv gu gr ha g_ hC gZ hB hH;generalize pC G=a;revert a;refine id ?_;intro a;kernel_rfl)) h
def mV(G:aD)(ag av:aa)(H:af):O:=cX H [I J 0,I J 0,Z [],Z [],I J 0,aa.aA,I J 0,I J 0,I J 0,I J 0,I J 0] λk n=>aO n (G 23 [ag,Z [91]] n) λL a=>j (fD .not L) λM=>a7 (D M) (aO a (G 55 [ag] a) λs c=>j (cS P 40 [(0,s)]) λu=>j (cS P 45 [(0,(I J 8)),(3,u),(5,av)]) λv=>bm c (ba P c 45 k v) λe=>j (ao P e 45 k) λr=>D (r,e)) (j (cp ag) λw=>j (aJ P 59 w 1) λbR=>j (ao P a 3 bR) λx=>j (au P .add 3 X x (I J 1)) λy=>j (cp ag) λz=>j (aJ P 59 z 1) λA=>bm a (ba P a 3 A y) λc=>aO c (G 53 [ag] c) λB e=>cX e [Z [],I J 0] λd p=>bm p (ba P p 40 d B) λq=>aO q (G 27 [ag,Z [93]] q) λN l=>aO l (G 92 [ag] l) λE h=>j (ao P h 40 d) λi=>ca h (cl P (h).next 41 1 [(0,E)]) λF m=>j (cS P 45 [(0,(I J 9)),(3,i),(4,F),(5,av)]) λK=>bm m (ba P m 45 k K) λo=>bif ((bp (ao P l 40 d) i&&(bp (ao P h 40 d) i&&(bp (ao P m 40 d) i&&X)))&&X)then(j (ao P o 45 k) λr=>D (r,o))else C)
def RY(N:Nat){ag av:aa}{H:af}{r:aa×af}(h:mV (aI P aB) ag av H=D r):aI P aB 91 [ag,av] H=D r:=cZ N (S:=λG=>mV G ag av H) Tryd.func91 (λ_=>by delta mV;kernel_rfl) h
def jw(G:aD)(N:Nat)(ag c:aa)(H:af):O:=aO H (G 79 [ag,Z [41]] H) λd a=>D (c,a)
def TL(G:aD)(N:Nat):∀ad H,bC P G N (o (o (o (o (o (o (bI Tryd.f93))))))) (bs Tryd.f93) [] (bs Tryd.f93) ad H=jw G N (ad 0) (ad 3) H:=by
 refine bZ (aL _) λad H=> ?_
 delta jw;kernel_rfl
def q5(G:aD)(N:Nat)(i:aa->aa->af->O)(ag h:aa)(H:af):O:=aO H (G 23 [ag,Z [44]] H) λbR a=>a7 (D bR) (j (cp ag) λl=>j (aJ P 59 l 1) λm=>j (ao P a 3 m) λn=>j (au P .add 3 X n (I J 1)) λo=>j (cp ag) λp=>j (aJ P 59 p 1) λq=>bm a (ba P a 3 q o) λc=>aO c (G 40 [ag,I J 0] c) λs d=>ca d (cl P (d).next 41 1 [(0,s)]) λu e=>aO e (df P e [41,41] h u) λv k=>i ag v k) (jw G N ag h a)
def q6(G:aD)(N:Nat):Nat->aa->aa->af->O
 |0,_,_,_=>C
 |n+1,ag,a,H=>q5 G N (q6 G N n) ag a H
def TK(G:aD)(N:Nat)(c:aa->aa->af->O):∀ad H,bC P G N (bd (bd (bd (o (o (o (o (o (bI Tryd.f93))))))))) (λad H=>c (ad 0) (ad 3) H) [(0,(λad H=>jw G N (ad 0) (ad 3) H))] (bs Tryd.f93) ad H=q5 G N c (ad 0) (ad 3) H:=by
 refine bZ (aL _) λad H=> ?_
 delta q5;generalize jw G N=a;revert a;refine id ?_;intro a;kernel_rfl
def jQ(G:aD)(N:Nat)(ag:aa)(H:af):O:=aO H (G 77 [ag,Z [40]] H) λm d=>aO d (G 23 [ag,Z [41]] d) λl a=>a7 (D l) (aO a (G 79 [ag,Z [41]] a) λn c=>D (aa.aA,c)) (aO a (G 40 [ag,I J 0] a) λi c=>ca c (cl P (c).next 41 1 [(0,i)]) λj e=>aO e (df P e [41,41] aa.aA j) λk h=>q6 G N N ag k h)
def R0(N:Nat){ag:aa}{H:af}{r:aa×af}(h:jQ (aI P aB) N ag H=D r):aI P aB 93 [ag] H=D r:=cZ N (S:=λG=>jQ G N ag H) Tryd.func93 (λG=>eo ((aX ah ((aX ah ((aX ah ((aX ah ((aX ah ((aX ah (TL G N) ((dx ah ((eP (k:=λm ad H=>q6 G N m (ad 0) (ad 3) H) ah (λad H=>ah) (λm=>TK G N (q6 G N m)))))))) (aL _))) (aL _))) (aL _))) (aL _))) (aL _))) (by delta jQ;generalize q6 G N N=a;revert a;refine id ?_;intro a;kernel_rfl)) h
